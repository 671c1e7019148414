/-
  Rectangles and floats are themselves; a room over the other's puts.
-/
import Derived.Test.YtkoanijiihnioaaFloatT
import Derived.Test.YtkoanijiihnioaaFloatG
import Derived.Test.YtkoanijiihnioaaOpenAsks
import Derived.Test.YtkoanijiihnioaaFloatL
import Derived.DeepKeys
namespace Go.Proofs.Ytkoanijiihnioaa
open Go.RowKit Num Mem Opn
set_option linter.unusedVariables false
theorem wf_of_i64 {a : Int} (h : Opn.I64 a) : (Lit.int .i64 a).wf = true := by
  obtain ⟨h1, h2⟩ := h
  simp [Lit.wf, IntKind.min, IntKind.max, IntKind.signed, IntKind.bits]
  omega
set_option maxRecDepth 100000 in
set_option maxHeartbeats 4000000 in
theorem lits_rect4 (x : Int) (y : Int) (w_ : Int) (h : Int) (hx : Opn.I64 x) (hy : Opn.I64 y) (hw_ : Opn.I64 w_) (hh : Opn.I64 h) : ∃ la, Try.prog.keyLits 6 27 (#[Value.int .i64 x, Value.int .i64 y, Value.int .i64 w_, Value.int .i64 h] : Array Value).toList = some la := by
  have hfs : Try.prog.underlying 27 = some (.struct (Try.prog.fieldsOf 27)) := by kernel_rfl
  have hcs : Try.prog.cellsOf 27 = 4 := by kernel_rfl
  have hcsi : Try.prog.cellsOf 2 = 1 := by kernel_rfl
  have ki : ∀ (x : Int), (Lit.int .i64 x).wf = true → Try.prog.keyLits 5 2 [.int .i64 x] = some [.int .i64 x] := by
    intro x hx
    simp [Program.keyLits, Try.underlying2, hx]
  rw [show (6 : Nat) = 5 + 1 from rfl]
  unfold Program.keyLits
  rw [hfs]
  dsimp only
  rw [if_pos ⟨by rw [hcs]; rfl, by kernel_rfl⟩]
  have hF : (Try.prog.fieldsOf 27).toList.map (fun f => (f.type, f.offset)) = [(2, 0), (2, 1), (2, 2), (2, 3)] := by kernel_rfl
  have hM : ∀ (fs : List Field) (l : List (TypeId × Nat)), fs.map (fun f => (f.type, f.offset)) = l → (fs.mapM fun f => Try.prog.keyLits 5 f.type (((#[Value.int .i64 x, Value.int .i64 y, Value.int .i64 w_, Value.int .i64 h] : Array Value).toList.drop f.offset).take (Try.prog.cellsOf f.type))) = (l.mapM fun f => Try.prog.keyLits 5 f.1 (((#[Value.int .i64 x, Value.int .i64 y, Value.int .i64 w_, Value.int .i64 h] : Array Value).toList.drop f.2).take (Try.prog.cellsOf f.1))) := by
    intro fs l e
    subst e
    rw [List.mapM_map]
    rfl
  rw [hM _ _ hF]
  simp only [List.mapM_cons, List.mapM_nil, hcsi]
  rw [show (((#[Value.int .i64 x, Value.int .i64 y, Value.int .i64 w_, Value.int .i64 h] : Array Value).toList.drop 0).take 1) = [Value.int .i64 x] from rfl]
  rw [show (((#[Value.int .i64 x, Value.int .i64 y, Value.int .i64 w_, Value.int .i64 h] : Array Value).toList.drop 1).take 1) = [Value.int .i64 y] from rfl]
  rw [show (((#[Value.int .i64 x, Value.int .i64 y, Value.int .i64 w_, Value.int .i64 h] : Array Value).toList.drop 2).take 1) = [Value.int .i64 w_] from rfl]
  rw [show (((#[Value.int .i64 x, Value.int .i64 y, Value.int .i64 w_, Value.int .i64 h] : Array Value).toList.drop 3).take 1) = [Value.int .i64 h] from rfl]
  rw [ki x (wf_of_i64 hx)]
  rw [ki y (wf_of_i64 hy)]
  rw [ki w_ (wf_of_i64 hw_)]
  rw [ki h (wf_of_i64 hh)]
  exact ⟨_, rfl⟩
theorem eq_rect4 (x : Int) (y : Int) (w_ : Int) (h : Int) (hx : Opn.I64 x) (hy : Opn.I64 y) (hw_ : Opn.I64 w_) (hh : Opn.I64 h) (w : World) : (Op.equalIn 10000 27 (.agg #[Value.int .i64 x, Value.int .i64 y, Value.int .i64 w_, Value.int .i64 h]) (.agg #[Value.int .i64 x, Value.int .i64 y, Value.int .i64 w_, Value.int .i64 h])).run Try.prog w = .ok true w := by
  obtain ⟨la, hla⟩ := lits_rect4 x y w_ h hx hy hw_ hh
  obtain ⟨r, hr, hi⟩ := run_equalIn_deep (P := Try.prog) 9994 6 27 (by kernel_rfl) w 6 6 (.agg #[Value.int .i64 x, Value.int .i64 y, Value.int .i64 w_, Value.int .i64 h]) (.agg #[Value.int .i64 x, Value.int .i64 y, Value.int .i64 w_, Value.int .i64 h]) la la (by kernel_rfl) (by kernel_rfl) hla hla
  rw [hr, hi.2 rfl]
theorem neq_rect4 (x : Int) (y : Int) (w_ : Int) (h : Int) (hx : Opn.I64 x) (hy : Opn.I64 y) (hw_ : Opn.I64 w_) (hh : Opn.I64 h) (w : World) : (binOp .neq 27 (.agg #[Value.int .i64 x, Value.int .i64 y, Value.int .i64 w_, Value.int .i64 h]) (.agg #[Value.int .i64 x, Value.int .i64 y, Value.int .i64 w_, Value.int .i64 h])).run Try.prog w = .ok (.bool false) w := by
  have := eq_rect4 x y w_ h hx hy hw_ hh w
  simp only [binOp, Op.equal, Op.maxDepth, Sem.run_bind, this, Result.andThen_ok]
  rfl
theorem eql_rect4 (x : Int) (y : Int) (w_ : Int) (h : Int) (hx : Opn.I64 x) (hy : Opn.I64 y) (hw_ : Opn.I64 w_) (hh : Opn.I64 h) (w : World) : (binOp .eql 27 (.agg #[Value.int .i64 x, Value.int .i64 y, Value.int .i64 w_, Value.int .i64 h]) (.agg #[Value.int .i64 x, Value.int .i64 y, Value.int .i64 w_, Value.int .i64 h])).run Try.prog w = .ok (.bool true) w := by
  have := eq_rect4 x y w_ h hx hy hw_ hh w
  simp only [binOp, Op.equal, Op.maxDepth, Sem.run_bind, this, Result.andThen_ok]
  rfl
set_option maxRecDepth 100000 in
set_option maxHeartbeats 4000000 in
theorem lits_rect5 (x : Int) (y : Int) (w_ : Int) (h : Int) (hx : Opn.I64 x) (hy : Opn.I64 y) (hw_ : Opn.I64 w_) (hh : Opn.I64 h) : ∃ la, Try.prog.keyLits 5 27 (#[Value.int .i64 x, Value.int .i64 y, Value.int .i64 w_, Value.int .i64 h] : Array Value).toList = some la := by
  have hfs : Try.prog.underlying 27 = some (.struct (Try.prog.fieldsOf 27)) := by kernel_rfl
  have hcs : Try.prog.cellsOf 27 = 4 := by kernel_rfl
  have hcsi : Try.prog.cellsOf 2 = 1 := by kernel_rfl
  have ki : ∀ (x : Int), (Lit.int .i64 x).wf = true → Try.prog.keyLits 4 2 [.int .i64 x] = some [.int .i64 x] := by
    intro x hx
    simp [Program.keyLits, Try.underlying2, hx]
  rw [show (5 : Nat) = 4 + 1 from rfl]
  unfold Program.keyLits
  rw [hfs]
  dsimp only
  rw [if_pos ⟨by rw [hcs]; rfl, by kernel_rfl⟩]
  have hF : (Try.prog.fieldsOf 27).toList.map (fun f => (f.type, f.offset)) = [(2, 0), (2, 1), (2, 2), (2, 3)] := by kernel_rfl
  have hM : ∀ (fs : List Field) (l : List (TypeId × Nat)), fs.map (fun f => (f.type, f.offset)) = l → (fs.mapM fun f => Try.prog.keyLits 4 f.type (((#[Value.int .i64 x, Value.int .i64 y, Value.int .i64 w_, Value.int .i64 h] : Array Value).toList.drop f.offset).take (Try.prog.cellsOf f.type))) = (l.mapM fun f => Try.prog.keyLits 4 f.1 (((#[Value.int .i64 x, Value.int .i64 y, Value.int .i64 w_, Value.int .i64 h] : Array Value).toList.drop f.2).take (Try.prog.cellsOf f.1))) := by
    intro fs l e
    subst e
    rw [List.mapM_map]
    rfl
  rw [hM _ _ hF]
  simp only [List.mapM_cons, List.mapM_nil, hcsi]
  rw [show (((#[Value.int .i64 x, Value.int .i64 y, Value.int .i64 w_, Value.int .i64 h] : Array Value).toList.drop 0).take 1) = [Value.int .i64 x] from rfl]
  rw [show (((#[Value.int .i64 x, Value.int .i64 y, Value.int .i64 w_, Value.int .i64 h] : Array Value).toList.drop 1).take 1) = [Value.int .i64 y] from rfl]
  rw [show (((#[Value.int .i64 x, Value.int .i64 y, Value.int .i64 w_, Value.int .i64 h] : Array Value).toList.drop 2).take 1) = [Value.int .i64 w_] from rfl]
  rw [show (((#[Value.int .i64 x, Value.int .i64 y, Value.int .i64 w_, Value.int .i64 h] : Array Value).toList.drop 3).take 1) = [Value.int .i64 h] from rfl]
  rw [ki x (wf_of_i64 hx)]
  rw [ki y (wf_of_i64 hy)]
  rw [ki w_ (wf_of_i64 hw_)]
  rw [ki h (wf_of_i64 hh)]
  exact ⟨_, rfl⟩

set_option maxRecDepth 100000 in
set_option maxHeartbeats 4000000 in
theorem lits_fl5 (r : Bool) (x y w_ h : Int) (hx : Opn.I64 x) (hy : Opn.I64 y) (hw_ : Opn.I64 w_) (hh : Opn.I64 h) : ∃ la, Try.prog.keyLits 6 38 (fl5 r x y w_ h).toList = some la := by
  obtain ⟨ls, hs⟩ := lits_rect5 x y w_ h hx hy hw_ hh
  have hfs : Try.prog.underlying 38 = some (.struct (Try.prog.fieldsOf 38)) := by kernel_rfl
  have hcs : Try.prog.cellsOf 38 = 5 := by kernel_rfl
  have hcs1 : Try.prog.cellsOf 4 = 1 := by kernel_rfl
  have hcs4 : Try.prog.cellsOf 27 = 4 := by kernel_rfl
  have kb : ∀ (x : Bool), Try.prog.keyLits 5 4 [.bool x] = some [.bool x] := by
    intro x
    simp [Program.keyLits, Try.underlying4]
  have hdrop : ((fl5 r x y w_ h).toList.drop 1).take 4 = (#[Value.int .i64 x, Value.int .i64 y, Value.int .i64 w_, Value.int .i64 h] : Array Value).toList := rfl
  rw [show (6 : Nat) = 5 + 1 from rfl]
  unfold Program.keyLits
  rw [hfs]
  dsimp only
  rw [if_pos ⟨by rw [hcs]; rfl, by kernel_rfl⟩]
  have hF : (Try.prog.fieldsOf 38).toList.map (fun f => (f.type, f.offset)) = [(4, 0), (27, 1)] := by kernel_rfl
  have hM : ∀ (fs : List Field) (l : List (TypeId × Nat)), fs.map (fun f => (f.type, f.offset)) = l → (fs.mapM fun f => Try.prog.keyLits 5 f.type (((fl5 r x y w_ h).toList.drop f.offset).take (Try.prog.cellsOf f.type))) = (l.mapM fun f => Try.prog.keyLits 5 f.1 (((fl5 r x y w_ h).toList.drop f.2).take (Try.prog.cellsOf f.1))) := by
    intro fs l e
    subst e
    rw [List.mapM_map]
    rfl
  rw [hM _ _ hF]
  simp only [List.mapM_cons, List.mapM_nil, hcs1, hcs4, hdrop, hs]
  rw [show ((fl5 r x y w_ h).toList.drop 0).take 1 = [.bool r] from rfl]
  rw [kb r]
  exact ⟨_, rfl⟩
theorem neq_fl5 (r : Bool) (x y w_ h : Int) (hx : Opn.I64 x) (hy : Opn.I64 y) (hw_ : Opn.I64 w_) (hh : Opn.I64 h) (w : World) : (binOp .neq 38 (.agg (fl5 r x y w_ h)) (.agg (fl5 r x y w_ h))).run Try.prog w = .ok (.bool false) w := by
  obtain ⟨la, hla⟩ := lits_fl5 r x y w_ h hx hy hw_ hh
  obtain ⟨q, hq, hi⟩ := run_equalIn_deep (P := Try.prog) 9994 6 38 (by kernel_rfl) w 6 6 (.agg (fl5 r x y w_ h)) (.agg (fl5 r x y w_ h)) la la (by kernel_rfl) (by kernel_rfl) hla hla
  have : (Op.equalIn 10000 38 (.agg (fl5 r x y w_ h)) (.agg (fl5 r x y w_ h))).run Try.prog w = .ok true w := by rw [hq, hi.2 rfl]
  simp only [binOp, Op.equal, Op.maxDepth, Sem.run_bind, this, Result.andThen_ok]
  rfl
theorem info_fl5_list (r : Bool) (x y w_ h : Int) : (Try.prog.info? 38).map (·.size) = some (fl5 r x y w_ h).toList.length := by kernel_rfl
theorem own_mapF {w w' : World} {base z m : Nat} {e : TypeId} {v : Value} {xs : List Value} (h : w.ownsRow base e z v m xs) (hk : ∀ k, v.ownBlock = some k → ∀ cs, Blk w k e cs → Blk w' k e cs) : w'.ownsRow base e z v m xs := by
  refine ⟨h.1, ?_⟩
  rcases h.2 with hn | ⟨b, cap, cur, rfl, hb, hgg, rest⟩
  · exact .inl hn
  · exact .inr ⟨b, cap, cur, rfl, hb, hk b rfl cur hgg, rest⟩
/-- the blocks of rows and boxes of two types are two. -/
theorem blk_ne {w : World} {g k : Nat} {t e : TypeId} {cs ds : Array Value} (hg : Blk w g t cs) (hk : Blk w k e ds) (ht : t ≠ e) : k ≠ g := by
  rintro rfl
  unfold Blk at hg hk
  rw [hg] at hk
  injection hk with hk
  injection hk with _ hk
  exact ht hk
theorem RoomAt.over {w w' : World} {g base g' base' : Nat} {left right : Int} {l : List Fl} {v : Value} {t : TypeId} {cs : Array Value} (h : RoomAt w g base left right l v) (k : RefKeep w w' g' base') (hg : g ≠ g') (hg' : Blk w g' t cs) (ht : t ≠ 38) : RoomAt w' g base left right l v :=
  ⟨k.blk h.blk hg (by decide), own_mapF h.own fun q _ ds hd => k.blk hd (blk_ne hg' hd ht) (by decide)⟩
theorem RefAt.over {w w' : World} {g base g' base' : Nat} {left right : Int} {l : List Fl} {v : Value} {t : TypeId} {cs : Array Value} (h : RefAt w g base left right l v) (k : RoomKeep w w' g' base') (hg : g ≠ g') (hg' : Blk w g' t cs) (ht : t ≠ 44) : RefAt w' g base left right l v :=
  ⟨k.blk h.blk hg (by decide), own_mapF h.own fun q _ ds hd => k.blk hd (blk_ne hg' hd ht) (by decide)⟩
theorem RoomAt.chg {w W : World} {g base gx : Nat} {left right : Int} {l : List Fl} {v : Value} {cs : Array Value} (h : RoomAt w g base left right l v) (hx : Blk w gx 27 cs) (hc : Chg gx w W) : RoomAt W g base left right l v :=
  ⟨h.blk.chg hc (blk_ne hx h.blk (by decide)), own_mapF h.own fun q _ ds hd => hd.chg hc (blk_ne hx hd (by decide))⟩
theorem RefAt.chg {w W : World} {g base gx : Nat} {left right : Int} {l : List Fl} {v : Value} {cs : Array Value} (h : RefAt w g base left right l v) (hx : Blk w gx 27 cs) (hc : Chg gx w W) : RefAt W g base left right l v :=
  ⟨h.blk.chg hc (blk_ne hx h.blk (by decide)), own_mapF h.own fun q _ ds hd => hd.chg hc (blk_ne hx hd (by decide))⟩
theorem wp_store_row {P : Program} {op : Oper} {a : Act} {w : World} {K : Act → World → Prop} {Q : Exit → Act → World → Prop} (ty : TypeId) (x y : Operand) (ho : op.op = .store ty x y)
    (b : Nat) (cells : Array Value) (hx : a.eval x = .pointer (some ⟨b, 0, none⟩)) (hy : a.eval y = .agg cells)
    (t : TypeId) (old : Array Value) (hb : Blk w b t old) (hs : old.size = cells.size) (hi : (P.info? ty).map (·.size) = some cells.size) (h1 : cells.all (·.oneCell') = true)
    (h : ∀ w', Blk w' b t cells → Chg b w w' → K (a.put op.dst undef) w') : op.wp P a w K Q := by
  have hk := setCells_blk b t cells.toList old.toList [] w (by simpa using hb) (by simpa using hs)
  refine wp_store_mid ty x y ho b 0 cells hx hy ?_ hi h1 (h _ (by simpa using hk.1) (by simpa using hk.2))
  intro j hj
  rw [Nat.zero_add, hb.cell]
  exact ⟨by rw [Array.getElem?_eq_getElem (by omega)]; rfl, hb.free j⟩
theorem fls_range {w : World} {B b off : Nat} {l : List Fl} (h : Recs w B (some ⟨b, off, none⟩) 5 Fl.cells l) {k : Nat} {f : Fl} (hx : l[k]? = some f) : w.rangeAt b (off + k * 5) (fl5 f.right f.x f.y f.w f.h).toList := by
  obtain ⟨b', off', e, _, hc⟩ := h (by rintro rfl; simp at hx)
  injection e with e
  injection e with e1 e2 e3
  subst e1 e2
  exact fun j v hv => hc k f hx j v hv
theorem fls_rect {w : World} {B b off : Nat} {l : List Fl} (h : Recs w B (some ⟨b, off, none⟩) 5 Fl.cells l) {k : Nat} {f : Fl} (hx : l[k]? = some f) : w.rangeAt b (off + k * 5 + 1) (rect4 f.x f.y f.w f.h).toList := by
  obtain ⟨b', off', e, _, hc⟩ := h (by rintro rfl; simp at hx)
  injection e with e
  injection e with e1 e2 e3
  subst e1 e2
  intro j v hv
  have := hc k f hx (j + 1) v (by simpa [Fl.cells, rect4] using hv)
  rw [Nat.add_assoc, Nat.add_comm 1 j]
  exact this
end Go.Proofs.Ytkoanijiihnioaa
