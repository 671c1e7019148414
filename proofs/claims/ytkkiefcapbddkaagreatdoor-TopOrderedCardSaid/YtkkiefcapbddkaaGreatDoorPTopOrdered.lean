/-
  TopOrdered: for every input the law answers true, and its arguments read behind the call as they read before; its card ties the package variables to the program. No condition.
-/
import Derived.Test.YtkkiefcapbddkaaGreatDoorLayO
import Derived.Test.YtkkiefcapbddkaaGreatDoorCardB
import Derived.Test.YtkkiefcapbddkaaGreatDoorCardC
import Derived.Test.YtkkiefcapbddkaaGreatDoorCardD
import Derived.Test.YtkkiefcapbddkaaGreatDoorCardF
set_option linter.all false
namespace Go.Proofs.YtkkiefcapbddkaaGreatDoor.topOrdered
open Go.ChangeShapes Go.WideShapes Go.ChangeAt Go.RowKit Mem Opn
set_option maxRecDepth 100000
theorem contract (H : Type) (enc : TypeId × Value → H) (W : World) (base : Nat) (args : Array Value) (ds gs : List (DataW H)) (before : List MemPlace)
    (hval0 : ∀ (j : Nat) t v, Tryz.f3.params[j]? = some t → args[j]? = some v → Value.okWide Tryz.prog W .any base t v)
    (hW : DataW.Whole enc Tryz.prog Tryz.f3.params.toList Rows.topOrderedSpec.vars false W args.toList ds gs before)
    (hsz0 : (DataW.weightsEach Tryz.prog (Tryz.f3.params.toList ++ Rows.topOrderedSpec.plain.varTypes Tryz.prog) (ds ++ gs)).all (· ≤ reachBytes) = true) (hL : laidMetH Tryz.prog Rows.topOrderedRow.laid W) :
    Calls Tryz.prog 3 args W fun e W' => ∃ v, e = .returned v ∧ Rows.topOrderedSpec.post enc Tryz.prog Tryz.f3 false true false false W args v W' := by
  have hsz := hsz0
  clear hsz0
  have hval : ∀ (j : Nat) t v, Tryz.f3.params[j]? = some t → args[j]? = some v → Value.okWide Tryz.prog W .any base t v := hval0
  have hW' := hW
  obtain ⟨p, q, hA0, hV, rfl, hfz, hnd⟩ := hW
  have hA : DataW.TrodAll enc Tryz.prog W 0 (fun _ => true) true Tryz.f3.params.toList args.toList ds p := hA0
  rw [Tryz.params3] at hA hval hsz
  obtain ⟨v0, vs0, d0, ds0, p0, q0, hargs, rfl, rfl, k0, r0⟩ := trodAll_cons hA
  obtain ⟨v1, vs1, d1, ds1, p1, q1, rfl, rfl, rfl, k1, r1⟩ := trodAll_cons r0
  obtain ⟨rfl, rfl, rfl⟩ := trodAll_nil r1
  obtain rfl : args = #[v0, v1] := by cases args; simp_all
  obtain ⟨rfl, rfl⟩ := trodVars_none hV
  have lt0 : ∀ x ∈ p0, x.block < W.heap.size := by obtain ⟨m, hm⟩ := k0; exact DataW.trod_lt m _ _ _ hm
  have lt1 : ∀ x ∈ p1, x.block < W.heap.size := by obtain ⟨m, hm⟩ := k1; exact DataW.trod_lt m _ _ _ hm
  obtain ⟨A0, l0, c0, rfl, rr0⟩ := open_row Tryz.underlying22 Tryz.underlying3 (by kernel_rfl) (by kernel_rfl) (okWide_slice Tryz.underlying22 (hval 0 22 v0 rfl rfl)) k0 lt0 (fun es sp e => sized_slice hsz (j := 0) (t := 22) (e := 3) rfl (by rw [e]; rfl) Tryz.underlying22)
  obtain ⟨e1, f1, A1, l1, c1, rfl, ie1, if1, ro1⟩ := open_env (hval 1 25 v1 rfl rfl) k1 lt1 (fun n hn => by simpa using List.all_eq_true.1 hsz n (DataW.weights_mem_each (j := 1) (t := 25) rfl rfl n hn))
  clear hA0 hval0
  refine (Go.Abs.ordered_walk Go.Abs.runsO l0 A0 c0 e1 f1 l1 A1 c1 W rr0.1 ro1.1 ie1.2 if1.2 (by have := ro1.2.1; have := ro1.2.2.1; omega) (fun x hx => (ro1.2.2.2 x hx).2) (space_at hL)).mono fun e W' ⟨he, bel⟩ => ?_
  subst he
  exact ⟨_, rfl, _, _, _, [], _, [], hW', trodAll_mk1 (shut_bool Tryz.underlying4 _), (trodAll_cons_mk (Below.trod laidOut (by kernel_rfl) (of_decide_eq_true (by kernel_rfl)) k0 bel lt0) (trodAll_cons_mk (Below.trod laidOut (by kernel_rfl) (of_decide_eq_true (by kernel_rfl)) k1 bel lt1) trodAll_mk0)), rfl, bel.frame _, fun h => by cases h⟩

theorem lifted (os : Os) (started : os.Started) (H : Type) (enc : TypeId × Value → H) (F : Stop.Interp) :
    ReturnsInHanded {} Tryz.checked os 3 .any ((OpenSpec.ofChange Rows.topOrderedSpec).preRow enc Tryz.prog Tryz.f3 Rows.topOrderedRow.domain false Rows.topOrderedRow.laid) (((OpenSpec.ofChange Rows.topOrderedSpec).at F).post enc Tryz.prog Tryz.f3 false true false false) := by
  obtain ⟨x, places, hx⟩ := reads os enc
  refine returnsInHanded_of_row (C := Tryz.checked) (s := OpenSpec.ofChange Rows.topOrderedSpec) own started f_fn Tryz.func3
    (witness_row_atRef (enc := enc) (C := Tryz.checked) false (laidWorld os) #[.slice none 0 0, .agg #[.int .i64 0, .int .i64 0, .slice none 0 0]] rfl (f_hv os) (f_hr os) (f_hok os)
      (OpenSpec.preRow_of_cond 8 hx (by kernel_rfl) (fun k hk => by cases hk) (by kernel_rfl) (laid_met os))) ?_
  intro W base args ds gs before hval hW _ _ hsz hL _ _
  exact contract H enc W base args ds gs before hval hW hsz hL

theorem said : Rows.TopOrderedSaid :=
  OpenClaim.holds_of_cond 3 Tryz.f3 rfl rfl rfl rfl rfl rfl rfl ⟨rfl, rfl, rfl, rfl, rfl⟩ rfl rfl rfl rfl rfl f_name Tryz.func3 closed f_inst f_wrap
    (fun os started H enc _ F => by rw [OpenClaim.pre_eq_preRow]; exact lifted os started H enc F)
theorem plain (f : FuncId) (fn : Func) (hf : Tryz.pinned.checked.prog.funcNamed "casement/casementtop.TopOrdered" = some f) (hfn : Tryz.pinned.checked.prog.funcs[f]? = some fn) :
    false = Tryz.pinned.checked.prog.looks [] ∧ ∀ (j : Nat) t, fn.params[j]? = some t → Tryz.pinned.checked.prog.wantsStandIn t = false := by
  obtain rfl : f = 3 := Option.some.inj ((show Tryz.prog.funcNamed "casement/casementtop.TopOrdered" = some 3 by kernel_rfl).symm.trans hf) |>.symm
  obtain rfl : fn = Tryz.f3 := (Option.some.inj (Tryz.func3.symm.trans hfn)).symm
  refine ⟨f_looks, fun j t ht => ?_⟩
  rw [Tryz.params3] at ht
  obtain rfl | rfl : t = 22 ∨ t = 25 := by simpa using Array.mem_of_getElem? ht
  · exact f_w22
  · exact f_w25

theorem proved : Rows.TopOrderedCardSaid :=
  Claim7.holds_tied_plain_at .later [] _ _ _ _ said (fun _ h => by cases h) f_hw (fun _ h => by cases h) topOrdered_row_tie rfl ⟨rfl, rfl⟩ f_hm rfl plain f_hg
#print axioms proved
end Go.Proofs.YtkkiefcapbddkaaGreatDoor.topOrdered
