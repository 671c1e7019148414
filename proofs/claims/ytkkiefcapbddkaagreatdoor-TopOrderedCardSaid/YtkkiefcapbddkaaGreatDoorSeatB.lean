/-
  the sizes of flexible items.
-/
import Derived.Test.YtkkiefcapbddkaaGreatDoorSeatA
import Derived.Deep.LoopGhost
import Derived.WalkMore
set_option linter.all false
namespace Go.Proofs.YtkkiefcapbddkaaGreatDoor
open Go.RowKit Num Mem Opn
namespace Mem
def bls (l : List Bool) : Array Value := (l.map Value.bool).toArray
theorem bls_get (l : List Bool) {i : Nat} (h : i < l.length) : (bls l)[i]? = some (.bool (l.getD i false)) := by
  simp [bls, List.getD_eq_getElem?_getD, h]
theorem bls_set (l : List Bool) (i : Nat) (x : Bool) : (bls l).setIfInBounds i (.bool x) = bls (l.set i x) := by
  simp [bls, List.map_set]
theorem Blk.boolAt {w : World} {g : Nat} {t : TypeId} {l : List Bool} (h : Blk w g t (bls l)) {i : Nat} (hi : i < l.length) : ∃ x, w.cell? ⟨g, i, none⟩ = some (.bool x) ∧ Hid (l.getD i false = x) :=
  ⟨_, by rw [h.cell, bls_get l hi], rfl⟩
theorem Blk.putBool {w : World} {g : Nat} {t : TypeId} {l : List Bool} (h : Blk w g t (bls l)) (i : Nat) (x : Bool) : Blk (w.setCell ⟨g, i, none⟩ (.bool x)) g t (bls (l.set i x)) := by
  have := h.put i (.bool x)
  rwa [bls_set] at this
theorem bls_falses (n : Nat) : madeCells (Value.bool false).cells (n * 1) = bls (List.replicate n false) := by
  apply Array.ext'
  rw [Nat.mul_one]
  show (madeCells #[Value.bool false] n).toList = _
  rw [toList_madeCells_one]
  simp [bls]
end Mem
theorem info_bool : (Tryz.prog.info? 4).map (fun i => (i.zero, i.size, i.bytes)) = some (some (.bool false), 1, 1) := by kernel_rfl
theorem make_bools (n : Nat) (h : n ≤ 35184372088832) (w : World) :
    (Instr.makeSlice 473 (.int .i64 (n : Int)) (.int .i64 (n : Int))).run Tryz.prog w = .ok (.slice (some ⟨w.heap.size, 0, none⟩) n n) (w.alloc (.cells (bls (List.replicate n false)) 4)) := by
  obtain ⟨i, hi, hz, hs, hb⟩ := info_parts info_bool
  have hr := run_make (P := Tryz.prog) w 473 4 i (.bool false) Tryz.underlying473 hi hz .i64 .i64 (n : Int) (n : Int) (by omega) (by omega) (by rw [hb]; omega) (by omega)
  rw [hs] at hr
  simp only [Int.toNat_natCast] at hr
  rw [hr, bls_falses]
theorem items_range {w : World} {B : Nat} {A : Option Addr} {l : List It} (h : Recs w B A 4 It.cells l) {k : Nat} (hk : k < l.length) :
    ∃ b off x, A = some ⟨b, off, none⟩ ∧ b < B ∧ Hid (l[k]? = some x) ∧ Hid (l.getD k it0 = x) ∧ w.rangeAt b (off + k * 4) (it4 x.base x.outer x.grow x.shrink).toList := by
  obtain ⟨b, off, e, hb, hc⟩ := h (by rintro rfl; simp at hk)
  have hx : l[k]? = some l[k] := List.getElem?_eq_getElem hk
  exact ⟨b, off, l[k], e, hb, hid hx, hid (by simp [List.getD_eq_getElem?_getD, hk]), fun j v hv => hc k _ hx j v hv⟩
theorem shr_stop {n : Nat} {l : List It} {x : List Int} {fz : List Bool} {ow : Int} (h : ow ≤ 0) : shr (n + 1) l x fz ow = x := by rw [shr, if_pos h]
theorem shr_none {n : Nat} {l : List It} {x : List Int} {fz : List Bool} {ow : Int} (h : anyS fz l l.length = false) : shr (n + 1) l x fz ow = x := by
  rw [shr, if_pos h]
  split <;> rfl
theorem shr_over {n : Nat} {l : List It} {x : List Int} {fz : List Bool} {ow : Int} (h : 0 < ow) (h1 : anyS fz l l.length = true) (h2 : (pas (share ow (wts fz l)) ⟨x, fz, ow, false⟩ l.length).over = true) :
    shr (n + 1) l x fz ow = shr n l (pas (share ow (wts fz l)) ⟨x, fz, ow, false⟩ l.length).out (pas (share ow (wts fz l)) ⟨x, fz, ow, false⟩ l.length).fz (pas (share ow (wts fz l)) ⟨x, fz, ow, false⟩ l.length).owed := by
  rw [shr, if_neg (by omega), if_neg (by simp [h1]), if_pos h2]
theorem shr_subs {n : Nat} {l : List It} {x : List Int} {fz : List Bool} {ow : Int} (h : 0 < ow) (h1 : anyS fz l l.length = true) (h2 : (pas (share ow (wts fz l)) ⟨x, fz, ow, false⟩ l.length).over = false) :
    shr (n + 1) l x fz ow = subs (share ow (wts fz l)) fz x l.length := by
  rw [shr, if_neg (by omega), if_neg (by simp [h1]), if_neg (by simp [h2]), (pas_none _ _ _ h2).1]
theorem subs_length (parts : List Int) (fz : List Bool) (x : List Int) (k : Nat) : (subs parts fz x k).length = x.length := by
  induction k with
  | zero => rfl
  | succ k ih => simp only [subs]; split <;> simp [ih]
theorem subs_rest (parts : List Int) (fz : List Bool) (x : List Int) {k i : Nat} (h : k ≤ i) : (subs parts fz x k).getD i 0 = x.getD i 0 := by
  induction k with
  | zero => rfl
  | succ k ih =>
    simp only [subs]
    split
    · exact ih (by omega)
    · rw [getD_set, if_neg (by omega)]; exact ih (by omega)
theorem upto_same {f : Nat → Int} {n k : Nat} (h : f k = 0) : upto f n k = upto f n (k + 1) := by
  unfold upto
  refine List.map_congr_left fun i _ => ?_
  by_cases h1 : i < k
  · rw [if_pos h1, if_pos (by omega)]
  · rw [if_neg h1]
    by_cases h2 : i = k
    · subst h2; rw [if_pos (by omega), h]
    · rw [if_neg (by omega)]
set_option maxRecDepth 100000 in
set_option maxHeartbeats 8000000 in
theorem flex_shrink (g : Nat) (x0 : List Int) (l : List It) (A : Option Addr) (c : Nat) (owed : Int) (w : World) (hl : l.length ≤ 1000) (hx0 : x0.length = l.length) (hO : Blk w g 2 (ints x0)) (hA : Recs w g A 4 It.cells l)
    (hs : Sz 70368744177664 x0) (ho : l.length = 0 ∨ -70368744177664 ≤ owed ∧ owed ≤ 70368744177664) :
    Calls Tryz.prog 322 #[.slice (some ⟨g, 0, none⟩) l.length l.length, .slice A l.length c, .int .i64 owed] w fun e w' =>
      e = .returned (.tuple #[]) ∧ Below g w w' ∧ Blk w' g 2 (ints (shr (l.length + 1) l x0 (List.replicate l.length false) owed)) := by
  obtain ⟨T, hT⟩ : ∃ T, shr (l.length + 1) l x0 (List.replicate l.length false) owed = T := ⟨_, rfl⟩
  have HT := hid hT
  rw [hT]
  clear hT
  have hmk := make_bools l.length (by omega) w
  have hmk2 := make_ints l.length (by omega)
  have hgw := hO.lt
  have hF : Blk (w.alloc (.cells (bls (List.replicate l.length false)) 4)) w.heap.size 4 (bls (List.replicate l.length false)) := Blk.new _ _ _
  have hB : Below g w (w.alloc (.cells (bls (List.replicate l.length false)) 4)) := (Below.refl _ _).alloc (by omega) _
  replace hO := hO.alloc (.cells (bls (List.replicate l.length false)) 4)
  replace hx0 := hid hx0
  replace hs := hid hs
  replace ho := hid ho
  go_enter Tryz.func322, Tryz.ntmps322
  go_step3
  go_wp2_with fail
  clear hmk
  generalize hgf : w.heap.size = gf at *
  replace hgf := hid hgf
  go_step3
  go_wp2_with fail
  go_loopg [2] (l.length + 1) (fun g' s2 wr => ∃ (fu : Nat) (x : List Int) (fz : List Bool) (ow : Int), g' = fu + 1 ∧ s2 = .int .i64 ow ∧ Hid (x.length = l.length) ∧ Hid (fz.length = l.length) ∧ loose fz ≤ fu ∧ Hid (Sz 70368744177664 x) ∧ Hid (l.length = 0 ∨ -70368744177664 ≤ ow ∧ ow ≤ 70368744177664) ∧ Hid (shr (fu + 1) l x fz ow = T) ∧ Blk wr g 2 (ints x) ∧ Blk wr gf 4 (bls fz) ∧ Below g w wr)
  case atStart => exact ⟨l.length, x0, List.replicate l.length false, owed, rfl, rfl, hx0, hid (by simp), by rw [loose_none]; exact Nat.le_refl _, hs, ho, HT, hO, hF, hB⟩
  case round =>
    clear hO hF hB HT hs hx0 ho
    obtain ⟨fu, x, fz, ow, rfl, rfl, HXL, HFL, hfu, HS, HOW, HT, hO, hF, hB⟩ := hrel
    by_cases hpos : 0 < ow
    · have hm := hmk2 wr
      have hgr := hO.lt
      have hfr := hF.lt
      have hW : Blk (wr.alloc (.cells (ints (List.replicate l.length 0)) 2)) wr.heap.size 2 (ints (upto (wf fz l) l.length 0)) := by rw [upto_zero]; exact Blk.new _ _ _
      replace hO := hO.alloc (.cells (ints (List.replicate l.length 0)) 2)
      replace hF := hF.alloc (.cells (ints (List.replicate l.length 0)) 2)
      have hB2 : Below g w (wr.alloc (.cells (ints (List.replicate l.length 0)) 2)) := hB.alloc (by omega) _
      go_wp2_with fail
      clear hm hB
      obtain ⟨wo, rfl⟩ : ∃ wo : World, wo = wr := ⟨_, rfl⟩
      generalize hgh : wo.heap.size = gw at *
      replace hgh := hid hgh
      go_loopw [8, 25] (fun s8 s25 wr => ∃ k : Nat, k ≤ l.length ∧ s25 = .int .i64 k ∧ s8 = .bool (anyS fz l k) ∧ Blk wr g 2 (ints x) ∧ Blk wr gf 4 (bls fz) ∧ Blk wr gw 2 (ints (upto (wf fz l) l.length k)) ∧ Below g w wr) (fun _ i _ => l.length - (intOf i).toNat)
      case atStart => exact ⟨0, Nat.zero_le _, rfl, rfl, hO, hF, hW, hB2⟩
      case round =>
        clear hO hF hW hB2
        obtain ⟨k, hk, rfl, rfl, hO, hF, hW, hB⟩ := hrel
        by_cases hlt : k < l.length
        · obtain ⟨b, off, it1, rfl, hb, HX, HG, hrg⟩ := items_range (hA.below hB) hlt
          obtain ⟨bk, hbk, HBK⟩ := hF.boolAt (i := k) (by rw [HFL.out]; exact hlt)
          have hgx := hW.lt
          have hgx2 := hF.lt
          have hgx3 := hO.lt
          go_wp2_with (first | refine stop_load 333 _ rfl rfl ?_ | refine stop_store 333 _ _ rfl rfl ?_)
          refine ⟨?_⟩
          refine wl_load_at rfl 333 _ rfl b (off + k * 4) rfl (it4 it1.base it1.outer it1.grow it1.shrink) _ hrg Tryz.underlying333 rfl (info_it4 _ _ _ _) ?_
          (try simp only [Act.put, List.setIfInBounds_toArray, List.set_cons_zero, List.set_cons_succ])
          go_wp2_with (first | refine stop_load 333 _ rfl rfl ?_ | refine stop_store 333 _ _ rfl rfl ?_)
          refine ⟨?_⟩
          refine wl_store rfl 333 _ _ rfl wr.heap.size (it4 it1.base it1.outer it1.grow it1.shrink) rfl rfl 333 _ (Blk.new _ _ _) rfl (info_it4 _ _ _ _) (it_one _ _ _ _) ?_
          intro w2 hX hC
          (try simp only [Act.put, List.setIfInBounds_toArray, List.set_cons_zero, List.set_cons_succ])
          have hba : ∀ o : Obj, Below wr.heap.size wr (wr.alloc o) := fun o => (Below.refl wr.heap.size wr).alloc (Nat.le_refl _) o
          have hbb : Below wr.heap.size wr w2 := (hba _).trans (hC.below (Nat.le_refl _))
          replace hO := hO.below hbb hgx3
          replace hF := hF.below hbb hgx2
          replace hW := hW.below hbb hgx
          have hB2 := hB.trans (hbb.mono (by omega))
          clear hba hbb hC hbk hB hrg
          generalize wr.heap.size = gx at *
          have c1 : w2.cell? ⟨gf, k, none⟩ = some (.bool bk) := by rw [hF.cell, bls_get fz (by rw [HFL.out]; exact hlt), HBK.out]
          cases bk
          · have hWF : Hid (wf fz l k = it1.shrink) := hid (by unfold wf; rw [HBK.out, HG.out]; rfl)
            have hAN : Hid (anyS fz l (k + 1) = (anyS fz l k || decide (0 < it1.shrink))) := hid (by show (_ || _) = _; rw [hWF.out])
            have c2 : w2.cell? ⟨gx, 3, none⟩ = some (.int .i64 it1.shrink) := hX.cell 3
            have c3 : ∀ v, (w2.setCell ⟨gw, k, none⟩ v).cell? ⟨gx, 3, none⟩ = some (.int .i64 it1.shrink) := fun v => (hX.far (p := ⟨gw, k, none⟩) (by simp; omega) v).cell 3
            obtain ⟨cw, hcw, -⟩ := hW.intAt (i := k) (by rw [upto_length]; exact hlt)
            have hfw := hW.free k
            obtain ⟨an, han⟩ : ∃ an, anyS fz l k = an := ⟨_, rfl⟩
            rw [han] at hAN ⊢
            clear han
            have hW2 : Blk (w2.setCell ⟨gw, k, none⟩ (.int .i64 it1.shrink)) gw 2 (ints (upto (wf fz l) l.length (k + 1))) := by
              have := hW.putInt k (wf fz l k)
              rw [upto_set, hWF.out] at this
              exact this
            have hO2 : Blk (w2.setCell ⟨gw, k, none⟩ (.int .i64 it1.shrink)) g 2 (ints x) := hO.far (by simp; omega) _
            have hF2 : Blk (w2.setCell ⟨gw, k, none⟩ (.int .i64 it1.shrink)) gf 4 (bls fz) := hF.far (by simp; omega) _
            have hB3 : Below g w (w2.setCell ⟨gw, k, none⟩ (.int .i64 it1.shrink)) := hB2.setCell (by simp; omega) _
            cases an
            all_goals
              go_wp2_with fail
              go_roundw
              case rel => exact ⟨k + 1, by omega, by go_num, by rw [hAN.out]; simp, hO2, hF2, hW2, hB3⟩
              case measure => simp [intOf]; omega
          · have hWF : Hid (wf fz l k = 0) := hid (by unfold wf; rw [HBK.out]; rfl)
            have hAN : Hid (anyS fz l (k + 1) = anyS fz l k) := hid (by show (_ || _) = _; rw [hWF.out]; simp)
            go_wp2_with fail
            go_roundw
            case rel => exact ⟨k + 1, by omega, by go_num, by rw [hAN.out], hO, hF, by rw [← upto_same hWF.out]; exact hW, hB2⟩
            case measure => simp [intOf]; omega
        · obtain rfl : k = l.length := by omega
          obtain ⟨an, han⟩ : ∃ an, anyS fz l l.length = an := ⟨_, rfl⟩
          rw [han]
          have HAN := hid han
          clear han
          cases an
          · have HZ : Hid (x = T) := hid (by rw [← HT.out, shr_none HAN.out])
            go_wp2_with fail
            rw [Exit.noGoto_normal]
            exact bodyPost_end (results_none rfl _ _ _) rfl ⟨rfl, hB, by rw [← HZ.out]; exact hO⟩
          · obtain ⟨hw2, hw1⟩ := HOW.out.resolve_left (fun h => by have := HAN.out; rw [h] at this; cases this)
            have hWI : Ints wr wr.heap.size (some ⟨gw, 0, none⟩) (wts fz l) := Ints.ofBlk hW hW.lt
            have hwl := wts_length fz l
            have hgx := hW.lt
            have hgx2 := hF.lt
            have hgx3 := hO.lt
            have hsh := fixed_Share ow (wts fz l) (some ⟨gw, 0, none⟩) l.length wr (by omega) hWI
            rw [hwl] at hsh
            clear hwl hWI
            go_wp2_with fail
            refine hsh.mono ?_
            clear hsh
            rintro e w3 ⟨rfl, hb3, hP⟩
            replace hO := hO.below hb3 hgx3
            replace hF := hF.below hb3 hgx2
            replace hB := hB.trans (hb3.mono (by omega))
            have HPL : Hid ((share ow (wts fz l)).length = l.length) := hid (by rw [share_length, wts_length])
            have hp1 : ∀ i, 0 ≤ (share ow (wts fz l)).getD i 0 := share_lo ow (wts fz l) (by rw [wts_length]; omega)
            have hp2 : ∀ i, (share ow (wts fz l)).getD i 0 ≤ tot ow := share_tot ow (wts fz l) (by rw [wts_length]; omega)
            have htt : tot ow = ow := by unfold tot clip; omega
            have hps : psum (share ow (wts fz l)) l.length = ow := by
              have := share_psum ow (wts fz l)
              rw [if_neg ((any_wsum fz l).1 HAN.out), htt, wts_length] at this
              exact this
            have hpk : ∀ k, k ≤ l.length → psum (share ow (wts fz l)) k ≤ ow := fun k hk => by
              have := psum_mono hp1 hk
              omega
            rw [htt] at hp2
            clear htt hps
            obtain ⟨pts, hpts⟩ : ∃ pts, share ow (wts fz l) = pts := ⟨_, rfl⟩
            have HOV := hid (@shr_over fu l x fz ow hpos HAN.out)
            have HSB := hid (@shr_subs fu l x fz ow hpos HAN.out)
            rw [hpts] at hP HPL hp1 hp2 hpk HOV HSB
            replace hp1 := hid hp1
            replace hp2 := hid hp2
            replace hpk := hid hpk
            clear hpts hW hb3
            have hgy := hP.lt
            go_wp2_with fail
            generalize wr.heap.size = gp at *
            go_loopw [2, 12, 54] (fun s2 s12 s54 wr => ∃ k : Nat, k ≤ l.length ∧ s54 = .int .i64 k ∧ s2 = .int .i64 (pas pts ⟨x, fz, ow, false⟩ k).owed ∧ s12 = .bool (pas pts ⟨x, fz, ow, false⟩ k).over ∧ Blk wr g 2 (ints (pas pts ⟨x, fz, ow, false⟩ k).out) ∧ Blk wr gf 4 (bls (pas pts ⟨x, fz, ow, false⟩ k).fz) ∧ Blk wr gp 2 (ints pts) ∧ Below g w wr) (fun _ _ i _ => l.length - (intOf i).toNat)
            case atStart => exact ⟨0, Nat.zero_le _, rfl, rfl, rfl, hO, hF, hP, hB⟩
            case round =>
              clear hO hF hP hB
              obtain ⟨k, hk, rfl, rfl, rfl, hO, hF, hP, hB⟩ := hrel
              have HL1 := hid (pas_length pts ⟨x, fz, ow, false⟩ k)
              by_cases hlt : k < l.length
              · have HST : Hid (pas pts ⟨x, fz, ow, false⟩ (k + 1) = if (pas pts ⟨x, fz, ow, false⟩ k).fz.getD k false = false ∧ (pas pts ⟨x, fz, ow, false⟩ k).out.getD k 0 < pts.getD k 0 then
                    ⟨(pas pts ⟨x, fz, ow, false⟩ k).out.set k 0, (pas pts ⟨x, fz, ow, false⟩ k).fz.set k true, (pas pts ⟨x, fz, ow, false⟩ k).owed - (pas pts ⟨x, fz, ow, false⟩ k).out.getD k 0, true⟩
                  else pas pts ⟨x, fz, ow, false⟩ k) := hid rfl
                have h5 := (pas_sz (by decide) pts ⟨x, fz, ow, false⟩ HS.out k) k
                have h6 := pas_owed pts ⟨x, fz, ow, false⟩ hp1.out k
                have h7 := pas_owed_hi (by decide) pts ⟨x, fz, ow, false⟩ HS.out k
                have h8 := hpk.out k hk
                simp only at h6 h7
                obtain ⟨s, hs⟩ : ∃ s, pas pts ⟨x, fz, ow, false⟩ k = s := ⟨_, rfl⟩
                rw [hs] at HST HL1 hO hF h5 h6 h7 ⊢
                obtain ⟨sx, sf, so, sv⟩ := s
                simp only at HST HL1 hO hF h5 h6 h7 ⊢
                clear hs
                obtain ⟨fk, hfk, HFK⟩ := hF.boolAt (i := k) (by have := HL1.out.2; rw [HFL.out] at this; omega)
                obtain ⟨xk, hxk, HXK⟩ := hO.intAt (i := k) (by have := HL1.out.1; rw [HXL.out] at this; omega)
                obtain ⟨pk, hpk2, HPK⟩ := hP.intAt (i := k) (by rw [HPL.out]; exact hlt)
                rw [HXK.out] at h5
                rw [HXK.out, HPK.out, HFK.out] at HST
                have hfo := hO.free k
                have hff := hF.free k
                have hgg := hO.lt
                have hgg2 := hF.lt
                have hSQ : ∀ Z : World, Z.heap = wr.heap → (fun Z : World => Z.cell? ⟨gf, k, none⟩ = some (.bool fk) ∧ Z.cell? ⟨gp, k, none⟩ = some (.int .i64 pk) ∧ Z.cell? ⟨g, k, none⟩ = some (.int .i64 xk)) Z := fun Z h => ⟨(World.cell?_of_block (a := ⟨gf, k, none⟩) (by rw [h])).trans hfk, (World.cell?_of_block (a := ⟨gp, k, none⟩) (by rw [h])).trans hpk2, (World.cell?_of_block (a := ⟨g, k, none⟩) (by rw [h])).trans hxk⟩
                cases fk
                · go_upto_region 17 with fail
                  refine wp_region_noPanic ?_
                  refine Ord.region_Q (S := fun Z : World => Z.cell? ⟨gf, k, none⟩ = some (.bool false) ∧ Z.cell? ⟨gp, k, none⟩ = some (.int .i64 pk) ∧ Z.cell? ⟨g, k, none⟩ = some (.int .i64 xk)) 999 (.one 0 true (.one 1 true (.one 2 true (.one 3 true (.one 4 true (.one 5 true (.one 6 true (.one 7 true (.one 8 true (.one 9 true (.one 10 true (.one 11 true (.one 12 true (.one 13 true (.one 14 true (.one 15 true .nil)))))))))))))))) (by kernel_rfl) (by kernel_rfl) (by kernel_rfl) (by decide) (fun _ _ _ _ _ h => h) (hSQ _ rfl) (fun hS0 => ?_)
                  simp only [Ord.layT, List.getElem?_cons_zero, List.getElem?_cons_succ]
                  (refine Ord.takeQ (v := ?_) (Or.inl ⟨rfl, ?_⟩) ?_; rotate_left; (intro w hSw; (try dsimp only at hSw); go_simp; try (with_reducible rfl)); (try simp only [Act.put, List.setIfInBounds_toArray, List.set_cons_zero, List.set_cons_succ]))
                  (refine Ord.takeQ (v := ?_) (Or.inl ⟨rfl, ?_⟩) ?_; rotate_left; (intro w hSw; (try dsimp only at hSw); go_simp; try (with_reducible rfl)); (try simp only [Act.put, List.setIfInBounds_toArray, List.set_cons_zero, List.set_cons_succ]))
                  (refine Ord.takeQ (v := ?_) (Or.inl ⟨rfl, ?_⟩) ?_; rotate_left; (intro w hSw; (try dsimp only at hSw); go_simp; try (with_reducible rfl)); (try simp only [Act.put, List.setIfInBounds_toArray, List.set_cons_zero, List.set_cons_succ]))
                  (refine Ord.takeQ (v := ?_) (Or.inl ⟨rfl, ?_⟩) ?_; rotate_left; (intro w hSw; (try dsimp only at hSw); go_simp; try (with_reducible rfl)); (try simp only [Act.put, List.setIfInBounds_toArray, List.set_cons_zero, List.set_cons_succ]))
                  (refine Ord.takeQ (v := ?_) (Or.inl ⟨rfl, ?_⟩) ?_; rotate_left; (intro w hSw; (try dsimp only at hSw); go_simp; try (with_reducible rfl)); (try simp only [Act.put, List.setIfInBounds_toArray, List.set_cons_zero, List.set_cons_succ]))
                  (refine Ord.takeQ (v := ?_) (Or.inl ⟨rfl, ?_⟩) ?_; rotate_left; (intro w hSw; (try dsimp only at hSw); go_simp; try (with_reducible rfl)); (try simp only [Act.put, List.setIfInBounds_toArray, List.set_cons_zero, List.set_cons_succ]))
                  (refine Ord.takeQ (v := ?_) (Or.inl ⟨rfl, ?_⟩) ?_; rotate_left; (intro w hSw; (try dsimp only at hSw); go_simp; try (with_reducible rfl)); (try simp only [Act.put, List.setIfInBounds_toArray, List.set_cons_zero, List.set_cons_succ]))
                  (refine Ord.takeQ (v := ?_) (Or.inl ⟨rfl, ?_⟩) ?_; rotate_left; (intro w hSw; (try dsimp only at hSw); go_simp; try (with_reducible rfl)); (try simp only [Act.put, List.setIfInBounds_toArray, List.set_cons_zero, List.set_cons_succ]))
                  (refine Ord.takeQ (v := ?_) (Or.inl ⟨rfl, ?_⟩) ?_; rotate_left; (intro w hSw; (try dsimp only at hSw); go_simp; try (with_reducible rfl)); (try simp only [Act.put, List.setIfInBounds_toArray, List.set_cons_zero, List.set_cons_succ]))
                  (refine Ord.takeQ (v := ?_) (Or.inl ⟨rfl, ?_⟩) ?_; rotate_left; (intro w hSw; (try dsimp only at hSw); go_simp; try (with_reducible rfl)); (try simp only [Act.put, List.setIfInBounds_toArray, List.set_cons_zero, List.set_cons_succ]))
                  (refine Ord.takeQ (v := ?_) (Or.inl ⟨rfl, ?_⟩) ?_; rotate_left; (intro w hSw; (try dsimp only at hSw); go_simp; try (with_reducible rfl)); (try simp only [Act.put, List.setIfInBounds_toArray, List.set_cons_zero, List.set_cons_succ]))
                  (refine Ord.takeQ (v := ?_) (Or.inl ⟨rfl, ?_⟩) ?_; rotate_left; (intro w hSw; (try dsimp only at hSw); go_simp; try (with_reducible rfl)); (try simp only [Act.put, List.setIfInBounds_toArray, List.set_cons_zero, List.set_cons_succ]))
                  (refine Ord.takeQ (v := ?_) (Or.inl ⟨rfl, ?_⟩) ?_; rotate_left; (intro w hSw; (try dsimp only at hSw); go_simp; try (with_reducible rfl)); (try simp only [Act.put, List.setIfInBounds_toArray, List.set_cons_zero, List.set_cons_succ]))
                  (refine Ord.takeQ (v := ?_) (Or.inl ⟨rfl, ?_⟩) ?_; rotate_left; (intro w hSw; (try dsimp only at hSw); go_simp; try (with_reducible rfl)); (try simp only [Act.put, List.setIfInBounds_toArray, List.set_cons_zero, List.set_cons_succ]))
                  (refine Ord.takeQ (v := ?_) (Or.inl ⟨rfl, ?_⟩) ?_; rotate_left; (intro w hSw; (try dsimp only at hSw); go_simp; try (with_reducible rfl)); (try simp only [Act.put, List.setIfInBounds_toArray, List.set_cons_zero, List.set_cons_succ]))
                  (refine Ord.takeQ (v := ?_) (Or.inl ⟨rfl, ?_⟩) ?_; rotate_left; (intro w hSw; (try dsimp only at hSw); go_simp; try (with_reducible rfl)); (try simp only [Act.put, List.setIfInBounds_toArray, List.set_cons_zero, List.set_cons_succ]))
                  refine Ord.doneQ (NoPanic.normal ?_)
                  have hg1 : IntKind.i64.wrap (so - xk) = so - xk := IntWalk.i64_in _ (by omega)
                  by_cases hc : xk < pk
                  · have hd : decide (xk < pk) = true := decide_eq_true hc
                    have HST2 : Hid (pas pts ⟨x, fz, ow, false⟩ (k + 1) = ⟨sx.set k 0, sf.set k true, so - xk, true⟩) := hid (by rw [HST.out, if_pos ⟨rfl, hc⟩])
                    have hcc : (wr.drew.setCell ⟨g, k, none⟩ (.int .i64 0)).cell? ⟨gf, k, none⟩ = some (.bool false) := ((hF.drew).far (p := ⟨g, k, none⟩) (by simp; omega) _).cell k |>.trans (by rw [bls_get sf (by have := HL1.out.2; rw [HFL.out] at this; omega), HFK.out])
                    have hcf : (wr.drew.setCell ⟨g, k, none⟩ (.int .i64 0)).frozen? ⟨gf, k, none⟩ = false := ((hF.drew).far (p := ⟨g, k, none⟩) (by simp; omega) _).free k
                    go_wp2_with fail
                    go_roundw
                    case rel =>
                      refine ⟨k + 1, by omega, by go_num, ?_⟩
                      rw [HST2.out]
                      refine ⟨rfl, rfl, ?_, ?_, ?_, ?_⟩
                      · exact (hO.putInt k 0).far (p := ⟨gf, k, none⟩) (by simp; omega) (.bool true)
                      · exact (hF.far (p := ⟨g, k, none⟩) (by simp; omega) (.int .i64 0)).putBool k true
                      · exact (hP.far (p := ⟨g, k, none⟩) (by simp; omega) (.int .i64 0)).far (p := ⟨gf, k, none⟩) (by simp; omega) (.bool true)
                      · exact ((hB.setCell (by simp) _).setCell (by simp; omega) _).drew
                    case measure => simp [intOf]; omega
                  · have hd : decide (xk < pk) = false := decide_eq_false hc
                    have HST2 : Hid (pas pts ⟨x, fz, ow, false⟩ (k + 1) = ⟨sx, sf, so, sv⟩) := hid (by rw [HST.out, if_neg (fun h => hc h.2)])
                    go_wp2_with fail
                    go_roundw
                    case rel =>
                      refine ⟨k + 1, by omega, by go_num, ?_⟩
                      rw [HST2.out]
                      exact ⟨rfl, rfl, hO.drew, hF.drew, hP.drew, hB.drew⟩
                    case measure => simp [intOf]; omega
                · have HST2 : Hid (pas pts ⟨x, fz, ow, false⟩ (k + 1) = ⟨sx, sf, so, sv⟩) := hid (by rw [HST.out, if_neg (fun h => by cases h.1)])
                  go_upto_region 17 with fail
                  refine wp_region_noPanic ?_
                  refine Ord.region_Q (S := fun Z : World => Z.cell? ⟨gf, k, none⟩ = some (.bool true) ∧ Z.cell? ⟨gp, k, none⟩ = some (.int .i64 pk) ∧ Z.cell? ⟨g, k, none⟩ = some (.int .i64 xk)) 999 (.one 0 true (.one 1 true (.one 2 true (.one 3 true (.one 4 true (.one 5 true (.one 6 true (.one 7 true (.one 8 true (.one 9 true (.one 10 true (.one 11 true (.one 12 true (.one 13 true (.one 14 true (.one 15 true .nil)))))))))))))))) (by kernel_rfl) (by kernel_rfl) (by kernel_rfl) (by decide) (fun _ _ _ _ _ h => h) (hSQ _ rfl) (fun hS0 => ?_)
                  simp only [Ord.layT, List.getElem?_cons_zero, List.getElem?_cons_succ]
                  (refine Ord.takeQ (v := ?_) (Or.inl ⟨rfl, ?_⟩) ?_; rotate_left; (intro w hSw; (try dsimp only at hSw); go_simp; try (with_reducible rfl)); (try simp only [Act.put, List.setIfInBounds_toArray, List.set_cons_zero, List.set_cons_succ]))
                  (refine Ord.takeQ (v := ?_) (Or.inl ⟨rfl, ?_⟩) ?_; rotate_left; (intro w hSw; (try dsimp only at hSw); go_simp; try (with_reducible rfl)); (try simp only [Act.put, List.setIfInBounds_toArray, List.set_cons_zero, List.set_cons_succ]))
                  (refine Ord.takeQ (v := ?_) (Or.inl ⟨rfl, ?_⟩) ?_; rotate_left; (intro w hSw; (try dsimp only at hSw); go_simp; try (with_reducible rfl)); (try simp only [Act.put, List.setIfInBounds_toArray, List.set_cons_zero, List.set_cons_succ]))
                  (refine Ord.takeQ (v := ?_) (Or.inl ⟨rfl, ?_⟩) ?_; rotate_left; (intro w hSw; (try dsimp only at hSw); go_simp; try (with_reducible rfl)); (try simp only [Act.put, List.setIfInBounds_toArray, List.set_cons_zero, List.set_cons_succ]))
                  (refine Ord.takeQ (v := ?_) (Or.inl ⟨rfl, ?_⟩) ?_; rotate_left; (intro w hSw; (try dsimp only at hSw); go_simp; try (with_reducible rfl)); (try simp only [Act.put, List.setIfInBounds_toArray, List.set_cons_zero, List.set_cons_succ]))
                  (refine Ord.takeQ (v := ?_) (Or.inl ⟨rfl, ?_⟩) ?_; rotate_left; (intro w hSw; (try dsimp only at hSw); go_simp; try (with_reducible rfl)); (try simp only [Act.put, List.setIfInBounds_toArray, List.set_cons_zero, List.set_cons_succ]))
                  (refine Ord.takeQ (Or.inr ⟨rfl, rfl⟩) ?_; (try simp only [Act.put, List.setIfInBounds_toArray, List.set_cons_zero, List.set_cons_succ]))
                  (refine Ord.takeQ (Or.inr ⟨rfl, rfl⟩) ?_; (try simp only [Act.put, List.setIfInBounds_toArray, List.set_cons_zero, List.set_cons_succ]))
                  (refine Ord.takeQ (Or.inr ⟨rfl, rfl⟩) ?_; (try simp only [Act.put, List.setIfInBounds_toArray, List.set_cons_zero, List.set_cons_succ]))
                  (refine Ord.takeQ (Or.inr ⟨rfl, rfl⟩) ?_; (try simp only [Act.put, List.setIfInBounds_toArray, List.set_cons_zero, List.set_cons_succ]))
                  (refine Ord.takeQ (Or.inr ⟨rfl, rfl⟩) ?_; (try simp only [Act.put, List.setIfInBounds_toArray, List.set_cons_zero, List.set_cons_succ]))
                  (refine Ord.takeQ (Or.inr ⟨rfl, rfl⟩) ?_; (try simp only [Act.put, List.setIfInBounds_toArray, List.set_cons_zero, List.set_cons_succ]))
                  (refine Ord.takeQ (Or.inr ⟨rfl, rfl⟩) ?_; (try simp only [Act.put, List.setIfInBounds_toArray, List.set_cons_zero, List.set_cons_succ]))
                  (refine Ord.takeQ (Or.inr ⟨rfl, rfl⟩) ?_; (try simp only [Act.put, List.setIfInBounds_toArray, List.set_cons_zero, List.set_cons_succ]))
                  (refine Ord.takeQ (Or.inr ⟨rfl, rfl⟩) ?_; (try simp only [Act.put, List.setIfInBounds_toArray, List.set_cons_zero, List.set_cons_succ]))
                  (refine Ord.takeQ (v := ?_) (Or.inl ⟨rfl, ?_⟩) ?_; rotate_left; (intro w hSw; (try dsimp only at hSw); go_simp; try (with_reducible rfl)); (try simp only [Act.put, List.setIfInBounds_toArray, List.set_cons_zero, List.set_cons_succ]))
                  refine Ord.doneQ (NoPanic.normal ?_)
                  go_wp2_with fail
                  go_roundw
                  case rel =>
                    refine ⟨k + 1, by omega, by go_num, ?_⟩
                    rw [HST2.out]
                    exact ⟨rfl, rfl, hO.drew, hF.drew, hP.drew, hB.drew⟩
                  case measure => simp [intOf]; omega
              · obtain rfl : k = l.length := by omega
                have HLO := hid (pas_loose pts ⟨x, fz, ow, false⟩ l.length (by simp only [HFL.out]; exact Nat.le_refl _))
                have HSZ := hid (pas_sz (by decide) pts ⟨x, fz, ow, false⟩ HS.out l.length)
                have h6 := pas_owed pts ⟨x, fz, ow, false⟩ hp1.out l.length
                have h7 := pas_owed_hi (by decide) pts ⟨x, fz, ow, false⟩ HS.out l.length
                have h8 := hpk.out l.length (Nat.le_refl _)
                have HNO := hid (pas_none pts ⟨x, fz, ow, false⟩ l.length)
                obtain ⟨s, hs⟩ : ∃ s, pas pts ⟨x, fz, ow, false⟩ l.length = s := ⟨_, rfl⟩
                rw [hs] at HL1 hO hF h6 h7 HLO HSZ HOV HSB HNO ⊢
                obtain ⟨sx, sf, so, sv⟩ := s
                simp only at HL1 hO hF h6 h7 HLO HSZ HOV HSB HNO ⊢
                clear hs
                cases sv
                · obtain ⟨rfl, rfl, rfl⟩ := HNO.out rfl
                  have HT2 : Hid (subs pts sf sx l.length = T) := hid (by rw [← HSB.out rfl]; exact HT.out)
                  go_wp2_with fail
                  go_loopw [89] (fun s89 wr => ∃ k : Nat, k ≤ l.length ∧ s89 = .int .i64 k ∧ Blk wr g 2 (ints (subs pts sf sx k)) ∧ Blk wr gf 4 (bls sf) ∧ Blk wr gp 2 (ints pts) ∧ Below g w wr) (fun i _ => l.length - (intOf i).toNat)
                  case atStart => exact ⟨0, Nat.zero_le _, rfl, hO, hF, hP, hB⟩
                  case round =>
                    clear hO hF hP hB
                    obtain ⟨k, hk, rfl, hO, hF, hP, hB⟩ := hrel
                    by_cases hlt : k < l.length
                    · obtain ⟨fk, hfk, HFK⟩ := hF.boolAt (i := k) (by rw [HFL.out]; exact hlt)
                      obtain ⟨xk, hxk, HXK⟩ := hO.intAt (i := k) (by rw [subs_length, HXL.out]; exact hlt)
                      obtain ⟨pk, hpk2, HPK⟩ := hP.intAt (i := k) (by rw [HPL.out]; exact hlt)
                      have h1 := HS.out k
                      have h2 := hp1.out k
                      have h3 := hp2.out k
                      rw [HPK.out] at h2 h3
                      rw [← subs_rest pts sf sx (Nat.le_refl k), HXK.out] at h1
                      have hfo := hO.free k
                      have hgg := hO.lt
                      cases fk
                      · have HU : Hid (subs pts sf sx (k + 1) = (subs pts sf sx k).set k (xk - pk)) := hid (by simp only [subs, HFK.out, HXK.out, HPK.out]; rfl)
                        have hg1 : IntKind.i64.wrap (xk - pk) = xk - pk := IntWalk.i64_in _ (by omega)
                        have hSQ : (fun Z : World => Z.cell? ⟨gp, k, none⟩ = some (.int .i64 pk) ∧ Z.cell? ⟨g, k, none⟩ = some (.int .i64 xk) ∧ Z.frozen? ⟨g, k, none⟩ = false) wr.drew := ⟨hpk2, hxk, hfo⟩
                        go_upto_region 27 with fail
                        refine wp_region_noPanic ?_
                        refine Ord.region_Q (S := fun Z : World => Z.cell? ⟨gp, k, none⟩ = some (.int .i64 pk) ∧ Z.cell? ⟨g, k, none⟩ = some (.int .i64 xk) ∧ Z.frozen? ⟨g, k, none⟩ = false) 10 (.one 0 true (.one 1 true (.one 2 true (.one 3 true (.one 4 true (.one 5 true (.one 6 true (.one 7 true (.one 8 true (.one 9 true (.one 10 false .nil))))))))))) (by kernel_rfl) (by kernel_rfl) (by kernel_rfl) (by decide) (fun _ _ _ _ _ h => h) (hSQ) (fun hS0 => ?_)
                        simp only [Ord.layT, List.getElem?_cons_zero, List.getElem?_cons_succ]
                        (refine Ord.takeQ (v := ?_) (Or.inl ⟨rfl, ?_⟩) ?_; rotate_left; (intro w hSw; (try dsimp only at hSw); go_simp; try (with_reducible rfl)); (try simp only [Act.put, List.setIfInBounds_toArray, List.set_cons_zero, List.set_cons_succ]))
                        (refine Ord.takeQ (v := ?_) (Or.inl ⟨rfl, ?_⟩) ?_; rotate_left; (intro w hSw; (try dsimp only at hSw); go_simp; try (with_reducible rfl)); (try simp only [Act.put, List.setIfInBounds_toArray, List.set_cons_zero, List.set_cons_succ]))
                        (refine Ord.takeQ (v := ?_) (Or.inl ⟨rfl, ?_⟩) ?_; rotate_left; (intro w hSw; (try dsimp only at hSw); go_simp; try (with_reducible rfl)); (try simp only [Act.put, List.setIfInBounds_toArray, List.set_cons_zero, List.set_cons_succ]))
                        (refine Ord.takeQ (v := ?_) (Or.inl ⟨rfl, ?_⟩) ?_; rotate_left; (intro w hSw; (try dsimp only at hSw); go_simp; try (with_reducible rfl)); (try simp only [Act.put, List.setIfInBounds_toArray, List.set_cons_zero, List.set_cons_succ]))
                        (refine Ord.takeQ (v := ?_) (Or.inl ⟨rfl, ?_⟩) ?_; rotate_left; (intro w hSw; (try dsimp only at hSw); go_simp; try (with_reducible rfl)); (try simp only [Act.put, List.setIfInBounds_toArray, List.set_cons_zero, List.set_cons_succ]))
                        (refine Ord.takeQ (v := ?_) (Or.inl ⟨rfl, ?_⟩) ?_; rotate_left; (intro w hSw; (try dsimp only at hSw); go_simp; try (with_reducible rfl)); (try simp only [Act.put, List.setIfInBounds_toArray, List.set_cons_zero, List.set_cons_succ]))
                        (refine Ord.takeQ (v := ?_) (Or.inl ⟨rfl, ?_⟩) ?_; rotate_left; (intro w hSw; (try dsimp only at hSw); go_simp; try (with_reducible rfl)); (try simp only [Act.put, List.setIfInBounds_toArray, List.set_cons_zero, List.set_cons_succ]))
                        (refine Ord.takeQ (v := ?_) (Or.inl ⟨rfl, ?_⟩) ?_; rotate_left; (intro w hSw; (try dsimp only at hSw); go_simp; try (with_reducible rfl)); (try simp only [Act.put, List.setIfInBounds_toArray, List.set_cons_zero, List.set_cons_succ]))
                        (refine Ord.takeQ (v := ?_) (Or.inl ⟨rfl, ?_⟩) ?_; rotate_left; (intro w hSw; (try dsimp only at hSw); go_simp; try (with_reducible rfl)); (try simp only [Act.put, List.setIfInBounds_toArray, List.set_cons_zero, List.set_cons_succ]))
                        (refine Ord.takeQ (v := ?_) (Or.inl ⟨rfl, ?_⟩) ?_; rotate_left; (intro w hSw; (try dsimp only at hSw); go_simp; try (with_reducible rfl)); (try simp only [Act.put, List.setIfInBounds_toArray, List.set_cons_zero, List.set_cons_succ]))
                        refine Ord.lastQ rfl rfl (fun K hK => ?_)
                        obtain ⟨hq1, hq2, hq3⟩ := hSQ
                        go_simp
                        (try simp only [Act.put, List.setIfInBounds_toArray, List.set_cons_zero, List.set_cons_succ])
                        refine hK.out _ _ ?_
                        clear hK K
                        refine Ord.doneQ (NoPanic.normal ?_)
                        go_wp2_with fail
                        go_roundw
                        case rel =>
                          exact ⟨k + 1, by omega, by go_num, by rw [HU.out]; exact hO.putInt k _, hF.far (p := ⟨g, k, none⟩) (by simp; omega) _, hP.far (p := ⟨g, k, none⟩) (by simp; omega) _, (hB.setCell (by simp) _).drew⟩
                        case measure => simp [intOf]; omega
                      · have HU : Hid (subs pts sf sx (k + 1) = subs pts sf sx k) := hid (by simp only [subs, HFK.out]; rfl)
                        go_wp2_with fail
                        go_roundw
                        case rel => exact ⟨k + 1, by omega, by go_num, by rw [HU.out]; exact hO, hF, hP, hB⟩
                        case measure => simp [intOf]; omega
                    · obtain rfl : k = l.length := by omega
                      go_wp2_with fail
                      rw [Exit.noGoto_normal]
                      exact bodyPost_end (results_none rfl _ _ _) rfl ⟨rfl, hB, by rw [← HT2.out]; exact hO⟩
                · have HT2 : Hid (shr fu l sx sf so = T) := hid (by rw [← HOV.out rfl]; exact HT.out)
                  have hlo := HLO.out.2 rfl
                  obtain ⟨fv, rfl⟩ : ∃ fv, fu = fv + 1 := ⟨fu - 1, by omega⟩
                  go_wp2_with fail
                  go_roundg (fv + 1)
                  case rel => exact ⟨fv, sx, sf, so, rfl, rfl, hid (by rw [HL1.out.1]; exact HXL.out), hid (by rw [HL1.out.2]; exact HFL.out), by omega, HSZ, hid (.inr (by omega)), HT2, hO, hF, hB⟩
                  case measure => omega
    · have HZ : Hid (x = T) := hid (by rw [← HT.out, shr_stop (by omega)])
      go_wp2_with fail
      exact bodyPost_end (results_none rfl _ _ _) rfl ⟨rfl, hB, by rw [← HZ.out]; exact hO⟩
end Go.Proofs.YtkkiefcapbddkaaGreatDoor
namespace Go.Proofs.YtkkiefcapbddkaaGreatDoor
open Go.RowKit Num Mem Opn
theorem upto_get' {f : Nat → Int} {n k i : Nat} (hi : i < n) (hk : i < k) : (upto f n k).getD i 0 = f i := by rw [upto_getD _ hi, if_pos hk]
theorem shr_nil (n : Nat) (x : List Int) (fz : List Bool) (ow : Int) : shr (n + 1) [] x fz ow = x := shr_none rfl
set_option maxRecDepth 100000 in
set_option maxHeartbeats 8000000 in
theorem flex_Sizes (room : Int) (l : List It) (A : Option Addr) (c : Nat) (w : World) (hl : l.length ≤ 1000) (hr : I64 room) (hA : Recs w w.heap.size A 4 It.cells l) :
    Calls Tryz.prog 279 #[.int .i64 room, .slice A l.length c] w fun e w' =>
      e = .returned (.slice (some ⟨w.heap.size, 0, none⟩) l.length l.length) ∧ Below w.heap.size w w' ∧ Blk w' w.heap.size 2 (ints (sizes room l)) := by
  obtain ⟨T, hT⟩ : ∃ T, sizes room l = T := ⟨_, rfl⟩
  have HT := hid hT
  rw [hT]
  clear hT
  have hmk := make_ints l.length (by omega)
  have hO : Blk ((w.alloc (.cells (ints (List.replicate l.length 0)) 2)).alloc (.cells (ints (List.replicate l.length 0)) 2)) w.heap.size 2 (ints (upto (ob l) l.length 0)) := by rw [upto_zero]; exact (Blk.new w _ _).alloc _
  have hG : Blk ((w.alloc (.cells (ints (List.replicate l.length 0)) 2)).alloc (.cells (ints (List.replicate l.length 0)) 2)) (w.heap.size + 1) 2 (ints (upto (og l) l.length 0)) := by
    rw [upto_zero]
    have := Blk.new (w.alloc (.cells (ints (List.replicate l.length 0)) 2)) 2 (ints (List.replicate l.length 0))
    simpa using this
  have hB : Below w.heap.size w ((w.alloc (.cells (ints (List.replicate l.length 0)) 2)).alloc (.cells (ints (List.replicate l.length 0)) 2)) := ((Below.refl _ _).alloc (Nat.le_refl _) _).alloc (by simp) _
  go_enter Tryz.func279, Tryz.ntmps279
  go_wp2_with fail
  clear hmk
  generalize hg : w.heap.size = g at *
  replace hg := hid hg
  go_loopw [7, 21] (fun s7 s21 wr => ∃ k : Nat, k ≤ l.length ∧ s21 = .int .i64 k ∧ s7 = .int .i64 (frees room l k) ∧ Blk wr g 2 (ints (upto (ob l) l.length k)) ∧ Blk wr (g + 1) 2 (ints (upto (og l) l.length k)) ∧ Below g w wr) (fun _ i _ => l.length - (intOf i).toNat)
  case atStart => exact ⟨0, Nat.zero_le _, rfl, rfl, hO, hG, hB⟩
  case round =>
    clear hO hG hB
    obtain ⟨k, hk, rfl, rfl, hO, hG, hB⟩ := hrel
    by_cases hlt : k < l.length
    · obtain ⟨b, off, it1, rfl, hb, HX, HG, hrg⟩ := items_range (hA.below hB) hlt
      have hgx := hG.lt
      go_wp2_with (first | refine stop_load 333 _ rfl rfl ?_ | refine stop_store 333 _ _ rfl rfl ?_)
      refine ⟨?_⟩
      refine wl_load_at rfl 333 _ rfl b (off + k * 4) rfl (it4 it1.base it1.outer it1.grow it1.shrink) _ hrg Tryz.underlying333 rfl (info_it4 _ _ _ _) ?_
      (try simp only [Act.put, List.setIfInBounds_toArray, List.set_cons_zero, List.set_cons_succ])
      go_wp2_with (first | refine stop_load 333 _ rfl rfl ?_ | refine stop_store 333 _ _ rfl rfl ?_)
      refine ⟨?_⟩
      refine wl_store rfl 333 _ _ rfl wr.heap.size (it4 it1.base it1.outer it1.grow it1.shrink) rfl rfl 333 _ (Blk.new _ _ _) rfl (info_it4 _ _ _ _) (it_one _ _ _ _) ?_
      intro w2 hX hC
      (try simp only [Act.put, List.setIfInBounds_toArray, List.set_cons_zero, List.set_cons_succ])
      have hbb : Below wr.heap.size wr w2 := ((Below.refl wr.heap.size wr).alloc (Nat.le_refl _) _).trans (hC.below (Nat.le_refl _))
      replace hO := hO.below hbb (by omega)
      replace hG := hG.below hbb hgx
      have hB2 := hB.trans (hbb.mono (by omega))
      clear hbb hC hB hrg
      generalize wr.heap.size = gx at *
      have HOB : Hid (ob l k = max (sat it1.base) 0) := hid (by unfold ob; rw [HG.out]; rfl)
      have HOG : Hid (og l k = it1.grow) := hid (by unfold og; rw [HG.out])
      have HFR : Hid (frees room l (k + 1) = sub (sub (frees room l k) (max (sat it1.base) 0)) it1.outer) := hid (by show sub (sub _ (ob l k)) _ = _; rw [HOB.out, HG.out])
      have c0 : w2.cell? ⟨gx, 0, none⟩ = some (.int .i64 it1.base) := hX.cell 0
      have c2 : ∀ v, (w2.setCell ⟨g, k, none⟩ v).cell? ⟨gx, 2, none⟩ = some (.int .i64 it1.grow) := fun v => (hX.far (p := ⟨g, k, none⟩) (by simp; omega) v).cell 2
      obtain ⟨x1, hx1, -⟩ := hO.intAt (i := k) (by rw [upto_length]; exact hlt)
      obtain ⟨x2, hx2, -⟩ := hG.intAt (i := k) (by rw [upto_length]; exact hlt)
      have hf1 := hO.free k
      have hf2 := hG.free k
      have hx3 : ∀ v, (w2.setCell ⟨g, k, none⟩ v).cell? ⟨g + 1, k, none⟩ = some (.int .i64 x2) := fun v => by rw [World.cell?_setCell_other _ _ _ _ (by simp)]; exact hx2
      have hf3 : ∀ v, (w2.setCell ⟨g, k, none⟩ v).frozen? ⟨g + 1, k, none⟩ = false := fun v => (hG.far (p := ⟨g, k, none⟩) (by simp) v).free k
      go_upto_region 9 with (go_at_call 197; refine (fixed_Sat _ _).mono ?_; rintro e w' ⟨rfl, rfl⟩)
      refine wp_forget (fun Z => Blk Z g 2 (ints (upto (ob l) l.length (k + 1))) ∧ Blk Z (g + 1) 2 (ints (upto (og l) l.length (k + 1))) ∧ Blk Z gx 333 (it4 it1.base it1.outer it1.grow it1.shrink) ∧ Below g w Z) ⟨?_, ?_, ?_, ?_⟩ ?_
      · have := (hO.putInt k (ob l k)).far (p := ⟨g + 1, k, none⟩) (by simp) (.int .i64 it1.grow)
        rw [upto_set, HOB.out] at this
        exact this
      · have := (hG.far (p := ⟨g, k, none⟩) (by simp) (.int .i64 (max (sat it1.base) 0))).putInt k (og l k)
        rw [upto_set, HOG.out] at this
        exact this
      · exact (hX.far (p := ⟨g, k, none⟩) (by simp; omega) _).far (p := ⟨g + 1, k, none⟩) (by simp; omega) _
      · exact (hB2.setCell (by simp) _).setCell (by simp) _
      clear hO hG hX hB2 c0 c2 hx1 hx2 hx3 hf1 hf2 hf3
      rintro w3 ⟨hO, hG, hX, hB⟩
      have hSQ : (fun Z : World => Z.cell? ⟨g, k, none⟩ = some (.int .i64 (max (sat it1.base) 0)) ∧ Z.cell? ⟨gx, 1, none⟩ = some (.int .i64 it1.outer)) w3.drew := ⟨(hO.drew.int (by rw [upto_length]; exact hlt)).trans (by rw [upto_get' hlt (by omega), HOB.out]), hX.drew.cell 1⟩
      refine wp_region_noPanic ?_
      refine Ord.region_Q (S := fun Z : World => Z.cell? ⟨g, k, none⟩ = some (.int .i64 (max (sat it1.base) 0)) ∧ Z.cell? ⟨gx, 1, none⟩ = some (.int .i64 it1.outer)) 999 (.one 0 true (.one 1 true (.one 2 true (.one 3 true (.one 4 true (.one 5 true (.one 6 true (.one 7 true (.one 8 true (.one 9 true .nil)))))))))) (by kernel_rfl) (by kernel_rfl) (by kernel_rfl) (by decide) (fun _ _ _ _ _ h => h) (hSQ) (fun hS0 => ?_)
      simp only [Ord.layT, List.getElem?_cons_zero, List.getElem?_cons_succ]
      (refine Ord.takeQ (v := ?_) (Or.inl ⟨rfl, ?_⟩) ?_; rotate_left; (intro w hSw; (try dsimp only at hSw); go_simp; try (with_reducible rfl)); (try simp only [Act.put, List.setIfInBounds_toArray, List.set_cons_zero, List.set_cons_succ]))
      (refine Ord.takeQ (v := ?_) (Or.inl ⟨rfl, ?_⟩) ?_; rotate_left; (intro w hSw; (try dsimp only at hSw); go_simp; try (with_reducible rfl)); (try simp only [Act.put, List.setIfInBounds_toArray, List.set_cons_zero, List.set_cons_succ]))
      (refine Ord.takeQ (v := ?_) (Or.inl ⟨rfl, ?_⟩) ?_; rotate_left; (intro w hSw; (try dsimp only at hSw); go_simp; try (with_reducible rfl)); (try simp only [Act.put, List.setIfInBounds_toArray, List.set_cons_zero, List.set_cons_succ]))
      (refine Ord.takeQ (v := ?_) (Or.inl ⟨rfl, ?_⟩) ?_; rotate_left; (intro w hSw; (try dsimp only at hSw); go_simp; try (with_reducible rfl)); (try simp only [Act.put, List.setIfInBounds_toArray, List.set_cons_zero, List.set_cons_succ]))
      (refine Ord.takeQ (v := ?_) (Or.inl ⟨rfl, ?_⟩) ?_; rotate_left; (intro w hSw; (try dsimp only at hSw); go_simp; try (with_reducible rfl)); (try simp only [Act.put, List.setIfInBounds_toArray, List.set_cons_zero, List.set_cons_succ]))
      (refine Ord.takeC 129 #[.int .i64 (frees room l k), .int .i64 (max (sat it1.base) 0)] rfl (fun _ _ => by kernel_rfl) (fun w hSw => fixed_Sub _ _ _) ?_; (try simp only [Act.put, List.setIfInBounds_toArray, List.set_cons_zero, List.set_cons_succ]))
      (refine Ord.takeQ (v := ?_) (Or.inl ⟨rfl, ?_⟩) ?_; rotate_left; (intro w hSw; (try dsimp only at hSw); go_simp; try (with_reducible rfl)); (try simp only [Act.put, List.setIfInBounds_toArray, List.set_cons_zero, List.set_cons_succ]))
      (refine Ord.takeQ (v := ?_) (Or.inl ⟨rfl, ?_⟩) ?_; rotate_left; (intro w hSw; (try dsimp only at hSw); go_simp; try (with_reducible rfl)); (try simp only [Act.put, List.setIfInBounds_toArray, List.set_cons_zero, List.set_cons_succ]))
      (refine Ord.takeC 129 #[.int .i64 (sub (frees room l k) (max (sat it1.base) 0)), .int .i64 it1.outer] rfl (fun _ _ => by kernel_rfl) (fun w hSw => fixed_Sub _ _ _) ?_; (try simp only [Act.put, List.setIfInBounds_toArray, List.set_cons_zero, List.set_cons_succ]))
      (refine Ord.takeQ (v := ?_) (Or.inl ⟨rfl, ?_⟩) ?_; rotate_left; (intro w hSw; (try dsimp only at hSw); go_simp; try (with_reducible rfl)); (try simp only [Act.put, List.setIfInBounds_toArray, List.set_cons_zero, List.set_cons_succ]))
      refine Ord.doneQ (NoPanic.normal ?_)
      clear hSQ
      go_wp2_with fail
      go_roundw
      case rel => exact ⟨k + 1, by omega, by go_num, by rw [HFR.out], hO.drew, hG.drew, hB.drew⟩
      case measure => simp [intOf]; omega
    · obtain rfl : k = l.length := by omega
      have hgx := hG.lt
      have HFD : Hid (l.length = 0 ∨ -70368744177664 ≤ frees room l l.length ∧ frees room l l.length ≤ 70368744177664) := hid (by
        rcases Nat.eq_zero_or_pos l.length with h0 | h0
        · exact .inl h0
        · exact .inr (frees_bd room l h0))
      have HR0 : Hid (l.length = 0 → frees room l l.length = room) := hid (fun h => by rw [h]; rfl)
      obtain ⟨fr, hfr⟩ : ∃ fr, frees room l l.length = fr := ⟨_, rfl⟩
      have HS : Hid (T = if 0 < fr then zadd (outs l) (share fr (grws l)) else if fr < 0 then shr (l.length + 1) l (outs l) (List.replicate l.length false) (-fr) else outs l) := hid (by rw [← HT.out, ← hfr]; rfl)
      rw [hfr] at HFD HR0 ⊢
      clear hfr
      have hfr1 : -9223372036854775808 ≤ fr ∧ fr ≤ 9223372036854775807 := by
        rcases HFD.out with h | h
        · rw [HR0.out h]; exact hr
        · omega
      rcases Int.lt_trichotomy fr 0 with hc | hc | hc
      · have g1 : decide (0 < fr) = false := decide_eq_false (by omega)
        have g2 : decide (fr < 0) = true := decide_eq_true hc
        obtain ⟨nw, hnw⟩ : ∃ nw, IntKind.i64.wrap (-fr) = nw := ⟨_, rfl⟩
        have HNW : Hid (l.length = 0 ∨ nw = -fr ∧ -70368744177664 ≤ nw ∧ nw ≤ 70368744177664) := hid (by
          rcases HFD.out with h | h
          · exact .inl h
          · right
            rw [← hnw, IntWalk.i64_in _ (by omega)]
            omega)
        have hsk := flex_shrink g (outs l) l A c nw wr hl (outs_length l) hO (hA.below hB) (sz_outs l) (by rcases HNW.out with h | h; exact .inl h; exact .inr h.2)
        have HTT : Hid (shr (l.length + 1) l (outs l) (List.replicate l.length false) nw = T) := hid (by
          rw [HS.out, if_neg (by omega), if_pos hc]
          rcases HNW.out with h | h
          · have hnil : l = [] := List.length_eq_zero_iff.1 h
            subst hnil
            exact (shr_nil _ _ _ _).trans (shr_nil _ _ _ _).symm
          · rw [h.1])
        rw [HTT.out] at hsk
        clear HS HR0 HFD
        go_wp2_with fail
        refine hsk.mono ?_
        clear hsk
        rintro e w3 ⟨rfl, hb3, hO3⟩
        go_wp2_with fail
        go_ret
        obtain rfl := hg.out
        exact ⟨rfl, hB.trans hb3, hO3⟩
      · subst hc
        have HTT : Hid (outs l = T) := hid (by rw [HS.out, if_neg (by omega), if_neg (by omega)])
        clear HS HR0 HFD hfr1
        go_wp2_with fail
        go_ret
        obtain rfl := hg.out
        exact ⟨rfl, hB, by rw [← HTT.out]; exact hO⟩
      · have g1 : decide (0 < fr) = true := decide_eq_true hc
        have g2 : decide (fr < 0) = false := decide_eq_false (by omega)
        have hGI : Ints wr wr.heap.size (some ⟨g + 1, 0, none⟩) (grws l) := Ints.ofBlk hG hgx
        have hwl := grws_length l
        have hsh := fixed_Share fr (grws l) (some ⟨g + 1, 0, none⟩) l.length wr (by omega) hGI
        rw [hwl] at hsh
        clear hwl hGI
        have HSL : Hid ((outs l).length = (share fr (grws l)).length) := hid (by rw [outs_length, share_length, grws_length])
        have HTT : Hid (T = zadd (outs l) (share fr (grws l))) := hid (by rw [HS.out, if_pos hc])
        go_wp2_with fail
        refine hsh.mono ?_
        clear hsh
        rintro e w3 ⟨rfl, hb3, hP⟩
        replace hO := hO.below hb3 (by omega)
        replace hB := hB.trans (hb3.mono (by omega))
        obtain ⟨pts, hpts⟩ : ∃ pts, share fr (grws l) = pts := ⟨_, rfl⟩
        rw [hpts] at hP HSL HTT
        clear hpts hb3
        generalize wr.heap.size = gp at *
        have HZL : Hid ((zadd (outs l) pts).length = l.length) := hid (by rw [zadd_length HSL.out, outs_length])
        have HMX : Hid ((outs l).length = (zadd (outs l) pts).length) := hid (by rw [HZL.out, outs_length])
        have hO0 : Blk w3 g 2 (ints (mix (outs l) (zadd (outs l) pts) 0)) := by rw [mix_zero]; exact hO
        clear hO
        go_wp2_with fail
        go_loopw [54] (fun s54 wr => ∃ k : Nat, k ≤ l.length ∧ s54 = .int .i64 k ∧ Blk wr g 2 (ints (mix (outs l) (zadd (outs l) pts) k)) ∧ Blk wr gp 2 (ints pts) ∧ Below g w wr) (fun i _ => l.length - (intOf i).toNat)
        case atStart => exact ⟨0, Nat.zero_le _, rfl, hO0, hP, hB⟩
        case round =>
          clear hO0 hP hB
          obtain ⟨k, hk, rfl, hO, hP, hB⟩ := hrel
          by_cases hlt : k < l.length
          · obtain ⟨xk, hxk, HXK⟩ := hO.intAt (i := k) (by rw [mix_length HMX.out, outs_length]; exact hlt)
            obtain ⟨pk, hpk, HPK⟩ := hP.intAt (i := k) (by rw [← HSL.out, outs_length]; exact hlt)
            have hfo := hO.free k
            have HU : Hid ((mix (outs l) (zadd (outs l) pts) k).set k (add xk pk) = mix (outs l) (zadd (outs l) pts) (k + 1)) := hid (by
              rw [← mix_set HMX.out (by rw [outs_length]; exact hlt), zadd_get HSL.out (by rw [outs_length]; exact hlt), HPK.out]
              rw [mix_get HMX.out (Nat.le_refl k) (by rw [outs_length]; exact hlt)] at HXK
              rw [HXK.out])
            go_wp2_with (go_at_call 141; refine (fixed_Add _ _ _).mono ?_; rintro e w' ⟨rfl, rfl⟩)
            go_roundw
            case rel => exact ⟨k + 1, by omega, by go_num, by rw [← HU.out]; exact hO.putInt k _, hP.far (p := ⟨g, k, none⟩) (by simp; omega) _, hB.setCell (by simp) _⟩
            case measure => simp [intOf]; omega
          · obtain rfl : k = l.length := by omega
            have HFI : Hid (mix (outs l) (zadd (outs l) pts) l.length = T) := hid (by
              have := mix_all HMX.out
              rw [outs_length] at this
              rw [this, HTT.out])
            go_wp2_with fail
            go_ret
            obtain rfl := hg.out
            exact ⟨rfl, hB, by rw [← HFI.out]; exact hO⟩
end Go.Proofs.YtkkiefcapbddkaaGreatDoor
