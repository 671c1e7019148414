/-
  the runs, together.
-/
import Derived.Test.YtkkiefcapbddkaaGreatDoorLayK
import Derived.Test.YtkkiefcapbddkaaGreatDoorRunA
import Derived.Test.YtkkiefcapbddkaaGreatDoorRunB
import Derived.Test.YtkkiefcapbddkaaGreatDoorRunC
import Derived.Test.YtkkiefcapbddkaaGreatDoorRunD
import Derived.Test.YtkkiefcapbddkaaGreatDoorRunE
import Derived.Test.YtkkiefcapbddkaaGreatDoorRunF
import Derived.Test.YtkkiefcapbddkaaGreatDoorRunG
import Derived.Test.YtkkiefcapbddkaaGreatDoorRunH
import Derived.Test.YtkkiefcapbddkaaGreatDoorRunI
import Derived.Test.YtkkiefcapbddkaaGreatDoorRunJ
import Derived.Test.YtkkiefcapbddkaaGreatDoorRunK
import Derived.Test.YtkkiefcapbddkaaGreatDoorRunL
import Derived.Test.YtkkiefcapbddkaaGreatDoorRunM
import Derived.Test.YtkkiefcapbddkaaGreatDoorRunN
set_option linter.all false
namespace Go.Abs
open Go.RowKit Go.Proofs
set_option maxRecDepth 100000
theorem qTok_ok : ∀ n, n ≤ 20 → qTok n = true
  | 0, _ => q_tok_0
  | 1, _ => q_tok_1
  | 2, _ => q_tok_2
  | 3, _ => q_tok_3
  | 4, _ => q_tok_4
  | 5, _ => q_tok_5
  | 6, _ => q_tok_6
  | 7, _ => q_tok_7
  | 8, _ => q_tok_8
  | 9, _ => q_tok_9
  | 10, _ => q_tok_10
  | 11, _ => q_tok_11
  | 12, _ => q_tok_12
  | 13, _ => q_tok_13
  | 14, _ => q_tok_14
  | 15, _ => q_tok_15
  | 16, _ => q_tok_16
  | 17, _ => q_tok_17
  | 18, _ => q_tok_18
  | 19, _ => q_tok_19
  | 20, _ => q_tok_20
  | n + 21, h => by omega
theorem qTree_ok : ∀ n, n ≤ 20 → qTree n = true
  | 0, _ => q_tree_0
  | 1, _ => q_tree_1
  | 2, _ => q_tree_2
  | 3, _ => q_tree_3
  | 4, _ => q_tree_4
  | 5, _ => q_tree_5
  | 6, _ => q_tree_6
  | 7, _ => q_tree_7
  | 8, _ => q_tree_8
  | 9, _ => q_tree_9
  | 10, _ => q_tree_10
  | 11, _ => q_tree_11
  | 12, _ => q_tree_12
  | 13, _ => q_tree_13
  | 14, _ => q_tree_14
  | 15, _ => q_tree_15
  | 16, _ => q_tree_16
  | 17, _ => q_tree_17
  | 18, _ => q_tree_18
  | 19, _ => q_tree_19
  | 20, _ => q_tree_20
  | n + 21, h => by omega
theorem qOwnA_ok : ∀ n, n ≤ 20 → qOwnA n = true
  | 0, _ => q_own_0
  | 1, _ => q_own_1
  | 2, _ => q_own_2
  | 3, _ => q_own_3
  | 4, _ => q_own_4
  | 5, _ => q_own_5
  | 6, _ => q_own_6
  | 7, _ => q_own_7
  | 8, _ => q_own_8
  | 9, _ => q_own_9
  | 10, _ => q_own_10
  | 11, _ => q_own_11
  | 12, _ => q_own_12
  | 13, _ => q_own_13
  | 14, _ => q_own_14
  | 15, _ => q_own_15
  | 16, _ => q_own_16
  | 17, _ => q_own_17
  | 18, _ => q_own_18
  | 19, _ => q_own_19
  | 20, _ => q_own_20
  | n + 21, h => by omega
theorem qMeanA_ok : ∀ n, n ≤ 20 → qMeanA n = true
  | 0, _ => q_mean_0
  | 1, _ => q_mean_1
  | 2, _ => q_mean_2
  | 3, _ => q_mean_3
  | 4, _ => q_mean_4
  | 5, _ => q_mean_5
  | 6, _ => q_mean_6
  | 7, _ => q_mean_7
  | 8, _ => q_mean_8
  | 9, _ => q_mean_9
  | 10, _ => q_mean_10
  | 11, _ => q_mean_11
  | 12, _ => q_mean_12
  | 13, _ => q_mean_13
  | 14, _ => q_mean_14
  | 15, _ => q_mean_15
  | 16, _ => q_mean_16
  | 17, _ => q_mean_17
  | 18, _ => q_mean_18
  | 19, _ => q_mean_19
  | 20, _ => q_mean_20
  | n + 21, h => by omega
theorem qStyM_ok : ∀ n, n ≤ 20 → qStyM n = true
  | 0, _ => q_sty_0
  | 1, _ => q_sty_1
  | 2, _ => q_sty_2
  | 3, _ => q_sty_3
  | 4, _ => q_sty_4
  | 5, _ => q_sty_5
  | 6, _ => q_sty_6
  | 7, _ => q_sty_7
  | 8, _ => q_sty_8
  | 9, _ => q_sty_9
  | 10, _ => q_sty_10
  | 11, _ => q_sty_11
  | 12, _ => q_sty_12
  | 13, _ => q_sty_13
  | 14, _ => q_sty_14
  | 15, _ => q_sty_15
  | 16, _ => q_sty_16
  | 17, _ => q_sty_17
  | 18, _ => q_sty_18
  | 19, _ => q_sty_19
  | 20, _ => q_sty_20
  | n + 21, h => by omega
theorem qBox_ok : ∀ n, n ≤ 20 → qBox n = true
  | 0, _ => q_box_0
  | 1, _ => q_box_1
  | 2, _ => q_box_2
  | 3, _ => q_box_3
  | 4, _ => q_box_4
  | 5, _ => q_box_5
  | 6, _ => q_box_6
  | 7, _ => q_box_7
  | 8, _ => q_box_8
  | 9, _ => q_box_9
  | 10, _ => q_box_10
  | 11, _ => q_box_11
  | 12, _ => q_box_12
  | 13, _ => q_box_13
  | 14, _ => q_box_14
  | 15, _ => q_box_15
  | 16, _ => q_box_16
  | 17, _ => q_box_17
  | 18, _ => q_box_18
  | 19, _ => q_box_19
  | 20, _ => q_box_20
  | n + 21, h => by omega
theorem qLay_ok : ∀ n, n ≤ 20 → qLay n = true
  | 0, _ => q_lay_0
  | 1, _ => q_lay_1
  | 2, _ => q_lay_2
  | 3, _ => q_lay_3
  | 4, _ => q_lay_4
  | 5, _ => q_lay_5
  | 6, _ => q_lay_6
  | 7, _ => q_lay_7
  | 8, _ => q_lay_8
  | 9, _ => q_lay_9
  | 10, _ => q_lay_10
  | 11, _ => q_lay_11
  | 12, _ => q_lay_12
  | 13, _ => q_lay_13
  | 14, _ => q_lay_14
  | 15, _ => q_lay_15
  | 16, _ => q_lay_16
  | 17, _ => q_lay_17
  | 18, _ => q_lay_18
  | 19, _ => q_lay_19
  | 20, _ => q_lay_20
  | n + 21, h => by omega
theorem qLst_ok : ∀ n, n ≤ 20 → qLst n = true
  | 0, _ => q_lst_0
  | 1, _ => q_lst_1
  | 2, _ => q_lst_2
  | 3, _ => q_lst_3
  | 4, _ => q_lst_4
  | 5, _ => q_lst_5
  | 6, _ => q_lst_6
  | 7, _ => q_lst_7
  | 8, _ => q_lst_8
  | 9, _ => q_lst_9
  | 10, _ => q_lst_10
  | 11, _ => q_lst_11
  | 12, _ => q_lst_12
  | 13, _ => q_lst_13
  | 14, _ => q_lst_14
  | 15, _ => q_lst_15
  | 16, _ => q_lst_16
  | 17, _ => q_lst_17
  | 18, _ => q_lst_18
  | 19, _ => q_lst_19
  | 20, _ => q_lst_20
  | n + 21, h => by omega
theorem qAll_ok : ∀ n, n ≤ 20 → qAll n = true
  | 0, _ => q_all_0
  | 1, _ => q_all_1
  | 2, _ => q_all_2
  | 3, _ => q_all_3
  | 4, _ => q_all_4
  | 5, _ => q_all_5
  | 6, _ => q_all_6
  | 7, _ => q_all_7
  | 8, _ => q_all_8
  | 9, _ => q_all_9
  | 10, _ => q_all_10
  | 11, _ => q_all_11
  | 12, _ => q_all_12
  | 13, _ => q_all_13
  | 14, _ => q_all_14
  | 15, _ => q_all_15
  | 16, _ => q_all_16
  | 17, _ => q_all_17
  | 18, _ => q_all_18
  | 19, _ => q_all_19
  | 20, _ => q_all_20
  | n + 21, h => by omega
theorem runsO : RunsO where
  tok := qTok_ok
  tree := qTree_ok
  own := qOwnA_ok
  mean := qMeanA_ok
  sty := qStyM_ok
  box := qBox_ok
  lay := qLay_ok
  lst := qLst_ok
  all := qAll_ok
  cssT := q_cssT
  cssR := q_cssR
end Go.Abs
