/-
  ARCTANGENTS: the walk. Conditions: none.
-/
import Derived.Test.YtkggdhnliiagjaaG3
import Derived.Test.YtkggdhnliiagjaaD9
set_option linter.all false
namespace Go.Proofs.Ytkggdhnliiagjaa
open Go.SX Go.RowKit
noncomputable def lawT_tpl : Tpl := ⟨[.one (.wh 0), .one (.wh 1)], [(0, .row true 3 1 2 [.int .i64]), (1, .row true 3 1 3 [.int .i64])], 4⟩
noncomputable def lawT_0 (L : List (List Int)) (M : List (List Int)) : Bool :=
  bif !light_0 L || !light_0 M then true
  else
    bif
        !(atang_0 3 (arc_0 0 L) (arc_1 0 L) (arc_2 0 L) (arc_3 0 L) (arc_4 0 L) (arc_5 0 L) (range_0 17 19 0 L) (arc_6 0 L) (arc_7 0 L) (arc_8 0 L) (arc_9 0 L) false ==
                    rtang_0 3 (arc_0 0 L) (arc_1 0 L) (arc_2 0 L) (arc_3 0 L) (arc_4 0 L) (arc_5 0 L) (range_0 17 19 0 L) (arc_6 0 L) (arc_7 0 L) (arc_8 0 L) (arc_9 0 L) false &&
                  atang_1 3 (arc_0 0 L) (arc_1 0 L) (arc_2 0 L) (arc_3 0 L) (arc_4 0 L) (arc_5 0 L) (range_0 17 19 0 L) (arc_6 0 L) (arc_7 0 L) (arc_8 0 L) (arc_9 0 L) false ==
                    rtang_1 3 (arc_0 0 L) (arc_1 0 L) (arc_2 0 L) (arc_3 0 L) (arc_4 0 L) (arc_5 0 L) (range_0 17 19 0 L) (arc_6 0 L) (arc_7 0 L) (arc_8 0 L) (arc_9 0 L) false) ||
              !(atang_0 3 (arc_0 0 L) (arc_1 0 L) (arc_2 0 L) (arc_3 0 L) (arc_4 0 L) (arc_5 0 L) (range_0 17 19 0 L) (arc_6 0 L) (arc_7 0 L) (arc_8 0 L) (arc_9 0 L) true ==
                    rtang_0 3 (arc_0 0 L) (arc_1 0 L) (arc_2 0 L) (arc_3 0 L) (arc_4 0 L) (arc_5 0 L) (range_0 17 19 0 L) (arc_6 0 L) (arc_7 0 L) (arc_8 0 L) (arc_9 0 L) true &&
                  atang_1 3 (arc_0 0 L) (arc_1 0 L) (arc_2 0 L) (arc_3 0 L) (arc_4 0 L) (arc_5 0 L) (range_0 17 19 0 L) (arc_6 0 L) (arc_7 0 L) (arc_8 0 L) (arc_9 0 L) true ==
                    rtang_1 3 (arc_0 0 L) (arc_1 0 L) (arc_2 0 L) (arc_3 0 L) (arc_4 0 L) (arc_5 0 L) (range_0 17 19 0 L) (arc_6 0 L) (arc_7 0 L) (arc_8 0 L) (arc_9 0 L) true) ||
            !(aext_0 3 (arc_0 0 L) (arc_1 0 L) (arc_2 0 L) (arc_3 0 L) (arc_4 0 L) (arc_5 0 L) (range_0 17 19 0 L) (arc_6 0 L) (arc_7 0 L) (arc_8 0 L) (arc_9 0 L) (arc_10 0 L) ==
                  rext_0 3 (arc_0 0 L) (arc_1 0 L) (arc_2 0 L) (arc_3 0 L) (arc_4 0 L) (arc_5 0 L) (range_0 17 19 0 L) (arc_6 0 L) (arc_7 0 L) (arc_8 0 L) (arc_9 0 L) (arc_10 0 L) &&
                (aext_1 3 (arc_0 0 L) (arc_1 0 L) (arc_2 0 L) (arc_3 0 L) (arc_4 0 L) (arc_5 0 L) (range_0 17 19 0 L) (arc_6 0 L) (arc_7 0 L) (arc_8 0 L) (arc_9 0 L) (arc_10 0 L) ==
                    rext_1 3 (arc_0 0 L) (arc_1 0 L) (arc_2 0 L) (arc_3 0 L) (arc_4 0 L) (arc_5 0 L) (range_0 17 19 0 L) (arc_6 0 L) (arc_7 0 L) (arc_8 0 L) (arc_9 0 L) (arc_10 0 L) &&
                  aext_2 3 (arc_0 0 L) (arc_1 0 L) (arc_2 0 L) (arc_3 0 L) (arc_4 0 L) (arc_5 0 L) (range_0 17 19 0 L) (arc_6 0 L) (arc_7 0 L) (arc_8 0 L) (arc_9 0 L) (arc_10 0 L) ==
                    rext_2 3 (arc_0 0 L) (arc_1 0 L) (arc_2 0 L) (arc_3 0 L) (arc_4 0 L) (arc_5 0 L) (range_0 17 19 0 L) (arc_6 0 L) (arc_7 0 L) (arc_8 0 L) (arc_9 0 L) (arc_10 0 L))) ||
          !(aext_3 3 (arc_0 0 L) (arc_1 0 L) (arc_2 0 L) (arc_3 0 L) (arc_4 0 L) (arc_5 0 L) (range_0 17 19 0 L) (arc_6 0 L) (arc_7 0 L) (arc_8 0 L) (arc_9 0 L) (arc_10 0 L) ==
                rext_3 3 (arc_0 0 L) (arc_1 0 L) (arc_2 0 L) (arc_3 0 L) (arc_4 0 L) (arc_5 0 L) (range_0 17 19 0 L) (arc_6 0 L) (arc_7 0 L) (arc_8 0 L) (arc_9 0 L) (arc_10 0 L) &&
              (aext_4 3 (arc_0 0 L) (arc_1 0 L) (arc_2 0 L) (arc_3 0 L) (arc_4 0 L) (arc_5 0 L) (range_0 17 19 0 L) (arc_6 0 L) (arc_7 0 L) (arc_8 0 L) (arc_9 0 L) (arc_10 0 L) ==
                  rext_4 3 (arc_0 0 L) (arc_1 0 L) (arc_2 0 L) (arc_3 0 L) (arc_4 0 L) (arc_5 0 L) (range_0 17 19 0 L) (arc_6 0 L) (arc_7 0 L) (arc_8 0 L) (arc_9 0 L) (arc_10 0 L) &&
                aext_5 3 (arc_0 0 L) (arc_1 0 L) (arc_2 0 L) (arc_3 0 L) (arc_4 0 L) (arc_5 0 L) (range_0 17 19 0 L) (arc_6 0 L) (arc_7 0 L) (arc_8 0 L) (arc_9 0 L) (arc_10 0 L) ==
                  rext_5 3 (arc_0 0 L) (arc_1 0 L) (arc_2 0 L) (arc_3 0 L) (arc_4 0 L) (arc_5 0 L) (range_0 17 19 0 L) (arc_6 0 L) (arc_7 0 L) (arc_8 0 L) (arc_9 0 L) (arc_10 0 L))) then
      false
    else
      bif decide (item_0 (next_1 (next_1 (next_1 0 M) M) M) M > 6) then true
      else
        bif
            !(atang_0 (item_0 (next_1 (next_1 (next_1 0 M) M) M) M) (item_2 (ptm_0 500 0 M) (next_1 (next_1 (next_1 0 M) M) M) M) (item_2 (ptm_1 500 0 M) (next_1 (next_1 (next_1 0 M) M) M) M)
                          (item_2 (vec_2 500 0 M) (next_1 (next_1 (next_1 0 M) M) M) M) (item_5 (ptm_0 500 0 M) (next_1 (next_1 (next_1 0 M) M) M) M)
                          (item_6 (ptm_1 500 0 M) (next_1 (next_1 (next_1 0 M) M) M) M) (item_7 (vec_2 500 0 M) (next_1 (next_1 (next_1 0 M) M) M) M) (item_8 (next_1 (next_1 (next_1 0 M) M) M) M)
                          (item_9 (ptm_0 500 0 M) (next_1 (next_1 (next_1 0 M) M) M) M) (item_10 (ptm_1 500 0 M) (next_1 (next_1 (next_1 0 M) M) M) M)
                          (item_11 (vec_2 500 0 M) (next_1 (next_1 (next_1 0 M) M) M) M) (item_12 (next_1 (next_1 (next_1 0 M) M) M) M) false ==
                        rtang_0 (item_0 (next_1 (next_1 (next_1 0 M) M) M) M) (item_2 (ptm_0 500 0 M) (next_1 (next_1 (next_1 0 M) M) M) M) (item_2 (ptm_1 500 0 M) (next_1 (next_1 (next_1 0 M) M) M) M)
                          (item_2 (vec_2 500 0 M) (next_1 (next_1 (next_1 0 M) M) M) M) (item_5 (ptm_0 500 0 M) (next_1 (next_1 (next_1 0 M) M) M) M)
                          (item_6 (ptm_1 500 0 M) (next_1 (next_1 (next_1 0 M) M) M) M) (item_7 (vec_2 500 0 M) (next_1 (next_1 (next_1 0 M) M) M) M) (item_8 (next_1 (next_1 (next_1 0 M) M) M) M)
                          (item_9 (ptm_0 500 0 M) (next_1 (next_1 (next_1 0 M) M) M) M) (item_10 (ptm_1 500 0 M) (next_1 (next_1 (next_1 0 M) M) M) M)
                          (item_11 (vec_2 500 0 M) (next_1 (next_1 (next_1 0 M) M) M) M) (item_12 (next_1 (next_1 (next_1 0 M) M) M) M) false &&
                      atang_1 (item_0 (next_1 (next_1 (next_1 0 M) M) M) M) (item_2 (ptm_0 500 0 M) (next_1 (next_1 (next_1 0 M) M) M) M) (item_2 (ptm_1 500 0 M) (next_1 (next_1 (next_1 0 M) M) M) M)
                          (item_2 (vec_2 500 0 M) (next_1 (next_1 (next_1 0 M) M) M) M) (item_5 (ptm_0 500 0 M) (next_1 (next_1 (next_1 0 M) M) M) M)
                          (item_6 (ptm_1 500 0 M) (next_1 (next_1 (next_1 0 M) M) M) M) (item_7 (vec_2 500 0 M) (next_1 (next_1 (next_1 0 M) M) M) M) (item_8 (next_1 (next_1 (next_1 0 M) M) M) M)
                          (item_9 (ptm_0 500 0 M) (next_1 (next_1 (next_1 0 M) M) M) M) (item_10 (ptm_1 500 0 M) (next_1 (next_1 (next_1 0 M) M) M) M)
                          (item_11 (vec_2 500 0 M) (next_1 (next_1 (next_1 0 M) M) M) M) (item_12 (next_1 (next_1 (next_1 0 M) M) M) M) false ==
                        rtang_1 (item_0 (next_1 (next_1 (next_1 0 M) M) M) M) (item_2 (ptm_0 500 0 M) (next_1 (next_1 (next_1 0 M) M) M) M) (item_2 (ptm_1 500 0 M) (next_1 (next_1 (next_1 0 M) M) M) M)
                          (item_2 (vec_2 500 0 M) (next_1 (next_1 (next_1 0 M) M) M) M) (item_5 (ptm_0 500 0 M) (next_1 (next_1 (next_1 0 M) M) M) M)
                          (item_6 (ptm_1 500 0 M) (next_1 (next_1 (next_1 0 M) M) M) M) (item_7 (vec_2 500 0 M) (next_1 (next_1 (next_1 0 M) M) M) M) (item_8 (next_1 (next_1 (next_1 0 M) M) M) M)
                          (item_9 (ptm_0 500 0 M) (next_1 (next_1 (next_1 0 M) M) M) M) (item_10 (ptm_1 500 0 M) (next_1 (next_1 (next_1 0 M) M) M) M)
                          (item_11 (vec_2 500 0 M) (next_1 (next_1 (next_1 0 M) M) M) M) (item_12 (next_1 (next_1 (next_1 0 M) M) M) M) false) ||
                  !(atang_0 (item_0 (next_1 (next_1 (next_1 0 M) M) M) M) (item_2 (ptm_0 500 0 M) (next_1 (next_1 (next_1 0 M) M) M) M) (item_2 (ptm_1 500 0 M) (next_1 (next_1 (next_1 0 M) M) M) M)
                          (item_2 (vec_2 500 0 M) (next_1 (next_1 (next_1 0 M) M) M) M) (item_5 (ptm_0 500 0 M) (next_1 (next_1 (next_1 0 M) M) M) M)
                          (item_6 (ptm_1 500 0 M) (next_1 (next_1 (next_1 0 M) M) M) M) (item_7 (vec_2 500 0 M) (next_1 (next_1 (next_1 0 M) M) M) M) (item_8 (next_1 (next_1 (next_1 0 M) M) M) M)
                          (item_9 (ptm_0 500 0 M) (next_1 (next_1 (next_1 0 M) M) M) M) (item_10 (ptm_1 500 0 M) (next_1 (next_1 (next_1 0 M) M) M) M)
                          (item_11 (vec_2 500 0 M) (next_1 (next_1 (next_1 0 M) M) M) M) (item_12 (next_1 (next_1 (next_1 0 M) M) M) M) true ==
                        rtang_0 (item_0 (next_1 (next_1 (next_1 0 M) M) M) M) (item_2 (ptm_0 500 0 M) (next_1 (next_1 (next_1 0 M) M) M) M) (item_2 (ptm_1 500 0 M) (next_1 (next_1 (next_1 0 M) M) M) M)
                          (item_2 (vec_2 500 0 M) (next_1 (next_1 (next_1 0 M) M) M) M) (item_5 (ptm_0 500 0 M) (next_1 (next_1 (next_1 0 M) M) M) M)
                          (item_6 (ptm_1 500 0 M) (next_1 (next_1 (next_1 0 M) M) M) M) (item_7 (vec_2 500 0 M) (next_1 (next_1 (next_1 0 M) M) M) M) (item_8 (next_1 (next_1 (next_1 0 M) M) M) M)
                          (item_9 (ptm_0 500 0 M) (next_1 (next_1 (next_1 0 M) M) M) M) (item_10 (ptm_1 500 0 M) (next_1 (next_1 (next_1 0 M) M) M) M)
                          (item_11 (vec_2 500 0 M) (next_1 (next_1 (next_1 0 M) M) M) M) (item_12 (next_1 (next_1 (next_1 0 M) M) M) M) true &&
                      atang_1 (item_0 (next_1 (next_1 (next_1 0 M) M) M) M) (item_2 (ptm_0 500 0 M) (next_1 (next_1 (next_1 0 M) M) M) M) (item_2 (ptm_1 500 0 M) (next_1 (next_1 (next_1 0 M) M) M) M)
                          (item_2 (vec_2 500 0 M) (next_1 (next_1 (next_1 0 M) M) M) M) (item_5 (ptm_0 500 0 M) (next_1 (next_1 (next_1 0 M) M) M) M)
                          (item_6 (ptm_1 500 0 M) (next_1 (next_1 (next_1 0 M) M) M) M) (item_7 (vec_2 500 0 M) (next_1 (next_1 (next_1 0 M) M) M) M) (item_8 (next_1 (next_1 (next_1 0 M) M) M) M)
                          (item_9 (ptm_0 500 0 M) (next_1 (next_1 (next_1 0 M) M) M) M) (item_10 (ptm_1 500 0 M) (next_1 (next_1 (next_1 0 M) M) M) M)
                          (item_11 (vec_2 500 0 M) (next_1 (next_1 (next_1 0 M) M) M) M) (item_12 (next_1 (next_1 (next_1 0 M) M) M) M) true ==
                        rtang_1 (item_0 (next_1 (next_1 (next_1 0 M) M) M) M) (item_2 (ptm_0 500 0 M) (next_1 (next_1 (next_1 0 M) M) M) M) (item_2 (ptm_1 500 0 M) (next_1 (next_1 (next_1 0 M) M) M) M)
                          (item_2 (vec_2 500 0 M) (next_1 (next_1 (next_1 0 M) M) M) M) (item_5 (ptm_0 500 0 M) (next_1 (next_1 (next_1 0 M) M) M) M)
                          (item_6 (ptm_1 500 0 M) (next_1 (next_1 (next_1 0 M) M) M) M) (item_7 (vec_2 500 0 M) (next_1 (next_1 (next_1 0 M) M) M) M) (item_8 (next_1 (next_1 (next_1 0 M) M) M) M)
                          (item_9 (ptm_0 500 0 M) (next_1 (next_1 (next_1 0 M) M) M) M) (item_10 (ptm_1 500 0 M) (next_1 (next_1 (next_1 0 M) M) M) M)
                          (item_11 (vec_2 500 0 M) (next_1 (next_1 (next_1 0 M) M) M) M) (item_12 (next_1 (next_1 (next_1 0 M) M) M) M) true) ||
                !(aext_0 (item_0 (next_1 (next_1 (next_1 0 M) M) M) M) (item_2 (ptm_0 500 0 M) (next_1 (next_1 (next_1 0 M) M) M) M) (item_2 (ptm_1 500 0 M) (next_1 (next_1 (next_1 0 M) M) M) M)
                        (item_2 (vec_2 500 0 M) (next_1 (next_1 (next_1 0 M) M) M) M) (item_5 (ptm_0 500 0 M) (next_1 (next_1 (next_1 0 M) M) M) M)
                        (item_6 (ptm_1 500 0 M) (next_1 (next_1 (next_1 0 M) M) M) M) (item_7 (vec_2 500 0 M) (next_1 (next_1 (next_1 0 M) M) M) M) (item_8 (next_1 (next_1 (next_1 0 M) M) M) M)
                        (item_9 (ptm_0 500 0 M) (next_1 (next_1 (next_1 0 M) M) M) M) (item_10 (ptm_1 500 0 M) (next_1 (next_1 (next_1 0 M) M) M) M)
                        (item_11 (vec_2 500 0 M) (next_1 (next_1 (next_1 0 M) M) M) M) (item_12 (next_1 (next_1 (next_1 0 M) M) M) M) (item_13 (next_1 (next_1 (next_1 0 M) M) M) M) ==
                      rext_0 (item_0 (next_1 (next_1 (next_1 0 M) M) M) M) (item_2 (ptm_0 500 0 M) (next_1 (next_1 (next_1 0 M) M) M) M) (item_2 (ptm_1 500 0 M) (next_1 (next_1 (next_1 0 M) M) M) M)
                        (item_2 (vec_2 500 0 M) (next_1 (next_1 (next_1 0 M) M) M) M) (item_5 (ptm_0 500 0 M) (next_1 (next_1 (next_1 0 M) M) M) M)
                        (item_6 (ptm_1 500 0 M) (next_1 (next_1 (next_1 0 M) M) M) M) (item_7 (vec_2 500 0 M) (next_1 (next_1 (next_1 0 M) M) M) M) (item_8 (next_1 (next_1 (next_1 0 M) M) M) M)
                        (item_9 (ptm_0 500 0 M) (next_1 (next_1 (next_1 0 M) M) M) M) (item_10 (ptm_1 500 0 M) (next_1 (next_1 (next_1 0 M) M) M) M)
                        (item_11 (vec_2 500 0 M) (next_1 (next_1 (next_1 0 M) M) M) M) (item_12 (next_1 (next_1 (next_1 0 M) M) M) M) (item_13 (next_1 (next_1 (next_1 0 M) M) M) M) &&
                    (aext_1 (item_0 (next_1 (next_1 (next_1 0 M) M) M) M) (item_2 (ptm_0 500 0 M) (next_1 (next_1 (next_1 0 M) M) M) M) (item_2 (ptm_1 500 0 M) (next_1 (next_1 (next_1 0 M) M) M) M)
                          (item_2 (vec_2 500 0 M) (next_1 (next_1 (next_1 0 M) M) M) M) (item_5 (ptm_0 500 0 M) (next_1 (next_1 (next_1 0 M) M) M) M)
                          (item_6 (ptm_1 500 0 M) (next_1 (next_1 (next_1 0 M) M) M) M) (item_7 (vec_2 500 0 M) (next_1 (next_1 (next_1 0 M) M) M) M) (item_8 (next_1 (next_1 (next_1 0 M) M) M) M)
                          (item_9 (ptm_0 500 0 M) (next_1 (next_1 (next_1 0 M) M) M) M) (item_10 (ptm_1 500 0 M) (next_1 (next_1 (next_1 0 M) M) M) M)
                          (item_11 (vec_2 500 0 M) (next_1 (next_1 (next_1 0 M) M) M) M) (item_12 (next_1 (next_1 (next_1 0 M) M) M) M) (item_13 (next_1 (next_1 (next_1 0 M) M) M) M) ==
                        rext_1 (item_0 (next_1 (next_1 (next_1 0 M) M) M) M) (item_2 (ptm_0 500 0 M) (next_1 (next_1 (next_1 0 M) M) M) M) (item_2 (ptm_1 500 0 M) (next_1 (next_1 (next_1 0 M) M) M) M)
                          (item_2 (vec_2 500 0 M) (next_1 (next_1 (next_1 0 M) M) M) M) (item_5 (ptm_0 500 0 M) (next_1 (next_1 (next_1 0 M) M) M) M)
                          (item_6 (ptm_1 500 0 M) (next_1 (next_1 (next_1 0 M) M) M) M) (item_7 (vec_2 500 0 M) (next_1 (next_1 (next_1 0 M) M) M) M) (item_8 (next_1 (next_1 (next_1 0 M) M) M) M)
                          (item_9 (ptm_0 500 0 M) (next_1 (next_1 (next_1 0 M) M) M) M) (item_10 (ptm_1 500 0 M) (next_1 (next_1 (next_1 0 M) M) M) M)
                          (item_11 (vec_2 500 0 M) (next_1 (next_1 (next_1 0 M) M) M) M) (item_12 (next_1 (next_1 (next_1 0 M) M) M) M) (item_13 (next_1 (next_1 (next_1 0 M) M) M) M) &&
                      aext_2 (item_0 (next_1 (next_1 (next_1 0 M) M) M) M) (item_2 (ptm_0 500 0 M) (next_1 (next_1 (next_1 0 M) M) M) M) (item_2 (ptm_1 500 0 M) (next_1 (next_1 (next_1 0 M) M) M) M)
                          (item_2 (vec_2 500 0 M) (next_1 (next_1 (next_1 0 M) M) M) M) (item_5 (ptm_0 500 0 M) (next_1 (next_1 (next_1 0 M) M) M) M)
                          (item_6 (ptm_1 500 0 M) (next_1 (next_1 (next_1 0 M) M) M) M) (item_7 (vec_2 500 0 M) (next_1 (next_1 (next_1 0 M) M) M) M) (item_8 (next_1 (next_1 (next_1 0 M) M) M) M)
                          (item_9 (ptm_0 500 0 M) (next_1 (next_1 (next_1 0 M) M) M) M) (item_10 (ptm_1 500 0 M) (next_1 (next_1 (next_1 0 M) M) M) M)
                          (item_11 (vec_2 500 0 M) (next_1 (next_1 (next_1 0 M) M) M) M) (item_12 (next_1 (next_1 (next_1 0 M) M) M) M) (item_13 (next_1 (next_1 (next_1 0 M) M) M) M) ==
                        rext_2 (item_0 (next_1 (next_1 (next_1 0 M) M) M) M) (item_2 (ptm_0 500 0 M) (next_1 (next_1 (next_1 0 M) M) M) M) (item_2 (ptm_1 500 0 M) (next_1 (next_1 (next_1 0 M) M) M) M)
                          (item_2 (vec_2 500 0 M) (next_1 (next_1 (next_1 0 M) M) M) M) (item_5 (ptm_0 500 0 M) (next_1 (next_1 (next_1 0 M) M) M) M)
                          (item_6 (ptm_1 500 0 M) (next_1 (next_1 (next_1 0 M) M) M) M) (item_7 (vec_2 500 0 M) (next_1 (next_1 (next_1 0 M) M) M) M) (item_8 (next_1 (next_1 (next_1 0 M) M) M) M)
                          (item_9 (ptm_0 500 0 M) (next_1 (next_1 (next_1 0 M) M) M) M) (item_10 (ptm_1 500 0 M) (next_1 (next_1 (next_1 0 M) M) M) M)
                          (item_11 (vec_2 500 0 M) (next_1 (next_1 (next_1 0 M) M) M) M) (item_12 (next_1 (next_1 (next_1 0 M) M) M) M) (item_13 (next_1 (next_1 (next_1 0 M) M) M) M))) ||
              !(aext_3 (item_0 (next_1 (next_1 (next_1 0 M) M) M) M) (item_2 (ptm_0 500 0 M) (next_1 (next_1 (next_1 0 M) M) M) M) (item_2 (ptm_1 500 0 M) (next_1 (next_1 (next_1 0 M) M) M) M)
                      (item_2 (vec_2 500 0 M) (next_1 (next_1 (next_1 0 M) M) M) M) (item_5 (ptm_0 500 0 M) (next_1 (next_1 (next_1 0 M) M) M) M)
                      (item_6 (ptm_1 500 0 M) (next_1 (next_1 (next_1 0 M) M) M) M) (item_7 (vec_2 500 0 M) (next_1 (next_1 (next_1 0 M) M) M) M) (item_8 (next_1 (next_1 (next_1 0 M) M) M) M)
                      (item_9 (ptm_0 500 0 M) (next_1 (next_1 (next_1 0 M) M) M) M) (item_10 (ptm_1 500 0 M) (next_1 (next_1 (next_1 0 M) M) M) M)
                      (item_11 (vec_2 500 0 M) (next_1 (next_1 (next_1 0 M) M) M) M) (item_12 (next_1 (next_1 (next_1 0 M) M) M) M) (item_13 (next_1 (next_1 (next_1 0 M) M) M) M) ==
                    rext_3 (item_0 (next_1 (next_1 (next_1 0 M) M) M) M) (item_2 (ptm_0 500 0 M) (next_1 (next_1 (next_1 0 M) M) M) M) (item_2 (ptm_1 500 0 M) (next_1 (next_1 (next_1 0 M) M) M) M)
                      (item_2 (vec_2 500 0 M) (next_1 (next_1 (next_1 0 M) M) M) M) (item_5 (ptm_0 500 0 M) (next_1 (next_1 (next_1 0 M) M) M) M)
                      (item_6 (ptm_1 500 0 M) (next_1 (next_1 (next_1 0 M) M) M) M) (item_7 (vec_2 500 0 M) (next_1 (next_1 (next_1 0 M) M) M) M) (item_8 (next_1 (next_1 (next_1 0 M) M) M) M)
                      (item_9 (ptm_0 500 0 M) (next_1 (next_1 (next_1 0 M) M) M) M) (item_10 (ptm_1 500 0 M) (next_1 (next_1 (next_1 0 M) M) M) M)
                      (item_11 (vec_2 500 0 M) (next_1 (next_1 (next_1 0 M) M) M) M) (item_12 (next_1 (next_1 (next_1 0 M) M) M) M) (item_13 (next_1 (next_1 (next_1 0 M) M) M) M) &&
                  (aext_4 (item_0 (next_1 (next_1 (next_1 0 M) M) M) M) (item_2 (ptm_0 500 0 M) (next_1 (next_1 (next_1 0 M) M) M) M) (item_2 (ptm_1 500 0 M) (next_1 (next_1 (next_1 0 M) M) M) M)
                        (item_2 (vec_2 500 0 M) (next_1 (next_1 (next_1 0 M) M) M) M) (item_5 (ptm_0 500 0 M) (next_1 (next_1 (next_1 0 M) M) M) M)
                        (item_6 (ptm_1 500 0 M) (next_1 (next_1 (next_1 0 M) M) M) M) (item_7 (vec_2 500 0 M) (next_1 (next_1 (next_1 0 M) M) M) M) (item_8 (next_1 (next_1 (next_1 0 M) M) M) M)
                        (item_9 (ptm_0 500 0 M) (next_1 (next_1 (next_1 0 M) M) M) M) (item_10 (ptm_1 500 0 M) (next_1 (next_1 (next_1 0 M) M) M) M)
                        (item_11 (vec_2 500 0 M) (next_1 (next_1 (next_1 0 M) M) M) M) (item_12 (next_1 (next_1 (next_1 0 M) M) M) M) (item_13 (next_1 (next_1 (next_1 0 M) M) M) M) ==
                      rext_4 (item_0 (next_1 (next_1 (next_1 0 M) M) M) M) (item_2 (ptm_0 500 0 M) (next_1 (next_1 (next_1 0 M) M) M) M) (item_2 (ptm_1 500 0 M) (next_1 (next_1 (next_1 0 M) M) M) M)
                        (item_2 (vec_2 500 0 M) (next_1 (next_1 (next_1 0 M) M) M) M) (item_5 (ptm_0 500 0 M) (next_1 (next_1 (next_1 0 M) M) M) M)
                        (item_6 (ptm_1 500 0 M) (next_1 (next_1 (next_1 0 M) M) M) M) (item_7 (vec_2 500 0 M) (next_1 (next_1 (next_1 0 M) M) M) M) (item_8 (next_1 (next_1 (next_1 0 M) M) M) M)
                        (item_9 (ptm_0 500 0 M) (next_1 (next_1 (next_1 0 M) M) M) M) (item_10 (ptm_1 500 0 M) (next_1 (next_1 (next_1 0 M) M) M) M)
                        (item_11 (vec_2 500 0 M) (next_1 (next_1 (next_1 0 M) M) M) M) (item_12 (next_1 (next_1 (next_1 0 M) M) M) M) (item_13 (next_1 (next_1 (next_1 0 M) M) M) M) &&
                    aext_5 (item_0 (next_1 (next_1 (next_1 0 M) M) M) M) (item_2 (ptm_0 500 0 M) (next_1 (next_1 (next_1 0 M) M) M) M) (item_2 (ptm_1 500 0 M) (next_1 (next_1 (next_1 0 M) M) M) M)
                        (item_2 (vec_2 500 0 M) (next_1 (next_1 (next_1 0 M) M) M) M) (item_5 (ptm_0 500 0 M) (next_1 (next_1 (next_1 0 M) M) M) M)
                        (item_6 (ptm_1 500 0 M) (next_1 (next_1 (next_1 0 M) M) M) M) (item_7 (vec_2 500 0 M) (next_1 (next_1 (next_1 0 M) M) M) M) (item_8 (next_1 (next_1 (next_1 0 M) M) M) M)
                        (item_9 (ptm_0 500 0 M) (next_1 (next_1 (next_1 0 M) M) M) M) (item_10 (ptm_1 500 0 M) (next_1 (next_1 (next_1 0 M) M) M) M)
                        (item_11 (vec_2 500 0 M) (next_1 (next_1 (next_1 0 M) M) M) M) (item_12 (next_1 (next_1 (next_1 0 M) M) M) M) (item_13 (next_1 (next_1 (next_1 0 M) M) M) M) ==
                      rext_5 (item_0 (next_1 (next_1 (next_1 0 M) M) M) M) (item_2 (ptm_0 500 0 M) (next_1 (next_1 (next_1 0 M) M) M) M) (item_2 (ptm_1 500 0 M) (next_1 (next_1 (next_1 0 M) M) M) M)
                        (item_2 (vec_2 500 0 M) (next_1 (next_1 (next_1 0 M) M) M) M) (item_5 (ptm_0 500 0 M) (next_1 (next_1 (next_1 0 M) M) M) M)
                        (item_6 (ptm_1 500 0 M) (next_1 (next_1 (next_1 0 M) M) M) M) (item_7 (vec_2 500 0 M) (next_1 (next_1 (next_1 0 M) M) M) M) (item_8 (next_1 (next_1 (next_1 0 M) M) M) M)
                        (item_9 (ptm_0 500 0 M) (next_1 (next_1 (next_1 0 M) M) M) M) (item_10 (ptm_1 500 0 M) (next_1 (next_1 (next_1 0 M) M) M) M)
                        (item_11 (vec_2 500 0 M) (next_1 (next_1 (next_1 0 M) M) M) M) (item_12 (next_1 (next_1 (next_1 0 M) M) M) M) (item_13 (next_1 (next_1 (next_1 0 M) M) M) M))) then
          false
        else true
noncomputable def lawT_needs (L : List (List Int)) (M : List (List Int)) : List Prop :=
  [(!light_0 L || !light_0 M) = false →
      Int.ofNat 0 ≤ 0 ∧ L.length ≤ 1000000 ∧ Int.ofNat 0 ≤ 0 ∧ M.length ≤ 1000000 ∧ (Int.ofNat 0 < 500 ∧ Int.ofNat 500 ≤ 1000000) ∧ 0 ≤ next_1 (next_1 (next_1 0 M) M) M ∧ M.length ≤ 1000000]
theorem lawT_0_eq (L M : List (List Int)) : (lawT_0 L M) = true := by
  unfold lawT_0
  cases !light_0 L || !light_0 M
  · rw [cond_false]
    have T := arc_tang (arc_i 0 L) (arc_g 0 L)
    have X := arc_ext (arc_i 0 L) (arc_g 0 L)
    have w : ∀ {x}, bd 500 x → bd 4000 x := fun h => by omega
    obtain ⟨h1, h2⟩ := ptm_rng 500 0 M (by omega) (by omega)
    have h3 : bd 500 (vec_2 500 0 M) := by unfold vec_2; exact range_rng _ _ _ _ (by decide) (by decide) (by decide)
    obtain ⟨T2, X2⟩ := item_same (a := next_1 (next_1 (next_1 0 M) M) M) (L := M) (w h1) (w h2) (w h3)
    simp only [T, X, T2, X2, beq_self_eq_true, Bool.and_self, Bool.not_true, Bool.or_self, cond_false]
    cases decide (item_0 (next_1 (next_1 (next_1 0 M) M) M) M > 6) <;> rfl
  · rfl
theorem lawT_need {L : List (List Int)} {M : List (List Int)} : ∀ q ∈ (lawT_needs L M), q := by
  unfold lawT_needs
  simp only [List.forall_mem_cons, List.not_mem_nil, false_implies, implies_true, and_true]
  intro h
  obtain ⟨h1, h2⟩ := light_two h
  have nn : ∀ x, 0 ≤ x → 0 ≤ next_1 x M := fun x h => next_1_nn x M h h2
  repeat' (first | assumption | decide | apply And.intro | intro _ | apply nn)
set_option maxRecDepth 1000000 in
theorem lawT_runs (L M : List (List Int)) (hNeeds : ∀ pN ∈ (lawT_needs L M), pN) : Runs (runF (sums K_item) L_ov 11) (lawT_tpl.args []) (lawT_tpl.memo [] [L, M]) lawT_tpl.n (SV.one (SC.bool (SB.v (lawT_0 L M))))
    ([(0, Obj.row true 3 1 (RowC.lst 2 [CK.int IntKind.i64] L)), (1, Obj.row true 3 1 (RowC.lst 3 [CK.int IntKind.i64] M))]) :=
  Runs.of (ps := (lawT_needs L M)) (by kernel_rfl) (by kernel_rfl) hNeeds
noncomputable def lawT_out : List Pm → Lss → Option CRes
  | [], [L, M] => some ⟨SV.one (SC.bool (SB.v (lawT_0 L M))),
    [(0, Obj.row true 3 1 (RowC.lst 2 [CK.int IntKind.i64] L)), (1, Obj.row true 3 1 (RowC.lst 3 [CK.int IntKind.i64] M))],
    [], [], 47493⟩
  | _, _ => none
theorem lawT_ok : FOk Try.prog 11 (tplS lawT_tpl lawT_out) := by
  refine tplS_ok (runF_ok known_item 11) fun ps ls r hr hn _ => ?_
  unfold lawT_out at hr
  split at hr
  · cases hr; exact ⟨_, lawT_runs _ _ (fun p hp => lawT_need p hp), fun _ => by simp only [SV.den, SC.den, SB.val, lawT_0_eq]⟩
  · cases hr
noncomputable def K_lawT : List (Nat × Summ) := (11, tplS lawT_tpl lawT_out) :: K_item
theorem known_lawT : Known Try.prog (sums K_lawT) L_ov := known_cons known_item lawT_ok
end Go.Proofs.Ytkggdhnliiagjaa
