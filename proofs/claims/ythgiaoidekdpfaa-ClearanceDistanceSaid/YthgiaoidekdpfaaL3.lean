/-
  CLEARANCEDISTANCE: the walk. Conditions: none.
-/
import Derived.Test.YthgiaoidekdpfaaL2
import Derived.Test.YthgiaoidekdpfaaD3
set_option linter.all false
namespace Go.Proofs.Ythgiaoidekdpfaa
open Go.SX Go.RowKit
noncomputable def lawD_tpl : Tpl := ⟨[.one (.wh 0), .agg [.int .i64, .int .i64], .one (.int .i64)], [(0, .row true 3 1 1 [.int .i64])], 2⟩
noncomputable def lawD_0 (p0 : Int) (p1 : Int) (d : Int) (L : List (List Int)) : Bool :=
  bif !light_0 L then true
  else
    bif
        !(!dstC Cl (e0 L) (e1 L) (e2 L) (e3 L) (e4 L) (e5 L) (e6 L) (e7 L) (small_0 p0 1048576) (small_0 p1 1048576) (between_0 d 0 32771)) ==
              rfar_0 (e0 L) (e1 L) (e2 L) (e3 L) (e4 L) (e5 L) (e6 L) (e7 L) (small_0 p0 1048576) (small_0 p1 1048576) (between_0 d 0 32771) ||
          !(!dstC Cg (e0 L) (e1 L) (e2 L) (e3 L) (e4 L) (e5 L) (e6 L) (e7 L) (small_0 p0 1048576) (small_0 p1 1048576) (between_0 d 0 32771)) ==
              rnear_0 (e0 L) (e1 L) (e2 L) (e3 L) (e4 L) (e5 L) (e6 L) (e7 L) (small_0 p0 1048576) (small_0 p1 1048576) (between_0 d 0 32771) then
      false
    else
      bif
          !(!dstC Cl (e0 L) (e1 L) (e2 L) (e3 L) (e4 L) (e5 L) (e6 L) (e7 L) (small_0 p0 1048576) (small_0 p1 1048576) (mod_0 (between_0 d 0 32771) 300)) ==
                rfar_0 (e0 L) (e1 L) (e2 L) (e3 L) (e4 L) (e5 L) (e6 L) (e7 L) (small_0 p0 1048576) (small_0 p1 1048576) (mod_0 (between_0 d 0 32771) 300) ||
            !(!dstC Cg (e0 L) (e1 L) (e2 L) (e3 L) (e4 L) (e5 L) (e6 L) (e7 L) (small_0 p0 1048576) (small_0 p1 1048576) (mod_0 (between_0 d 0 32771) 300)) ==
                rnear_0 (e0 L) (e1 L) (e2 L) (e3 L) (e4 L) (e5 L) (e6 L) (e7 L) (small_0 p0 1048576) (small_0 p1 1048576) (mod_0 (between_0 d 0 32771) 300) then
        false
      else
        bif
            !(!dstC Cl (e0 L) (e1 L) (e2 L) (e3 L) (e4 L) (e5 L) (e6 L) (e7 L) (small_0 p0 1048576) (small_0 p1 1048576) 0) ==
                  rfar_0 (e0 L) (e1 L) (e2 L) (e3 L) (e4 L) (e5 L) (e6 L) (e7 L) (small_0 p0 1048576) (small_0 p1 1048576) 0 ||
              !(!dstC Cg (e0 L) (e1 L) (e2 L) (e3 L) (e4 L) (e5 L) (e6 L) (e7 L) (small_0 p0 1048576) (small_0 p1 1048576) 0) ==
                  rnear_0 (e0 L) (e1 L) (e2 L) (e3 L) (e4 L) (e5 L) (e6 L) (e7 L) (small_0 p0 1048576) (small_0 p1 1048576) 0 then
          false
        else
          bif
              !(!dstC Cl (e0 L) (e1 L) (e2 L) (e3 L) (e4 L) (e5 L) (e6 L) (e7 L) (small_0 p0 1000) (small_0 p1 1000) (between_0 d 0 32771)) ==
                    rfar_0 (e0 L) (e1 L) (e2 L) (e3 L) (e4 L) (e5 L) (e6 L) (e7 L) (small_0 p0 1000) (small_0 p1 1000) (between_0 d 0 32771) ||
                !(!dstC Cg (e0 L) (e1 L) (e2 L) (e3 L) (e4 L) (e5 L) (e6 L) (e7 L) (small_0 p0 1000) (small_0 p1 1000) (between_0 d 0 32771)) ==
                    rnear_0 (e0 L) (e1 L) (e2 L) (e3 L) (e4 L) (e5 L) (e6 L) (e7 L) (small_0 p0 1000) (small_0 p1 1000) (between_0 d 0 32771) then
            false
          else
            bif
                !(!dstC Cl (e0 L) (e1 L) (e2 L) (e3 L) (e4 L) (e5 L) (e6 L) (e7 L) (small_0 p0 1000) (small_0 p1 1000) (mod_0 (between_0 d 0 32771) 300)) ==
                      rfar_0 (e0 L) (e1 L) (e2 L) (e3 L) (e4 L) (e5 L) (e6 L) (e7 L) (small_0 p0 1000) (small_0 p1 1000) (mod_0 (between_0 d 0 32771) 300) ||
                  !(!dstC Cg (e0 L) (e1 L) (e2 L) (e3 L) (e4 L) (e5 L) (e6 L) (e7 L) (small_0 p0 1000) (small_0 p1 1000) (mod_0 (between_0 d 0 32771) 300)) ==
                      rnear_0 (e0 L) (e1 L) (e2 L) (e3 L) (e4 L) (e5 L) (e6 L) (e7 L) (small_0 p0 1000) (small_0 p1 1000) (mod_0 (between_0 d 0 32771) 300) then
              false
            else
              bif
                  !(!dstC Cl (e0 L) (e1 L) (e2 L) (e3 L) (e4 L) (e5 L) (e6 L) (e7 L) (small_0 p0 1000) (small_0 p1 1000) 0) ==
                        rfar_0 (e0 L) (e1 L) (e2 L) (e3 L) (e4 L) (e5 L) (e6 L) (e7 L) (small_0 p0 1000) (small_0 p1 1000) 0 ||
                    !(!dstC Cg (e0 L) (e1 L) (e2 L) (e3 L) (e4 L) (e5 L) (e6 L) (e7 L) (small_0 p0 1000) (small_0 p1 1000) 0) ==
                        rnear_0 (e0 L) (e1 L) (e2 L) (e3 L) (e4 L) (e5 L) (e6 L) (e7 L) (small_0 p0 1000) (small_0 p1 1000) 0 then
                false
              else
                bif
                    !(!dstC Cl (e0 L) (e1 L) (e2 L) (e3 L) (e4 L) (e5 L) (e6 L) (e7 L) (e0 L) (e1 L) (between_0 d 0 32771)) ==
                          rfar_0 (e0 L) (e1 L) (e2 L) (e3 L) (e4 L) (e5 L) (e6 L) (e7 L) (e0 L) (e1 L) (between_0 d 0 32771) ||
                      !(!dstC Cg (e0 L) (e1 L) (e2 L) (e3 L) (e4 L) (e5 L) (e6 L) (e7 L) (e0 L) (e1 L) (between_0 d 0 32771)) ==
                          rnear_0 (e0 L) (e1 L) (e2 L) (e3 L) (e4 L) (e5 L) (e6 L) (e7 L) (e0 L) (e1 L) (between_0 d 0 32771) then
                  false
                else
                  bif
                      !(!dstC Cl (e0 L) (e1 L) (e2 L) (e3 L) (e4 L) (e5 L) (e6 L) (e7 L) (e0 L) (e1 L) (mod_0 (between_0 d 0 32771) 300)) ==
                            rfar_0 (e0 L) (e1 L) (e2 L) (e3 L) (e4 L) (e5 L) (e6 L) (e7 L) (e0 L) (e1 L) (mod_0 (between_0 d 0 32771) 300) ||
                        !(!dstC Cg (e0 L) (e1 L) (e2 L) (e3 L) (e4 L) (e5 L) (e6 L) (e7 L) (e0 L) (e1 L) (mod_0 (between_0 d 0 32771) 300)) ==
                            rnear_0 (e0 L) (e1 L) (e2 L) (e3 L) (e4 L) (e5 L) (e6 L) (e7 L) (e0 L) (e1 L) (mod_0 (between_0 d 0 32771) 300) then
                    false
                  else
                    bif
                        !(!dstC Cl (e0 L) (e1 L) (e2 L) (e3 L) (e4 L) (e5 L) (e6 L) (e7 L) (e0 L) (e1 L) 0) == rfar_0 (e0 L) (e1 L) (e2 L) (e3 L) (e4 L) (e5 L) (e6 L) (e7 L) (e0 L) (e1 L) 0 ||
                          !(!dstC Cg (e0 L) (e1 L) (e2 L) (e3 L) (e4 L) (e5 L) (e6 L) (e7 L) (e0 L) (e1 L) 0) == rnear_0 (e0 L) (e1 L) (e2 L) (e3 L) (e4 L) (e5 L) (e6 L) (e7 L) (e0 L) (e1 L) 0 then
                      false
                    else
                      bif
                          !(!dstC Cl (e0 L) (e1 L) (e2 L) (e3 L) (e4 L) (e5 L) (e6 L) (e7 L) (e2 L) (e3 L) (between_0 d 0 32771)) ==
                                rfar_0 (e0 L) (e1 L) (e2 L) (e3 L) (e4 L) (e5 L) (e6 L) (e7 L) (e2 L) (e3 L) (between_0 d 0 32771) ||
                            !(!dstC Cg (e0 L) (e1 L) (e2 L) (e3 L) (e4 L) (e5 L) (e6 L) (e7 L) (e2 L) (e3 L) (between_0 d 0 32771)) ==
                                rnear_0 (e0 L) (e1 L) (e2 L) (e3 L) (e4 L) (e5 L) (e6 L) (e7 L) (e2 L) (e3 L) (between_0 d 0 32771) then
                        false
                      else
                        bif
                            !(!dstC Cl (e0 L) (e1 L) (e2 L) (e3 L) (e4 L) (e5 L) (e6 L) (e7 L) (e2 L) (e3 L) (mod_0 (between_0 d 0 32771) 300)) ==
                                  rfar_0 (e0 L) (e1 L) (e2 L) (e3 L) (e4 L) (e5 L) (e6 L) (e7 L) (e2 L) (e3 L) (mod_0 (between_0 d 0 32771) 300) ||
                              !(!dstC Cg (e0 L) (e1 L) (e2 L) (e3 L) (e4 L) (e5 L) (e6 L) (e7 L) (e2 L) (e3 L) (mod_0 (between_0 d 0 32771) 300)) ==
                                  rnear_0 (e0 L) (e1 L) (e2 L) (e3 L) (e4 L) (e5 L) (e6 L) (e7 L) (e2 L) (e3 L) (mod_0 (between_0 d 0 32771) 300) then
                          false
                        else
                          bif
                              !(!dstC Cl (e0 L) (e1 L) (e2 L) (e3 L) (e4 L) (e5 L) (e6 L) (e7 L) (e2 L) (e3 L) 0) == rfar_0 (e0 L) (e1 L) (e2 L) (e3 L) (e4 L) (e5 L) (e6 L) (e7 L) (e2 L) (e3 L) 0 ||
                                !(!dstC Cg (e0 L) (e1 L) (e2 L) (e3 L) (e4 L) (e5 L) (e6 L) (e7 L) (e2 L) (e3 L) 0) ==
                                    rnear_0 (e0 L) (e1 L) (e2 L) (e3 L) (e4 L) (e5 L) (e6 L) (e7 L) (e2 L) (e3 L) 0 then
                            false
                          else
                            bif
                                !(!dstC Cl (e0 L) (e1 L) (e2 L) (e3 L) (e4 L) (e5 L) (e6 L) (e7 L) (addpt_0 (e0 L) (small_0 p0 30)) (addpt_0 (e1 L) (small_0 p1 30)) (between_0 d 0 32771)) ==
                                      rfar_0 (e0 L) (e1 L) (e2 L) (e3 L) (e4 L) (e5 L) (e6 L) (e7 L) (addpt_0 (e0 L) (small_0 p0 30)) (addpt_0 (e1 L) (small_0 p1 30)) (between_0 d 0 32771) ||
                                  !(!dstC Cg (e0 L) (e1 L) (e2 L) (e3 L) (e4 L) (e5 L) (e6 L) (e7 L) (addpt_0 (e0 L) (small_0 p0 30)) (addpt_0 (e1 L) (small_0 p1 30)) (between_0 d 0 32771)) ==
                                      rnear_0 (e0 L) (e1 L) (e2 L) (e3 L) (e4 L) (e5 L) (e6 L) (e7 L) (addpt_0 (e0 L) (small_0 p0 30)) (addpt_0 (e1 L) (small_0 p1 30)) (between_0 d 0 32771) then
                              false
                            else
                              bif
                                  !(!dstC Cl (e0 L) (e1 L) (e2 L) (e3 L) (e4 L) (e5 L) (e6 L) (e7 L) (addpt_0 (e0 L) (small_0 p0 30)) (addpt_0 (e1 L) (small_0 p1 30))
                                            (mod_0 (between_0 d 0 32771) 300)) ==
                                        rfar_0 (e0 L) (e1 L) (e2 L) (e3 L) (e4 L) (e5 L) (e6 L) (e7 L) (addpt_0 (e0 L) (small_0 p0 30)) (addpt_0 (e1 L) (small_0 p1 30))
                                          (mod_0 (between_0 d 0 32771) 300) ||
                                    !(!dstC Cg (e0 L) (e1 L) (e2 L) (e3 L) (e4 L) (e5 L) (e6 L) (e7 L) (addpt_0 (e0 L) (small_0 p0 30)) (addpt_0 (e1 L) (small_0 p1 30))
                                            (mod_0 (between_0 d 0 32771) 300)) ==
                                        rnear_0 (e0 L) (e1 L) (e2 L) (e3 L) (e4 L) (e5 L) (e6 L) (e7 L) (addpt_0 (e0 L) (small_0 p0 30)) (addpt_0 (e1 L) (small_0 p1 30))
                                          (mod_0 (between_0 d 0 32771) 300) then
                                false
                              else
                                bif
                                    !(!dstC Cl (e0 L) (e1 L) (e2 L) (e3 L) (e4 L) (e5 L) (e6 L) (e7 L) (addpt_0 (e0 L) (small_0 p0 30)) (addpt_0 (e1 L) (small_0 p1 30)) 0) ==
                                          rfar_0 (e0 L) (e1 L) (e2 L) (e3 L) (e4 L) (e5 L) (e6 L) (e7 L) (addpt_0 (e0 L) (small_0 p0 30)) (addpt_0 (e1 L) (small_0 p1 30)) 0 ||
                                      !(!dstC Cg (e0 L) (e1 L) (e2 L) (e3 L) (e4 L) (e5 L) (e6 L) (e7 L) (addpt_0 (e0 L) (small_0 p0 30)) (addpt_0 (e1 L) (small_0 p1 30)) 0) ==
                                          rnear_0 (e0 L) (e1 L) (e2 L) (e3 L) (e4 L) (e5 L) (e6 L) (e7 L) (addpt_0 (e0 L) (small_0 p0 30)) (addpt_0 (e1 L) (small_0 p1 30)) 0 then
                                  false
                                else
                                  bif
                                      !(!dstC Cl (e0 L) (e1 L) (e2 L) (e3 L) (e4 L) (e5 L) (e6 L) (e7 L) (e4 L) (e5 L) (between_0 d 0 32771)) ==
                                            rfar_0 (e0 L) (e1 L) (e2 L) (e3 L) (e4 L) (e5 L) (e6 L) (e7 L) (e4 L) (e5 L) (between_0 d 0 32771) ||
                                        !(!dstC Cg (e0 L) (e1 L) (e2 L) (e3 L) (e4 L) (e5 L) (e6 L) (e7 L) (e4 L) (e5 L) (between_0 d 0 32771)) ==
                                            rnear_0 (e0 L) (e1 L) (e2 L) (e3 L) (e4 L) (e5 L) (e6 L) (e7 L) (e4 L) (e5 L) (between_0 d 0 32771) then
                                    false
                                  else
                                    bif
                                        !(!dstC Cl (e0 L) (e1 L) (e2 L) (e3 L) (e4 L) (e5 L) (e6 L) (e7 L) (e4 L) (e5 L) (mod_0 (between_0 d 0 32771) 300)) ==
                                              rfar_0 (e0 L) (e1 L) (e2 L) (e3 L) (e4 L) (e5 L) (e6 L) (e7 L) (e4 L) (e5 L) (mod_0 (between_0 d 0 32771) 300) ||
                                          !(!dstC Cg (e0 L) (e1 L) (e2 L) (e3 L) (e4 L) (e5 L) (e6 L) (e7 L) (e4 L) (e5 L) (mod_0 (between_0 d 0 32771) 300)) ==
                                              rnear_0 (e0 L) (e1 L) (e2 L) (e3 L) (e4 L) (e5 L) (e6 L) (e7 L) (e4 L) (e5 L) (mod_0 (between_0 d 0 32771) 300) then
                                      false
                                    else
                                      bif
                                          !(!dstC Cl (e0 L) (e1 L) (e2 L) (e3 L) (e4 L) (e5 L) (e6 L) (e7 L) (e4 L) (e5 L) 0) ==
                                                rfar_0 (e0 L) (e1 L) (e2 L) (e3 L) (e4 L) (e5 L) (e6 L) (e7 L) (e4 L) (e5 L) 0 ||
                                            !(!dstC Cg (e0 L) (e1 L) (e2 L) (e3 L) (e4 L) (e5 L) (e6 L) (e7 L) (e4 L) (e5 L) 0) ==
                                                rnear_0 (e0 L) (e1 L) (e2 L) (e3 L) (e4 L) (e5 L) (e6 L) (e7 L) (e4 L) (e5 L) 0 then
                                        false
                                      else true
noncomputable def lawD_needs (p0 : Int) (p1 : Int) (d : Int) (L : List (List Int)) : List Prop :=
  [(!light_0 L) = false →
      L.length ≤ 1000000 ∧
        Int.ofNat 32772 ≠ 0 ∧
          Int.ofNat 2097153 ≠ 0 ∧
            Int.ofNat 2097153 ≠ 0 ∧
              Int.ofNat 2001 ≠ 0 ∧
                Int.ofNat 2001 ≠ 0 ∧
                  Int.ofNat 61 ≠ 0 ∧
                    Int.ofNat 61 ≠ 0 ∧
                      Int.ofNat 300 ≠ 0 ∧
                        ((!(!dstC Cl (e0 L) (e1 L) (e2 L) (e3 L) (e4 L) (e5 L) (e6 L) (e7 L) (small_0 p0 1048576) (small_0 p1 1048576) (between_0 d 0 32771)) ==
                                  rfar_0 (e0 L) (e1 L) (e2 L) (e3 L) (e4 L) (e5 L) (e6 L) (e7 L) (small_0 p0 1048576) (small_0 p1 1048576) (between_0 d 0 32771) ||
                              !(!dstC Cg (e0 L) (e1 L) (e2 L) (e3 L) (e4 L) (e5 L) (e6 L) (e7 L) (small_0 p0 1048576) (small_0 p1 1048576) (between_0 d 0 32771)) ==
                                  rnear_0 (e0 L) (e1 L) (e2 L) (e3 L) (e4 L) (e5 L) (e6 L) (e7 L) (small_0 p0 1048576) (small_0 p1 1048576) (between_0 d 0 32771)) =
                            false →
                          (!(!dstC Cl (e0 L) (e1 L) (e2 L) (e3 L) (e4 L) (e5 L) (e6 L) (e7 L) (small_0 p0 1048576) (small_0 p1 1048576) (mod_0 (between_0 d 0 32771) 300)) ==
                                    rfar_0 (e0 L) (e1 L) (e2 L) (e3 L) (e4 L) (e5 L) (e6 L) (e7 L) (small_0 p0 1048576) (small_0 p1 1048576) (mod_0 (between_0 d 0 32771) 300) ||
                                !(!dstC Cg (e0 L) (e1 L) (e2 L) (e3 L) (e4 L) (e5 L) (e6 L) (e7 L) (small_0 p0 1048576) (small_0 p1 1048576) (mod_0 (between_0 d 0 32771) 300)) ==
                                    rnear_0 (e0 L) (e1 L) (e2 L) (e3 L) (e4 L) (e5 L) (e6 L) (e7 L) (small_0 p0 1048576) (small_0 p1 1048576) (mod_0 (between_0 d 0 32771) 300)) =
                              false →
                            (!(!dstC Cl (e0 L) (e1 L) (e2 L) (e3 L) (e4 L) (e5 L) (e6 L) (e7 L) (small_0 p0 1048576) (small_0 p1 1048576) 0) ==
                                      rfar_0 (e0 L) (e1 L) (e2 L) (e3 L) (e4 L) (e5 L) (e6 L) (e7 L) (small_0 p0 1048576) (small_0 p1 1048576) 0 ||
                                  !(!dstC Cg (e0 L) (e1 L) (e2 L) (e3 L) (e4 L) (e5 L) (e6 L) (e7 L) (small_0 p0 1048576) (small_0 p1 1048576) 0) ==
                                      rnear_0 (e0 L) (e1 L) (e2 L) (e3 L) (e4 L) (e5 L) (e6 L) (e7 L) (small_0 p0 1048576) (small_0 p1 1048576) 0) =
                                false →
                              Int.ofNat 300 ≠ 0 ∧
                                ((!(!dstC Cl (e0 L) (e1 L) (e2 L) (e3 L) (e4 L) (e5 L) (e6 L) (e7 L) (small_0 p0 1000) (small_0 p1 1000) (between_0 d 0 32771)) ==
                                          rfar_0 (e0 L) (e1 L) (e2 L) (e3 L) (e4 L) (e5 L) (e6 L) (e7 L) (small_0 p0 1000) (small_0 p1 1000) (between_0 d 0 32771) ||
                                      !(!dstC Cg (e0 L) (e1 L) (e2 L) (e3 L) (e4 L) (e5 L) (e6 L) (e7 L) (small_0 p0 1000) (small_0 p1 1000) (between_0 d 0 32771)) ==
                                          rnear_0 (e0 L) (e1 L) (e2 L) (e3 L) (e4 L) (e5 L) (e6 L) (e7 L) (small_0 p0 1000) (small_0 p1 1000) (between_0 d 0 32771)) =
                                    false →
                                  (!(!dstC Cl (e0 L) (e1 L) (e2 L) (e3 L) (e4 L) (e5 L) (e6 L) (e7 L) (small_0 p0 1000) (small_0 p1 1000) (mod_0 (between_0 d 0 32771) 300)) ==
                                            rfar_0 (e0 L) (e1 L) (e2 L) (e3 L) (e4 L) (e5 L) (e6 L) (e7 L) (small_0 p0 1000) (small_0 p1 1000) (mod_0 (between_0 d 0 32771) 300) ||
                                        !(!dstC Cg (e0 L) (e1 L) (e2 L) (e3 L) (e4 L) (e5 L) (e6 L) (e7 L) (small_0 p0 1000) (small_0 p1 1000) (mod_0 (between_0 d 0 32771) 300)) ==
                                            rnear_0 (e0 L) (e1 L) (e2 L) (e3 L) (e4 L) (e5 L) (e6 L) (e7 L) (small_0 p0 1000) (small_0 p1 1000) (mod_0 (between_0 d 0 32771) 300)) =
                                      false →
                                    (!(!dstC Cl (e0 L) (e1 L) (e2 L) (e3 L) (e4 L) (e5 L) (e6 L) (e7 L) (small_0 p0 1000) (small_0 p1 1000) 0) ==
                                              rfar_0 (e0 L) (e1 L) (e2 L) (e3 L) (e4 L) (e5 L) (e6 L) (e7 L) (small_0 p0 1000) (small_0 p1 1000) 0 ||
                                          !(!dstC Cg (e0 L) (e1 L) (e2 L) (e3 L) (e4 L) (e5 L) (e6 L) (e7 L) (small_0 p0 1000) (small_0 p1 1000) 0) ==
                                              rnear_0 (e0 L) (e1 L) (e2 L) (e3 L) (e4 L) (e5 L) (e6 L) (e7 L) (small_0 p0 1000) (small_0 p1 1000) 0) =
                                        false →
                                      Int.ofNat 300 ≠ 0 ∧
                                        ((!(!dstC Cl (e0 L) (e1 L) (e2 L) (e3 L) (e4 L) (e5 L) (e6 L) (e7 L) (e0 L) (e1 L) (between_0 d 0 32771)) ==
                                                  rfar_0 (e0 L) (e1 L) (e2 L) (e3 L) (e4 L) (e5 L) (e6 L) (e7 L) (e0 L) (e1 L) (between_0 d 0 32771) ||
                                              !(!dstC Cg (e0 L) (e1 L) (e2 L) (e3 L) (e4 L) (e5 L) (e6 L) (e7 L) (e0 L) (e1 L) (between_0 d 0 32771)) ==
                                                  rnear_0 (e0 L) (e1 L) (e2 L) (e3 L) (e4 L) (e5 L) (e6 L) (e7 L) (e0 L) (e1 L) (between_0 d 0 32771)) =
                                            false →
                                          (!(!dstC Cl (e0 L) (e1 L) (e2 L) (e3 L) (e4 L) (e5 L) (e6 L) (e7 L) (e0 L) (e1 L) (mod_0 (between_0 d 0 32771) 300)) ==
                                                    rfar_0 (e0 L) (e1 L) (e2 L) (e3 L) (e4 L) (e5 L) (e6 L) (e7 L) (e0 L) (e1 L) (mod_0 (between_0 d 0 32771) 300) ||
                                                !(!dstC Cg (e0 L) (e1 L) (e2 L) (e3 L) (e4 L) (e5 L) (e6 L) (e7 L) (e0 L) (e1 L) (mod_0 (between_0 d 0 32771) 300)) ==
                                                    rnear_0 (e0 L) (e1 L) (e2 L) (e3 L) (e4 L) (e5 L) (e6 L) (e7 L) (e0 L) (e1 L) (mod_0 (between_0 d 0 32771) 300)) =
                                              false →
                                            (!(!dstC Cl (e0 L) (e1 L) (e2 L) (e3 L) (e4 L) (e5 L) (e6 L) (e7 L) (e0 L) (e1 L) 0) ==
                                                      rfar_0 (e0 L) (e1 L) (e2 L) (e3 L) (e4 L) (e5 L) (e6 L) (e7 L) (e0 L) (e1 L) 0 ||
                                                  !(!dstC Cg (e0 L) (e1 L) (e2 L) (e3 L) (e4 L) (e5 L) (e6 L) (e7 L) (e0 L) (e1 L) 0) ==
                                                      rnear_0 (e0 L) (e1 L) (e2 L) (e3 L) (e4 L) (e5 L) (e6 L) (e7 L) (e0 L) (e1 L) 0) =
                                                false →
                                              Int.ofNat 300 ≠ 0 ∧
                                                ((!(!dstC Cl (e0 L) (e1 L) (e2 L) (e3 L) (e4 L) (e5 L) (e6 L) (e7 L) (e2 L) (e3 L) (between_0 d 0 32771)) ==
                                                          rfar_0 (e0 L) (e1 L) (e2 L) (e3 L) (e4 L) (e5 L) (e6 L) (e7 L) (e2 L) (e3 L) (between_0 d 0 32771) ||
                                                      !(!dstC Cg (e0 L) (e1 L) (e2 L) (e3 L) (e4 L) (e5 L) (e6 L) (e7 L) (e2 L) (e3 L) (between_0 d 0 32771)) ==
                                                          rnear_0 (e0 L) (e1 L) (e2 L) (e3 L) (e4 L) (e5 L) (e6 L) (e7 L) (e2 L) (e3 L) (between_0 d 0 32771)) =
                                                    false →
                                                  (!(!dstC Cl (e0 L) (e1 L) (e2 L) (e3 L) (e4 L) (e5 L) (e6 L) (e7 L) (e2 L) (e3 L) (mod_0 (between_0 d 0 32771) 300)) ==
                                                            rfar_0 (e0 L) (e1 L) (e2 L) (e3 L) (e4 L) (e5 L) (e6 L) (e7 L) (e2 L) (e3 L) (mod_0 (between_0 d 0 32771) 300) ||
                                                        !(!dstC Cg (e0 L) (e1 L) (e2 L) (e3 L) (e4 L) (e5 L) (e6 L) (e7 L) (e2 L) (e3 L) (mod_0 (between_0 d 0 32771) 300)) ==
                                                            rnear_0 (e0 L) (e1 L) (e2 L) (e3 L) (e4 L) (e5 L) (e6 L) (e7 L) (e2 L) (e3 L) (mod_0 (between_0 d 0 32771) 300)) =
                                                      false →
                                                    (!(!dstC Cl (e0 L) (e1 L) (e2 L) (e3 L) (e4 L) (e5 L) (e6 L) (e7 L) (e2 L) (e3 L) 0) ==
                                                              rfar_0 (e0 L) (e1 L) (e2 L) (e3 L) (e4 L) (e5 L) (e6 L) (e7 L) (e2 L) (e3 L) 0 ||
                                                          !(!dstC Cg (e0 L) (e1 L) (e2 L) (e3 L) (e4 L) (e5 L) (e6 L) (e7 L) (e2 L) (e3 L) 0) ==
                                                              rnear_0 (e0 L) (e1 L) (e2 L) (e3 L) (e4 L) (e5 L) (e6 L) (e7 L) (e2 L) (e3 L) 0) =
                                                        false →
                                                      Int.ofNat 300 ≠ 0 ∧
                                                        ((!(!dstC Cl (e0 L) (e1 L) (e2 L) (e3 L) (e4 L) (e5 L) (e6 L) (e7 L) (addpt_0 (e0 L) (small_0 p0 30)) (addpt_0 (e1 L) (small_0 p1 30))
                                                                      (between_0 d 0 32771)) ==
                                                                  rfar_0 (e0 L) (e1 L) (e2 L) (e3 L) (e4 L) (e5 L) (e6 L) (e7 L) (addpt_0 (e0 L) (small_0 p0 30)) (addpt_0 (e1 L) (small_0 p1 30))
                                                                    (between_0 d 0 32771) ||
                                                              !(!dstC Cg (e0 L) (e1 L) (e2 L) (e3 L) (e4 L) (e5 L) (e6 L) (e7 L) (addpt_0 (e0 L) (small_0 p0 30)) (addpt_0 (e1 L) (small_0 p1 30))
                                                                      (between_0 d 0 32771)) ==
                                                                  rnear_0 (e0 L) (e1 L) (e2 L) (e3 L) (e4 L) (e5 L) (e6 L) (e7 L) (addpt_0 (e0 L) (small_0 p0 30)) (addpt_0 (e1 L) (small_0 p1 30))
                                                                    (between_0 d 0 32771)) =
                                                            false →
                                                          (!(!dstC Cl (e0 L) (e1 L) (e2 L) (e3 L) (e4 L) (e5 L) (e6 L) (e7 L) (addpt_0 (e0 L) (small_0 p0 30)) (addpt_0 (e1 L) (small_0 p1 30))
                                                                        (mod_0 (between_0 d 0 32771) 300)) ==
                                                                    rfar_0 (e0 L) (e1 L) (e2 L) (e3 L) (e4 L) (e5 L) (e6 L) (e7 L) (addpt_0 (e0 L) (small_0 p0 30)) (addpt_0 (e1 L) (small_0 p1 30))
                                                                      (mod_0 (between_0 d 0 32771) 300) ||
                                                                !(!dstC Cg (e0 L) (e1 L) (e2 L) (e3 L) (e4 L) (e5 L) (e6 L) (e7 L) (addpt_0 (e0 L) (small_0 p0 30)) (addpt_0 (e1 L) (small_0 p1 30))
                                                                        (mod_0 (between_0 d 0 32771) 300)) ==
                                                                    rnear_0 (e0 L) (e1 L) (e2 L) (e3 L) (e4 L) (e5 L) (e6 L) (e7 L) (addpt_0 (e0 L) (small_0 p0 30)) (addpt_0 (e1 L) (small_0 p1 30))
                                                                      (mod_0 (between_0 d 0 32771) 300)) =
                                                              false →
                                                            (!(!dstC Cl (e0 L) (e1 L) (e2 L) (e3 L) (e4 L) (e5 L) (e6 L) (e7 L) (addpt_0 (e0 L) (small_0 p0 30)) (addpt_0 (e1 L) (small_0 p1 30)) 0) ==
                                                                      rfar_0 (e0 L) (e1 L) (e2 L) (e3 L) (e4 L) (e5 L) (e6 L) (e7 L) (addpt_0 (e0 L) (small_0 p0 30)) (addpt_0 (e1 L) (small_0 p1 30))
                                                                        0 ||
                                                                  !(!dstC Cg (e0 L) (e1 L) (e2 L) (e3 L) (e4 L) (e5 L) (e6 L) (e7 L) (addpt_0 (e0 L) (small_0 p0 30)) (addpt_0 (e1 L) (small_0 p1 30))
                                                                          0) ==
                                                                      rnear_0 (e0 L) (e1 L) (e2 L) (e3 L) (e4 L) (e5 L) (e6 L) (e7 L) (addpt_0 (e0 L) (small_0 p0 30)) (addpt_0 (e1 L) (small_0 p1 30))
                                                                        0) =
                                                                false →
                                                              Int.ofNat 300 ≠ 0)))))]
theorem lawD_0_eq (p0 p1 d : Int) (L : List (List Int)) : (lawD_0 p0 p1 d L) = true := by
  unfold lawD_0
  cases !light_0 L
  · rw [cond_false]
    have E := elem_ep L
    have F : ∀ {y z d : Int}, bd 10000000 y → bd 10000000 z → bd 1000000 d → (!(!dstC Cl (e0 L) (e1 L) (e2 L) (e3 L) (e4 L) (e5 L) (e6 L) (e7 L) y z d) == rfar_0 (e0 L) (e1 L) (e2 L) (e3 L) (e4 L) (e5 L) (e6 L) (e7 L) y z d ||
        !(!dstC Cg (e0 L) (e1 L) (e2 L) (e3 L) (e4 L) (e5 L) (e6 L) (e7 L) y z d) == rnear_0 (e0 L) (e1 L) (e2 L) (e3 L) (e4 L) (e5 L) (e6 L) (e7 L) y z d) = false := fun {y z d} hy hz hd => by
      rw [far_eq E hy hz hd, near_eq E hy hz hd]
      simp
    have s1 : ∀ x, bd 10000000 (small_0 x 1048576) := fun x => by have := small_rng x 1048576 (by omega) (by omega); omega
    have s2 : ∀ x, bd 10000000 (small_0 x 1000) := fun x => by have := small_rng x 1000 (by omega) (by omega); omega
    have s3 : ∀ x, bd 30 (small_0 x 30) := fun x => by have := small_rng x 30 (by omega) (by omega); omega
    have d1 : bd 1000000 (between_0 d 0 32771) := by have := between_rng d 0 32771 (by omega) (by omega) (by omega); omega
    have d2 : bd 1000000 (mod_0 (between_0 d 0 32771) 300) := by have := mod_rng (between_0 d 0 32771) 300 (by omega) (by omega); omega
    have d3 : bd 1000000 0 := by decide
    have c0 := bd_up E.c0
    have c1 := bd_up E.c1
    have c2 := bd_up E.c2
    have c3 := bd_up E.c3
    have c4 := bd_up E.c4
    have c5 := bd_up E.c5
    have c6 : bd 10000000 (addpt_0 (e0 L) (small_0 p0 30)) := by have := s3 p0; have := E.c0; rw [addpt_eq (by omega) (by omega)]; omega
    have c7 : bd 10000000 (addpt_0 (e1 L) (small_0 p1 30)) := by have := s3 p1; have := E.c1; rw [addpt_eq (by omega) (by omega)]; omega
    rw [F (s1 _) (s1 _) d1, F (s1 _) (s1 _) d2, F (s1 _) (s1 _) d3, F (s2 _) (s2 _) d1, F (s2 _) (s2 _) d2, F (s2 _) (s2 _) d3, F c0 c1 d1, F c0 c1 d2, F c0 c1 d3, F c2 c3 d1, F c2 c3 d2, F c2 c3 d3, F c6 c7 d1, F c6 c7 d2, F c6 c7 d3, F c4 c5 d1, F c4 c5 d2, F c4 c5 d3]
    rfl
  · rfl
theorem lawD_need {p0 : Int} {p1 : Int} {d : Int} {L : List (List Int)} : ∀ q ∈ (lawD_needs p0 p1 d L), q := by
  intro q hq
  unfold lawD_needs at hq
  simp only [List.mem_cons, List.not_mem_nil, or_false] at hq
  subst hq
  intro h
  have hl : L.length ≤ 1000000 := light_len (by simpa using h)
  refine ⟨hl, by decide, by decide, by decide, by decide, by decide, by decide, by decide, ?_⟩
  repeat' (first | exact (by decide : Int.ofNat 300 ≠ 0) | refine ⟨?_, ?_⟩ | intro _)
set_option maxRecDepth 1000000 in
theorem lawD_runs (p0 p1 d : Int) (L : List (List Int)) (hNeeds : ∀ pN ∈ (lawD_needs p0 p1 d L), pN) : Runs (runF (sums K_rnear) L_mul 4) (lawD_tpl.args [.i p0, .i p1, .i d]) (lawD_tpl.memo [.i p0, .i p1, .i d] [L]) lawD_tpl.n (SV.one (SC.bool (SB.v (lawD_0 p0 p1 d L))))
    ([(0, Obj.row true 3 1 (RowC.lst 1 [CK.int IntKind.i64] L))]) :=
  Runs.of (ps := (lawD_needs p0 p1 d L)) (by kernel_rfl) (by kernel_rfl) hNeeds
noncomputable def lawD_out : List Pm → Lss → Option CRes
  | [.i p0, .i p1, .i d], [L] => some ⟨SV.one (SC.bool (SB.v (lawD_0 p0 p1 d L))),
    [(0, Obj.row true 3 1 (RowC.lst 1 [CK.int IntKind.i64] L))],
    [], [], 92837⟩
  | _, _ => none
theorem lawD_ok : FOk Try.prog 4 (tplS lawD_tpl lawD_out) := by
  refine tplS_ok (runF_ok known_rnear 4) fun ps ls r hr hn _ => ?_
  unfold lawD_out at hr
  split at hr
  · cases hr; exact ⟨_, lawD_runs _ _ _ _ (fun p hp => lawD_need p hp), fun _ => by simp only [SV.den, SC.den, SB.val, lawD_0_eq]⟩
  · cases hr
noncomputable def K_lawD : List (Nat × Summ) := (4, tplS lawD_tpl lawD_out) :: K_rnear
theorem known_lawD : Known Try.prog (sums K_lawD) L_mul := known_cons known_rnear lawD_ok
end Go.Proofs.Ythgiaoidekdpfaa
