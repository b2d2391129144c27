/-
  CLEARANCECHECK: the walk. Conditions: none.
-/
import Derived.Test.YthgiaoidekdpfaaK3
import Derived.Test.YthgiaoidekdpfaaD7
set_option linter.all false
namespace Go.Proofs.Ythgiaoidekdpfaa
open Go.SX Go.RowKit
noncomputable def rw_ (u v a : Int) (L : List (List Int)) : List Int := [element_0 u a L, element_0 v a L, element_2 u a L, element_3 v a L, element_4 u a L, element_5 v a L, element_6 a L, bif element_7 a L then 1 else 0]
theorem epw {u v a : Int} {L : List (List Int)} (hu : bd 900000 u) (hv : bd 900000 v) : EPx (rw_ u v a L) := element_ep L hu hv
theorem chain {u v a : Int} (L : List (List Int)) (hu : bd 500 u) (hv : bd 500 v) :
    EPs [rw_ u v a L] ∧ EPs [rw_ u v a L, rw_ (element_2 u a L) (element_3 v a L) (element_8 a L) L] ∧
    EPs [rw_ u v a L, rw_ (element_2 u a L) (element_3 v a L) (element_8 a L) L, rw_ (element_2 (element_2 u a L) (element_8 a L) L) (element_3 (element_3 v a L) (element_8 a L) L) (element_8 (element_8 a L) L) L] ∧
    EPs [rw_ u v a L, rw_ (element_2 u a L) (element_3 v a L) (element_8 a L) L, rw_ (element_2 (element_2 u a L) (element_8 a L) L) (element_3 (element_3 v a L) (element_8 a L) L) (element_8 (element_8 a L) L) L,
      rw_ (element_2 (element_2 (element_2 u a L) (element_8 a L) L) (element_8 (element_8 a L) L) L) (element_3 (element_3 (element_3 v a L) (element_8 a L) L) (element_8 (element_8 a L) L) L) (element_8 (element_8 (element_8 a L) L) L) L] := by
  obtain ⟨m1, n1⟩ := element_mv (a := a) L (by omega) (by omega) hu hv
  obtain ⟨m2, n2⟩ := element_mv (a := element_8 a L) L (by omega) (by omega) m1 n1
  obtain ⟨m3, n3⟩ := element_mv (a := element_8 (element_8 a L) L) L (by omega) (by omega) m2 n2
  have w : ∀ {m x : Int}, m ≤ 900000 → bd m x → bd 900000 x := fun {m x} h1 h2 => by omega
  have E0 : EPx (rw_ u v a L) := epw (w (by omega) hu) (w (by omega) hv)
  have E1 := epw (a := element_8 a L) (L := L) (w (by omega) m1) (w (by omega) n1)
  have E2 := epw (a := element_8 (element_8 a L) L) (L := L) (w (by omega) m2) (w (by omega) n2)
  have E3 := epw (a := element_8 (element_8 (element_8 a L) L) L) (L := L) (w (by omega) m3) (w (by omega) n3)
  exact ⟨.cons E0 .nil, .cons E0 (.cons E1 .nil), .cons E0 (.cons E1 (.cons E2 .nil)), .cons E0 (.cons E1 (.cons E2 (.cons E3 .nil)))⟩
noncomputable def lawK_tpl : Tpl := ⟨[.one (.wh 0), .one (.wh 1), .one (.int .i64)], [(0, .row true 3 1 2 [.int .i64]), (1, .row true 3 1 3 [.int .i64])], 4⟩
noncomputable def lawK_s0 (L : List (List Int)) : List (List Int) :=
  [(fun x => element_0 (range_0 (-500) 500 0 L) (next_1 0 L) L :: x)
      ((fun x => element_0 0 (next_1 0 L) L :: x)
        ((fun x => element_2 (range_0 (-500) 500 0 L) (next_1 0 L) L :: x)
          ((fun x => element_3 0 (next_1 0 L) L :: x)
            ((fun x => element_4 (range_0 (-500) 500 0 L) (next_1 0 L) L :: x)
              ((fun x => element_5 0 (next_1 0 L) L :: x) ((fun x => element_6 (next_1 0 L) L :: x) ((fun x => (bif element_7 (next_1 0 L) L then 1 else 0) :: x) [])))))))]
noncomputable def lawK_s1 (M : List (List Int)) : List (List Int) :=
  [(fun x => element_0 0 (next_1 0 M) M :: x)
      ((fun x => element_0 (range_0 (-500) 500 0 M) (next_1 0 M) M :: x)
        ((fun x => element_2 0 (next_1 0 M) M :: x)
          ((fun x => element_3 (range_0 (-500) 500 0 M) (next_1 0 M) M :: x)
            ((fun x => element_4 0 (next_1 0 M) M :: x)
              ((fun x => element_5 (range_0 (-500) 500 0 M) (next_1 0 M) M :: x) ((fun x => element_6 (next_1 0 M) M :: x) ((fun x => (bif element_7 (next_1 0 M) M then 1 else 0) :: x) [])))))))]
noncomputable def lawK_s2 (L : List (List Int)) : Int :=
  element_2 (element_2 (element_2 (range_0 (-500) 500 0 L) (next_1 0 L) L) (element_8 (next_1 0 L) L) L) (element_8 (element_8 (next_1 0 L) L) L) L
noncomputable def lawK_s3 (M : List (List Int)) : Int :=
  element_3 (element_3 (element_3 (range_0 (-500) 500 0 M) (next_1 0 M) M) (element_8 (next_1 0 M) M) M) (element_8 (element_8 (next_1 0 M) M) M) M
noncomputable def lawK_s4 (L : List (List Int)) : List (List Int) :=
  [(fun x => element_0 (range_0 (-500) 500 0 L) (next_1 0 L) L :: x)
      ((fun x => element_0 0 (next_1 0 L) L :: x)
        ((fun x => element_2 (range_0 (-500) 500 0 L) (next_1 0 L) L :: x)
          ((fun x => element_3 0 (next_1 0 L) L :: x)
            ((fun x => element_4 (range_0 (-500) 500 0 L) (next_1 0 L) L :: x)
              ((fun x => element_5 0 (next_1 0 L) L :: x) ((fun x => element_6 (next_1 0 L) L :: x) ((fun x => (bif element_7 (next_1 0 L) L then 1 else 0) :: x) []))))))),
    (fun x => element_0 (element_2 (range_0 (-500) 500 0 L) (next_1 0 L) L) (element_8 (next_1 0 L) L) L :: x)
      ((fun x => element_0 (element_3 0 (next_1 0 L) L) (element_8 (next_1 0 L) L) L :: x)
        ((fun x => element_2 (element_2 (range_0 (-500) 500 0 L) (next_1 0 L) L) (element_8 (next_1 0 L) L) L :: x)
          ((fun x => element_3 (element_3 0 (next_1 0 L) L) (element_8 (next_1 0 L) L) L :: x)
            ((fun x => element_4 (element_2 (range_0 (-500) 500 0 L) (next_1 0 L) L) (element_8 (next_1 0 L) L) L :: x)
              ((fun x => element_5 (element_3 0 (next_1 0 L) L) (element_8 (next_1 0 L) L) L :: x)
                ((fun x => element_6 (element_8 (next_1 0 L) L) L :: x) ((fun x => (bif element_7 (element_8 (next_1 0 L) L) L then 1 else 0) :: x) [])))))))]
noncomputable def lawK_s5 (M : List (List Int)) : List (List Int) :=
  [(fun x => element_0 0 (next_1 0 M) M :: x)
      ((fun x => element_0 (range_0 (-500) 500 0 M) (next_1 0 M) M :: x)
        ((fun x => element_2 0 (next_1 0 M) M :: x)
          ((fun x => element_3 (range_0 (-500) 500 0 M) (next_1 0 M) M :: x)
            ((fun x => element_4 0 (next_1 0 M) M :: x)
              ((fun x => element_5 (range_0 (-500) 500 0 M) (next_1 0 M) M :: x) ((fun x => element_6 (next_1 0 M) M :: x) ((fun x => (bif element_7 (next_1 0 M) M then 1 else 0) :: x) []))))))),
    (fun x => element_0 (element_2 0 (next_1 0 M) M) (element_8 (next_1 0 M) M) M :: x)
      ((fun x => element_0 (element_3 (range_0 (-500) 500 0 M) (next_1 0 M) M) (element_8 (next_1 0 M) M) M :: x)
        ((fun x => element_2 (element_2 0 (next_1 0 M) M) (element_8 (next_1 0 M) M) M :: x)
          ((fun x => element_3 (element_3 (range_0 (-500) 500 0 M) (next_1 0 M) M) (element_8 (next_1 0 M) M) M :: x)
            ((fun x => element_4 (element_2 0 (next_1 0 M) M) (element_8 (next_1 0 M) M) M :: x)
              ((fun x => element_5 (element_3 (range_0 (-500) 500 0 M) (next_1 0 M) M) (element_8 (next_1 0 M) M) M :: x)
                ((fun x => element_6 (element_8 (next_1 0 M) M) M :: x) ((fun x => (bif element_7 (element_8 (next_1 0 M) M) M then 1 else 0) :: x) [])))))))]
noncomputable def lawK_s6 (L : List (List Int)) : List (List Int) :=
  [(fun x => element_0 (range_0 (-500) 500 0 L) (next_1 0 L) L :: x)
      ((fun x => element_0 0 (next_1 0 L) L :: x)
        ((fun x => element_2 (range_0 (-500) 500 0 L) (next_1 0 L) L :: x)
          ((fun x => element_3 0 (next_1 0 L) L :: x)
            ((fun x => element_4 (range_0 (-500) 500 0 L) (next_1 0 L) L :: x)
              ((fun x => element_5 0 (next_1 0 L) L :: x) ((fun x => element_6 (next_1 0 L) L :: x) ((fun x => (bif element_7 (next_1 0 L) L then 1 else 0) :: x) []))))))),
    (fun x => element_0 (element_2 (range_0 (-500) 500 0 L) (next_1 0 L) L) (element_8 (next_1 0 L) L) L :: x)
      ((fun x => element_0 (element_3 0 (next_1 0 L) L) (element_8 (next_1 0 L) L) L :: x)
        ((fun x => element_2 (element_2 (range_0 (-500) 500 0 L) (next_1 0 L) L) (element_8 (next_1 0 L) L) L :: x)
          ((fun x => element_3 (element_3 0 (next_1 0 L) L) (element_8 (next_1 0 L) L) L :: x)
            ((fun x => element_4 (element_2 (range_0 (-500) 500 0 L) (next_1 0 L) L) (element_8 (next_1 0 L) L) L :: x)
              ((fun x => element_5 (element_3 0 (next_1 0 L) L) (element_8 (next_1 0 L) L) L :: x)
                ((fun x => element_6 (element_8 (next_1 0 L) L) L :: x) ((fun x => (bif element_7 (element_8 (next_1 0 L) L) L then 1 else 0) :: x) []))))))),
    (fun x => element_0 (element_2 (element_2 (range_0 (-500) 500 0 L) (next_1 0 L) L) (element_8 (next_1 0 L) L) L) (element_8 (element_8 (next_1 0 L) L) L) L :: x)
      ((fun x => element_0 (element_3 (element_3 0 (next_1 0 L) L) (element_8 (next_1 0 L) L) L) (element_8 (element_8 (next_1 0 L) L) L) L :: x)
        ((fun x => element_2 (element_2 (element_2 (range_0 (-500) 500 0 L) (next_1 0 L) L) (element_8 (next_1 0 L) L) L) (element_8 (element_8 (next_1 0 L) L) L) L :: x)
          ((fun x => element_3 (element_3 (element_3 0 (next_1 0 L) L) (element_8 (next_1 0 L) L) L) (element_8 (element_8 (next_1 0 L) L) L) L :: x)
            ((fun x => element_4 (element_2 (element_2 (range_0 (-500) 500 0 L) (next_1 0 L) L) (element_8 (next_1 0 L) L) L) (element_8 (element_8 (next_1 0 L) L) L) L :: x)
              ((fun x => element_5 (element_3 (element_3 0 (next_1 0 L) L) (element_8 (next_1 0 L) L) L) (element_8 (element_8 (next_1 0 L) L) L) L :: x)
                ((fun x => element_6 (element_8 (element_8 (next_1 0 L) L) L) L :: x) ((fun x => (bif element_7 (element_8 (element_8 (next_1 0 L) L) L) L then 1 else 0) :: x) [])))))))]
noncomputable def lawK_s7 (M : List (List Int)) : List (List Int) :=
  [(fun x => element_0 0 (next_1 0 M) M :: x)
      ((fun x => element_0 (range_0 (-500) 500 0 M) (next_1 0 M) M :: x)
        ((fun x => element_2 0 (next_1 0 M) M :: x)
          ((fun x => element_3 (range_0 (-500) 500 0 M) (next_1 0 M) M :: x)
            ((fun x => element_4 0 (next_1 0 M) M :: x)
              ((fun x => element_5 (range_0 (-500) 500 0 M) (next_1 0 M) M :: x) ((fun x => element_6 (next_1 0 M) M :: x) ((fun x => (bif element_7 (next_1 0 M) M then 1 else 0) :: x) []))))))),
    (fun x => element_0 (element_2 0 (next_1 0 M) M) (element_8 (next_1 0 M) M) M :: x)
      ((fun x => element_0 (element_3 (range_0 (-500) 500 0 M) (next_1 0 M) M) (element_8 (next_1 0 M) M) M :: x)
        ((fun x => element_2 (element_2 0 (next_1 0 M) M) (element_8 (next_1 0 M) M) M :: x)
          ((fun x => element_3 (element_3 (range_0 (-500) 500 0 M) (next_1 0 M) M) (element_8 (next_1 0 M) M) M :: x)
            ((fun x => element_4 (element_2 0 (next_1 0 M) M) (element_8 (next_1 0 M) M) M :: x)
              ((fun x => element_5 (element_3 (range_0 (-500) 500 0 M) (next_1 0 M) M) (element_8 (next_1 0 M) M) M :: x)
                ((fun x => element_6 (element_8 (next_1 0 M) M) M :: x) ((fun x => (bif element_7 (element_8 (next_1 0 M) M) M then 1 else 0) :: x) []))))))),
    (fun x => element_0 (element_2 (element_2 0 (next_1 0 M) M) (element_8 (next_1 0 M) M) M) (element_8 (element_8 (next_1 0 M) M) M) M :: x)
      ((fun x => element_0 (element_3 (element_3 (range_0 (-500) 500 0 M) (next_1 0 M) M) (element_8 (next_1 0 M) M) M) (element_8 (element_8 (next_1 0 M) M) M) M :: x)
        ((fun x => element_2 (element_2 (element_2 0 (next_1 0 M) M) (element_8 (next_1 0 M) M) M) (element_8 (element_8 (next_1 0 M) M) M) M :: x)
          ((fun x => element_3 (element_3 (element_3 (range_0 (-500) 500 0 M) (next_1 0 M) M) (element_8 (next_1 0 M) M) M) (element_8 (element_8 (next_1 0 M) M) M) M :: x)
            ((fun x => element_4 (element_2 (element_2 0 (next_1 0 M) M) (element_8 (next_1 0 M) M) M) (element_8 (element_8 (next_1 0 M) M) M) M :: x)
              ((fun x => element_5 (element_3 (element_3 (range_0 (-500) 500 0 M) (next_1 0 M) M) (element_8 (next_1 0 M) M) M) (element_8 (element_8 (next_1 0 M) M) M) M :: x)
                ((fun x => element_6 (element_8 (element_8 (next_1 0 M) M) M) M :: x) ((fun x => (bif element_7 (element_8 (element_8 (next_1 0 M) M) M) M then 1 else 0) :: x) [])))))))]
noncomputable def lawK_s8 (L : List (List Int)) : List (List Int) :=
  [(fun x => element_0 (range_0 (-500) 500 0 L) (next_1 0 L) L :: x)
      ((fun x => element_0 0 (next_1 0 L) L :: x)
        ((fun x => element_2 (range_0 (-500) 500 0 L) (next_1 0 L) L :: x)
          ((fun x => element_3 0 (next_1 0 L) L :: x)
            ((fun x => element_4 (range_0 (-500) 500 0 L) (next_1 0 L) L :: x)
              ((fun x => element_5 0 (next_1 0 L) L :: x) ((fun x => element_6 (next_1 0 L) L :: x) ((fun x => (bif element_7 (next_1 0 L) L then 1 else 0) :: x) []))))))),
    (fun x => element_0 (element_2 (range_0 (-500) 500 0 L) (next_1 0 L) L) (element_8 (next_1 0 L) L) L :: x)
      ((fun x => element_0 (element_3 0 (next_1 0 L) L) (element_8 (next_1 0 L) L) L :: x)
        ((fun x => element_2 (element_2 (range_0 (-500) 500 0 L) (next_1 0 L) L) (element_8 (next_1 0 L) L) L :: x)
          ((fun x => element_3 (element_3 0 (next_1 0 L) L) (element_8 (next_1 0 L) L) L :: x)
            ((fun x => element_4 (element_2 (range_0 (-500) 500 0 L) (next_1 0 L) L) (element_8 (next_1 0 L) L) L :: x)
              ((fun x => element_5 (element_3 0 (next_1 0 L) L) (element_8 (next_1 0 L) L) L :: x)
                ((fun x => element_6 (element_8 (next_1 0 L) L) L :: x) ((fun x => (bif element_7 (element_8 (next_1 0 L) L) L then 1 else 0) :: x) []))))))),
    (fun x => element_0 (element_2 (element_2 (range_0 (-500) 500 0 L) (next_1 0 L) L) (element_8 (next_1 0 L) L) L) (element_8 (element_8 (next_1 0 L) L) L) L :: x)
      ((fun x => element_0 (element_3 (element_3 0 (next_1 0 L) L) (element_8 (next_1 0 L) L) L) (element_8 (element_8 (next_1 0 L) L) L) L :: x)
        ((fun x => element_2 (element_2 (element_2 (range_0 (-500) 500 0 L) (next_1 0 L) L) (element_8 (next_1 0 L) L) L) (element_8 (element_8 (next_1 0 L) L) L) L :: x)
          ((fun x => element_3 (element_3 (element_3 0 (next_1 0 L) L) (element_8 (next_1 0 L) L) L) (element_8 (element_8 (next_1 0 L) L) L) L :: x)
            ((fun x => element_4 (element_2 (element_2 (range_0 (-500) 500 0 L) (next_1 0 L) L) (element_8 (next_1 0 L) L) L) (element_8 (element_8 (next_1 0 L) L) L) L :: x)
              ((fun x => element_5 (element_3 (element_3 0 (next_1 0 L) L) (element_8 (next_1 0 L) L) L) (element_8 (element_8 (next_1 0 L) L) L) L :: x)
                ((fun x => element_6 (element_8 (element_8 (next_1 0 L) L) L) L :: x) ((fun x => (bif element_7 (element_8 (element_8 (next_1 0 L) L) L) L then 1 else 0) :: x) []))))))),
    (fun x =>
        element_0 (element_2 (element_2 (element_2 (range_0 (-500) 500 0 L) (next_1 0 L) L) (element_8 (next_1 0 L) L) L) (element_8 (element_8 (next_1 0 L) L) L) L)
            (element_8 (element_8 (element_8 (next_1 0 L) L) L) L) L ::
          x)
      ((fun x =>
          element_0 (element_3 (element_3 (element_3 0 (next_1 0 L) L) (element_8 (next_1 0 L) L) L) (element_8 (element_8 (next_1 0 L) L) L) L) (element_8 (element_8 (element_8 (next_1 0 L) L) L) L)
              L ::
            x)
        ((fun x =>
            element_2 (element_2 (element_2 (element_2 (range_0 (-500) 500 0 L) (next_1 0 L) L) (element_8 (next_1 0 L) L) L) (element_8 (element_8 (next_1 0 L) L) L) L)
                (element_8 (element_8 (element_8 (next_1 0 L) L) L) L) L ::
              x)
          ((fun x =>
              element_3 (element_3 (element_3 (element_3 0 (next_1 0 L) L) (element_8 (next_1 0 L) L) L) (element_8 (element_8 (next_1 0 L) L) L) L)
                  (element_8 (element_8 (element_8 (next_1 0 L) L) L) L) L ::
                x)
            ((fun x =>
                element_4 (element_2 (element_2 (element_2 (range_0 (-500) 500 0 L) (next_1 0 L) L) (element_8 (next_1 0 L) L) L) (element_8 (element_8 (next_1 0 L) L) L) L)
                    (element_8 (element_8 (element_8 (next_1 0 L) L) L) L) L ::
                  x)
              ((fun x =>
                  element_5 (element_3 (element_3 (element_3 0 (next_1 0 L) L) (element_8 (next_1 0 L) L) L) (element_8 (element_8 (next_1 0 L) L) L) L)
                      (element_8 (element_8 (element_8 (next_1 0 L) L) L) L) L ::
                    x)
                ((fun x => element_6 (element_8 (element_8 (element_8 (next_1 0 L) L) L) L) L :: x)
                  ((fun x => (bif element_7 (element_8 (element_8 (element_8 (next_1 0 L) L) L) L) L then 1 else 0) :: x) [])))))))]
noncomputable def lawK_s9 (M : List (List Int)) : List (List Int) :=
  [(fun x => element_0 0 (next_1 0 M) M :: x)
      ((fun x => element_0 (range_0 (-500) 500 0 M) (next_1 0 M) M :: x)
        ((fun x => element_2 0 (next_1 0 M) M :: x)
          ((fun x => element_3 (range_0 (-500) 500 0 M) (next_1 0 M) M :: x)
            ((fun x => element_4 0 (next_1 0 M) M :: x)
              ((fun x => element_5 (range_0 (-500) 500 0 M) (next_1 0 M) M :: x) ((fun x => element_6 (next_1 0 M) M :: x) ((fun x => (bif element_7 (next_1 0 M) M then 1 else 0) :: x) []))))))),
    (fun x => element_0 (element_2 0 (next_1 0 M) M) (element_8 (next_1 0 M) M) M :: x)
      ((fun x => element_0 (element_3 (range_0 (-500) 500 0 M) (next_1 0 M) M) (element_8 (next_1 0 M) M) M :: x)
        ((fun x => element_2 (element_2 0 (next_1 0 M) M) (element_8 (next_1 0 M) M) M :: x)
          ((fun x => element_3 (element_3 (range_0 (-500) 500 0 M) (next_1 0 M) M) (element_8 (next_1 0 M) M) M :: x)
            ((fun x => element_4 (element_2 0 (next_1 0 M) M) (element_8 (next_1 0 M) M) M :: x)
              ((fun x => element_5 (element_3 (range_0 (-500) 500 0 M) (next_1 0 M) M) (element_8 (next_1 0 M) M) M :: x)
                ((fun x => element_6 (element_8 (next_1 0 M) M) M :: x) ((fun x => (bif element_7 (element_8 (next_1 0 M) M) M then 1 else 0) :: x) []))))))),
    (fun x => element_0 (element_2 (element_2 0 (next_1 0 M) M) (element_8 (next_1 0 M) M) M) (element_8 (element_8 (next_1 0 M) M) M) M :: x)
      ((fun x => element_0 (element_3 (element_3 (range_0 (-500) 500 0 M) (next_1 0 M) M) (element_8 (next_1 0 M) M) M) (element_8 (element_8 (next_1 0 M) M) M) M :: x)
        ((fun x => element_2 (element_2 (element_2 0 (next_1 0 M) M) (element_8 (next_1 0 M) M) M) (element_8 (element_8 (next_1 0 M) M) M) M :: x)
          ((fun x => element_3 (element_3 (element_3 (range_0 (-500) 500 0 M) (next_1 0 M) M) (element_8 (next_1 0 M) M) M) (element_8 (element_8 (next_1 0 M) M) M) M :: x)
            ((fun x => element_4 (element_2 (element_2 0 (next_1 0 M) M) (element_8 (next_1 0 M) M) M) (element_8 (element_8 (next_1 0 M) M) M) M :: x)
              ((fun x => element_5 (element_3 (element_3 (range_0 (-500) 500 0 M) (next_1 0 M) M) (element_8 (next_1 0 M) M) M) (element_8 (element_8 (next_1 0 M) M) M) M :: x)
                ((fun x => element_6 (element_8 (element_8 (next_1 0 M) M) M) M :: x) ((fun x => (bif element_7 (element_8 (element_8 (next_1 0 M) M) M) M then 1 else 0) :: x) []))))))),
    (fun x =>
        element_0 (element_2 (element_2 (element_2 0 (next_1 0 M) M) (element_8 (next_1 0 M) M) M) (element_8 (element_8 (next_1 0 M) M) M) M) (element_8 (element_8 (element_8 (next_1 0 M) M) M) M) M ::
          x)
      ((fun x =>
          element_0 (element_3 (element_3 (element_3 (range_0 (-500) 500 0 M) (next_1 0 M) M) (element_8 (next_1 0 M) M) M) (element_8 (element_8 (next_1 0 M) M) M) M)
              (element_8 (element_8 (element_8 (next_1 0 M) M) M) M) M ::
            x)
        ((fun x =>
            element_2 (element_2 (element_2 (element_2 0 (next_1 0 M) M) (element_8 (next_1 0 M) M) M) (element_8 (element_8 (next_1 0 M) M) M) M) (element_8 (element_8 (element_8 (next_1 0 M) M) M) M)
                M ::
              x)
          ((fun x =>
              element_3 (element_3 (element_3 (element_3 (range_0 (-500) 500 0 M) (next_1 0 M) M) (element_8 (next_1 0 M) M) M) (element_8 (element_8 (next_1 0 M) M) M) M)
                  (element_8 (element_8 (element_8 (next_1 0 M) M) M) M) M ::
                x)
            ((fun x =>
                element_4 (element_2 (element_2 (element_2 0 (next_1 0 M) M) (element_8 (next_1 0 M) M) M) (element_8 (element_8 (next_1 0 M) M) M) M)
                    (element_8 (element_8 (element_8 (next_1 0 M) M) M) M) M ::
                  x)
              ((fun x =>
                  element_5 (element_3 (element_3 (element_3 (range_0 (-500) 500 0 M) (next_1 0 M) M) (element_8 (next_1 0 M) M) M) (element_8 (element_8 (next_1 0 M) M) M) M)
                      (element_8 (element_8 (element_8 (next_1 0 M) M) M) M) M ::
                    x)
                ((fun x => element_6 (element_8 (element_8 (element_8 (next_1 0 M) M) M) M) M :: x)
                  ((fun x => (bif element_7 (element_8 (element_8 (element_8 (next_1 0 M) M) M) M) M then 1 else 0) :: x) [])))))))]
noncomputable def lawK_0 (r : Int) (L : List (List Int)) (M : List (List Int)) : Bool :=
  bif !light_0 L || !light_0 M then true
  else
    bif
        !rvalid_0 (element_0 (range_0 (-500) 500 0 L) (next_1 0 L) L) (element_0 0 (next_1 0 L) L) (element_2 (range_0 (-500) 500 0 L) (next_1 0 L) L) (element_3 0 (next_1 0 L) L)
              (element_4 (range_0 (-500) 500 0 L) (next_1 0 L) L) (element_5 0 (next_1 0 L) L) (element_6 (next_1 0 L) L) (element_7 (next_1 0 L) L) ||
          !rvalid_0 (element_0 0 (next_1 0 M) M) (element_0 (range_0 (-500) 500 0 M) (next_1 0 M) M) (element_2 0 (next_1 0 M) M) (element_3 (range_0 (-500) 500 0 M) (next_1 0 M) M)
              (element_4 0 (next_1 0 M) M) (element_5 (range_0 (-500) 500 0 M) (next_1 0 M) M) (element_6 (next_1 0 M) M) (element_7 (next_1 0 M) M) then
      true
    else
      bif
          !rvalid_0 (element_0 (element_2 (range_0 (-500) 500 0 L) (next_1 0 L) L) (element_8 (next_1 0 L) L) L) (element_0 (element_3 0 (next_1 0 L) L) (element_8 (next_1 0 L) L) L)
                (element_2 (element_2 (range_0 (-500) 500 0 L) (next_1 0 L) L) (element_8 (next_1 0 L) L) L) (element_3 (element_3 0 (next_1 0 L) L) (element_8 (next_1 0 L) L) L)
                (element_4 (element_2 (range_0 (-500) 500 0 L) (next_1 0 L) L) (element_8 (next_1 0 L) L) L) (element_5 (element_3 0 (next_1 0 L) L) (element_8 (next_1 0 L) L) L)
                (element_6 (element_8 (next_1 0 L) L) L) (element_7 (element_8 (next_1 0 L) L) L) ||
            !rvalid_0 (element_0 (element_2 0 (next_1 0 M) M) (element_8 (next_1 0 M) M) M) (element_0 (element_3 (range_0 (-500) 500 0 M) (next_1 0 M) M) (element_8 (next_1 0 M) M) M)
                (element_2 (element_2 0 (next_1 0 M) M) (element_8 (next_1 0 M) M) M) (element_3 (element_3 (range_0 (-500) 500 0 M) (next_1 0 M) M) (element_8 (next_1 0 M) M) M)
                (element_4 (element_2 0 (next_1 0 M) M) (element_8 (next_1 0 M) M) M) (element_5 (element_3 (range_0 (-500) 500 0 M) (next_1 0 M) M) (element_8 (next_1 0 M) M) M)
                (element_6 (element_8 (next_1 0 M) M) M) (element_7 (element_8 (next_1 0 M) M) M) then
        true && ccheck_0 (between_0 r 0 300) (lawK_s0 L) (lawK_s1 M) == rcheck_0 (between_0 r 0 300) (lawK_s0 L) (lawK_s1 M) &&
            ccheck_1 (between_0 r 0 300) (lawK_s0 L) (lawK_s1 M) == rcheck_1 (between_0 r 0 300) (lawK_s0 L) (lawK_s1 M) &&
          ccheck_2 (between_0 r 0 300) (lawK_s0 L) (lawK_s1 M) == rcheck_2 (between_0 r 0 300) (lawK_s0 L) (lawK_s1 M)
      else
        bif
            !rvalid_0 (element_0 (element_2 (element_2 (range_0 (-500) 500 0 L) (next_1 0 L) L) (element_8 (next_1 0 L) L) L) (element_8 (element_8 (next_1 0 L) L) L) L)
                  (element_0 (element_3 (element_3 0 (next_1 0 L) L) (element_8 (next_1 0 L) L) L) (element_8 (element_8 (next_1 0 L) L) L) L) (lawK_s2 L)
                  (element_3 (element_3 (element_3 0 (next_1 0 L) L) (element_8 (next_1 0 L) L) L) (element_8 (element_8 (next_1 0 L) L) L) L)
                  (element_4 (element_2 (element_2 (range_0 (-500) 500 0 L) (next_1 0 L) L) (element_8 (next_1 0 L) L) L) (element_8 (element_8 (next_1 0 L) L) L) L)
                  (element_5 (element_3 (element_3 0 (next_1 0 L) L) (element_8 (next_1 0 L) L) L) (element_8 (element_8 (next_1 0 L) L) L) L) (element_6 (element_8 (element_8 (next_1 0 L) L) L) L)
                  (element_7 (element_8 (element_8 (next_1 0 L) L) L) L) ||
              !rvalid_0 (element_0 (element_2 (element_2 0 (next_1 0 M) M) (element_8 (next_1 0 M) M) M) (element_8 (element_8 (next_1 0 M) M) M) M)
                  (element_0 (element_3 (element_3 (range_0 (-500) 500 0 M) (next_1 0 M) M) (element_8 (next_1 0 M) M) M) (element_8 (element_8 (next_1 0 M) M) M) M)
                  (element_2 (element_2 (element_2 0 (next_1 0 M) M) (element_8 (next_1 0 M) M) M) (element_8 (element_8 (next_1 0 M) M) M) M) (lawK_s3 M)
                  (element_4 (element_2 (element_2 0 (next_1 0 M) M) (element_8 (next_1 0 M) M) M) (element_8 (element_8 (next_1 0 M) M) M) M)
                  (element_5 (element_3 (element_3 (range_0 (-500) 500 0 M) (next_1 0 M) M) (element_8 (next_1 0 M) M) M) (element_8 (element_8 (next_1 0 M) M) M) M)
                  (element_6 (element_8 (element_8 (next_1 0 M) M) M) M) (element_7 (element_8 (element_8 (next_1 0 M) M) M) M) then
          true && ccheck_0 (between_0 r 0 300) (lawK_s4 L) (lawK_s5 M) == rcheck_0 (between_0 r 0 300) (lawK_s4 L) (lawK_s5 M) &&
              ccheck_1 (between_0 r 0 300) (lawK_s4 L) (lawK_s5 M) == rcheck_1 (between_0 r 0 300) (lawK_s4 L) (lawK_s5 M) &&
            ccheck_2 (between_0 r 0 300) (lawK_s4 L) (lawK_s5 M) == rcheck_2 (between_0 r 0 300) (lawK_s4 L) (lawK_s5 M)
        else
          bif
              !rvalid_0 (element_0 (lawK_s2 L) (element_8 (element_8 (element_8 (next_1 0 L) L) L) L) L)
                    (element_0 (element_3 (element_3 (element_3 0 (next_1 0 L) L) (element_8 (next_1 0 L) L) L) (element_8 (element_8 (next_1 0 L) L) L) L)
                      (element_8 (element_8 (element_8 (next_1 0 L) L) L) L) L)
                    (element_2 (lawK_s2 L) (element_8 (element_8 (element_8 (next_1 0 L) L) L) L) L)
                    (element_3 (element_3 (element_3 (element_3 0 (next_1 0 L) L) (element_8 (next_1 0 L) L) L) (element_8 (element_8 (next_1 0 L) L) L) L)
                      (element_8 (element_8 (element_8 (next_1 0 L) L) L) L) L)
                    (element_4 (lawK_s2 L) (element_8 (element_8 (element_8 (next_1 0 L) L) L) L) L)
                    (element_5 (element_3 (element_3 (element_3 0 (next_1 0 L) L) (element_8 (next_1 0 L) L) L) (element_8 (element_8 (next_1 0 L) L) L) L)
                      (element_8 (element_8 (element_8 (next_1 0 L) L) L) L) L)
                    (element_6 (element_8 (element_8 (element_8 (next_1 0 L) L) L) L) L) (element_7 (element_8 (element_8 (element_8 (next_1 0 L) L) L) L) L) ||
                !rvalid_0
                    (element_0 (element_2 (element_2 (element_2 0 (next_1 0 M) M) (element_8 (next_1 0 M) M) M) (element_8 (element_8 (next_1 0 M) M) M) M)
                      (element_8 (element_8 (element_8 (next_1 0 M) M) M) M) M)
                    (element_0 (lawK_s3 M) (element_8 (element_8 (element_8 (next_1 0 M) M) M) M) M)
                    (element_2 (element_2 (element_2 (element_2 0 (next_1 0 M) M) (element_8 (next_1 0 M) M) M) (element_8 (element_8 (next_1 0 M) M) M) M)
                      (element_8 (element_8 (element_8 (next_1 0 M) M) M) M) M)
                    (element_3 (lawK_s3 M) (element_8 (element_8 (element_8 (next_1 0 M) M) M) M) M)
                    (element_4 (element_2 (element_2 (element_2 0 (next_1 0 M) M) (element_8 (next_1 0 M) M) M) (element_8 (element_8 (next_1 0 M) M) M) M)
                      (element_8 (element_8 (element_8 (next_1 0 M) M) M) M) M)
                    (element_5 (lawK_s3 M) (element_8 (element_8 (element_8 (next_1 0 M) M) M) M) M) (element_6 (element_8 (element_8 (element_8 (next_1 0 M) M) M) M) M)
                    (element_7 (element_8 (element_8 (element_8 (next_1 0 M) M) M) M) M) then
            true && ccheck_0 (between_0 r 0 300) (lawK_s6 L) (lawK_s7 M) == rcheck_0 (between_0 r 0 300) (lawK_s6 L) (lawK_s7 M) &&
                ccheck_1 (between_0 r 0 300) (lawK_s6 L) (lawK_s7 M) == rcheck_1 (between_0 r 0 300) (lawK_s6 L) (lawK_s7 M) &&
              ccheck_2 (between_0 r 0 300) (lawK_s6 L) (lawK_s7 M) == rcheck_2 (between_0 r 0 300) (lawK_s6 L) (lawK_s7 M)
          else
            true && ccheck_0 (between_0 r 0 300) (lawK_s8 L) (lawK_s9 M) == rcheck_0 (between_0 r 0 300) (lawK_s8 L) (lawK_s9 M) &&
                ccheck_1 (between_0 r 0 300) (lawK_s8 L) (lawK_s9 M) == rcheck_1 (between_0 r 0 300) (lawK_s8 L) (lawK_s9 M) &&
              ccheck_2 (between_0 r 0 300) (lawK_s8 L) (lawK_s9 M) == rcheck_2 (between_0 r 0 300) (lawK_s8 L) (lawK_s9 M)
noncomputable def lawK_s10 (L : List (List Int)) (M : List (List Int)) : Prop :=
  (!rvalid_0 (element_0 (range_0 (-500) 500 0 L) (next_1 0 L) L) (element_0 0 (next_1 0 L) L) (element_2 (range_0 (-500) 500 0 L) (next_1 0 L) L) (element_3 0 (next_1 0 L) L)
          (element_4 (range_0 (-500) 500 0 L) (next_1 0 L) L) (element_5 0 (next_1 0 L) L) (element_6 (next_1 0 L) L) (element_7 (next_1 0 L) L) ||
      !rvalid_0 (element_0 0 (next_1 0 M) M) (element_0 (range_0 (-500) 500 0 M) (next_1 0 M) M) (element_2 0 (next_1 0 M) M) (element_3 (range_0 (-500) 500 0 M) (next_1 0 M) M)
          (element_4 0 (next_1 0 M) M) (element_5 (range_0 (-500) 500 0 M) (next_1 0 M) M) (element_6 (next_1 0 M) M) (element_7 (next_1 0 M) M)) =
    false
noncomputable def lawK_s11 (L : List (List Int)) (M : List (List Int)) : Prop :=
  (!rvalid_0 (element_0 (element_2 (range_0 (-500) 500 0 L) (next_1 0 L) L) (element_8 (next_1 0 L) L) L) (element_0 (element_3 0 (next_1 0 L) L) (element_8 (next_1 0 L) L) L)
          (element_2 (element_2 (range_0 (-500) 500 0 L) (next_1 0 L) L) (element_8 (next_1 0 L) L) L) (element_3 (element_3 0 (next_1 0 L) L) (element_8 (next_1 0 L) L) L)
          (element_4 (element_2 (range_0 (-500) 500 0 L) (next_1 0 L) L) (element_8 (next_1 0 L) L) L) (element_5 (element_3 0 (next_1 0 L) L) (element_8 (next_1 0 L) L) L)
          (element_6 (element_8 (next_1 0 L) L) L) (element_7 (element_8 (next_1 0 L) L) L) ||
      !rvalid_0 (element_0 (element_2 0 (next_1 0 M) M) (element_8 (next_1 0 M) M) M) (element_0 (element_3 (range_0 (-500) 500 0 M) (next_1 0 M) M) (element_8 (next_1 0 M) M) M)
          (element_2 (element_2 0 (next_1 0 M) M) (element_8 (next_1 0 M) M) M) (element_3 (element_3 (range_0 (-500) 500 0 M) (next_1 0 M) M) (element_8 (next_1 0 M) M) M)
          (element_4 (element_2 0 (next_1 0 M) M) (element_8 (next_1 0 M) M) M) (element_5 (element_3 (range_0 (-500) 500 0 M) (next_1 0 M) M) (element_8 (next_1 0 M) M) M)
          (element_6 (element_8 (next_1 0 M) M) M) (element_7 (element_8 (next_1 0 M) M) M)) =
    false
noncomputable def lawK_s12 (L : List (List Int)) : Int :=
  element_0 (element_2 (element_2 (range_0 (-500) 500 0 L) (next_1 0 L) L) (element_8 (next_1 0 L) L) L) (element_8 (element_8 (next_1 0 L) L) L) L
noncomputable def lawK_s13 (L : List (List Int)) : Int :=
  element_4 (element_2 (element_2 (range_0 (-500) 500 0 L) (next_1 0 L) L) (element_8 (next_1 0 L) L) L) (element_8 (element_8 (next_1 0 L) L) L) L
noncomputable def lawK_s14 (M : List (List Int)) : Int :=
  element_0 (element_3 (element_3 (range_0 (-500) 500 0 M) (next_1 0 M) M) (element_8 (next_1 0 M) M) M) (element_8 (element_8 (next_1 0 M) M) M) M
noncomputable def lawK_s15 (M : List (List Int)) : Int :=
  element_5 (element_3 (element_3 (range_0 (-500) 500 0 M) (next_1 0 M) M) (element_8 (next_1 0 M) M) M) (element_8 (element_8 (next_1 0 M) M) M) M
noncomputable def lawK_s16 (L : List (List Int)) (M : List (List Int)) : Prop :=
  (!rvalid_0 (lawK_s12 L) (element_0 (element_3 (element_3 0 (next_1 0 L) L) (element_8 (next_1 0 L) L) L) (element_8 (element_8 (next_1 0 L) L) L) L) (lawK_s2 L)
          (element_3 (element_3 (element_3 0 (next_1 0 L) L) (element_8 (next_1 0 L) L) L) (element_8 (element_8 (next_1 0 L) L) L) L) (lawK_s13 L)
          (element_5 (element_3 (element_3 0 (next_1 0 L) L) (element_8 (next_1 0 L) L) L) (element_8 (element_8 (next_1 0 L) L) L) L) (element_6 (element_8 (element_8 (next_1 0 L) L) L) L)
          (element_7 (element_8 (element_8 (next_1 0 L) L) L) L) ||
      !rvalid_0 (element_0 (element_2 (element_2 0 (next_1 0 M) M) (element_8 (next_1 0 M) M) M) (element_8 (element_8 (next_1 0 M) M) M) M) (lawK_s14 M)
          (element_2 (element_2 (element_2 0 (next_1 0 M) M) (element_8 (next_1 0 M) M) M) (element_8 (element_8 (next_1 0 M) M) M) M) (lawK_s3 M)
          (element_4 (element_2 (element_2 0 (next_1 0 M) M) (element_8 (next_1 0 M) M) M) (element_8 (element_8 (next_1 0 M) M) M) M) (lawK_s15 M) (element_6 (element_8 (element_8 (next_1 0 M) M) M) M)
          (element_7 (element_8 (element_8 (next_1 0 M) M) M) M)) =
    false
noncomputable def lawK_s17 (M : List (List Int)) : Prop :=
  [[element_0 0 (next_1 0 M) M, element_0 (range_0 (-500) 500 0 M) (next_1 0 M) M, element_2 0 (next_1 0 M) M, element_3 (range_0 (-500) 500 0 M) (next_1 0 M) M, element_4 0 (next_1 0 M) M,
          element_5 (range_0 (-500) 500 0 M) (next_1 0 M) M, element_6 (next_1 0 M) M, bif element_7 (next_1 0 M) M then 1 else 0]].length ≤
    1000000
noncomputable def lawK_s18 (M : List (List Int)) : Prop :=
  [[element_0 0 (next_1 0 M) M, element_0 (range_0 (-500) 500 0 M) (next_1 0 M) M, element_2 0 (next_1 0 M) M, element_3 (range_0 (-500) 500 0 M) (next_1 0 M) M, element_4 0 (next_1 0 M) M,
          element_5 (range_0 (-500) 500 0 M) (next_1 0 M) M, element_6 (next_1 0 M) M, bif element_7 (next_1 0 M) M then 1 else 0],
        [element_0 (element_2 0 (next_1 0 M) M) (element_8 (next_1 0 M) M) M, element_0 (element_3 (range_0 (-500) 500 0 M) (next_1 0 M) M) (element_8 (next_1 0 M) M) M,
          element_2 (element_2 0 (next_1 0 M) M) (element_8 (next_1 0 M) M) M, element_3 (element_3 (range_0 (-500) 500 0 M) (next_1 0 M) M) (element_8 (next_1 0 M) M) M,
          element_4 (element_2 0 (next_1 0 M) M) (element_8 (next_1 0 M) M) M, element_5 (element_3 (range_0 (-500) 500 0 M) (next_1 0 M) M) (element_8 (next_1 0 M) M) M,
          element_6 (element_8 (next_1 0 M) M) M, bif element_7 (element_8 (next_1 0 M) M) M then 1 else 0]].length ≤
    1000000
noncomputable def lawK_s19 (L : List (List Int)) : Int :=
  element_0 (element_3 (element_3 (element_3 0 (next_1 0 L) L) (element_8 (next_1 0 L) L) L) (element_8 (element_8 (next_1 0 L) L) L) L) (element_8 (element_8 (element_8 (next_1 0 L) L) L) L) L
noncomputable def lawK_s20 (L : List (List Int)) : Int :=
  element_3 (element_3 (element_3 (element_3 0 (next_1 0 L) L) (element_8 (next_1 0 L) L) L) (element_8 (element_8 (next_1 0 L) L) L) L) (element_8 (element_8 (element_8 (next_1 0 L) L) L) L) L
noncomputable def lawK_s21 (L : List (List Int)) : Int :=
  element_5 (element_3 (element_3 (element_3 0 (next_1 0 L) L) (element_8 (next_1 0 L) L) L) (element_8 (element_8 (next_1 0 L) L) L) L) (element_8 (element_8 (element_8 (next_1 0 L) L) L) L) L
noncomputable def lawK_s22 (M : List (List Int)) : Int :=
  element_0 (element_2 (element_2 (element_2 0 (next_1 0 M) M) (element_8 (next_1 0 M) M) M) (element_8 (element_8 (next_1 0 M) M) M) M) (element_8 (element_8 (element_8 (next_1 0 M) M) M) M) M
noncomputable def lawK_s23 (M : List (List Int)) : Int :=
  element_2 (element_2 (element_2 (element_2 0 (next_1 0 M) M) (element_8 (next_1 0 M) M) M) (element_8 (element_8 (next_1 0 M) M) M) M) (element_8 (element_8 (element_8 (next_1 0 M) M) M) M) M
noncomputable def lawK_s24 (M : List (List Int)) : Int :=
  element_4 (element_2 (element_2 (element_2 0 (next_1 0 M) M) (element_8 (next_1 0 M) M) M) (element_8 (element_8 (next_1 0 M) M) M) M) (element_8 (element_8 (element_8 (next_1 0 M) M) M) M) M
noncomputable def lawK_s25 (M : List (List Int)) : Prop :=
  [[element_0 0 (next_1 0 M) M, element_0 (range_0 (-500) 500 0 M) (next_1 0 M) M, element_2 0 (next_1 0 M) M, element_3 (range_0 (-500) 500 0 M) (next_1 0 M) M, element_4 0 (next_1 0 M) M,
          element_5 (range_0 (-500) 500 0 M) (next_1 0 M) M, element_6 (next_1 0 M) M, bif element_7 (next_1 0 M) M then 1 else 0],
        [element_0 (element_2 0 (next_1 0 M) M) (element_8 (next_1 0 M) M) M, element_0 (element_3 (range_0 (-500) 500 0 M) (next_1 0 M) M) (element_8 (next_1 0 M) M) M,
          element_2 (element_2 0 (next_1 0 M) M) (element_8 (next_1 0 M) M) M, element_3 (element_3 (range_0 (-500) 500 0 M) (next_1 0 M) M) (element_8 (next_1 0 M) M) M,
          element_4 (element_2 0 (next_1 0 M) M) (element_8 (next_1 0 M) M) M, element_5 (element_3 (range_0 (-500) 500 0 M) (next_1 0 M) M) (element_8 (next_1 0 M) M) M,
          element_6 (element_8 (next_1 0 M) M) M, bif element_7 (element_8 (next_1 0 M) M) M then 1 else 0],
        [element_0 (element_2 (element_2 0 (next_1 0 M) M) (element_8 (next_1 0 M) M) M) (element_8 (element_8 (next_1 0 M) M) M) M, lawK_s14 M,
          element_2 (element_2 (element_2 0 (next_1 0 M) M) (element_8 (next_1 0 M) M) M) (element_8 (element_8 (next_1 0 M) M) M) M, lawK_s3 M,
          element_4 (element_2 (element_2 0 (next_1 0 M) M) (element_8 (next_1 0 M) M) M) (element_8 (element_8 (next_1 0 M) M) M) M, lawK_s15 M, element_6 (element_8 (element_8 (next_1 0 M) M) M) M,
          bif element_7 (element_8 (element_8 (next_1 0 M) M) M) M then 1 else 0]].length ≤
    1000000
noncomputable def lawK_s26 (M : List (List Int)) : Prop :=
  [[element_0 0 (next_1 0 M) M, element_0 (range_0 (-500) 500 0 M) (next_1 0 M) M, element_2 0 (next_1 0 M) M, element_3 (range_0 (-500) 500 0 M) (next_1 0 M) M, element_4 0 (next_1 0 M) M,
          element_5 (range_0 (-500) 500 0 M) (next_1 0 M) M, element_6 (next_1 0 M) M, bif element_7 (next_1 0 M) M then 1 else 0],
        [element_0 (element_2 0 (next_1 0 M) M) (element_8 (next_1 0 M) M) M, element_0 (element_3 (range_0 (-500) 500 0 M) (next_1 0 M) M) (element_8 (next_1 0 M) M) M,
          element_2 (element_2 0 (next_1 0 M) M) (element_8 (next_1 0 M) M) M, element_3 (element_3 (range_0 (-500) 500 0 M) (next_1 0 M) M) (element_8 (next_1 0 M) M) M,
          element_4 (element_2 0 (next_1 0 M) M) (element_8 (next_1 0 M) M) M, element_5 (element_3 (range_0 (-500) 500 0 M) (next_1 0 M) M) (element_8 (next_1 0 M) M) M,
          element_6 (element_8 (next_1 0 M) M) M, bif element_7 (element_8 (next_1 0 M) M) M then 1 else 0],
        [element_0 (element_2 (element_2 0 (next_1 0 M) M) (element_8 (next_1 0 M) M) M) (element_8 (element_8 (next_1 0 M) M) M) M, lawK_s14 M,
          element_2 (element_2 (element_2 0 (next_1 0 M) M) (element_8 (next_1 0 M) M) M) (element_8 (element_8 (next_1 0 M) M) M) M, lawK_s3 M,
          element_4 (element_2 (element_2 0 (next_1 0 M) M) (element_8 (next_1 0 M) M) M) (element_8 (element_8 (next_1 0 M) M) M) M, lawK_s15 M, element_6 (element_8 (element_8 (next_1 0 M) M) M) M,
          bif element_7 (element_8 (element_8 (next_1 0 M) M) M) M then 1 else 0],
        [lawK_s22 M, element_0 (lawK_s3 M) (element_8 (element_8 (element_8 (next_1 0 M) M) M) M) M, lawK_s23 M, element_3 (lawK_s3 M) (element_8 (element_8 (element_8 (next_1 0 M) M) M) M) M,
          lawK_s24 M, element_5 (lawK_s3 M) (element_8 (element_8 (element_8 (next_1 0 M) M) M) M) M, element_6 (element_8 (element_8 (element_8 (next_1 0 M) M) M) M) M,
          bif element_7 (element_8 (element_8 (element_8 (next_1 0 M) M) M) M) M then 1 else 0]].length ≤
    1000000
noncomputable def lawK_needs (L : List (List Int)) (M : List (List Int)) : List Prop :=
  [(!light_0 L || !light_0 M) = false →
      Int.ofNat 0 ≤ 0 ∧
        L.length ≤ 1000000 ∧
          Int.ofNat 1001 ≠ 0 ∧
            Int.ofNat 0 ≤ 0 ∧
              M.length ≤ 1000000 ∧
                Int.ofNat 1001 ≠ 0 ∧
                  0 ≤ next_1 0 L ∧
                    L.length ≤ 1000000 ∧
                      0 ≤ next_1 0 M ∧
                        M.length ≤ 1000000 ∧
                          (lawK_s10 L M →
                              0 ≤ element_8 (next_1 0 L) L ∧
                                L.length ≤ 1000000 ∧
                                  0 ≤ element_8 (next_1 0 M) M ∧
                                    M.length ≤ 1000000 ∧
                                      (lawK_s11 L M →
                                        0 ≤ element_8 (element_8 (next_1 0 L) L) L ∧
                                          L.length ≤ 1000000 ∧
                                            0 ≤ element_8 (element_8 (next_1 0 M) M) M ∧
                                              M.length ≤ 1000000 ∧
                                                (lawK_s16 L M →
                                                  0 ≤ element_8 (element_8 (element_8 (next_1 0 L) L) L) L ∧
                                                    L.length ≤ 1000000 ∧ 0 ≤ element_8 (element_8 (element_8 (next_1 0 M) M) M) M ∧ M.length ≤ 1000000))) ∧
                            ((!rvalid_0 (element_0 (range_0 (-500) 500 0 L) (next_1 0 L) L) (element_0 0 (next_1 0 L) L) (element_2 (range_0 (-500) 500 0 L) (next_1 0 L) L) (element_3 0 (next_1 0 L) L)
                                        (element_4 (range_0 (-500) 500 0 L) (next_1 0 L) L) (element_5 0 (next_1 0 L) L) (element_6 (next_1 0 L) L) (element_7 (next_1 0 L) L) ||
                                    !rvalid_0 (element_0 0 (next_1 0 M) M) (element_0 (range_0 (-500) 500 0 M) (next_1 0 M) M) (element_2 0 (next_1 0 M) M)
                                        (element_3 (range_0 (-500) 500 0 M) (next_1 0 M) M) (element_4 0 (next_1 0 M) M) (element_5 (range_0 (-500) 500 0 M) (next_1 0 M) M) (element_6 (next_1 0 M) M)
                                        (element_7 (next_1 0 M) M)) =
                                  true →
                                Int.ofNat 301 ≠ 0) ∧
                              (lawK_s10 L M →
                                ((!rvalid_0 (element_0 (element_2 (range_0 (-500) 500 0 L) (next_1 0 L) L) (element_8 (next_1 0 L) L) L)
                                            (element_0 (element_3 0 (next_1 0 L) L) (element_8 (next_1 0 L) L) L)
                                            (element_2 (element_2 (range_0 (-500) 500 0 L) (next_1 0 L) L) (element_8 (next_1 0 L) L) L)
                                            (element_3 (element_3 0 (next_1 0 L) L) (element_8 (next_1 0 L) L) L)
                                            (element_4 (element_2 (range_0 (-500) 500 0 L) (next_1 0 L) L) (element_8 (next_1 0 L) L) L)
                                            (element_5 (element_3 0 (next_1 0 L) L) (element_8 (next_1 0 L) L) L) (element_6 (element_8 (next_1 0 L) L) L) (element_7 (element_8 (next_1 0 L) L) L) ||
                                        !rvalid_0 (element_0 (element_2 0 (next_1 0 M) M) (element_8 (next_1 0 M) M) M)
                                            (element_0 (element_3 (range_0 (-500) 500 0 M) (next_1 0 M) M) (element_8 (next_1 0 M) M) M)
                                            (element_2 (element_2 0 (next_1 0 M) M) (element_8 (next_1 0 M) M) M)
                                            (element_3 (element_3 (range_0 (-500) 500 0 M) (next_1 0 M) M) (element_8 (next_1 0 M) M) M)
                                            (element_4 (element_2 0 (next_1 0 M) M) (element_8 (next_1 0 M) M) M)
                                            (element_5 (element_3 (range_0 (-500) 500 0 M) (next_1 0 M) M) (element_8 (next_1 0 M) M) M) (element_6 (element_8 (next_1 0 M) M) M)
                                            (element_7 (element_8 (next_1 0 M) M) M)) =
                                      true →
                                    Int.ofNat 301 ≠ 0 ∧
                                      [[element_0 (range_0 (-500) 500 0 L) (next_1 0 L) L, element_0 0 (next_1 0 L) L, element_2 (range_0 (-500) 500 0 L) (next_1 0 L) L, element_3 0 (next_1 0 L) L,
                                                element_4 (range_0 (-500) 500 0 L) (next_1 0 L) L, element_5 0 (next_1 0 L) L, element_6 (next_1 0 L) L,
                                                bif element_7 (next_1 0 L) L then 1 else 0]].length ≤
                                          1000000 ∧
                                        lawK_s17 M ∧
                                          [[element_0 (range_0 (-500) 500 0 L) (next_1 0 L) L, element_0 0 (next_1 0 L) L, element_2 (range_0 (-500) 500 0 L) (next_1 0 L) L, element_3 0 (next_1 0 L) L,
                                                    element_4 (range_0 (-500) 500 0 L) (next_1 0 L) L, element_5 0 (next_1 0 L) L, element_6 (next_1 0 L) L,
                                                    bif element_7 (next_1 0 L) L then 1 else 0]].length ≤
                                              1000000 ∧
                                            lawK_s17 M ∧ lawK_s17 M) ∧
                                  (lawK_s11 L M →
                                    ((!rvalid_0 (lawK_s12 L) (element_0 (element_3 (element_3 0 (next_1 0 L) L) (element_8 (next_1 0 L) L) L) (element_8 (element_8 (next_1 0 L) L) L) L) (lawK_s2 L)
                                                (element_3 (element_3 (element_3 0 (next_1 0 L) L) (element_8 (next_1 0 L) L) L) (element_8 (element_8 (next_1 0 L) L) L) L) (lawK_s13 L)
                                                (element_5 (element_3 (element_3 0 (next_1 0 L) L) (element_8 (next_1 0 L) L) L) (element_8 (element_8 (next_1 0 L) L) L) L)
                                                (element_6 (element_8 (element_8 (next_1 0 L) L) L) L) (element_7 (element_8 (element_8 (next_1 0 L) L) L) L) ||
                                            !rvalid_0 (element_0 (element_2 (element_2 0 (next_1 0 M) M) (element_8 (next_1 0 M) M) M) (element_8 (element_8 (next_1 0 M) M) M) M) (lawK_s14 M)
                                                (element_2 (element_2 (element_2 0 (next_1 0 M) M) (element_8 (next_1 0 M) M) M) (element_8 (element_8 (next_1 0 M) M) M) M) (lawK_s3 M)
                                                (element_4 (element_2 (element_2 0 (next_1 0 M) M) (element_8 (next_1 0 M) M) M) (element_8 (element_8 (next_1 0 M) M) M) M) (lawK_s15 M)
                                                (element_6 (element_8 (element_8 (next_1 0 M) M) M) M) (element_7 (element_8 (element_8 (next_1 0 M) M) M) M)) =
                                          true →
                                        Int.ofNat 301 ≠ 0 ∧
                                          [[element_0 (range_0 (-500) 500 0 L) (next_1 0 L) L, element_0 0 (next_1 0 L) L, element_2 (range_0 (-500) 500 0 L) (next_1 0 L) L, element_3 0 (next_1 0 L) L,
                                                    element_4 (range_0 (-500) 500 0 L) (next_1 0 L) L, element_5 0 (next_1 0 L) L, element_6 (next_1 0 L) L, bif element_7 (next_1 0 L) L then 1 else 0],
                                                  [element_0 (element_2 (range_0 (-500) 500 0 L) (next_1 0 L) L) (element_8 (next_1 0 L) L) L,
                                                    element_0 (element_3 0 (next_1 0 L) L) (element_8 (next_1 0 L) L) L,
                                                    element_2 (element_2 (range_0 (-500) 500 0 L) (next_1 0 L) L) (element_8 (next_1 0 L) L) L,
                                                    element_3 (element_3 0 (next_1 0 L) L) (element_8 (next_1 0 L) L) L,
                                                    element_4 (element_2 (range_0 (-500) 500 0 L) (next_1 0 L) L) (element_8 (next_1 0 L) L) L,
                                                    element_5 (element_3 0 (next_1 0 L) L) (element_8 (next_1 0 L) L) L, element_6 (element_8 (next_1 0 L) L) L,
                                                    bif element_7 (element_8 (next_1 0 L) L) L then 1 else 0]].length ≤
                                              1000000 ∧
                                            lawK_s18 M ∧
                                              [[element_0 (range_0 (-500) 500 0 L) (next_1 0 L) L, element_0 0 (next_1 0 L) L, element_2 (range_0 (-500) 500 0 L) (next_1 0 L) L,
                                                        element_3 0 (next_1 0 L) L, element_4 (range_0 (-500) 500 0 L) (next_1 0 L) L, element_5 0 (next_1 0 L) L, element_6 (next_1 0 L) L,
                                                        bif element_7 (next_1 0 L) L then 1 else 0],
                                                      [element_0 (element_2 (range_0 (-500) 500 0 L) (next_1 0 L) L) (element_8 (next_1 0 L) L) L,
                                                        element_0 (element_3 0 (next_1 0 L) L) (element_8 (next_1 0 L) L) L,
                                                        element_2 (element_2 (range_0 (-500) 500 0 L) (next_1 0 L) L) (element_8 (next_1 0 L) L) L,
                                                        element_3 (element_3 0 (next_1 0 L) L) (element_8 (next_1 0 L) L) L,
                                                        element_4 (element_2 (range_0 (-500) 500 0 L) (next_1 0 L) L) (element_8 (next_1 0 L) L) L,
                                                        element_5 (element_3 0 (next_1 0 L) L) (element_8 (next_1 0 L) L) L, element_6 (element_8 (next_1 0 L) L) L,
                                                        bif element_7 (element_8 (next_1 0 L) L) L then 1 else 0]].length ≤
                                                  1000000 ∧
                                                lawK_s18 M ∧ lawK_s18 M) ∧
                                      (lawK_s16 L M →
                                        ((!rvalid_0 (element_0 (lawK_s2 L) (element_8 (element_8 (element_8 (next_1 0 L) L) L) L) L) (lawK_s19 L)
                                                    (element_2 (lawK_s2 L) (element_8 (element_8 (element_8 (next_1 0 L) L) L) L) L) (lawK_s20 L)
                                                    (element_4 (lawK_s2 L) (element_8 (element_8 (element_8 (next_1 0 L) L) L) L) L) (lawK_s21 L)
                                                    (element_6 (element_8 (element_8 (element_8 (next_1 0 L) L) L) L) L) (element_7 (element_8 (element_8 (element_8 (next_1 0 L) L) L) L) L) ||
                                                !rvalid_0 (lawK_s22 M) (element_0 (lawK_s3 M) (element_8 (element_8 (element_8 (next_1 0 M) M) M) M) M) (lawK_s23 M)
                                                    (element_3 (lawK_s3 M) (element_8 (element_8 (element_8 (next_1 0 M) M) M) M) M) (lawK_s24 M)
                                                    (element_5 (lawK_s3 M) (element_8 (element_8 (element_8 (next_1 0 M) M) M) M) M) (element_6 (element_8 (element_8 (element_8 (next_1 0 M) M) M) M) M)
                                                    (element_7 (element_8 (element_8 (element_8 (next_1 0 M) M) M) M) M)) =
                                              true →
                                            Int.ofNat 301 ≠ 0 ∧
                                              [[element_0 (range_0 (-500) 500 0 L) (next_1 0 L) L, element_0 0 (next_1 0 L) L, element_2 (range_0 (-500) 500 0 L) (next_1 0 L) L,
                                                        element_3 0 (next_1 0 L) L, element_4 (range_0 (-500) 500 0 L) (next_1 0 L) L, element_5 0 (next_1 0 L) L, element_6 (next_1 0 L) L,
                                                        bif element_7 (next_1 0 L) L then 1 else 0],
                                                      [element_0 (element_2 (range_0 (-500) 500 0 L) (next_1 0 L) L) (element_8 (next_1 0 L) L) L,
                                                        element_0 (element_3 0 (next_1 0 L) L) (element_8 (next_1 0 L) L) L,
                                                        element_2 (element_2 (range_0 (-500) 500 0 L) (next_1 0 L) L) (element_8 (next_1 0 L) L) L,
                                                        element_3 (element_3 0 (next_1 0 L) L) (element_8 (next_1 0 L) L) L,
                                                        element_4 (element_2 (range_0 (-500) 500 0 L) (next_1 0 L) L) (element_8 (next_1 0 L) L) L,
                                                        element_5 (element_3 0 (next_1 0 L) L) (element_8 (next_1 0 L) L) L, element_6 (element_8 (next_1 0 L) L) L,
                                                        bif element_7 (element_8 (next_1 0 L) L) L then 1 else 0],
                                                      [lawK_s12 L, element_0 (element_3 (element_3 0 (next_1 0 L) L) (element_8 (next_1 0 L) L) L) (element_8 (element_8 (next_1 0 L) L) L) L, lawK_s2 L,
                                                        element_3 (element_3 (element_3 0 (next_1 0 L) L) (element_8 (next_1 0 L) L) L) (element_8 (element_8 (next_1 0 L) L) L) L, lawK_s13 L,
                                                        element_5 (element_3 (element_3 0 (next_1 0 L) L) (element_8 (next_1 0 L) L) L) (element_8 (element_8 (next_1 0 L) L) L) L,
                                                        element_6 (element_8 (element_8 (next_1 0 L) L) L) L, bif element_7 (element_8 (element_8 (next_1 0 L) L) L) L then 1 else 0]].length ≤
                                                  1000000 ∧
                                                lawK_s25 M ∧
                                                  [[element_0 (range_0 (-500) 500 0 L) (next_1 0 L) L, element_0 0 (next_1 0 L) L, element_2 (range_0 (-500) 500 0 L) (next_1 0 L) L,
                                                            element_3 0 (next_1 0 L) L, element_4 (range_0 (-500) 500 0 L) (next_1 0 L) L, element_5 0 (next_1 0 L) L, element_6 (next_1 0 L) L,
                                                            bif element_7 (next_1 0 L) L then 1 else 0],
                                                          [element_0 (element_2 (range_0 (-500) 500 0 L) (next_1 0 L) L) (element_8 (next_1 0 L) L) L,
                                                            element_0 (element_3 0 (next_1 0 L) L) (element_8 (next_1 0 L) L) L,
                                                            element_2 (element_2 (range_0 (-500) 500 0 L) (next_1 0 L) L) (element_8 (next_1 0 L) L) L,
                                                            element_3 (element_3 0 (next_1 0 L) L) (element_8 (next_1 0 L) L) L,
                                                            element_4 (element_2 (range_0 (-500) 500 0 L) (next_1 0 L) L) (element_8 (next_1 0 L) L) L,
                                                            element_5 (element_3 0 (next_1 0 L) L) (element_8 (next_1 0 L) L) L, element_6 (element_8 (next_1 0 L) L) L,
                                                            bif element_7 (element_8 (next_1 0 L) L) L then 1 else 0],
                                                          [lawK_s12 L, element_0 (element_3 (element_3 0 (next_1 0 L) L) (element_8 (next_1 0 L) L) L) (element_8 (element_8 (next_1 0 L) L) L) L,
                                                            lawK_s2 L, element_3 (element_3 (element_3 0 (next_1 0 L) L) (element_8 (next_1 0 L) L) L) (element_8 (element_8 (next_1 0 L) L) L) L,
                                                            lawK_s13 L, element_5 (element_3 (element_3 0 (next_1 0 L) L) (element_8 (next_1 0 L) L) L) (element_8 (element_8 (next_1 0 L) L) L) L,
                                                            element_6 (element_8 (element_8 (next_1 0 L) L) L) L, bif element_7 (element_8 (element_8 (next_1 0 L) L) L) L then 1 else 0]].length ≤
                                                      1000000 ∧
                                                    lawK_s25 M ∧ lawK_s25 M) ∧
                                          ((!rvalid_0 (element_0 (lawK_s2 L) (element_8 (element_8 (element_8 (next_1 0 L) L) L) L) L) (lawK_s19 L)
                                                    (element_2 (lawK_s2 L) (element_8 (element_8 (element_8 (next_1 0 L) L) L) L) L) (lawK_s20 L)
                                                    (element_4 (lawK_s2 L) (element_8 (element_8 (element_8 (next_1 0 L) L) L) L) L) (lawK_s21 L)
                                                    (element_6 (element_8 (element_8 (element_8 (next_1 0 L) L) L) L) L) (element_7 (element_8 (element_8 (element_8 (next_1 0 L) L) L) L) L) ||
                                                !rvalid_0 (lawK_s22 M) (element_0 (lawK_s3 M) (element_8 (element_8 (element_8 (next_1 0 M) M) M) M) M) (lawK_s23 M)
                                                    (element_3 (lawK_s3 M) (element_8 (element_8 (element_8 (next_1 0 M) M) M) M) M) (lawK_s24 M)
                                                    (element_5 (lawK_s3 M) (element_8 (element_8 (element_8 (next_1 0 M) M) M) M) M) (element_6 (element_8 (element_8 (element_8 (next_1 0 M) M) M) M) M)
                                                    (element_7 (element_8 (element_8 (element_8 (next_1 0 M) M) M) M) M)) =
                                              false →
                                            Int.ofNat 301 ≠ 0 ∧
                                              [[element_0 (range_0 (-500) 500 0 L) (next_1 0 L) L, element_0 0 (next_1 0 L) L, element_2 (range_0 (-500) 500 0 L) (next_1 0 L) L,
                                                        element_3 0 (next_1 0 L) L, element_4 (range_0 (-500) 500 0 L) (next_1 0 L) L, element_5 0 (next_1 0 L) L, element_6 (next_1 0 L) L,
                                                        bif element_7 (next_1 0 L) L then 1 else 0],
                                                      [element_0 (element_2 (range_0 (-500) 500 0 L) (next_1 0 L) L) (element_8 (next_1 0 L) L) L,
                                                        element_0 (element_3 0 (next_1 0 L) L) (element_8 (next_1 0 L) L) L,
                                                        element_2 (element_2 (range_0 (-500) 500 0 L) (next_1 0 L) L) (element_8 (next_1 0 L) L) L,
                                                        element_3 (element_3 0 (next_1 0 L) L) (element_8 (next_1 0 L) L) L,
                                                        element_4 (element_2 (range_0 (-500) 500 0 L) (next_1 0 L) L) (element_8 (next_1 0 L) L) L,
                                                        element_5 (element_3 0 (next_1 0 L) L) (element_8 (next_1 0 L) L) L, element_6 (element_8 (next_1 0 L) L) L,
                                                        bif element_7 (element_8 (next_1 0 L) L) L then 1 else 0],
                                                      [lawK_s12 L, element_0 (element_3 (element_3 0 (next_1 0 L) L) (element_8 (next_1 0 L) L) L) (element_8 (element_8 (next_1 0 L) L) L) L, lawK_s2 L,
                                                        element_3 (element_3 (element_3 0 (next_1 0 L) L) (element_8 (next_1 0 L) L) L) (element_8 (element_8 (next_1 0 L) L) L) L, lawK_s13 L,
                                                        element_5 (element_3 (element_3 0 (next_1 0 L) L) (element_8 (next_1 0 L) L) L) (element_8 (element_8 (next_1 0 L) L) L) L,
                                                        element_6 (element_8 (element_8 (next_1 0 L) L) L) L, bif element_7 (element_8 (element_8 (next_1 0 L) L) L) L then 1 else 0],
                                                      [element_0 (lawK_s2 L) (element_8 (element_8 (element_8 (next_1 0 L) L) L) L) L, lawK_s19 L,
                                                        element_2 (lawK_s2 L) (element_8 (element_8 (element_8 (next_1 0 L) L) L) L) L, lawK_s20 L,
                                                        element_4 (lawK_s2 L) (element_8 (element_8 (element_8 (next_1 0 L) L) L) L) L, lawK_s21 L,
                                                        element_6 (element_8 (element_8 (element_8 (next_1 0 L) L) L) L) L,
                                                        bif element_7 (element_8 (element_8 (element_8 (next_1 0 L) L) L) L) L then 1 else 0]].length ≤
                                                  1000000 ∧
                                                lawK_s26 M ∧
                                                  [[element_0 (range_0 (-500) 500 0 L) (next_1 0 L) L, element_0 0 (next_1 0 L) L, element_2 (range_0 (-500) 500 0 L) (next_1 0 L) L,
                                                            element_3 0 (next_1 0 L) L, element_4 (range_0 (-500) 500 0 L) (next_1 0 L) L, element_5 0 (next_1 0 L) L, element_6 (next_1 0 L) L,
                                                            bif element_7 (next_1 0 L) L then 1 else 0],
                                                          [element_0 (element_2 (range_0 (-500) 500 0 L) (next_1 0 L) L) (element_8 (next_1 0 L) L) L,
                                                            element_0 (element_3 0 (next_1 0 L) L) (element_8 (next_1 0 L) L) L,
                                                            element_2 (element_2 (range_0 (-500) 500 0 L) (next_1 0 L) L) (element_8 (next_1 0 L) L) L,
                                                            element_3 (element_3 0 (next_1 0 L) L) (element_8 (next_1 0 L) L) L,
                                                            element_4 (element_2 (range_0 (-500) 500 0 L) (next_1 0 L) L) (element_8 (next_1 0 L) L) L,
                                                            element_5 (element_3 0 (next_1 0 L) L) (element_8 (next_1 0 L) L) L, element_6 (element_8 (next_1 0 L) L) L,
                                                            bif element_7 (element_8 (next_1 0 L) L) L then 1 else 0],
                                                          [lawK_s12 L, element_0 (element_3 (element_3 0 (next_1 0 L) L) (element_8 (next_1 0 L) L) L) (element_8 (element_8 (next_1 0 L) L) L) L,
                                                            lawK_s2 L, element_3 (element_3 (element_3 0 (next_1 0 L) L) (element_8 (next_1 0 L) L) L) (element_8 (element_8 (next_1 0 L) L) L) L,
                                                            lawK_s13 L, element_5 (element_3 (element_3 0 (next_1 0 L) L) (element_8 (next_1 0 L) L) L) (element_8 (element_8 (next_1 0 L) L) L) L,
                                                            element_6 (element_8 (element_8 (next_1 0 L) L) L) L, bif element_7 (element_8 (element_8 (next_1 0 L) L) L) L then 1 else 0],
                                                          [element_0 (lawK_s2 L) (element_8 (element_8 (element_8 (next_1 0 L) L) L) L) L, lawK_s19 L,
                                                            element_2 (lawK_s2 L) (element_8 (element_8 (element_8 (next_1 0 L) L) L) L) L, lawK_s20 L,
                                                            element_4 (lawK_s2 L) (element_8 (element_8 (element_8 (next_1 0 L) L) L) L) L, lawK_s21 L,
                                                            element_6 (element_8 (element_8 (element_8 (next_1 0 L) L) L) L) L,
                                                            bif element_7 (element_8 (element_8 (element_8 (next_1 0 L) L) L) L) L then 1 else 0]].length ≤
                                                      1000000 ∧
                                                    lawK_s26 M ∧ lawK_s26 M))))]
theorem lawK_0_eq (r : Int) (L M : List (List Int)) : (lawK_0 r L M) = true := by
  unfold lawK_0
  cases !light_0 L || !light_0 M
  · rw [cond_false]
    have uL := range_rng (-500) 500 0 L (by omega) (by omega) (by omega)
    have uM := range_rng (-500) 500 0 M (by omega) (by omega) (by omega)
    obtain ⟨a1, a2, a3, a4⟩ := chain (u := range_0 (-500) 500 0 L) (v := 0) (a := next_1 0 L) L (by omega) (by decide)
    obtain ⟨b1, b2, b3, b4⟩ := chain (u := 0) (v := range_0 (-500) 500 0 M) (a := next_1 0 M) M (by decide) (by omega)
    have hr : bd 1000 (between_0 r 0 300) := by have := between_rng r 0 300 (by omega) (by omega) (by omega); omega
    have s0 : EPs (lawK_s0 L) := a1
    have s1 : EPs (lawK_s1 M) := b1
    have s4 : EPs (lawK_s4 L) := a2
    have s5 : EPs (lawK_s5 M) := b2
    have s6 : EPs (lawK_s6 L) := a3
    have s7 : EPs (lawK_s7 M) := b3
    have s8 : EPs (lawK_s8 L) := a4
    have s9 : EPs (lawK_s9 M) := b4
    obtain ⟨x1, x2, x3⟩ := check_eq s0 s1 hr
    obtain ⟨y1, y2, y3⟩ := check_eq s4 s5 hr
    obtain ⟨z1, z2, z3⟩ := check_eq s6 s7 hr
    obtain ⟨w1, w2, w3⟩ := check_eq s8 s9 hr
    rw [x1, x2, x3, y1, y2, y3, z1, z2, z3, w1, w2, w3]
    simp only [beq_self_eq_true, Bool.and_self]
    simp
  · rfl
theorem lawK_need {L : List (List Int)} {M : List (List Int)} : ∀ q ∈ (lawK_needs L M), q := by
  unfold lawK_needs
  simp only [List.forall_mem_cons, List.not_mem_nil, false_implies, implies_true, and_true]
  intro h
  obtain ⟨h1, h2⟩ := light_two h
  have p0 := next_1_nn 0 L (by omega) h1
  have p1 := element_8_nn _ L p0 h1
  have p2 := element_8_nn _ L p1 h1
  have p3 := element_8_nn _ L p2 h1
  have q0 := next_1_nn 0 M (by omega) h2
  have q1 := element_8_nn _ M q0 h2
  have q2 := element_8_nn _ M q1 h2
  have q3 := element_8_nn _ M q2 h2
  have c0 : Int.ofNat 0 ≤ 0 := by decide
  have c1 : Int.ofNat 1001 ≠ 0 := by decide
  have c2 : Int.ofNat 301 ≠ 0 := by decide
  have l1 : (1 : Nat) ≤ 1000000 := by decide
  have l2 : (2 : Nat) ≤ 1000000 := by decide
  have l3 : (3 : Nat) ≤ 1000000 := by decide
  have l4 : (4 : Nat) ≤ 1000000 := by decide
  repeat' (first | assumption | exact l1 | exact l2 | exact l3 | exact l4 | refine And.intro ?_ ?_ | intro _)
set_option maxRecDepth 1000000 in
theorem lawK_runs (r : Int) (L M : List (List Int)) (hNeeds : ∀ pN ∈ (lawK_needs L M), pN) : Runs (runF (sums K_rcheckNN) L_rko 9) (lawK_tpl.args [.i r]) (lawK_tpl.memo [.i r] [L, M]) lawK_tpl.n (SV.one (SC.bool (SB.v (lawK_0 r L M))))
    ([(0, Obj.row true 3 1 (RowC.lst 2 [CK.int IntKind.i64] L)), (1, Obj.row true 3 1 (RowC.lst 3 [CK.int IntKind.i64] M))]) :=
  Runs.of (ps := (lawK_needs L M)) (by kernel_rfl) (by kernel_rfl) hNeeds
noncomputable def lawK_out : List Pm → Lss → Option CRes
  | [.i r], [L, M] => some ⟨SV.one (SC.bool (SB.v (lawK_0 r L M))),
    [(0, Obj.row true 3 1 (RowC.lst 2 [CK.int IntKind.i64] L)), (1, Obj.row true 3 1 (RowC.lst 3 [CK.int IntKind.i64] M))],
    [], [], 33638⟩
  | _, _ => none
theorem lawK_ok : FOk Try.prog 9 (tplS lawK_tpl lawK_out) := by
  refine tplS_ok (runF_ok known_rcheckNN 9) fun ps ls r hr hn _ => ?_
  unfold lawK_out at hr
  split at hr
  · cases hr; exact ⟨_, lawK_runs _ _ _ (fun p hp => lawK_need p hp), fun _ => by simp only [SV.den, SC.den, SB.val, lawK_0_eq]⟩
  · cases hr
noncomputable def K_lawK : List (Nat × Summ) := (9, tplS lawK_tpl lawK_out) :: K_rcheckNN
theorem known_lawK : Known Try.prog (sums K_lawK) L_rko := known_cons known_rcheckNN lawK_ok
end Go.Proofs.Ythgiaoidekdpfaa
