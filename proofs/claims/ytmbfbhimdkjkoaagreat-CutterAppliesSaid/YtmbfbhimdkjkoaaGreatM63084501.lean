/-
  Texts of one claim, laid together. Conditions: none.
-/
import Derived.Test.YtmbfbhimdkjkoaaGreatM3401dbb6
import Derived.Test.YtmbfbhimdkjkoaaGreatM1aa475e9
set_option linter.all false
set_option maxRecDepth 1000000
namespace Go.Proofs.YtmbfbhimdkjkoaaGreat
noncomputable section
open Go.SX Go.RowKit
def JJG:Tpl := ⟨[],[],0⟩
def JnS:Jn := [(2,Obj.blk 74 [(3,SC.bool (SB.c false)),(4,SC.bool (SB.c false)),(5,SC.int IntKind.i64 (SI.c 0)),(6,SC.bool (SB.c false)),(7,SC.bool (SB.c false)),(8,SC.int IntKind.i64 (SI.c 0)),(9,SC.int IntKind.i64 (SI.c 0)),(10,SC.int IntKind.i64 (SI.c 0)),(11,SC.int IntKind.i64 (SI.c 0)),(12,SC.int IntKind.i64 (SI.c 0)),(13,SC.int IntKind.i64 (SI.c 0)),(14,SC.int IntKind.i64 (SI.c 0)),(15,SC.int IntKind.i64 (SI.c 0)),(16,SC.int IntKind.i64 (SI.c 0)),(17,SC.int IntKind.i64 (SI.c 0)),(18,SC.int IntKind.i64 (SI.c 0)),(19,SC.int IntKind.i64 (SI.c 0)),(20,SC.int IntKind.i64 (SI.c 0)),(21,SC.int IntKind.i64 (SI.c 0)),(22,SC.int IntKind.i64 (SI.c 0)),(23,SC.int IntKind.i64 (SI.c 0)),(24,SC.bool (SB.c false)),(25,SC.int IntKind.i64 (SI.c 0)),(26,SC.bool (SB.c false)),(27,SC.int IntKind.i64 (SI.c 0)),(28,SC.int IntKind.i64 (SI.c 0)),(29,SC.int IntKind.i64 (SI.c 0)),(30,SC.int IntKind.i64 (SI.c 0)),(31,SC.int IntKind.i64 (SI.c 0)),(32,SC.bool (SB.c false)),(66,SC.wh 64),(34,SC.bool (SB.c false)),(35,SC.int IntKind.i64 (SI.c 0)),(36,SC.int IntKind.i64 (SI.c 0)),(37,SC.int IntKind.i64 (SI.c 0)),(38,SC.int IntKind.i64 (SI.c 0)),(39,SC.int IntKind.i64 (SI.c 0)),(40,SC.int IntKind.i64 (SI.c 0)),(41,SC.int IntKind.i64 (SI.c 0)),(42,SC.int IntKind.i64 (SI.c 0)),(43,SC.int IntKind.i64 (SI.c 0)),(44,SC.int IntKind.i64 (SI.c 0)),(45,SC.int IntKind.i64 (SI.c 0)),(46,SC.int IntKind.i64 (SI.c 0)),(47,SC.int IntKind.i64 (SI.c 0)),(48,SC.bool (SB.c false)),(49,SC.int IntKind.i64 (SI.c 0)),(50,SC.bool (SB.c false)),(51,SC.int IntKind.i64 (SI.c 0)),(52,SC.int IntKind.i64 (SI.c 0)),(53,SC.int IntKind.i64 (SI.c 0)),(54,SC.int IntKind.i64 (SI.c 0)),(55,SC.int IntKind.i64 (SI.c 0)),(56,SC.bool (SB.c false)),(57,SC.int IntKind.i64 (SI.c 0)),(58,SC.int IntKind.i64 (SI.c 0)),(59,SC.bool (SB.c false)),(60,SC.int IntKind.i64 (SI.c 0)),(61,SC.int IntKind.i64 (SI.c 0))]),(64,Obj.row true 40 22 (RowC.lit 65 []))]
theorem Jow:Runs (JHn (JC Jdf) jQ 31) (JJG.args []) (JJG.memo [] []) JJG.n (SV.one (SC.ptr 2 0)) (JnS) :=
  Runs.of1 (ps := []) (by kernel_rfl) (by simp)
def JZ2:List Pm → Qs → Option CRes
  | [],[] => some ⟨SV.one (SC.ptr 2 0),JnS,[],[],67⟩
  | _,_ => none
theorem JvL:Ql Tryz.prog 31 (JU JJG JZ2) := by
  refine JI (KI JUR 31) fun ps ls r hr hn _ => ?_
  unfold JZ2 at hr
  split at hr
  · cases hr; exact ⟨_,Jow,fun _ => rfl⟩
  · cases hr
def JkJ:List (Nat × JY) := (31,JU JJG JZ2) :: Jdf
theorem Jac:Known Tryz.prog (JC JkJ) jQ := J7 JUR JvL
def JG5:Tpl := ⟨[.one (.ptr 0 0),.agg pI],YH,62⟩
def JO4:List GK := [.v Q5,.b,.b,.i,.b,.b,.i,.i,.i,.v Q5,.b,.v Q5,.i,.i,.b,.i,.i]
section
variable (x:List GC) (rcl rop:Bool) (rer:Int) (rmo ren:Bool) (rla0 rla1 rla2:Int) (l:List GC) (has:Bool) (y:List GC) (st0 st1:Int) (rtr:Bool) (pn1 pn0:Int) (C:LL) (q0:Nat) (q1:Int)
def Z2:Int:= QC (J2 x) rcl rop rmo ren rla0 rla1 rla2 (J2 l) has (J2 y) st0 st1 rtr C
def ZT:Int:= bif rer != 0 then rer else bif Z2 x rcl rop rmo ren rla0 rla1 rla2 l has y st0 st1 rtr C != 0 then Z2 x rcl rop rmo ren rla0 rla1 rla2 l has y st0 st1 rtr C else 0
def KQ:LL:= bif rer != 0 then [] else bif QC (J2 x) rcl rop rmo ren rla0 rla1 rla2 (J2 l) has (J2 y) st0 st1 rtr C != 0 then [] else YS (J2 x) rcl rop rmo ren rla0 rla1 rla2 (J2 l) has (J2 y) st0 st1 rtr C
def JBO:Bool:= bif rer != 0 then rcl else bif QC (J2 x) rcl rop rmo ren rla0 rla1 rla2 (J2 l) has (J2 y) st0 st1 rtr C != 0 then rcl else rcl
def JDe:Bool:= bif rer != 0 then rop else bif QC (J2 x) rcl rop rmo ren rla0 rla1 rla2 (J2 l) has (J2 y) st0 st1 rtr C != 0 then rop else JE6 (J2 x) rcl rop rmo ren rla0 rla1 rla2 (J2 l) has (J2 y) st0 st1 rtr
def JBE:Int:= bif rer != 0 then rer else bif Z2 x rcl rop rmo ren rla0 rla1 rla2 l has y st0 st1 rtr C != 0 then Z2 x rcl rop rmo ren rla0 rla1 rla2 l has y st0 st1 rtr C else rer
def JEI:Bool:= bif rer != 0 then rmo else bif QC (J2 x) rcl rop rmo ren rla0 rla1 rla2 (J2 l) has (J2 y) st0 st1 rtr C != 0 then rmo else JDo (J2 x) rcl rmo ren rla0 rla1 rla2
def JEJ:Bool:= bif rer != 0 then ren else bif QC (J2 x) rcl rop rmo ren rla0 rla1 rla2 (J2 l) has (J2 y) st0 st1 rtr C != 0 then ren else JEG (J2 x) rcl rmo ren rla0 rla1 rla2
def JDp:Int:= bif rer != 0 then rla0 else bif QC (J2 x) rcl rop rmo ren rla0 rla1 rla2 (J2 l) has (J2 y) st0 st1 rtr C != 0 then rla0 else JDV (J2 x) rcl rmo ren rla0 rla1 rla2
def JEV:Int:= bif rer != 0 then rla1 else bif QC (J2 x) rcl rop rmo ren rla0 rla1 rla2 (J2 l) has (J2 y) st0 st1 rtr C != 0 then rla1 else JDy (J2 x) rcl rmo ren rla0 rla1 rla2
def JDn:Int:= bif rer != 0 then rla2 else bif QC (J2 x) rcl rop rmo ren rla0 rla1 rla2 (J2 l) has (J2 y) st0 st1 rtr C != 0 then rla2 else JDw (J2 x) rcl rmo ren rla0 rla1 rla2
def QG:Int:= bif rer != 0 then xi l q0 else bif QC (J2 x) rcl rop rmo ren rla0 rla1 rla2 (J2 l) has (J2 y) st0 st1 rtr C != 0 then xi l q0 else q1
def kR:Int:= QG x rcl rop rer rmo ren rla0 rla1 rla2 l has y st0 st1 rtr C 0 (JDq (J2 x) rcl rop rmo ren rla0 rla1 rla2 (J2 l))
def kW:Int:= QG x rcl rop rer rmo ren rla0 rla1 rla2 l has y st0 st1 rtr C 1 (JDx (J2 x) rcl rop rmo ren rla0 rla1 rla2 (J2 l))
def z8:Int:= QG x rcl rop rer rmo ren rla0 rla1 rla2 l has y st0 st1 rtr C 2 (JA2 (J2 x) rcl rop rmo ren rla0 rla1 rla2 (J2 l))
def zL:Int:= QG x rcl rop rer rmo ren rla0 rla1 rla2 l has y st0 st1 rtr C 3 (kX (J2 x) rcl rop rmo ren rla0 rla1 rla2 (J2 l))
def qz:Int:= QG x rcl rop rer rmo ren rla0 rla1 rla2 l has y st0 st1 rtr C 4 (kw (J2 x) rcl rop rmo ren rla0 rla1 rla2 (J2 l))
def JA5:Int:= QG x rcl rop rer rmo ren rla0 rla1 rla2 l has y st0 st1 rtr C 5 (kt (J2 x) rcl rop rmo ren rla0 rla1 rla2 (J2 l))
def kF:Int:= QG x rcl rop rer rmo ren rla0 rla1 rla2 l has y st0 st1 rtr C 6 (qF (J2 x) rcl rop rmo ren rla0 rla1 rla2 (J2 l))
def qW:Int:= QG x rcl rop rer rmo ren rla0 rla1 rla2 l has y st0 st1 rtr C 7 (qu (J2 x) rcl rop rmo ren rla0 rla1 rla2 (J2 l))
def ku:Int:= QG x rcl rop rer rmo ren rla0 rla1 rla2 l has y st0 st1 rtr C 8 (zV (J2 x) rcl rop rmo ren rla0 rla1 rla2 (J2 l))
def qY:Int:= QG x rcl rop rer rmo ren rla0 rla1 rla2 l has y st0 st1 rtr C 9 (zp (J2 x) rcl rop rmo ren rla0 rla1 rla2 (J2 l))
def zc:Int:= QG x rcl rop rer rmo ren rla0 rla1 rla2 l has y st0 st1 rtr C 10 (zT (J2 x) rcl rop rmo ren rla0 rla1 rla2 (J2 l))
def qM:Int:= QG x rcl rop rer rmo ren rla0 rla1 rla2 l has y st0 st1 rtr C 11 (qL (J2 x) rcl rop rmo ren rla0 rla1 rla2 (J2 l))
def kI:Int:= QG x rcl rop rer rmo ren rla0 rla1 rla2 l has y st0 st1 rtr C 12 (kv (J2 x) rcl rop rmo ren rla0 rla1 rla2 (J2 l))
def zD:Bool:= bif rer != 0 then xb l 13 else bif QC (J2 x) rcl rop rmo ren rla0 rla1 rla2 (J2 l) has (J2 y) st0 st1 rtr C != 0 then xb l 13 else qH (J2 x) rcl rop rmo ren rla0 rla1 rla2 (J2 l)
def kP:Int:= QG x rcl rop rer rmo ren rla0 rla1 rla2 l has y st0 st1 rtr C 14 (qp (J2 x) rcl rop rmo ren rla0 rla1 rla2 (J2 l))
def kO:Bool:= bif rer != 0 then xb l 15 else bif QC (J2 x) rcl rop rmo ren rla0 rla1 rla2 (J2 l) has (J2 y) st0 st1 rtr C != 0 then xb l 15 else qZ (J2 x) rcl rop rmo ren rla0 rla1 rla2 (J2 l)
def qe:Int:= QG x rcl rop rer rmo ren rla0 rla1 rla2 l has y st0 st1 rtr C 16 (zR (J2 x) rcl rop rmo ren rla0 rla1 rla2 (J2 l))
def qk:Int:= QG x rcl rop rer rmo ren rla0 rla1 rla2 l has y st0 st1 rtr C 17 (qS (J2 x) rcl rop rmo ren rla0 rla1 rla2 (J2 l))
def kJ:Int:= QG x rcl rop rer rmo ren rla0 rla1 rla2 l has y st0 st1 rtr C 18 (zJ (J2 x) rcl rop rmo ren rla0 rla1 rla2 (J2 l))
def qG:Int:= QG x rcl rop rer rmo ren rla0 rla1 rla2 l has y st0 st1 rtr C 19 (qy (J2 x) rcl rop rmo ren rla0 rla1 rla2 (J2 l))
def ze:Int:= QG x rcl rop rer rmo ren rla0 rla1 rla2 l has y st0 st1 rtr C 20 (qm (J2 x) rcl rop rmo ren rla0 rla1 rla2 (J2 l))
def zf:Bool:= bif rer != 0 then xb l 21 else bif QC (J2 x) rcl rop rmo ren rla0 rla1 rla2 (J2 l) has (J2 y) st0 st1 rtr C != 0 then xb l 21 else qU (J2 x) rcl rop rmo ren rla0 rla1 rla2 (J2 l)
def JA0:Bool:= bif rer != 0 then has else bif QC (J2 x) rcl rop rmo ren rla0 rla1 rla2 (J2 l) has (J2 y) st0 st1 rtr C != 0 then has else qi (J2 x) rcl rop rmo ren rla0 rla1 rla2 (J2 l) has (J2 y) st0 st1 rtr
def QH:Int:= bif rer != 0 then xi y q0 else bif QC (J2 x) rcl rop rmo ren rla0 rla1 rla2 (J2 l) has (J2 y) st0 st1 rtr C != 0 then xi y q0 else q1
def zu:Int:= QH x rcl rop rer rmo ren rla0 rla1 rla2 l has y st0 st1 rtr C 0 (JA6 (J2 x) rcl rop rmo ren rla0 rla1 rla2 (J2 l) has (J2 y) st0 st1 rtr)
def qj:Int:= QH x rcl rop rer rmo ren rla0 rla1 rla2 l has y st0 st1 rtr C 1 (zZ (J2 x) rcl rop rmo ren rla0 rla1 rla2 (J2 l) has (J2 y) st0 st1 rtr)
def zH:Int:= QH x rcl rop rer rmo ren rla0 rla1 rla2 l has y st0 st1 rtr C 2 (kT (J2 x) rcl rop rmo ren rla0 rla1 rla2 (J2 l) has (J2 y) st0 st1 rtr)
def qT:Int:= QH x rcl rop rer rmo ren rla0 rla1 rla2 l has y st0 st1 rtr C 3 (ke (J2 x) rcl rop rmo ren rla0 rla1 rla2 (J2 l) has (J2 y) st0 st1 rtr)
def qf:Int:= QH x rcl rop rer rmo ren rla0 rla1 rla2 l has y st0 st1 rtr C 4 (ql (J2 x) rcl rop rmo ren rla0 rla1 rla2 (J2 l) has (J2 y) st0 st1 rtr)
def kL:Int:= QH x rcl rop rer rmo ren rla0 rla1 rla2 l has y st0 st1 rtr C 5 (kc (J2 x) rcl rop rmo ren rla0 rla1 rla2 (J2 l) has (J2 y) st0 st1 rtr)
def qg:Int:= QH x rcl rop rer rmo ren rla0 rla1 rla2 l has y st0 st1 rtr C 6 (kM (J2 x) rcl rop rmo ren rla0 rla1 rla2 (J2 l) has (J2 y) st0 st1 rtr)
def qx:Int:= QH x rcl rop rer rmo ren rla0 rla1 rla2 l has y st0 st1 rtr C 7 (qV (J2 x) rcl rop rmo ren rla0 rla1 rla2 (J2 l) has (J2 y) st0 st1 rtr)
def k8:Int:= QH x rcl rop rer rmo ren rla0 rla1 rla2 l has y st0 st1 rtr C 8 (zm (J2 x) rcl rop rmo ren rla0 rla1 rla2 (J2 l) has (J2 y) st0 st1 rtr)
def qv:Int:= QH x rcl rop rer rmo ren rla0 rla1 rla2 l has y st0 st1 rtr C 9 (zQ (J2 x) rcl rop rmo ren rla0 rla1 rla2 (J2 l) has (J2 y) st0 st1 rtr)
def zt:Int:= QH x rcl rop rer rmo ren rla0 rla1 rla2 l has y st0 st1 rtr C 10 (zF (J2 x) rcl rop rmo ren rla0 rla1 rla2 (J2 l) has (J2 y) st0 st1 rtr)
def ky:Int:= QH x rcl rop rer rmo ren rla0 rla1 rla2 l has y st0 st1 rtr C 11 (zz (J2 x) rcl rop rmo ren rla0 rla1 rla2 (J2 l) has (J2 y) st0 st1 rtr)
def zw:Int:= QH x rcl rop rer rmo ren rla0 rla1 rla2 l has y st0 st1 rtr C 12 (zj (J2 x) rcl rop rmo ren rla0 rla1 rla2 (J2 l) has (J2 y) st0 st1 rtr)
def kU:Bool:= bif rer != 0 then xb y 13 else bif QC (J2 x) rcl rop rmo ren rla0 rla1 rla2 (J2 l) has (J2 y) st0 st1 rtr C != 0 then xb y 13 else kr (J2 x) rcl rop rmo ren rla0 rla1 rla2 (J2 l) has (J2 y) st0 st1 rtr
def kn:Int:= QH x rcl rop rer rmo ren rla0 rla1 rla2 l has y st0 st1 rtr C 14 (kN (J2 x) rcl rop rmo ren rla0 rla1 rla2 (J2 l) has (J2 y) st0 st1 rtr)
def kS:Bool:= bif rer != 0 then xb y 15 else bif QC (J2 x) rcl rop rmo ren rla0 rla1 rla2 (J2 l) has (J2 y) st0 st1 rtr C != 0 then xb y 15 else zP (J2 x) rcl rop rmo ren rla0 rla1 rla2 (J2 l) has (J2 y) st0 st1 rtr
def ki:Int:= QH x rcl rop rer rmo ren rla0 rla1 rla2 l has y st0 st1 rtr C 16 (zq (J2 x) rcl rop rmo ren rla0 rla1 rla2 (J2 l) has (J2 y) st0 st1 rtr)
def qX:Int:= QH x rcl rop rer rmo ren rla0 rla1 rla2 l has y st0 st1 rtr C 17 (kh (J2 x) rcl rop rmo ren rla0 rla1 rla2 (J2 l) has (J2 y) st0 st1 rtr)
def zB:Int:= QH x rcl rop rer rmo ren rla0 rla1 rla2 l has y st0 st1 rtr C 18 (kx (J2 x) rcl rop rmo ren rla0 rla1 rla2 (J2 l) has (J2 y) st0 st1 rtr)
def kQ:Int:= QH x rcl rop rer rmo ren rla0 rla1 rla2 l has y st0 st1 rtr C 19 (zo (J2 x) rcl rop rmo ren rla0 rla1 rla2 (J2 l) has (J2 y) st0 st1 rtr)
def zy:Int:= QH x rcl rop rer rmo ren rla0 rla1 rla2 l has y st0 st1 rtr C 20 (qP (J2 x) rcl rop rmo ren rla0 rla1 rla2 (J2 l) has (J2 y) st0 st1 rtr)
def km:Bool:= bif rer != 0 then xb y 21 else bif QC (J2 x) rcl rop rmo ren rla0 rla1 rla2 (J2 l) has (J2 y) st0 st1 rtr C != 0 then xb y 21 else qN (J2 x) rcl rop rmo ren rla0 rla1 rla2 (J2 l) has (J2 y) st0 st1 rtr
def zO:Int:= bif rer != 0 then st0 else bif QC (J2 x) rcl rop rmo ren rla0 rla1 rla2 (J2 l) has (J2 y) st0 st1 rtr C != 0 then st0 else kb (J2 x) rcl rop rmo ren rla0 rla1 rla2 (J2 l) has (J2 y) st0 st1 rtr
def JA7:Int:= bif rer != 0 then st1 else bif QC (J2 x) rcl rop rmo ren rla0 rla1 rla2 (J2 l) has (J2 y) st0 st1 rtr C != 0 then st1 else kl (J2 x) rcl rop rmo ren rla0 rla1 rla2 (J2 l) has (J2 y) st0 st1 rtr
def zh:Bool:= bif rer != 0 then rtr else bif QC (J2 x) rcl rop rmo ren rla0 rla1 rla2 (J2 l) has (J2 y) st0 st1 rtr C != 0 then rtr else zY (J2 x) rcl rop rmo ren rla0 rla1 rla2 (J2 l) has (J2 y) st0 st1 rtr
def kC:Int:= bif rer != 0 then pn0 else bif QC (J2 x) rcl rop rmo ren rla0 rla1 rla2 (J2 l) has (J2 y) st0 st1 rtr C != 0 then pn0 else zU (J2 x) rcl rop rmo ren rla0 rla1 rla2 (J2 l) has (J2 y) st0 st1 rtr pn0
def k9:Int:= bif rer != 0 then pn1 else bif QC (J2 x) rcl rop rmo ren rla0 rla1 rla2 (J2 l) has (J2 y) st0 st1 rtr C != 0 then pn1 else zn (J2 x) rcl rop rmo ren rla0 rla1 rla2 (J2 l) has (J2 y) st0 st1 rtr pn1
def WH:LL:= bif rer != 0 then C else bif QC (J2 x) rcl rop rmo ren rla0 rla1 rla2 (J2 l) has (J2 y) st0 st1 rtr C != 0 then C else W6 (J2 x) rcl rop rmo ren rla0 rla1 rla2 (J2 l) has (J2 y) st0 st1 rtr C
def JJP:List Prop:= [(rer != 0) = false → C.length ≤ 8]
end
def Jhp (x:List GC) (rcl rop:Bool) (rer:Int) (rmo ren:Bool) (rla0 rla1 rla2:Int) (l:List GC) (has:Bool) (y:List GC) (st0 st1:Int) (rtr:Bool) (pn0 pn1:Int) (C:LL):Jn :=
 [(79728,Obj.row false 40 22 (RowC.lst 79727 jI (KQ x rcl rop rer rmo ren rla0 rla1 rla2 l has y st0 st1 rtr C))),(0,Obj.blk 74 [(79730,Cb (JBO x rcl rop rer rmo ren rla0 rla1 rla2 l has y st0 st1 rtr C)),(79731,Cb (JDe x rcl rop rer rmo ren rla0 rla1 rla2 l has y st0 st1 rtr C)),(79732,Ci (JBE x rcl rop rer rmo ren rla0 rla1 rla2 l has y st0 st1 rtr C)),(79733,Cb (JEI x rcl rop rer rmo ren rla0 rla1 rla2 l has y st0 st1 rtr C)),(79734,Cb (JEJ x rcl rop rer rmo ren rla0 rla1 rla2 l has y st0 st1 rtr C)),(79735,Ci (JDp x rcl rop rer rmo ren rla0 rla1 rla2 l has y st0 st1 rtr C)),(79736,Ci (JEV x rcl rop rer rmo ren rla0 rla1 rla2 l has y st0 st1 rtr C)),(79737,Ci (JDn x rcl rop rer rmo ren rla0 rla1 rla2 l has y st0 st1 rtr C)),(79738,Ci (kR x rcl rop rer rmo ren rla0 rla1 rla2 l has y st0 st1 rtr C)),(79739,Ci (kW x rcl rop rer rmo ren rla0 rla1 rla2 l has y st0 st1 rtr C)),(79740,Ci (z8 x rcl rop rer rmo ren rla0 rla1 rla2 l has y st0 st1 rtr C)),(79741,Ci (zL x rcl rop rer rmo ren rla0 rla1 rla2 l has y st0 st1 rtr C)),(79742,Ci (qz x rcl rop rer rmo ren rla0 rla1 rla2 l has y st0 st1 rtr C)),(79743,Ci (JA5 x rcl rop rer rmo ren rla0 rla1 rla2 l has y st0 st1 rtr C)),(79744,Ci (kF x rcl rop rer rmo ren rla0 rla1 rla2 l has y st0 st1 rtr C)),(79745,Ci (qW x rcl rop rer rmo ren rla0 rla1 rla2 l has y st0 st1 rtr C)),(79746,Ci (ku x rcl rop rer rmo ren rla0 rla1 rla2 l has y st0 st1 rtr C)),(79747,Ci (qY x rcl rop rer rmo ren rla0 rla1 rla2 l has y st0 st1 rtr C)),(79748,Ci (zc x rcl rop rer rmo ren rla0 rla1 rla2 l has y st0 st1 rtr C)),(79749,Ci (qM x rcl rop rer rmo ren rla0 rla1 rla2 l has y st0 st1 rtr C)),(79750,Ci (kI x rcl rop rer rmo ren rla0 rla1 rla2 l has y st0 st1 rtr C)),(79751,Cb (zD x rcl rop rer rmo ren rla0 rla1 rla2 l has y st0 st1 rtr C)),(79752,Ci (kP x rcl rop rer rmo ren rla0 rla1 rla2 l has y st0 st1 rtr C)),(79753,Cb (kO x rcl rop rer rmo ren rla0 rla1 rla2 l has y st0 st1 rtr C)),(79754,Ci (qe x rcl rop rer rmo ren rla0 rla1 rla2 l has y st0 st1 rtr C)),(79755,Ci (qk x rcl rop rer rmo ren rla0 rla1 rla2 l has y st0 st1 rtr C)),(79756,Ci (kJ x rcl rop rer rmo ren rla0 rla1 rla2 l has y st0 st1 rtr C)),(79757,Ci (qG x rcl rop rer rmo ren rla0 rla1 rla2 l has y st0 st1 rtr C)),(79758,Ci (ze x rcl rop rer rmo ren rla0 rla1 rla2 l has y st0 st1 rtr C)),(79759,Cb (zf x rcl rop rer rmo ren rla0 rla1 rla2 l has y st0 st1 rtr C)),(79726,SC.wh 79724),(79760,Cb (JA0 x rcl rop rer rmo ren rla0 rla1 rla2 l has y st0 st1 rtr C)),(79761,Ci (zu x rcl rop rer rmo ren rla0 rla1 rla2 l has y st0 st1 rtr C)),(79762,Ci (qj x rcl rop rer rmo ren rla0 rla1 rla2 l has y st0 st1 rtr C)),(79763,Ci (zH x rcl rop rer rmo ren rla0 rla1 rla2 l has y st0 st1 rtr C)),(79764,Ci (qT x rcl rop rer rmo ren rla0 rla1 rla2 l has y st0 st1 rtr C)),(79765,Ci (qf x rcl rop rer rmo ren rla0 rla1 rla2 l has y st0 st1 rtr C)),(79766,Ci (kL x rcl rop rer rmo ren rla0 rla1 rla2 l has y st0 st1 rtr C)),(79767,Ci (qg x rcl rop rer rmo ren rla0 rla1 rla2 l has y st0 st1 rtr C)),(79768,Ci (qx x rcl rop rer rmo ren rla0 rla1 rla2 l has y st0 st1 rtr C)),(79769,Ci (k8 x rcl rop rer rmo ren rla0 rla1 rla2 l has y st0 st1 rtr C)),(79770,Ci (qv x rcl rop rer rmo ren rla0 rla1 rla2 l has y st0 st1 rtr C)),(79771,Ci (zt x rcl rop rer rmo ren rla0 rla1 rla2 l has y st0 st1 rtr C)),(79772,Ci (ky x rcl rop rer rmo ren rla0 rla1 rla2 l has y st0 st1 rtr C)),(79773,Ci (zw x rcl rop rer rmo ren rla0 rla1 rla2 l has y st0 st1 rtr C)),(79774,Cb (kU x rcl rop rer rmo ren rla0 rla1 rla2 l has y st0 st1 rtr C)),(79775,Ci (kn x rcl rop rer rmo ren rla0 rla1 rla2 l has y st0 st1 rtr C)),(79776,Cb (kS x rcl rop rer rmo ren rla0 rla1 rla2 l has y st0 st1 rtr C)),(79777,Ci (ki x rcl rop rer rmo ren rla0
 rla1 rla2 l has y st0 st1 rtr C)),(79778,Ci (qX x rcl rop rer rmo ren rla0 rla1 rla2 l has y st0 st1 rtr C)),(79779,Ci (zB x rcl rop rer rmo ren rla0 rla1 rla2 l has y st0 st1 rtr C)),(79780,Ci (kQ x rcl rop rer rmo ren rla0 rla1 rla2 l has y st0 st1 rtr C)),(79781,Ci (zy x rcl rop rer rmo ren rla0 rla1 rla2 l has y st0 st1 rtr C)),(79782,Cb (km x rcl rop rer rmo ren rla0 rla1 rla2 l has y st0 st1 rtr C)),(79783,Ci (zO x rcl rop rer rmo ren rla0 rla1 rla2 l has y st0 st1 rtr C)),(79784,Ci (JA7 x rcl rop rer rmo ren rla0 rla1 rla2 l has y st0 st1 rtr C)),(79785,Cb (zh x rcl rop rer rmo ren rla0 rla1 rla2 l has y st0 st1 rtr C)),(79786,Ci (kC x rcl rop rer rmo ren rla0 rla1 rla2 l has y st0 st1 rtr pn0 C)),(79787,Ci (k9 x rcl rop rer rmo ren rla0 rla1 rla2 l has y st0 st1 rtr pn1 C))]),(79724,Obj.row true 40 22 (RowC.lst 79729 jI (WH x rcl rop rer rmo ren rla0 rla1 rla2 l has y st0 st1 rtr C))),(1,Obj.row true 40 22 (RowC.lst 61 jI C))]
theorem JkG (x:List GC) (rcl rop:Bool) (rer:Int) (rmo ren:Bool) (rla0 rla1 rla2:Int) (l:List GC) (has:Bool) (y:List GC) (st0 st1:Int) (rtr:Bool) (pn0 pn1:Int) (C:LL) (hNeeds:∀ pN ∈ (JJP rer C),pN):Runs (JHn (JC JkJ) jQ 32) (JG5.args (Je JO4 [.v x,.b rcl,.b rop,.i rer,.b rmo,.b ren,.i rla0,.i rla1,.i rla2,.v l,.b has,.v y,.i st0,.i st1,.b rtr,.i pn0,.i pn1])) (JG5.memo (Je JO4 [.v x,.b rcl,.b rop,.i rer,.b rmo,.b ren,.i rla0,.i rla1,.i rla2,.v l,.b has,.v y,.i st0,.i st1,.b rtr,.i pn0,.i pn1]) [C]) JG5.n (SV.tup [(false,[SC.wh 79728]),(false,[Ci (ZT x rcl rop rer rmo ren rla0 rla1 rla2 l has y st0 st1 rtr C)])]) (Jhp x rcl rop rer rmo ren rla0 rla1 rla2 l has y st0 st1 rtr pn0 pn1 C) :=
  Runs.of1 (ps := (JJP rer C)) (by kernel_rfl) hNeeds
def JS7:List Gm → Qs → Option CRes
  | [.v x,.b rcl,.b rop,.i rer,.b rmo,.b ren,.i rla0,.i rla1,.i rla2,.v l,.b has,.v y,.i st0,.i st1,.b rtr,.i pn0,.i pn1],[C] => some ⟨SV.tup [(false,[SC.wh 79728]),(false,[Ci (ZT x rcl rop rer rmo ren rla0 rla1 rla2 l has y st0 st1 rtr C)])],Jhp x rcl rop rer rmo ren rla0 rla1 rla2 l has y st0 st1 rtr pn0 pn1 C,
   (JJP rer C),[],79788⟩
  | _,_ => none
theorem Ju0:Ql Tryz.prog 32 (Z7 JO4 JG5 JS7) := by
  refine Qg (KI Jac 32) fun ps ls r hr hn _ => ?_
  unfold JS7 at hr
  split at hr
  · cases hr; exact ⟨_,JkG _ _ _ _ _ _ _ _ _ _ _ _ _ _ _ _ _ _ hn,fun _ => rfl⟩
  · cases hr
def Jg0:List (Nat × JY) := (32,Z7 JO4 JG5 JS7) :: JkJ
theorem JTy:Known Tryz.prog (JC Jg0) jQ := J7 Jac Ju0
def JCy:Tpl := ⟨[.one (.ptr 0 0)],YH,62⟩
def JKv:List GK := [.b,.b,.i,.b,.b,.i,.i,.i,.v Q5,.b,.v Q5,.i,.i,.b,.i,.i]
def YT (rcl rop:Bool) (rer:Int):Int := bif rer == 0 && (rcl || rop) then 13 else rer
def JcB (rcl rop:Bool) (rer:Int) (rmo ren:Bool) (rla0 rla1 rla2:Int) (l:List GC) (has:Bool) (y:List GC) (st0 st1:Int) (rtr:Bool) (pn0 pn1:Int) (C:LL):Jn := [(0,Obj.blk 74 [(90,SC.bool (SB.c true)),(3,Cb rop),(86,Ci (YT rcl rop rer)),(5,Cb rmo),(6,Cb ren),(7,Ci rla0),(8,Ci rla1),(9,Ci rla2),(10,Ci (xi l 0)),(11,Ci (xi l 1)),(12,Ci (xi l 2)),(13,Ci (xi l 3)),(14,Ci (xi l 4)),(15,Ci (xi l 5)),(16,Ci (xi l 6)),(17,Ci (xi l 7)),(18,Ci (xi l 8)),(19,Ci (xi l 9)),(20,Ci (xi l 10)),(21,Ci (xi l 11)),(22,Ci (xi l 12)),(23,Cb (xb l 13)),(24,Ci (xi l 14)),(25,Cb (xb l 15)),(26,Ci (xi l 16)),(27,Ci (xi l 17)),(28,Ci (xi l 18)),(29,Ci (xi l 19)),(30,Ci (xi l 20)),(31,Cb (xb l 21)),(32,SC.wh 1),(33,Cb has),(34,Ci (xi y 0)),(35,Ci (xi y 1)),(36,Ci (xi y 2)),(37,Ci (xi y 3)),(38,Ci (xi y 4)),(39,Ci (xi y 5)),(40,Ci (xi y 6)),(41,Ci (xi y 7)),(42,Ci (xi y 8)),(43,Ci (xi y 9)),(44,Ci (xi y 10)),(45,Ci (xi y 11)),(46,Ci (xi y 12)),(47,Cb (xb y 13)),(48,Ci (xi y 14)),(49,Cb (xb y 15)),(50,Ci (xi y 16)),(51,Ci (xi y 17)),(52,Ci (xi y 18)),(53,Ci (xi y 19)),(54,Ci (xi y 20)),(55,Cb (xb y 21)),(56,Ci st0),(57,Ci st1),(58,Cb rtr),(59,Ci pn0),(60,Ci pn1)]),(1,Obj.row true 40 22 (RowC.lst 61 jI C))]
theorem JhT (rcl rop:Bool) (rer:Int) (rmo ren:Bool) (rla0 rla1 rla2:Int) (l:List GC) (has:Bool) (y:List GC) (st0 st1:Int) (rtr:Bool) (pn0 pn1:Int) (C:LL):Runs (JHn (JC Jg0) jQ 33) (JCy.args (Je JKv [.b rcl,.b rop,.i rer,.b rmo,.b ren,.i rla0,.i rla1,.i rla2,.v l,.b has,.v y,.i st0,.i st1,.b rtr,.i pn0,.i pn1])) (JCy.memo (Je JKv [.b rcl,.b rop,.i rer,.b rmo,.b ren,.i rla0,.i rla1,.i rla2,.v l,.b has,.v y,.i st0,.i st1,.b rtr,.i pn0,.i pn1]) [C]) JCy.n (SV.tup [(false,[SC.nilsl]),(false,[Ci (YT rcl rop rer)])]) (JcB rcl rop rer rmo ren rla0 rla1 rla2 l has y st0 st1 rtr pn0 pn1 C) :=
  Runs.of1 (ps := []) (by kernel_rfl) (by simp)
def JN9:List Gm → Qs → Option CRes
  | [.b rcl,.b rop,.i rer,.b rmo,.b ren,.i rla0,.i rla1,.i rla2,.v l,.b has,.v y,.i st0,.i st1,.b rtr,.i pn0,.i pn1],[C] => some ⟨SV.tup [(false,[SC.nilsl]),(false,[Ci (YT rcl rop rer)])],JcB rcl rop rer rmo ren rla0 rla1 rla2 l has y st0 st1 rtr pn0 pn1 C,[],[],98⟩
  | _,_ => none
theorem Joc:Ql Tryz.prog 33 (Z7 JKv JCy JN9) := by
  refine Qg (KI JTy 33) fun ps ls r hr hn _ => ?_
  unfold JN9 at hr
  split at hr
  · cases hr; exact ⟨_,JhT _ _ _ _ _ _ _ _ _ _ _ _ _ _ _ _ _,fun _ => rfl⟩
  · cases hr
def JY7:List (Nat × JY) := (33,Z7 JKv JCy JN9) :: Jg0
theorem JPC:Known Tryz.prog (JC JY7) jQ := J7 JTy Joc
def JFM:Tpl := ⟨[.one (.ptr 0 0)],YH,62⟩
def JPG:List GK := [.b,.b,.i,.b,.b,.i,.i,.i,.v Q5,.b,.v Q5,.i,.i,.b,.i,.i]
def JgR (rcl rop:Bool) (rer:Int) (rmo ren:Bool) (rla0 rla1 rla2:Int) (l:List GC) (has:Bool) (y:List GC) (st0 st1:Int) (rtr:Bool) (pn0 pn1:Int) (C:LL):Jn := [(0,Obj.blk 74 [(2,Cb rcl),(3,Cb rop),(4,Ci rer),(5,Cb rmo),(6,Cb ren),(7,Ci rla0),(8,Ci rla1),(9,Ci rla2),(10,Ci (xi l 0)),(11,Ci (xi l 1)),(12,Ci (xi l 2)),(13,Ci (xi l 3)),(14,Ci (xi l 4)),(15,Ci (xi l 5)),(16,Ci (xi l 6)),(17,Ci (xi l 7)),(18,Ci (xi l 8)),(19,Ci (xi l 9)),(20,Ci (xi l 10)),(21,Ci (xi l 11)),(22,Ci (xi l 12)),(23,Cb (xb l 13)),(24,Ci (xi l 14)),(25,Cb (xb l 15)),(26,Ci (xi l 16)),(27,Ci (xi l 17)),(28,Ci (xi l 18)),(29,Ci (xi l 19)),(30,Ci (xi l 20)),(31,Cb (xb l 21)),(32,SC.wh 1),(33,Cb has),(34,Ci (xi y 0)),(35,Ci (xi y 1)),(36,Ci (xi y 2)),(37,Ci (xi y 3)),(38,Ci (xi y 4)),(39,Ci (xi y 5)),(40,Ci (xi y 6)),(41,Ci (xi y 7)),(42,Ci (xi y 8)),(43,Ci (xi y 9)),(44,Ci (xi y 10)),(45,Ci (xi y 11)),(46,Ci (xi y 12)),(47,Cb (xb y 13)),(48,Ci (xi y 14)),(49,Cb (xb y 15)),(50,Ci (xi y 16)),(51,Ci (xi y 17)),(52,Ci (xi y 18)),(53,Ci (xi y 19)),(54,Ci (xi y 20)),(55,Cb (xb y 21)),(56,Ci st0),(57,Ci st1),(58,Cb rtr),(59,Ci pn0),(60,Ci pn1)]),(1,Obj.row true 40 22 (RowC.lst 61 jI C))]
theorem Jk7 (rcl rop:Bool) (rer:Int) (rmo ren:Bool) (rla0 rla1 rla2:Int) (l:List GC) (has:Bool) (y:List GC) (st0 st1:Int) (rtr:Bool) (pn0 pn1:Int) (C:LL):Runs (JHn (JC JY7) jQ 34) (JFM.args (Je JPG [.b rcl,.b rop,.i rer,.b rmo,.b ren,.i rla0,.i rla1,.i rla2,.v l,.b has,.v y,.i st0,.i st1,.b rtr,.i pn0,.i pn1])) (JFM.memo (Je JPG [.b rcl,.b rop,.i rer,.b rmo,.b ren,.i rla0,.i rla1,.i rla2,.v l,.b has,.v y,.i st0,.i st1,.b rtr,.i pn0,.i pn1]) [C]) JFM.n (SV.one (Ci (JKU rop rer C))) (JgR rcl rop rer rmo ren rla0 rla1 rla2 l has y st0 st1 rtr pn0 pn1 C) :=
  Runs.of1 (ps := []) (by kernel_rfl) (by simp)
def JPi:List Gm → Qs → Option CRes
  | [.b rcl,.b rop,.i rer,.b rmo,.b ren,.i rla0,.i rla1,.i rla2,.v l,.b has,.v y,.i st0,.i st1,.b rtr,.i pn0,.i pn1],[C] => some ⟨SV.one (Ci (JKU rop rer C)),JgR rcl rop rer rmo ren rla0 rla1 rla2 l has y st0 st1 rtr pn0 pn1 C,[],[],83⟩
  | _,_ => none
theorem Jsg:Ql Tryz.prog 34 (Z7 JPG JFM JPi) := by
  refine Qg (KI JPC 34) fun ps ls r hr hn _ => ?_
  unfold JPi at hr
  split at hr
  · cases hr; exact ⟨_,Jk7 _ _ _ _ _ _ _ _ _ _ _ _ _ _ _ _ _,fun _ => rfl⟩
  · cases hr
def JHp:List (Nat × JY) := (34,Z7 JPG JFM JPi) :: JY7
theorem JUA:Known Tryz.prog (JC JHp) jQ := J7 JPC Jsg
theorem YO (x:List GC):J2 (J2 x) = J2 x := by kernel_rfl
theorem nx0 (x:List GC):xi (J2 x) 0 = xi x 0 := by kernel_rfl
theorem nx1 (x:List GC):xi (J2 x) 1 = xi x 1 := by kernel_rfl
theorem nx2 (x:List GC):xi (J2 x) 2 = xi x 2 := by kernel_rfl
theorem nx3 (x:List GC):xi (J2 x) 3 = xi x 3 := by kernel_rfl
theorem nx4 (x:List GC):xi (J2 x) 4 = xi x 4 := by kernel_rfl
theorem nx5 (x:List GC):xi (J2 x) 5 = xi x 5 := by kernel_rfl
theorem nx6 (x:List GC):xi (J2 x) 6 = xi x 6 := by kernel_rfl
theorem nx7 (x:List GC):xi (J2 x) 7 = xi x 7 := by kernel_rfl
theorem nx8 (x:List GC):xi (J2 x) 8 = xi x 8 := by kernel_rfl
theorem nx9 (x:List GC):xi (J2 x) 9 = xi x 9 := by kernel_rfl
theorem JNY (x:List GC):xi (J2 x) 10 = xi x 10 := by kernel_rfl
theorem JP9 (x:List GC):xi (J2 x) 11 = xi x 11 := by kernel_rfl
theorem JOf (x:List GC):xi (J2 x) 12 = xi x 12 := by kernel_rfl
theorem JNW (x:List GC):xb (J2 x) 13 = xb x 13 := by kernel_rfl
theorem JPL (x:List GC):xi (J2 x) 14 = xi x 14 := by kernel_rfl
theorem JO7 (x:List GC):xb (J2 x) 15 = xb x 15 := by kernel_rfl
theorem JNX (x:List GC):xi (J2 x) 16 = xi x 16 := by kernel_rfl
theorem JNr (x:List GC):xi (J2 x) 17 = xi x 17 := by kernel_rfl
theorem JNw (x:List GC):xi (J2 x) 18 = xi x 18 := by kernel_rfl
theorem JOy (x:List GC):xi (J2 x) 19 = xi x 19 := by kernel_rfl
theorem JOt (x:List GC):xi (J2 x) 20 = xi x 20 := by kernel_rfl
theorem JPE (x:List GC):xb (J2 x) 21 = xb x 21 := by kernel_rfl
section
variable (u w:Int) (tm:Bool) (l y x:List GC) (s:St)
def inv:Bool:= !Qf (J2 x) || s.en || J3 (xi x 0) && s.mo && !(xi x 2 == s.la0 && (xi x 3 == s.la1 && xi x 4 == s.la2))
def mvd:St:= { s with en := xi x 0 == 14,mo := J3 (xi x 0) || s.mo,la0 := bif J3 (xi x 0) then xi x 5 else s.la0,la1 := bif J3 (xi x 0) then xi x 6 else s.la1,la2 := bif J3 (xi x 0) then xi x 7 else s.la2 }
def nE:Int:= Qr (J4 (xi l 8) (xi x 2) (xi x 3) (xi x 4)) (J5 (xi l 8) (xi x 2) (xi x 3) (xi x 4)) (J4 (xi l 8) (xi x 5) (xi x 6) (xi x 7)) (J5 (xi l 8) (xi x 5) (xi x 6) (xi x 7)) (bif xi x 0 == 3 then J4 (xi l 8) (xi x 9) (xi x 10) (xi x 11) else 0) (bif xi x 0 == 3 then J5 (xi l 8) (xi x 9) (xi x 10) (xi x 11) else 0) (bif xi x 0 == 3 then xi x 12 else 0) (IntKind.i64.wrap (xi l 16 * xi l 17))
def n0:Int:= XN (J4 (xi l 8) (xi x 2) (xi x 3) (xi x 4)) (J5 (xi l 8) (xi x 2) (xi x 3) (xi x 4)) (J4 (xi l 8) (xi x 5) (xi x 6) (xi x 7)) (J5 (xi l 8) (xi x 5) (xi x 6) (xi x 7)) (bif xi x 0 == 3 then J4 (xi l 8) (xi x 9) (xi x 10) (xi x 11) else 0) (bif xi x 0 == 3 then J5 (xi l 8) (xi x 9) (xi x 10) (xi x 11) else 0) (bif xi x 0 == 3 then xi x 12 else 0) (IntKind.i64.wrap (xi l 16 * xi l 17))
def n1:Int:= XO (J4 (xi l 8) (xi x 2) (xi x 3) (xi x 4)) (J5 (xi l 8) (xi x 2) (xi x 3) (xi x 4)) (J4 (xi l 8) (xi x 5) (xi x 6) (xi x 7)) (J5 (xi l 8) (xi x 5) (xi x 6) (xi x 7)) (bif xi x 0 == 3 then J4 (xi l 8) (xi x 9) (xi x 10) (xi x 11) else 0) (bif xi x 0 == 3 then J5 (xi l 8) (xi x 9) (xi x 10) (xi x 11) else 0) (bif xi x 0 == 3 then xi x 12 else 0) (IntKind.i64.wrap (xi l 16 * xi l 17))
def f0:Int:= Xj (J4 (xi l 8) (xi x 2) (xi x 3) (xi x 4)) (J5 (xi l 8) (xi x 2) (xi x 3) (xi x 4)) (J4 (xi l 8) (xi x 5) (xi x 6) (xi x 7)) (J5 (xi l 8) (xi x 5) (xi x 6) (xi x 7)) (bif xi x 0 == 3 then J4 (xi l 8) (xi x 9) (xi x 10) (xi x 11) else 0) (bif xi x 0 == 3 then J5 (xi l 8) (xi x 9) (xi x 10) (xi x 11) else 0) (bif xi x 0 == 3 then xi x 12 else 0) (IntKind.i64.wrap (xi l 16 * xi l 17))
def f1:Int:= Xi (J4 (xi l 8) (xi x 2) (xi x 3) (xi x 4)) (J5 (xi l 8) (xi x 2) (xi x 3) (xi x 4)) (J4 (xi l 8) (xi x 5) (xi x 6) (xi x 7)) (J5 (xi l 8) (xi x 5) (xi x 6) (xi x 7)) (bif xi x 0 == 3 then J4 (xi l 8) (xi x 9) (xi x 10) (xi x 11) else 0) (bif xi x 0 == 3 then J5 (xi l 8) (xi x 9) (xi x 10) (xi x 11) else 0) (bif xi x 0 == 3 then xi x 12 else 0) (IntKind.i64.wrap (xi l 16 * xi l 17))
def trE:Int:= JPz (J4 (xi l 8) (xi y 2) (xi y 3) (xi y 4)) (J5 (xi l 8) (xi y 2) (xi y 3) (xi y 4)) (J4 (xi l 8) (xi y 5) (xi y 6) (xi y 7)) (J5 (xi l 8) (xi y 5) (xi y 6) (xi y 7)) (bif xi y 0 == 3 then J4 (xi l 8) (xi y 9) (xi y 10) (xi y 11) else 0) (bif xi y 0 == 3 then J5 (xi l 8) (xi y 9) (xi y 10) (xi y 11) else 0) (bif xi y 0 == 3 then xi y 12 else 0) (xi y 0 == 3 && xb y 13) (J4 (xi l 8) (xi x 2) (xi x 3) (xi x 4)) (J5 (xi l 8) (xi x 2) (xi x 3) (xi x 4)) (J4 (xi l 8) (xi x 5) (xi x 6) (xi x 7)) (J5 (xi l 8) (xi x 5) (xi x 6) (xi x 7)) (bif xi x 0 == 3 then J4 (xi l 8) (xi x 9) (xi x 10) (xi x 11) else 0) (bif xi x 0 == 3 then J5 (xi l 8) (xi x 9) (xi x 10) (xi x 11) else 0) (bif xi x 0 == 3 then xi x 12 else 0) (xi x 0 == 3 && xb x 13) (IntKind.i64.wrap (xi l 16 * xi l 17))
def tr0:Int:= JMP (J4 (xi l 8) (xi y 2) (xi y 3) (xi y 4)) (J5 (xi l 8) (xi y 2) (xi y 3) (xi y 4)) (J4 (xi l 8) (xi y 5) (xi y 6) (xi y 7)) (J5 (xi l 8) (xi y 5) (xi y 6) (xi y 7)) (bif xi y 0 == 3 then J4 (xi l 8) (xi y 9) (xi y 10) (xi y 11) else 0) (bif xi y 0 == 3 then J5 (xi l 8) (xi y 9) (xi y 10) (xi y 11) else 0) (bif xi y 0 == 3 then xi y 12 else 0) (xi y 0 == 3 && xb y 13) (J4 (xi l 8) (xi x 2) (xi x 3) (xi x 4)) (J5 (xi l 8) (xi x 2) (xi x 3) (xi x 4)) (J4 (xi l 8) (xi x 5) (xi x 6) (xi x 7)) (J5 (xi l 8) (xi x 5) (xi x 6) (xi x 7)) (bif xi x 0 == 3 then J4 (xi l 8) (xi x 9) (xi x 10) (xi x 11) else 0) (bif xi x 0 == 3 then J5 (xi l 8) (xi x 9) (xi x 10) (xi x 11) else 0) (bif xi x 0 == 3 then xi x 12 else 0) (xi x 0 == 3 && xb x 13) (IntKind.i64.wrap (xi l 16 * xi l 17))
def tr1:Int:= JN2 (J4 (xi l 8) (xi y 2) (xi y 3) (xi y 4)) (J5 (xi l 8) (xi y 2) (xi y 3) (xi y 4)) (J4 (xi l 8) (xi y 5) (xi y 6) (xi y 7)) (J5 (xi l 8) (xi y 5) (xi y 6) (xi y 7)) (bif xi y 0 == 3 then J4 (xi l 8) (xi y 9) (xi y 10) (xi y 11) else 0) (bif xi y 0 == 3 then J5 (xi l 8) (xi y 9) (xi y 10) (xi y 11) else 0) (bif xi y 0 == 3 then xi y 12 else 0) (xi y 0 == 3 && xb y 13) (J4 (xi l 8) (xi x 2) (xi x 3) (xi x 4)) (J5 (xi l 8) (xi x 2) (xi x 3) (xi x 4)) (J4 (xi l 8) (xi x 5) (xi x 6) (xi x 7)) (J5 (xi l 8) (xi x 5) (xi x 6) (xi x 7)) (bif xi x 0 == 3 then J4 (xi l 8) (xi x 9) (xi x 10) (xi x 11) else 0) (bif xi x 0 == 3 then J5 (xi l 8) (xi x 9) (xi x 10) (xi x 11) else 0) (bif xi x 0 == 3 then xi x 12 else 0) (xi x 0 == 3 && xb x 13) (IntKind.i64.wrap (xi l 16 * xi l 17))
def kd:Int:= bif IntKind.i64.wrap (xi l 16 * xi l 17) == 0 then 0 else JCD (Z6 (xi y 0) (xi y 2) (xi y 3) (xi y 4) (xi y 5) (xi y 6) (xi y 7) (xi y 8) (xi y 9) (xi y 10) (xi y 11) (xi y 12) true) (Z5 (xi y 0) (xi y 2) (xi y 3) (xi y 4) (xi y 5) (xi y 6) (xi y 7) (xi y 8) (xi y 9) (xi y 10) (xi y 11) (xi y 12) true) (Z6 (xi x 0) (xi x 2) (xi x 3) (xi x 4) (xi x 5) (xi x 6) (xi x 7) (xi x 8) (xi x 9) (xi x 10) (xi x 11) (xi x 12) false) (Z5 (xi x 0) (xi x 2) (xi x 3) (xi x 4) (xi x 5) (xi x 6) (xi x 7) (xi x 8) (xi x 9) (xi x 10) (xi x 11) (xi x 12) false) (xi l 16)
def shE:Int:= QB u w tm (J2 s.l) (J2 s.y) s.a0 s.a1 s.tr
def shO:LL:= Zq u w tm (J2 s.l) (J2 s.y) s.a0 s.a1 s.tr []
end
section
variable (x l:List GC)
def jO:Bool:= !J3 (xi x 0) || !(xb x 13 || !(J4 (xi l 8) (xi x 2) (xi x 3) (xi x 4) == J4 (xi l 8) (xi x 5) (xi x 6) (xi x 7) && J5 (xi l 8) (xi x 2) (xi x 3) (xi x 4) == J5 (xi l 8) (xi x 5) (xi x 6) (xi x 7)))
def odd:Bool:= J3 (xi x 0) && (xi x 8 != xi l 8 || xi x 16 != xi l 16 || xi x 17 != xi l 17)
def three:Bool:= xi x 0 == 1 || xi x 0 == 11 || xi x 0 == 14
end
theorem Jvc {c:Bool} (h:(bif c then (16:Int) else 0) = 0):c = false := by
  cases c
  · rfl
  · cases h
theorem JaO (u w:Int) (tm:Bool) (l y:List GC) (a0 a1:Int) (tr:Bool) (h:QB u w tm l y a0 a1 tr = 0):KP u w tm l y a0 a1 tr = u ∧ KO u w tm l y a0 a1 tr = w := by
  unfold QB at h
  unfold KP KO
  generalize (xi y 0 == 2) = b1 at h ⊢
  generalize ((tm || tr) && decide (qQ u w l y a0 a1 ≤ 0)) = b2 at h ⊢
  generalize ((tm || tr) && !xb y 13 && !W7 u w tm (J2 l) (J2 y) a0 a1 tr) = b3 at h ⊢
  cases b1 <;> cases b2 <;> cases b3 <;> first
    | exact ⟨rfl,rfl⟩
    | exact absurd h (by show ¬ (16:Int) = 0; decide)
    | (simp only [cond_true,cond_false] at h ⊢; rw [Jvc h]; exact ⟨rfl,rfl⟩)
theorem JjM (x:List GC) (s:St) (he:s.er = 0) (hl:J2 s.l = s.l) (hy:J2 s.y = s.y) (hc:s.cl = false) (hi:inv x s = false) (ho:s.op = false) (hm:(J3 (xi x 0) && xi x 16 != 0) = false) :
    XW x s = mvd x s ∧ Ks x s = [JFw x] := by
  unfold inv at hi
  have e2:(s.er == 0) = true := by rw [he]; rfl
  refine ⟨?_,?_⟩
  · unfold XW mvd
    simp only [Kj,ZS,JHj,JH6,JHQ,JHs,JHh,JHl,JHw,JHC,JHc,JAn,JAm,JBv,JC5,qB,JAv,JBT,JBx,JAJ,JAb,JAT,JAp,JBh,JAj,ZU,JAQ,JC1,JAW,JBq,JBY,JAx,JAK,JAU,JB2,JBF,JBs,JB7,JAN,jy,JBZ,JAe,JAS,JBL,JAf,JBn,JB0,JBK,JAI,JBA,JBU,JBC,JBo,JAV,JBu,JBg,JAh,JBG,KH,Wv,Ki,Kb,j5,Kl,JIG,JI0,JHY,JHN,JHL,JHr,JIC,JGt,JBi,JC2,JB8,JB5,JBc,JAM,JC4,JBd,JAO,JBb,JC3,JBf,JAr,JBI,JAa,JB4,JBR,JAR,JAu,JBW,JBX,JAL,JAy,JBw,JAZ,JBt,JC7,JBS,JBr,JBQ,JC6,JAs,JAc,JAq,JAP,JBp,JBJ,JAX,JBV,JAo,JAw,JBP,JB1,JAg,JB9,Yt,Wo,YO,nx0,nx1,nx2,nx3,nx4,nx5,nx6,nx7,nx8,nx9,JNY,JP9,JOf,JNW,JPL,JO7,JNX,JNr,JNw,JOy,JOt,JPE,e2,hc,hi,cond_true,cond_false,Bool.not_false,Bool.not_true,Bool.true_and,Bool.false_and,Bool.and_false,Bool.and_true,Bool.or_false,Bool.false_or,beq_self_eq_true,bne_self_eq_false,ho,hm]
    simp only [he]
    try rw [← hl]
    try rw [← hy]
    all_goals rfl
  · unfold Ks
    simp only [Kj,KH,Ki,Kb,Kl,ZO,YO,nx0,nx1,nx2,nx3,nx4,nx5,nx6,nx7,nx8,nx9,JNY,JP9,JOf,JNW,JPL,JO7,JNX,JNr,JNw,JOy,JOt,JPE,e2,hc,hi,cond_true,cond_false,Bool.not_false,Bool.not_true,Bool.true_and,Bool.false_and,Bool.and_false,Bool.and_true,Bool.or_false,Bool.false_or,beq_self_eq_true,bne_self_eq_false,ho,hm]
    all_goals rfl
theorem JlZ (x:List GC) (s:St) (he:s.er = 0) (hl:J2 s.l = s.l) (hy:J2 s.y = s.y) (hc:s.cl = false) (hi:inv x s = false) (ho:s.op = false) (hm:(J3 (xi x 0) && xi x 16 != 0) = true) (hd:Ja (J2 x) (xi x 8) (xi x 17) = true) :
    XW x s = { mvd x s with l := J2 x,y := JXi,a0 := 0,a1 := 0,tr := false,op := true,C := [] } ∧ Ks x s = [] := by
  unfold inv at hi
  have e2:(s.er == 0) = true := by rw [he]; rfl
  refine ⟨?_,?_⟩
  · unfold XW mvd
    simp only [JPV,Jfe,JgA,Jew,JfN,Jdm,JfX,Jdp,Jfq,Jfb,JZX,Ja8,JZj,JWq,JXL,JYV,JWL,JYp,JWr,JVr,JVx,JVq,Jay,JXG,Jb2,JW9,JWH,JXH,JYW,JaK,JYC,JbB,JZU,JZy,JWj,JZn,JVt,JaD,JXB,JY9,JWy,JWl,JVo,JXC,JY3,JJb,JYE,JaN,JIu,Kj,ZS,JHj,JH6,JHQ,JHs,JHh,JHl,JHw,JHC,JHc,JAn,JAm,JBv,JC5,qB,JAv,JBT,JBx,JAJ,JAb,JAT,JAp,JBh,JAj,ZU,JAQ,JC1,JAW,JBq,JBY,JAx,JAK,JAU,JB2,JBF,JBs,JB7,JAN,jy,JBZ,JAe,JAS,JBL,JAf,JBn,JB0,JBK,JAI,JBA,JBU,JBC,JBo,JAV,JBu,JBg,JAh,JBG,KH,Wv,Ki,Kb,j5,Kl,JIG,JI0,JHY,JHN,JHL,JHr,JIC,JGt,JBi,JC2,JB8,JB5,JBc,JAM,JC4,JBd,JAO,JBb,JC3,JBf,JAr,JBI,JAa,JB4,JBR,JAR,JAu,JBW,JBX,JAL,JAy,JBw,JAZ,JBt,JC7,JBS,JBr,JBQ,JC6,JAs,JAc,JAq,JAP,JBp,JBJ,JAX,JBV,JAo,JAw,JBP,JB1,JAg,JB9,Yt,Wo,YO,nx0,nx1,nx2,nx3,nx4,nx5,nx6,nx7,nx8,nx9,JNY,JP9,JOf,JNW,JPL,JO7,JNX,JNr,JNw,JOy,JOt,JPE,e2,hc,hi,cond_true,cond_false,Bool.not_false,Bool.not_true,Bool.true_and,Bool.false_and,Bool.and_false,Bool.and_true,Bool.or_false,Bool.false_or,beq_self_eq_true,bne_self_eq_false,ho,hm,hd]
    simp only [he]
    try rw [← hl]
    try rw [← hy]
    all_goals rfl
  · unfold Ks
    simp only [JPV,Kj,KH,Ki,Kb,Kl,ZO,YO,nx0,nx1,nx2,nx3,nx4,nx5,nx6,nx7,nx8,nx9,JNY,JP9,JOf,JNW,JPL,JO7,JNX,JNr,JNw,JOy,JOt,JPE,e2,hc,hi,cond_true,cond_false,Bool.not_false,Bool.not_true,Bool.true_and,Bool.false_and,Bool.and_false,Bool.and_true,Bool.or_false,Bool.false_or,beq_self_eq_true,bne_self_eq_false,ho,hm,hd]
    all_goals rfl
theorem Jmn (x:List GC) (s:St) (he:s.er = 0) (hl:J2 s.l = s.l) (hy:J2 s.y = s.y) (hc:s.cl = false) (hi:inv x s = false) (ho:s.op = true) (hm:(J3 (xi x 0) && xi x 16 == 0) = false) (h3:three x = false) (hd:odd x s.l = false) (hs:jO x s.l = true) (hn:(Int.ofNat s.C.length == 8) = false) :
    XW x s = { mvd x s with C := s.C ++ [JFw x] } ∧ Ks x s = [] := by
  unfold inv at hi
  have e2:(s.er == 0) = true := by rw [he]; rfl
  unfold three at h3
  unfold odd at hd
  unfold jO at hs
  refine ⟨?_,?_⟩
  · unfold XW mvd
    simp only [jJ,ZE,JFp,JGE,JGk,JFQ,JGm,JGW,JEk,JF8,JGO,JG7,JFl,JGf,JG2,JDA,JEt,JG1,JFP,JGB,JG8,JEw,JGc,JFN,JGR,JGU,JFh,JGF,YE,kK,WI,WA,W9,W8,Kj,ZS,JHj,JH6,JHQ,JHs,JHh,JHl,JHw,JHC,JHc,JAn,JAm,JBv,JC5,qB,JAv,JBT,JBx,JAJ,JAb,JAT,JAp,JBh,JAj,ZU,JAQ,JC1,JAW,JBq,JBY,JAx,JAK,JAU,JB2,JBF,JBs,JB7,JAN,jy,JBZ,JAe,JAS,JBL,JAf,JBn,JB0,JBK,JAI,JBA,JBU,JBC,JBo,JAV,JBu,JBg,JAh,JBG,KH,Wv,Ki,Kb,j5,Kl,JIG,JI0,JHY,JHN,JHL,JHr,JIC,JGt,JBi,JC2,JB8,JB5,JBc,JAM,JC4,JBd,JAO,JBb,JC3,JBf,JAr,JBI,JAa,JB4,JBR,JAR,JAu,JBW,JBX,JAL,JAy,JBw,JAZ,JBt,JC7,JBS,JBr,JBQ,JC6,JAs,JAc,JAq,JAP,JBp,JBJ,JAX,JBV,JAo,JAw,JBP,JB1,JAg,JB9,Yt,Wo,JCx,JCZ,JCt,JDK,Yx,jM,jL,Kp,YO,nx0,nx1,nx2,nx3,nx4,nx5,nx6,nx7,nx8,nx9,JNY,JP9,JOf,JNW,JPL,JO7,JNX,JNr,JNw,JOy,JOt,JPE,e2,hc,hi,cond_true,cond_false,Bool.not_false,Bool.not_true,Bool.true_and,Bool.false_and,Bool.and_false,Bool.and_true,Bool.or_false,Bool.false_or,beq_self_eq_true,bne_self_eq_false,ho,hm,h3,hd,hs,hn]
    simp only [he]
    try rw [← hl]
    try rw [← hy]
    all_goals rfl
  · unfold Ks
    simp only [jJ,YE,WI,WA,W9,W8,Kj,KH,Ki,Kb,Kl,JCx,JCZ,JCt,JDK,Yx,jM,jL,Kp,ZO,YO,nx0,nx1,nx2,nx3,nx4,nx5,nx6,nx7,nx8,nx9,JNY,JP9,JOf,JNW,JPL,JO7,JNX,JNr,JNw,JOy,JOt,JPE,e2,hc,hi,cond_true,cond_false,Bool.not_false,Bool.not_true,Bool.true_and,Bool.false_and,Bool.and_false,Bool.and_true,Bool.or_false,Bool.false_or,beq_self_eq_true,bne_self_eq_false,ho,hm,h3,hd,hs,hn]
    all_goals rfl
theorem JlG (x:List GC) (s:St) (he:s.er = 0) (hl:J2 s.l = s.l) (hy:J2 s.y = s.y) (hc:s.cl = false) (hi:inv x s = false) (ho:s.op = true) (hm:(J3 (xi x 0) && xi x 16 == 0) = false) (h3:three x = false) (hd:odd x s.l = false) (hs:jO x s.l = false) (h0:(xi s.y 0 == 0) = true) (hE:nE s.l x = 0) :
    XW x s = { mvd x s with y := J2 x,a0 := n0 s.l x,a1 := n1 s.l x,C := [] } ∧ Ks x s = Qb (J2 s.l) (n0 s.l x) (n1 s.l x) s.C (Zs (J2 s.l) (n0 s.l x) (n1 s.l x) (J9 (xi s.l 8) (xi s.l 2) (xi s.l 3) (xi s.l 4)) (J9 (xi s.l 8) (xi s.l 2) (xi s.l 3) (xi s.l 4)) true (J2 s.l) (J4 (xi s.l 8) (xi s.l 2) (xi s.l 3) (xi s.l 4)) (J5 (xi s.l 8) (xi s.l 2) (xi s.l 3) (xi s.l 4)) []) := by
  unfold inv at hi
  have e2:(s.er == 0) = true := by rw [he]; rfl
  unfold three at h3
  unfold odd at hd
  unfold jO at hs
  unfold nE at hE
  refine ⟨?_,?_⟩
  · unfold XW mvd
    simp only [JNl,JOJ,Zr,JYJ,JYF,JZT,JXE,JWB,JXt,JaA,JZA,JWD,JWJ,Jb4,JVy,JWe,JOl,JW3,Jb3,JYz,JZI,Ja0,JWx,Ja1,JYs,Jan,Y7,YD,Y8,JZc,Ja5,JPO,JO0,JFn,JJp,jJ,ZE,JFp,JGE,JGk,JFQ,JGm,JGW,JEk,JF8,JGO,JG7,JFl,JGf,JG2,JDA,JEt,JG1,JFP,JGB,JG8,JEw,JGc,JFN,JGR,JGU,JFh,JGF,YE,kK,WI,WA,W9,W8,Kj,ZS,JHj,JH6,JHQ,JHs,JHh,JHl,JHw,JHC,JHc,JAn,JAm,JBv,JC5,qB,JAv,JBT,JBx,JAJ,JAb,JAT,JAp,JBh,JAj,ZU,JAQ,JC1,JAW,JBq,JBY,JAx,JAK,JAU,JB2,JBF,JBs,JB7,JAN,jy,JBZ,JAe,JAS,JBL,JAf,JBn,JB0,JBK,JAI,JBA,JBU,JBC,JBo,JAV,JBu,JBg,JAh,JBG,KH,Wv,Ki,Kb,j5,Kl,JIG,JI0,JHY,JHN,JHL,JHr,JIC,JGt,JBi,JC2,JB8,JB5,JBc,JAM,JC4,JBd,JAO,JBb,JC3,JBf,JAr,JBI,JAa,JB4,JBR,JAR,JAu,JBW,JBX,JAL,JAy,JBw,JAZ,JBt,JC7,JBS,JBr,JBQ,JC6,JAs,JAc,JAq,JAP,JBp,JBJ,JAX,JBV,JAo,JAw,JBP,JB1,JAg,JB9,Yt,Wo,JCx,JCZ,JCt,JDK,Yx,jM,jL,Kp,YO,nx0,nx1,nx2,nx3,nx4,nx5,nx6,nx7,nx8,nx9,JNY,JP9,JOf,JNW,JPL,JO7,JNX,JNr,JNw,JOy,JOt,JPE,e2,hc,hi,cond_true,cond_false,Bool.not_false,Bool.not_true,Bool.true_and,Bool.false_and,Bool.and_false,Bool.and_true,Bool.or_false,Bool.false_or,beq_self_eq_true,bne_self_eq_false,ho,hm,h3,hd,hs,h0,hE]
    simp only [he]
    try rw [← hl]
    try rw [← hy]
    all_goals kernel_rfl
  · unfold Ks
    simp only [JNl,JOJ,Y7,YD,Y8,JPO,JO0,JFn,jJ,YE,WI,WA,W9,W8,Kj,KH,Ki,Kb,Kl,JCx,JCZ,JCt,JDK,Yx,jM,jL,Kp,ZO,YO,nx0,nx1,nx2,nx3,nx4,nx5,nx6,nx7,nx8,nx9,JNY,JP9,JOf,JNW,JPL,JO7,JNX,JNr,JNw,JOy,JOt,JPE,e2,hc,hi,cond_true,cond_false,Bool.not_false,Bool.not_true,Bool.true_and,Bool.false_and,Bool.and_false,Bool.and_true,Bool.or_false,Bool.false_or,beq_self_eq_true,bne_self_eq_false,ho,hm,h3,hd,hs,h0,hE]
    all_goals kernel_rfl
theorem JgU (x:List GC) (s:St) (he:s.er = 0) (hl:J2 s.l = s.l) (hy:J2 s.y = s.y) (hc:s.cl = false) (hi:inv x s = false) (ho:s.op = true) (hm:(J3 (xi x 0) && xi x 16 == 0) = false) (h3:three x = false) (hd:odd x s.l = false) (hs:jO x s.l = false) (h0:(xi s.y 0 == 0) = false) (hk:(kd s.l s.y x == 2) = true) (hE:trE s.l s.y x = 0) (hS:shE (tr0 s.l s.y x) (tr1 s.l s.y x) true s = 0) :
    XW x s = { mvd x s with y := J2 x,a0 := tr0 s.l s.y x,a1 := tr1 s.l s.y x,tr := true,C := [] } ∧ Ks x s = Qb (J2 s.l) (tr0 s.l s.y x) (tr1 s.l s.y x) s.C (shO (tr0 s.l s.y x) (tr1 s.l s.y x) true s) := by
  unfold inv at hi
  have e2:(s.er == 0) = true := by rw [he]; rfl
  unfold three at h3
  unfold odd at hd
  unfold jO at hs
  unfold kd at hk
  unfold trE at hE
  unfold shE at hS
  obtain ⟨hs1,hs2⟩ := JaO _ _ _ _ _ _ _ _ hS
  unfold tr0 tr1 at hS hs1 hs2
  refine ⟨?_,?_⟩
  · unfold XW mvd
    simp only [XA,XB,Qn,YR,Ke,Kc,Zf,JKQ,JFU,Z4,JF1,JNV,XR,JV4,JVb,JV1,JVX,JVZ,JVE,JUv,JVN,JVF,JVS,JVU,JVc,JUq,JPZ,JVJ,JVB,JVW,JVP,JV8,JV6,JVY,JUr,JVK,Xv,Xr,Zn,Zo,JGa,JVA,JG3,JVM,JUu,JEv,JE1,JKy,jJ,ZE,JFp,JGE,JGk,JFQ,JGm,JGW,JEk,JF8,JGO,JG7,JFl,JGf,JG2,JDA,JEt,JG1,JFP,JGB,JG8,JEw,JGc,JFN,JGR,JGU,JFh,JGF,YE,kK,WI,WA,W9,W8,Kj,ZS,JHj,JH6,JHQ,JHs,JHh,JHl,JHw,JHC,JHc,JAn,JAm,JBv,JC5,qB,JAv,JBT,JBx,JAJ,JAb,JAT,JAp,JBh,JAj,ZU,JAQ,JC1,JAW,JBq,JBY,JAx,JAK,JAU,JB2,JBF,JBs,JB7,JAN,jy,JBZ,JAe,JAS,JBL,JAf,JBn,JB0,JBK,JAI,JBA,JBU,JBC,JBo,JAV,JBu,JBg,JAh,JBG,KH,Wv,Ki,Kb,j5,Kl,JIG,JI0,JHY,JHN,JHL,JHr,JIC,JGt,JBi,JC2,JB8,JB5,JBc,JAM,JC4,JBd,JAO,JBb,JC3,JBf,JAr,JBI,JAa,JB4,JBR,JAR,JAu,JBW,JBX,JAL,JAy,JBw,JAZ,JBt,JC7,JBS,JBr,JBQ,JC6,JAs,JAc,JAq,JAP,JBp,JBJ,JAX,JBV,JAo,JAw,JBP,JB1,JAg,JB9,Yt,Wo,JCx,JCZ,JCt,JDK,Yx,jM,jL,Kp,YO,nx0,nx1,nx2,nx3,nx4,nx5,nx6,nx7,nx8,nx9,JNY,JP9,JOf,JNW,JPL,JO7,JNX,JNr,JNw,JOy,JOt,JPE,e2,hc,hi,cond_true,cond_false,Bool.not_false,Bool.not_true,Bool.true_and,Bool.false_and,Bool.and_false,Bool.and_true,Bool.or_false,Bool.false_or,beq_self_eq_true,bne_self_eq_false,ho,hm,h3,hd,hs,h0,hk,hE,hS,hs1,hs2]
    simp only [he]
    try rw [← hl]
    try rw [← hy]
    all_goals kernel_rfl
  · unfold Ks
    simp only [XA,XB,Qn,YR,Ke,Kc,Zf,JKQ,JFU,Z4,JF1,JNV,Xv,Xr,Zn,Zo,JGa,JG3,JEv,JE1,jJ,YE,WI,WA,W9,W8,Kj,KH,Ki,Kb,Kl,JCx,JCZ,JCt,JDK,Yx,jM,jL,Kp,ZO,YO,nx0,nx1,nx2,nx3,nx4,nx5,nx6,nx7,nx8,nx9,JNY,JP9,JOf,JNW,JPL,JO7,JNX,JNr,JNw,JOy,JOt,JPE,e2,hc,hi,cond_true,cond_false,Bool.not_false,Bool.not_true,Bool.true_and,Bool.false_and,Bool.and_false,Bool.and_true,Bool.or_false,Bool.false_or,beq_self_eq_true,bne_self_eq_false,ho,hm,h3,hd,hs,h0,hk,hE,hS,hs1,hs2]
    all_goals kernel_rfl
theorem Jex (x:List GC) (s:St) (he:s.er = 0) (hl:J2 s.l = s.l) (hy:J2 s.y = s.y) (hc:s.cl = false) (hi:inv x s = false) (ho:s.op = true) (hm:(J3 (xi x 0) && xi x 16 == 0) = false) (h3:three x = false) (hd:odd x s.l = false) (hs:jO x s.l = false) (h0:(xi s.y 0 == 0) = false) (hk:(kd s.l s.y x == 2) = false) (hE:nE s.l s.y = 0) (hF:nE s.l x = 0) (hS:shE (f0 s.l s.y) (f1 s.l s.y) false s = 0) :
    XW x s = { mvd x s with y := J2 x,a0 := n0 s.l x,a1 := n1 s.l x,tr := false,C := [] } ∧ Ks x s = jA (J2 x) (n0 s.l x) (n1 s.l x) (kd s.l s.y x == 1) (J2 s.l) (f0 s.l s.y) (f1 s.l s.y) (Qb (J2 s.l) (f0 s.l s.y) (f1 s.l s.y) s.C (shO (f0 s.l s.y) (f1 s.l s.y) false s)) := by
  unfold inv at hi
  have e2:(s.er == 0) = true := by rw [he]; rfl
  unfold three at h3
  unfold odd at hd
  unfold jO at hs
  unfold kd at hk
  unfold nE at hE
  unfold nE at hF
  unfold shE at hS
  obtain ⟨hs1,hs2⟩ := JaO _ _ _ _ _ _ _ _ hS
  unfold f0 f1 at hS hs1 hs2
  refine ⟨?_,?_⟩
  · unfold XW mvd
    simp only [XA,XB,Qn,YR,Ke,Kc,Zf,JKQ,JFU,Z4,JF1,JNV,XR,JV4,JVb,JV1,JVX,JVZ,JVE,JUv,JVN,JVF,JVS,JVU,JVc,JUq,JPZ,JVJ,JVB,JVW,JVP,JV8,JV6,JVY,JUr,JVK,Xv,Xr,Zn,Zo,JGa,JVA,JG3,JVM,JUu,JEv,JE1,JKy,jJ,ZE,JFp,JGE,JGk,JFQ,JGm,JGW,JEk,JF8,JGO,JG7,JFl,JGf,JG2,JDA,JEt,JG1,JFP,JGB,JG8,JEw,JGc,JFN,JGR,JGU,JFh,JGF,YE,kK,WI,WA,W9,W8,Kj,ZS,JHj,JH6,JHQ,JHs,JHh,JHl,JHw,JHC,JHc,JAn,JAm,JBv,JC5,qB,JAv,JBT,JBx,JAJ,JAb,JAT,JAp,JBh,JAj,ZU,JAQ,JC1,JAW,JBq,JBY,JAx,JAK,JAU,JB2,JBF,JBs,JB7,JAN,jy,JBZ,JAe,JAS,JBL,JAf,JBn,JB0,JBK,JAI,JBA,JBU,JBC,JBo,JAV,JBu,JBg,JAh,JBG,KH,Wv,Ki,Kb,j5,Kl,JIG,JI0,JHY,JHN,JHL,JHr,JIC,JGt,JBi,JC2,JB8,JB5,JBc,JAM,JC4,JBd,JAO,JBb,JC3,JBf,JAr,JBI,JAa,JB4,JBR,JAR,JAu,JBW,JBX,JAL,JAy,JBw,JAZ,JBt,JC7,JBS,JBr,JBQ,JC6,JAs,JAc,JAq,JAP,JBp,JBJ,JAX,JBV,JAo,JAw,JBP,JB1,JAg,JB9,Yt,Wo,JCx,JCZ,JCt,JDK,Yx,jM,jL,Kp,YO,nx0,nx1,nx2,nx3,nx4,nx5,nx6,nx7,nx8,nx9,JNY,JP9,JOf,JNW,JPL,JO7,JNX,JNr,JNw,JOy,JOt,JPE,e2,hc,hi,cond_true,cond_false,Bool.not_false,Bool.not_true,Bool.true_and,Bool.false_and,Bool.and_false,Bool.and_true,Bool.or_false,Bool.false_or,beq_self_eq_true,bne_self_eq_false,ho,hm,h3,hd,hs,h0,hk,hE,hF,hS,hs1,hs2]
    simp only [he]
    try rw [← hl]
    try rw [← hy]
    all_goals kernel_rfl
  · unfold Ks
    simp only [XA,XB,Qn,YR,Ke,Kc,Zf,JKQ,JFU,Z4,JF1,JNV,Xv,Xr,Zn,Zo,JGa,JG3,JEv,JE1,jJ,YE,WI,WA,W9,W8,Kj,KH,Ki,Kb,Kl,JCx,JCZ,JCt,JDK,Yx,jM,jL,Kp,ZO,YO,nx0,nx1,nx2,nx3,nx4,nx5,nx6,nx7,nx8,nx9,JNY,JP9,JOf,JNW,JPL,JO7,JNX,JNr,JNw,JOy,JOt,JPE,e2,hc,hi,cond_true,cond_false,Bool.not_false,Bool.not_true,Bool.true_and,Bool.false_and,Bool.and_false,Bool.and_true,Bool.or_false,Bool.false_or,beq_self_eq_true,bne_self_eq_false,ho,hm,h3,hd,hs,h0,hk,hE,hF,hS,hs1,hs2]
    all_goals kernel_rfl
theorem Jho (x:List GC) (s:St) (he:s.er = 0) (hl:J2 s.l = s.l) (hy:J2 s.y = s.y) (hc:s.cl = false) (hi:inv x s = false) (ho:s.op = true) (hm:(J3 (xi x 0) && xi x 16 == 0) = true) (hd:(!Ja (J2 x) (xi s.l 8) (xi s.l 17) || xi s.y 0 == 0) = false) (hE:nE s.l s.y = 0) (hS:shE (f0 s.l s.y) (f1 s.l s.y) false s = 0) :
    XW x s = { mvd x s with l := JXi,y := JXi,a0 := 0,a1 := 0,tr := false,op := false,C := [] } ∧ Ks x s = Zs (J2 x) (J4 (xi s.l 8) (xi x 5) (xi x 6) (xi x 7)) (J5 (xi s.l 8) (xi x 5) (xi x 6) (xi x 7)) (J9 (xi s.l 8) (xi x 5) (xi x 6) (xi x 7)) (J9 (xi s.l 8) (xi x 5) (xi x 6) (xi x 7)) true (J2 s.l) (f0 s.l s.y) (f1 s.l s.y) (Qb (J2 s.l) (f0 s.l s.y) (f1 s.l s.y) s.C (shO (f0 s.l s.y) (f1 s.l s.y) false s)) := by
  unfold inv at hi
  have e2:(s.er == 0) = true := by rw [he]; rfl
  unfold nE at hE
  unfold shE at hS
  obtain ⟨hs1,hs2⟩ := JaO _ _ _ _ _ _ _ _ hS
  unfold f0 f1 at hS hs1 hs2
  refine ⟨?_,?_⟩
  · unfold XW mvd
    simp only [jg,jp,jl,QS,JLE,JJv,ZB,Jao,JYr,Ja3,JWh,JZ0,JYH,JYP,JYN,Jb1,JQT,JRH,JRx,JSH,JKV,JPt,JPx,JRu,JS6,JS2,JQJ,JSY,JQa,JRT,ZD,JR8,JSm,JRh,JPh,JR5,JQV,JSU,JRL,JSl,JRF,JSh,JQI,JPj,JKa,JQ8,JRB,JSW,JSZ,JR6,JQ1,JPs,JQ4,JQw,ZV,ZW,JPp,JQ5,JRo,JR0,JCK,JGK,Kj,ZS,JHj,JH6,JHQ,JHs,JHh,JHl,JHw,JHC,JHc,JAn,JAm,JBv,JC5,qB,JAv,JBT,JBx,JAJ,JAb,JAT,JAp,JBh,JAj,ZU,JAQ,JC1,JAW,JBq,JBY,JAx,JAK,JAU,JB2,JBF,JBs,JB7,JAN,jy,JBZ,JAe,JAS,JBL,JAf,JBn,JB0,JBK,JAI,JBA,JBU,JBC,JBo,JAV,JBu,JBg,JAh,JBG,KH,Wv,Ki,Kb,j5,Kl,JIG,JI0,JHY,JHN,JHL,JHr,JIC,JGt,JBi,JC2,JB8,JB5,JBc,JAM,JC4,JBd,JAO,JBb,JC3,JBf,JAr,JBI,JAa,JB4,JBR,JAR,JAu,JBW,JBX,JAL,JAy,JBw,JAZ,JBt,JC7,JBS,JBr,JBQ,JC6,JAs,JAc,JAq,JAP,JBp,JBJ,JAX,JBV,JAo,JAw,JBP,JB1,JAg,JB9,Yt,Wo,JCx,JCZ,JCt,JDK,Yx,jM,jL,Kp,YO,nx0,nx1,nx2,nx3,nx4,nx5,nx6,nx7,nx8,nx9,JNY,JP9,JOf,JNW,JPL,JO7,JNX,JNr,JNw,JOy,JOt,JPE,e2,hc,hi,cond_true,cond_false,Bool.not_false,Bool.not_true,Bool.true_and,Bool.false_and,Bool.and_false,Bool.and_true,Bool.or_false,Bool.false_or,beq_self_eq_true,bne_self_eq_false,ho,hm,hd,hE,hS,hs1,hs2]
    simp only [he]
    try rw [← hl]
    try rw [← hy]
    all_goals kernel_rfl
  · unfold Ks
    simp only [jg,jp,jl,QS,JLE,JJv,ZV,ZW,JCK,Kj,KH,Ki,Kb,Kl,JCx,JCZ,JCt,JDK,Yx,jM,jL,Kp,ZO,YO,nx0,nx1,nx2,nx3,nx4,nx5,nx6,nx7,nx8,nx9,JNY,JP9,JOf,JNW,JPL,JO7,JNX,JNr,JNw,JOy,JOt,JPE,e2,hc,hi,cond_true,cond_false,Bool.not_false,Bool.not_true,Bool.true_and,Bool.false_and,Bool.and_false,Bool.and_true,Bool.or_false,Bool.false_or,beq_self_eq_true,bne_self_eq_false,ho,hm,hd,hE,hS,hs1,hs2]
    all_goals kernel_rfl
def JvG (x:List GC) (s:St):Int := bif s.cl then 13 else bif inv x s then 1 else bif !s.op && J3 (xi x 0) && xi x 16 != 0 then (bif !Ja (J2 x) (xi x 8) (xi x 17) then 14 else 0) else bif !s.op then 0 else bif J3 (xi x 0) && xi x 16 == 0 then (bif !Ja (J2 x) (xi s.l 8) (xi s.l 17) || xi s.y 0 == 0 then 14 else bif nE s.l s.y == 0 then (bif shE (f0 s.l s.y) (f1 s.l s.y) false s != 0 then shE (f0 s.l s.y) (f1 s.l s.y) false s else 0) else (bif nE s.l s.y != 0 then nE s.l s.y else 0)) else bif three x then 13 else bif odd x s.l then 13 else bif jO x s.l then (bif Int.ofNat s.C.length == 8 then 10 else 0) else bif xi s.y 0 == 0 then (bif nE s.l x != 0 then nE s.l x else 0) else bif kd s.l s.y x == 2 then (bif trE s.l s.y x == 0 then (bif shE (tr0 s.l s.y x) (tr1 s.l s.y x) true s != 0 then shE (tr0 s.l s.y x) (tr1 s.l s.y x) true s else 0) else (bif trE s.l s.y x != 0 then trE s.l s.y x else 0)) else (bif nE s.l s.y != 0 then nE s.l s.y else bif nE s.l x == 0 then (bif shE (f0 s.l s.y) (f1 s.l s.y) false s != 0 then shE (f0 s.l s.y) (f1 s.l s.y) false s else 0) else (bif nE s.l x != 0 then nE s.l x else 0))
theorem JYg (x:List GC) (s:St) (he:s.er = 0):WF x s = JvG x s := by
  unfold WF
  rw [JPg]
  unfold Yt
  rw [he,beq_self_eq_true,cond_true]
  kernel_rfl
theorem JBa {c:Bool} {a b:Int} (ha:a ≠ 0) (h:(bif c then a else b) = 0):c = false ∧ b = 0 := by
  cases c
  · exact ⟨rfl,h⟩
  · exact absurd h ha
theorem JuS {a:Int} (h:(bif a != 0 then a else 0) = 0):a = 0 := by
  cases ha:(a != 0)
  · simpa using ha
  · rw [ha] at h; exact h
theorem Jm9 {a b:Int} (h:(bif a == 0 then (bif b != 0 then b else 0) else (bif a != 0 then a else 0)) = 0):a = 0 ∧ b = 0 := by
  cases ha:(a == 0)
  · rw [ha] at h
    have := JuS h
    rw [this] at ha; cases ha
  · rw [ha] at h
    exact ⟨by simpa using ha,JuS h⟩
theorem JjZ (x:List GC) (s:St) (he:s.er = 0) (h:WF x s = 0):s.cl = false ∧ inv x s = false ∧
    ((s.op = false ∧ (J3 (xi x 0) && xi x 16 != 0) = false) ∨
     (s.op = false ∧ (J3 (xi x 0) && xi x 16 != 0) = true ∧ Ja (J2 x) (xi x 8) (xi x 17) = true) ∨
     (s.op = true ∧ (J3 (xi x 0) && xi x 16 == 0) = true ∧ (!Ja (J2 x) (xi s.l 8) (xi s.l 17) || xi s.y 0 == 0) = false ∧ nE s.l s.y = 0 ∧ shE (f0 s.l s.y) (f1 s.l s.y) false s = 0) ∨
     (s.op = true ∧ (J3 (xi x 0) && xi x 16 == 0) = false ∧ three x = false ∧ odd x s.l = false ∧
       ((jO x s.l = true ∧ (Int.ofNat s.C.length == 8) = false) ∨
        (jO x s.l = false ∧ (xi s.y 0 == 0) = true ∧ nE s.l x = 0) ∨
        (jO x s.l = false ∧ (xi s.y 0 == 0) = false ∧ (kd s.l s.y x == 2) = true ∧ trE s.l s.y x = 0 ∧ shE (tr0 s.l s.y x) (tr1 s.l s.y x) true s = 0) ∨
        (jO x s.l = false ∧ (xi s.y 0 == 0) = false ∧ (kd s.l s.y x == 2) = false ∧ nE s.l s.y = 0 ∧ nE s.l x = 0 ∧ shE (f0 s.l s.y) (f1 s.l s.y) false s = 0)))) := by
  rw [JYg x s he] at h
  unfold JvG at h
  obtain ⟨h1,h⟩ := JBa (by decide) h
  obtain ⟨h2,h⟩ := JBa (by decide) h
  refine ⟨h1,h2,?_⟩
  cases ho:s.op
  · rw [ho] at h
    simp only [Bool.not_false,Bool.true_and,cond_true] at h
    cases hm:(J3 (xi x 0) && xi x 16 != 0)
    · exact .inl ⟨rfl,rfl⟩
    · rw [hm,cond_true] at h
      obtain ⟨h3,_⟩ := JBa (by decide) h
      exact .inr (.inl ⟨rfl,rfl,by simpa using h3⟩)
  · rw [ho] at h
    simp only [Bool.not_true,Bool.false_and,cond_false] at h
    cases hm:(J3 (xi x 0) && xi x 16 == 0)
    · rw [hm,cond_false] at h
      obtain ⟨h3,h⟩ := JBa (by decide) h
      obtain ⟨h4,h⟩ := JBa (by decide) h
      refine .inr (.inr (.inr ⟨rfl,rfl,h3,h4,?_⟩))
      cases hs:jO x s.l
      · rw [hs,cond_false] at h
        cases h0:(xi s.y 0 == 0)
        · rw [h0,cond_false] at h
          cases hk:(kd s.l s.y x == 2)
          · rw [hk,cond_false] at h
            have hn:nE s.l s.y = 0 := by
              cases hn:(nE s.l s.y != 0)
              · simpa using hn
              · rw [hn,cond_true] at h; exact h
            rw [hn,bne_self_eq_false,cond_false] at h
            obtain ⟨h5,h6⟩ := Jm9 h
            exact .inr (.inr (.inr ⟨rfl,rfl,rfl,hn,h5,h6⟩))
          · rw [hk,cond_true] at h
            obtain ⟨h5,h6⟩ := Jm9 h
            exact .inr (.inr (.inl ⟨rfl,rfl,rfl,h5,h6⟩))
        · rw [h0,cond_true] at h
          exact .inr (.inl ⟨rfl,rfl,JuS h⟩)
      · rw [hs,cond_true] at h
        obtain ⟨h5,_⟩ := JBa (by decide) h
        exact .inl ⟨rfl,h5⟩
    · rw [hm,cond_true] at h
      obtain ⟨h3,h⟩ := JBa (by decide) h
      obtain ⟨h5,h6⟩ := Jm9 h
      exact .inr (.inr (.inl ⟨rfl,rfl,h3,h5,h6⟩))
structure Rt where
  cl:Bool
  op:Bool
  er:Int
  mo:Bool
  en:Bool
  la0:Int
  la1:Int
  la2:Int
  l:List GC
  has:Bool
  y:List GC
  st0:Int
  st1:Int
  tr:Bool
  pn0:Int
  pn1:Int
  C:LL
section
variable (x l y:List GC) (t:Rt)
def rS:Rt:= ⟨(JBO x t.cl t.op t.er t.mo t.en t.la0 t.la1 t.la2 (J2 t.l) t.has (J2 t.y) t.st0 t.st1 t.tr t.C),(JDe x t.cl t.op t.er t.mo t.en t.la0 t.la1 t.la2 (J2 t.l) t.has (J2 t.y) t.st0 t.st1 t.tr t.C),(JBE x t.cl t.op t.er t.mo t.en t.la0 t.la1 t.la2 (J2 t.l) t.has (J2 t.y) t.st0 t.st1 t.tr t.C),(JEI x t.cl t.op t.er t.mo t.en t.la0 t.la1 t.la2 (J2 t.l) t.has (J2 t.y) t.st0 t.st1 t.tr t.C),(JEJ x t.cl t.op t.er t.mo t.en t.la0 t.la1 t.la2 (J2 t.l) t.has (J2 t.y) t.st0 t.st1 t.tr t.C),(JDp x t.cl t.op t.er t.mo t.en t.la0 t.la1 t.la2 (J2 t.l) t.has (J2 t.y) t.st0 t.st1 t.tr t.C),(JEV x t.cl t.op t.er t.mo t.en t.la0 t.la1 t.la2 (J2 t.l) t.has (J2 t.y) t.st0 t.st1 t.tr t.C),(JDn x t.cl t.op t.er t.mo t.en t.la0 t.la1 t.la2 (J2 t.l) t.has (J2 t.y) t.st0 t.st1 t.tr t.C),
 [.i ((kR x t.cl t.op t.er t.mo t.en t.la0 t.la1 t.la2 (J2 t.l) t.has (J2 t.y) t.st0 t.st1 t.tr t.C)),.i ((kW x t.cl t.op t.er t.mo t.en t.la0 t.la1 t.la2 (J2 t.l) t.has (J2 t.y) t.st0 t.st1 t.tr t.C)),.i ((z8 x t.cl t.op t.er t.mo t.en t.la0 t.la1 t.la2 (J2 t.l) t.has (J2 t.y) t.st0 t.st1 t.tr t.C)),.i ((zL x t.cl t.op t.er t.mo t.en t.la0 t.la1 t.la2 (J2 t.l) t.has (J2 t.y) t.st0 t.st1 t.tr t.C)),.i ((qz x t.cl t.op t.er t.mo t.en t.la0 t.la1 t.la2 (J2 t.l) t.has (J2 t.y) t.st0 t.st1 t.tr t.C)),.i ((JA5 x t.cl t.op t.er t.mo t.en t.la0 t.la1 t.la2 (J2 t.l) t.has (J2 t.y) t.st0 t.st1 t.tr t.C)),.i ((kF x t.cl t.op t.er t.mo t.en t.la0 t.la1 t.la2 (J2 t.l) t.has (J2 t.y) t.st0 t.st1 t.tr t.C)),.i ((qW x t.cl t.op t.er t.mo t.en t.la0 t.la1 t.la2 (J2 t.l) t.has (J2 t.y) t.st0 t.st1 t.tr t.C)),.i ((ku x t.cl t.op t.er t.mo t.en t.la0 t.la1 t.la2 (J2 t.l) t.has (J2 t.y) t.st0 t.st1 t.tr t.C)),.i ((qY x t.cl t.op t.er t.mo t.en t.la0 t.la1 t.la2 (J2 t.l) t.has (J2 t.y) t.st0 t.st1 t.tr t.C)),.i ((zc x t.cl t.op t.er t.mo t.en t.la0 t.la1 t.la2 (J2 t.l) t.has (J2 t.y) t.st0 t.st1 t.tr t.C)),.i ((qM x t.cl t.op t.er t.mo t.en t.la0 t.la1 t.la2 (J2 t.l) t.has (J2 t.y) t.st0 t.st1 t.tr t.C)),.i ((kI x t.cl t.op t.er t.mo t.en t.la0 t.la1 t.la2 (J2 t.l) t.has (J2 t.y) t.st0 t.st1 t.tr t.C)),.b ((zD x t.cl t.op t.er t.mo t.en t.la0 t.la1 t.la2 (J2 t.l) t.has (J2 t.y) t.st0 t.st1 t.tr t.C)),.i ((kP x t.cl t.op t.er t.mo t.en t.la0 t.la1 t.la2 (J2 t.l) t.has (J2 t.y) t.st0 t.st1 t.tr t.C)),.b ((kO x t.cl t.op t.er t.mo t.en t.la0 t.la1 t.la2 (J2 t.l) t.has (J2 t.y) t.st0 t.st1 t.tr t.C)),.i ((qe x t.cl t.op t.er t.mo t.en t.la0 t.la1 t.la2 (J2 t.l) t.has (J2 t.y) t.st0 t.st1 t.tr t.C)),.i ((qk x t.cl t.op t.er t.mo t.en t.la0 t.la1 t.la2 (J2 t.l) t.has (J2 t.y) t.st0 t.st1 t.tr t.C)),.i ((kJ x t.cl t.op t.er t.mo t.en t.la0 t.la1 t.la2 (J2 t.l) t.has (J2 t.y) t.st0 t.st1 t.tr t.C)),.i ((qG x t.cl t.op t.er t.mo t.en t.la0 t.la1 t.la2 (J2 t.l) t.has (J2 t.y) t.st0 t.st1 t.tr t.C)),.i ((ze x t.cl t.op t.er t.mo t.en t.la0 t.la1 t.la2 (J2 t.l) t.has (J2 t.y) t.st0 t.st1 t.tr t.C)),.b ((zf x t.cl t.op t.er t.mo t.en t.la0 t.la1 t.la2 (J2 t.l) t.has (J2 t.y) t.st0 t.st1 t.tr t.C))],(JA0 x t.cl t.op t.er t.mo t.en t.la0 t.la1 t.la2 (J2 t.l) t.has (J2 t.y) t.st0 t.st1 t.tr t.C),
 [.i ((zu x t.cl t.op t.er t.mo t.en t.la0 t.la1 t.la2 (J2 t.l) t.has (J2 t.y) t.st0 t.st1 t.tr t.C)),.i ((qj x t.cl t.op t.er t.mo t.en t.la0 t.la1 t.la2 (J2 t.l) t.has (J2 t.y) t.st0 t.st1 t.tr t.C)),.i ((zH x t.cl t.op t.er t.mo t.en t.la0 t.la1 t.la2 (J2 t.l) t.has (J2 t.y) t.st0 t.st1 t.tr t.C)),.i ((qT x t.cl t.op t.er t.mo t.en t.la0 t.la1 t.la2 (J2 t.l) t.has (J2 t.y) t.st0 t.st1 t.tr t.C)),.i ((qf x t.cl t.op t.er t.mo t.en t.la0 t.la1 t.la2 (J2 t.l) t.has (J2 t.y) t.st0 t.st1 t.tr t.C)),.i ((kL x t.cl t.op t.er t.mo t.en t.la0 t.la1 t.la2 (J2 t.l) t.has (J2 t.y) t.st0 t.st1 t.tr t.C)),.i ((qg x t.cl t.op t.er t.mo t.en t.la0 t.la1 t.la2 (J2 t.l) t.has (J2 t.y) t.st0 t.st1 t.tr t.C)),.i ((qx x t.cl t.op t.er t.mo t.en t.la0 t.la1 t.la2 (J2 t.l) t.has (J2 t.y) t.st0 t.st1 t.tr t.C)),.i ((k8 x t.cl t.op t.er t.mo t.en t.la0 t.la1 t.la2 (J2 t.l) t.has (J2 t.y) t.st0 t.st1 t.tr t.C)),.i ((qv x t.cl t.op t.er t.mo t.en t.la0 t.la1 t.la2 (J2 t.l) t.has (J2 t.y) t.st0 t.st1 t.tr t.C)),.i ((zt x t.cl t.op t.er t.mo t.en t.la0 t.la1 t.la2 (J2 t.l) t.has (J2 t.y) t.st0 t.st1 t.tr t.C)),.i ((ky x t.cl t.op t.er t.mo t.en t.la0 t.la1 t.la2 (J2 t.l) t.has (J2 t.y) t.st0 t.st1 t.tr t.C)),.i ((zw x t.cl t.op t.er t.mo t.en t.la0 t.la1 t.la2 (J2 t.l) t.has (J2 t.y) t.st0 t.st1 t.tr t.C)),.b ((kU x t.cl t.op t.er t.mo t.en t.la0 t.la1 t.la2 (J2 t.l) t.has (J2 t.y) t.st0 t.st1 t.tr t.C)),.i ((kn x t.cl t.op t.er t.mo t.en t.la0 t.la1 t.la2 (J2 t.l) t.has (J2 t.y) t.st0 t.st1 t.tr t.C)),.b ((kS x t.cl t.op t.er t.mo t.en t.la0 t.la1 t.la2 (J2 t.l) t.has (J2 t.y) t.st0 t.st1 t.tr t.C)),.i ((ki x t.cl t.op t.er t.mo t.en t.la0 t.la1 t.la2 (J2 t.l) t.has (J2 t.y) t.st0 t.st1 t.tr t.C)),.i ((qX x t.cl t.op t.er t.mo t.en t.la0 t.la1 t.la2 (J2 t.l) t.has (J2 t.y) t.st0 t.st1 t.tr t.C)),.i ((zB x t.cl t.op t.er t.mo t.en t.la0 t.la1 t.la2 (J2 t.l) t.has (J2 t.y) t.st0 t.st1 t.tr t.C)),.i ((kQ x t.cl t.op t.er t.mo t.en t.la0 t.la1 t.la2 (J2 t.l) t.has (J2 t.y) t.st0 t.st1 t.tr t.C)),.i ((zy x t.cl t.op t.er t.mo t.en t.la0 t.la1 t.la2 (J2 t.l) t.has (J2 t.y) t.st0 t.st1 t.tr t.C)),.b ((km x t.cl t.op t.er t.mo t.en t.la0 t.la1 t.la2 (J2 t.l) t.has (J2 t.y) t.st0 t.st1 t.tr t.C))],(zO x t.cl t.op t.er t.mo t.en t.la0 t.la1 t.la2 (J2 t.l) t.has (J2 t.y) t.st0 t.st1 t.tr t.C),(JA7 x t.cl t.op t.er t.mo t.en t.la0 t.la1 t.la2 (J2 t.l) t.has (J2 t.y) t.st0 t.st1 t.tr t.C),(zh x t.cl t.op t.er t.mo t.en t.la0 t.la1 t.la2 (J2 t.l) t.has (J2 t.y) t.st0 t.st1 t.tr t.C),(kC x t.cl t.op t.er t.mo t.en t.la0 t.la1 t.la2 (J2 t.l) t.has (J2 t.y) t.st0 t.st1 t.tr t.pn0 t.C),(k9 x t.cl t.op t.er t.mo t.en t.la0 t.la1 t.la2 (J2 t.l) t.has (J2 t.y) t.st0 t.st1 t.tr t.pn1 t.C),(WH x t.cl t.op t.er t.mo t.en t.la0 t.la1 t.la2 (J2 t.l) t.has (J2 t.y) t.st0 t.st1 t.tr t.C)⟩
def rO:LL:= (KQ x t.cl t.op t.er t.mo t.en t.la0 t.la1 t.la2 (J2 t.l) t.has (J2 t.y) t.st0 t.st1 t.tr t.C)
def rE:Int:= (ZT x t.cl t.op t.er t.mo t.en t.la0 t.la1 t.la2 (J2 t.l) t.has (J2 t.y) t.st0 t.st1 t.tr t.C)
def JJY:Bool:= !Qm (J2 x) || t.en || J3 (xi x 0) && t.mo && !(xi x 2 == t.la0 && (xi x 3 == t.la1 && xi x 4 == t.la2))
def JJc:Rt:= { t with en := xi x 0 == 14,mo := J3 (xi x 0) || t.mo,la0 := bif J3 (xi x 0) then xi x 5 else t.la0,la1 := bif J3 (xi x 0) then xi x 6 else t.la1,la2 := bif J3 (xi x 0) then xi x 7 else t.la2 }
def JvM:Int:= bif Jy x l y == 2 then JEP (J4 (xi l 8) (xi y 2) (xi y 3) (xi y 4)) (J5 (xi l 8) (xi y 2) (xi y 3) (xi y 4)) (J4 (xi l 8) (xi y 5) (xi y 6) (xi y 7)) (J5 (xi l 8) (xi y 5) (xi y 6) (xi y 7)) (JO (xi l 8) (J2 y)) (JN (xi l 8) (J2 y)) (JL (J2 y)) (QJ (J2 y)) (J4 (xi l 8) (xi x 2) (xi x 3) (xi x 4)) (J5 (xi l 8) (xi x 2) (xi x 3) (xi x 4)) (J4 (xi l 8) (xi x 5) (xi x 6) (xi x 7)) (J5 (xi l 8) (xi x 5) (xi x 6) (xi x 7)) (JO (xi l 8) (J2 x)) (JN (xi l 8) (J2 x)) (JL (J2 x)) (QJ (J2 x)) (JT (J2 l)) else bif YZ l y == 0 then Qd (J4 (xi l 8) (xi x 2) (xi x 3) (xi x 4)) (J5 (xi l 8) (xi x 2) (xi x 3) (xi x 4)) (J4 (xi l 8) (xi x 5) (xi x 6) (xi x 7)) (J5 (xi l 8) (xi x 5) (xi x 6) (xi x 7)) (JO (xi l 8) (J2 x)) (JN (xi l 8) (J2 x)) (JL (J2 x)) (JT (J2 l)) else YZ l y
end
theorem Jfn (x l y:List GC):JaU x l y = JvM x l y := by kernel_rfl
theorem JeB (x l y:List GC) (a b:Int) (c:Bool):JWU x l y a b c = Q8 (Xs x l y) (Xt x l y) (Jy x l y == 2) (J2 l) (J2 y) a b c := by kernel_rfl
def Jx1 (l:List GC) (u0 u1 v0 v1:Int):List Int := [xi l 0,xi l 1,JQ (xi l 8) u0 u1 (J9 (xi l 8) (xi l 2) (xi l 3) (xi l 4)), JR (xi l 8) u0 u1 (J9 (xi l 8) (xi l 2) (xi l 3) (xi l 4)), JS (xi l 8) u0 u1 (J9 (xi l 8) (xi l 2) (xi l 3) (xi l 4)), JQ (xi l 8) v0 v1 (J9 (xi l 8) (xi l 5) (xi l 6) (xi l 7)),JR (xi l 8) v0 v1 (J9 (xi l 8) (xi l 5) (xi l 6) (xi l 7)), JS (xi l 8) v0 v1 (J9 (xi l 8) (xi l 5) (xi l 6) (xi l 7)),Kf l, XS l u0 u1 l, XP l u0 u1 l, XT l u0 u1 l,xi l 12,bif xb l 13 then 1 else 0,xi l 14,bif xb l 15 then 1 else 0,0,0, xi l 18,xi l 19,xi l 20,bif xb l 21 then 1 else 0]
def JrL (x l:List GC) (u0 u1:Int):List Int := [xi x 0,xi x 1,JQ (xi l 8) u0 u1 (J9 (xi l 8) (xi x 2) (xi x 3) (xi x 4)), JR (xi l 8) u0 u1 (J9 (xi l 8) (xi x 2) (xi x 3) (xi x 4)),JS (xi l 8) u0 u1 (J9 (xi l 8) (xi x 2) (xi x 3) (xi x 4)), xi x 5,xi x 6,xi x 7,xi x 8,xi x 9,xi x 10,xi x 11,xi x 12,bif xb x 13 then 1 else 0,xi x 14,bif xb x 15 then 1 else 0,xi x 16,xi x 17,xi x 18,xi x 19,xi x 20, bif xb x 21 then 1 else 0]
theorem JhE (x:List GC) (t:Rt) (hx:J2 x = x) (he:t.er = 0) (hl:J2 t.l = t.l) (hy:J2 t.y = t.y) (hc:t.cl = false) (hi:JJY x t = false) (ho:t.op = false) (hm:(!J3 (xi x 0) || xi x 16 == 0) = true) :
    rE x t = 0 ∧ rS x t = JJc x t ∧ rO x t = [JFw x] := by
  unfold JJY at hi
  have e2:(t.er != 0) = false := by rw [he]; rfl
  rw [hx] at hi
  have hE:rE x t = 0 := by
    unfold rE
    simp only [QI,Ze,QF,ZY,QG,QH,QC,Z2,ZT,hx,hl,hy,e2,hc,hi,cond_true,cond_false,Bool.not_false,Bool.not_true,Bool.true_and,Bool.false_and,Bool.and_false,Bool.and_true,Bool.or_false,Bool.false_or,beq_self_eq_true,bne_self_eq_false,Bool.and_self,Bool.or_self,ho,hm]
  refine ⟨hE,?_,?_⟩
  · unfold rS JJc
    simp only [QI,Ze,QF,ZY,QG,QH,QC,YS,JE6,JDo,JEG,JDV,JDy,JDw,JDq,JDx,JA2,kX,kw,kt,qF,qu,zV,zp,zT,qL,kv,qH,qp,qZ,zR,qS,zJ,qy,qm,qU,qi,JA6,zZ,kT,ke,ql,kc,kM,qV,zm,zQ,zF,zz,zj,kr,kN,zP,zq,kh,kx,zo,qP,qN,kb,kl,zY,zU,zn,W6,Z2,ZT,KQ,JBO,JDe,JBE,JEI,JEJ,JDp,JEV,JDn,kR,kW,z8,zL,qz,JA5,kF,qW,ku,qY,zc,qM,kI,zD,kP,kO,qe,qk,kJ,qG,ze,zf,JA0,zu,qj,zH,qT,qf,kL,qg,qx,k8,qv,zt,ky,zw,kU,kn,kS,ki,qX,zB,kQ,zy,km,zO,JA7,zh,kC,k9,WH,hx,hl,hy,e2,hc,hi,cond_true,cond_false,Bool.not_false,Bool.not_true,Bool.true_and,Bool.false_and,Bool.and_false,Bool.and_true,Bool.or_false,Bool.false_or,beq_self_eq_true,bne_self_eq_false,Bool.and_self,Bool.or_self,ho,hm]
    try simp only [he]
    try rw [← hl]
    try rw [← hy]
    try rw [← hx]
    all_goals kernel_rfl
  · unfold rO
    simp only [QI,Ze,QF,ZY,QG,QH,QC,Z2,ZT,YS,KQ,hx,hl,hy,e2,hc,hi,cond_true,cond_false,Bool.not_false,Bool.not_true,Bool.true_and,Bool.false_and,Bool.and_false,Bool.and_true,Bool.or_false,Bool.false_or,beq_self_eq_true,bne_self_eq_false,Bool.and_self,Bool.or_self,ho,hm]
    all_goals kernel_rfl
theorem Jir (x:List GC) (t:Rt) (hx:J2 x = x) (he:t.er = 0) (hl:J2 t.l = t.l) (hy:J2 t.y = t.y) (hc:t.cl = false) (hi:JJY x t = false) (ho:t.op = false) (hm:(!J3 (xi x 0) || xi x 16 == 0) = false) (hd:ZJ (xi x 8) (xi x 17) x = true) :
    rE x t = 0 ∧ rS x t = { JJc x t with l := x,op := true,has := false,C := [] } ∧ rO x t = [] := by
  unfold JJY at hi
  have e2:(t.er != 0) = false := by rw [he]; rfl
  rw [hx] at hi
  have hE:rE x t = 0 := by
    unfold rE
    simp only [QI,Ze,QF,ZY,QG,QH,QC,Z2,ZT,hx,hl,hy,e2,hc,hi,cond_true,cond_false,Bool.not_false,Bool.not_true,Bool.true_and,Bool.false_and,Bool.and_false,Bool.and_true,Bool.or_false,Bool.false_or,beq_self_eq_true,bne_self_eq_false,Bool.and_self,Bool.or_self,ho,hm,hd]
  refine ⟨hE,?_,?_⟩
  · unfold rS JJc
    simp only [QI,Ze,QF,ZY,QG,QH,QC,YS,JE6,JDo,JEG,JDV,JDy,JDw,JDq,JDx,JA2,kX,kw,kt,qF,qu,zV,zp,zT,qL,kv,qH,qp,qZ,zR,qS,zJ,qy,qm,qU,qi,JA6,zZ,kT,ke,ql,kc,kM,qV,zm,zQ,zF,zz,zj,kr,kN,zP,zq,kh,kx,zo,qP,qN,kb,kl,zY,zU,zn,W6,Z2,ZT,KQ,JBO,JDe,JBE,JEI,JEJ,JDp,JEV,JDn,kR,kW,z8,zL,qz,JA5,kF,qW,ku,qY,zc,qM,kI,zD,kP,kO,qe,qk,kJ,qG,ze,zf,JA0,zu,qj,zH,qT,qf,kL,qg,qx,k8,qv,zt,ky,zw,kU,kn,kS,ki,qX,zB,kQ,zy,km,zO,JA7,zh,kC,k9,WH,hx,hl,hy,e2,hc,hi,cond_true,cond_false,Bool.not_false,Bool.not_true,Bool.true_and,Bool.false_and,Bool.and_false,Bool.and_true,Bool.or_false,Bool.false_or,beq_self_eq_true,bne_self_eq_false,Bool.and_self,Bool.or_self,ho,hm,hd]
    try simp only [he]
    try rw [← hl]
    try rw [← hy]
    try rw [← hx]
    all_goals kernel_rfl
  · unfold rO
    simp only [QI,Ze,QF,ZY,QG,QH,QC,Z2,ZT,YS,KQ,hx,hl,hy,e2,hc,hi,cond_true,cond_false,Bool.not_false,Bool.not_true,Bool.true_and,Bool.false_and,Bool.and_false,Bool.and_true,Bool.or_false,Bool.false_or,beq_self_eq_true,bne_self_eq_false,Bool.and_self,Bool.or_self,ho,hm,hd]
    all_goals kernel_rfl
theorem JiZ (x:List GC) (t:Rt) (hx:J2 x = x) (he:t.er = 0) (hl:J2 t.l = t.l) (hy:J2 t.y = t.y) (hc:t.cl = false) (hi:JJY x t = false) (ho:t.op = true) (hm:(J3 (xi x 0) && xi x 16 == 0) = false) (h3:(xi x 0 == 1 || xi x 0 == 11 || xi x 0 == 14 || J3 (xi x 0) && (xi x 8 != xi t.l 8 || xi x 16 != xi t.l 16 || xi x 17 != xi t.l 17)) = false) (hs:(!J3 (xi x 0) || !ZL (xi t.l 8) x) = true) (hn:(Int.ofNat t.C.length == 8) = false) :
    rE x t = 0 ∧ rS x t = { JJc x t with C := t.C ++ [JFw x] } ∧ rO x t = [] := by
  unfold JJY at hi
  have e2:(t.er != 0) = false := by rw [he]; rfl
  rw [hx] at hi
  have hE:rE x t = 0 := by
    unfold rE
    simp only [QI,Ze,QF,ZY,QG,QH,QC,Z2,ZT,hx,hl,hy,e2,hc,hi,cond_true,cond_false,Bool.not_false,Bool.not_true,Bool.true_and,Bool.false_and,Bool.and_false,Bool.and_true,Bool.or_false,Bool.false_or,beq_self_eq_true,bne_self_eq_false,Bool.and_self,Bool.or_self,ho,hm,h3,hs,hn]
  refine ⟨hE,?_,?_⟩
  · unfold rS JJc
    simp only [QI,Ze,QF,ZY,QG,QH,QC,YS,JE6,JDo,JEG,JDV,JDy,JDw,JDq,JDx,JA2,kX,kw,kt,qF,qu,zV,zp,zT,qL,kv,qH,qp,qZ,zR,qS,zJ,qy,qm,qU,qi,JA6,zZ,kT,ke,ql,kc,kM,qV,zm,zQ,zF,zz,zj,kr,kN,zP,zq,kh,kx,zo,qP,qN,kb,kl,zY,zU,zn,W6,Z2,ZT,KQ,JBO,JDe,JBE,JEI,JEJ,JDp,JEV,JDn,kR,kW,z8,zL,qz,JA5,kF,qW,ku,qY,zc,qM,kI,zD,kP,kO,qe,qk,kJ,qG,ze,zf,JA0,zu,qj,zH,qT,qf,kL,qg,qx,k8,qv,zt,ky,zw,kU,kn,kS,ki,qX,zB,kQ,zy,km,zO,JA7,zh,kC,k9,WH,hx,hl,hy,e2,hc,hi,cond_true,cond_false,Bool.not_false,Bool.not_true,Bool.true_and,Bool.false_and,Bool.and_false,Bool.and_true,Bool.or_false,Bool.false_or,beq_self_eq_true,bne_self_eq_false,Bool.and_self,Bool.or_self,ho,hm,h3,hs,hn]
    try simp only [he]
    try rw [← hl]
    try rw [← hy]
    try rw [← hx]
    all_goals kernel_rfl
  · unfold rO
    simp only [QI,Ze,QF,ZY,QG,QH,QC,Z2,ZT,YS,KQ,hx,hl,hy,e2,hc,hi,cond_true,cond_false,Bool.not_false,Bool.not_true,Bool.true_and,Bool.false_and,Bool.and_false,Bool.and_true,Bool.or_false,Bool.false_or,beq_self_eq_true,bne_self_eq_false,Bool.and_self,Bool.or_self,ho,hm,h3,hs,hn]
    all_goals kernel_rfl
theorem Ji5 (x:List GC) (t:Rt) (hx:J2 x = x) (he:t.er = 0) (hl:J2 t.l = t.l) (hy:J2 t.y = t.y) (hc:t.cl = false) (hi:JJY x t = false) (ho:t.op = true) (hm:(J3 (xi x 0) && xi x 16 == 0) = false) (h3:(xi x 0 == 1 || xi x 0 == 11 || xi x 0 == 14 || J3 (xi x 0) && (xi x 8 != xi t.l 8 || xi x 16 != xi t.l 16 || xi x 17 != xi t.l 17)) = false) (hs:(!J3 (xi x 0) || !ZL (xi t.l 8) x) = false) (h0:t.has = false) (hE0:Wd x t.l = 0) :
    rE x t = 0 ∧ rS x t = { JJc x t with has := true,y := x,st0 := Yk x t.l,st1 := Yq x t.l,tr := false,pn0 := Yk x t.l,pn1 := Yq x t.l,C := [] } ∧ rO x t = Jx1 t.l (J4 (xi t.l 8) (xi t.l 2) (xi t.l 3) (xi t.l 4)) (J5 (xi t.l 8) (xi t.l 2) (xi t.l 3) (xi t.l 4)) (Yk x t.l) (Yq x t.l) :: ZC (J2 t.l) (Yk x t.l) (Yq x t.l) t.C := by
  unfold JJY at hi
  have e2:(t.er != 0) = false := by rw [he]; rfl
  rw [hx] at hi
  unfold Wd at hE0
  rw [hx,hl] at hE0
  have hE:rE x t = 0 := by
    unfold rE
    simp only [Qy,JCA,QI,Ze,QF,ZY,QG,QH,JDE,QC,Z2,ZT,hx,hl,hy,e2,hc,hi,cond_true,cond_false,Bool.not_false,Bool.not_true,Bool.true_and,Bool.false_and,Bool.and_false,Bool.and_true,Bool.or_false,Bool.false_or,beq_self_eq_true,bne_self_eq_false,Bool.and_self,Bool.or_self,ho,hm,h3,hs,h0,hE0,Wd]
  refine ⟨hE,?_,?_⟩
  · unfold rS JJc
    simp only [Qy,JCA,QI,Ze,QF,ZY,QG,QH,JDE,JOT,JSM,JRR,JQi,JQs,JPu,JRQ,JQE,JSg,JS1,JRt,JQH,JSc,JRw,JPq,JQr,JRZ,JQd,JSa,JSX,JRj,JPn,JSv,JSI,JFg,JFo,JSo,JFu,QC,YS,JE6,JDo,JEG,JDV,JDy,JDw,JDq,JDx,JA2,kX,kw,kt,qF,qu,zV,zp,zT,qL,kv,qH,qp,qZ,zR,qS,zJ,qy,qm,qU,qi,JA6,zZ,kT,ke,ql,kc,kM,qV,zm,zQ,zF,zz,zj,kr,kN,zP,zq,kh,kx,zo,qP,qN,kb,kl,zY,zU,zn,W6,Z2,ZT,KQ,JBO,JDe,JBE,JEI,JEJ,JDp,JEV,JDn,kR,kW,z8,zL,qz,JA5,kF,qW,ku,qY,zc,qM,kI,zD,kP,kO,qe,qk,kJ,qG,ze,zf,JA0,zu,qj,zH,qT,qf,kL,qg,qx,k8,qv,zt,ky,zw,kU,kn,kS,ki,qX,zB,kQ,zy,km,zO,JA7,zh,kC,k9,WH,hx,hl,hy,e2,hc,hi,cond_true,cond_false,Bool.not_false,Bool.not_true,Bool.true_and,Bool.false_and,Bool.and_false,Bool.and_true,Bool.or_false,Bool.false_or,beq_self_eq_true,bne_self_eq_false,Bool.and_self,Bool.or_self,ho,hm,h3,hs,h0,hE0,Wd]
    try simp only [he]
    try rw [← hl]
    try rw [← hy]
    try rw [← hx]
    all_goals kernel_rfl
  · unfold rO
    simp only [Qy,JCA,QI,Ze,QF,ZY,QG,QH,JDE,QC,Z2,ZT,JOT,YS,KQ,hx,hl,hy,e2,hc,hi,cond_true,cond_false,Bool.not_false,Bool.not_true,Bool.true_and,Bool.false_and,Bool.and_false,Bool.and_true,Bool.or_false,Bool.false_or,beq_self_eq_true,bne_self_eq_false,Bool.and_self,Bool.or_self,ho,hm,h3,hs,h0,hE0,Wd]
    all_goals kernel_rfl
theorem JXm (x:List GC) (t:Rt) (hx:J2 x = x) (he:t.er = 0) (hl:J2 t.l = t.l) (hy:J2 t.y = t.y) (hc:t.cl = false) (hi:JJY x t = false) (ho:t.op = true) (hm:(J3 (xi x 0) && xi x 16 == 0) = false) (h3:(xi x 0 == 1 || xi x 0 == 11 || xi x 0 == 14 || J3 (xi x 0) && (xi x 8 != xi t.l 8 || xi x 16 != xi t.l 16 || xi x 17 != xi t.l 17)) = false) (hs:(!J3 (xi x 0) || !ZL (xi t.l 8) x) = false) (h0:t.has = true) (hb:JvM x t.l t.y = 0) (hg:Q8 (Xs x t.l t.y) (Xt x t.l t.y) (Jy x t.l t.y == 2) t.l t.y t.st0 t.st1 t.tr = 0) :
    rE x t = 0 ∧ rS x t = { JJc x t with y := x,st0 := kG x t.l t.y,st1 := zS x t.l t.y,tr := Jy x t.l t.y == 2,pn0 := kG x t.l t.y,pn1 := zS x t.l t.y,C := [] } ∧ rO x t = bif Jy x t.l t.y != 2 then JGM x t.l t.y t.st0 t.st1 t.tr t.C ++ Wc x (Xs x t.l t.y) (Xt x t.l t.y) (kG x t.l t.y) (zS x t.l t.y) (Jy x t.l t.y == 1) t.l else JGM x t.l t.y t.st0 t.st1 t.tr t.C := by
  unfold JJY at hi
  have e2:(t.er != 0) = false := by rw [he]; rfl
  rw [hx] at hi
  have hb0 := hb
  have hg1 := hg
  simp only [Xs,Xt,hx,hl,hy] at hg1
  unfold JvM at hb
  rw [hx,hl,hy] at hb
  have hE:rE x t = 0 := by
    unfold rE
    simp only [JM0,JM4,JAG,JTg,JU9,JDg,JEH,ZK,JF0,JTx,QI,Ze,QF,ZY,QG,QH,JHP,QC,Z2,ZT,hx,hl,hy,e2,hc,hi,cond_true,cond_false,Bool.not_false,Bool.not_true,Bool.true_and,Bool.false_and,Bool.and_false,Bool.and_true,Bool.or_false,Bool.false_or,beq_self_eq_true,bne_self_eq_false,Bool.and_self,Bool.or_self,ho,hm,h3,hs,h0,hb0,hg,Jfn,JeB]
  refine ⟨hE,?_,?_⟩
  · unfold rS JJc
    simp only [JM0,JM4,JAG,JTg,JU9,JDg,JEH,ZK,JF0,JTx,QI,Ze,QF,ZY,QG,QH,JHP,JUw,JXf,JZM,JZt,JYt,JaS,JY0,JWN,JYx,JWY,JXI,JXV,JVu,JYT,Jau,JZ8,Jah,JaM,JZH,JYl,JWV,JYk,JaV,JWp,JaX,JVh,JaW,JXQ,JIi,QC,YS,JE6,JDo,JEG,JDV,JDy,JDw,JDq,JDx,JA2,kX,kw,kt,qF,qu,zV,zp,zT,qL,kv,qH,qp,qZ,zR,qS,zJ,qy,qm,qU,qi,JA6,zZ,kT,ke,ql,kc,kM,qV,zm,zQ,zF,zz,zj,kr,kN,zP,zq,kh,kx,zo,qP,qN,kb,kl,zY,zU,zn,W6,Z2,ZT,KQ,JBO,JDe,JBE,JEI,JEJ,JDp,JEV,JDn,kR,kW,z8,zL,qz,JA5,kF,qW,ku,qY,zc,qM,kI,zD,kP,kO,qe,qk,kJ,qG,ze,zf,JA0,zu,qj,zH,qT,qf,kL,qg,qx,k8,qv,zt,ky,zw,kU,kn,kS,ki,qX,zB,kQ,zy,km,zO,JA7,zh,kC,k9,WH,hx,hl,hy,e2,hc,hi,cond_true,cond_false,Bool.not_false,Bool.not_true,Bool.true_and,Bool.false_and,Bool.and_false,Bool.and_true,Bool.or_false,Bool.false_or,beq_self_eq_true,bne_self_eq_false,Bool.and_self,Bool.or_self,ho,hm,h3,hs,h0,hb,hb0,hg,hg1,Jfn,JeB,Bool.cond_self]
    try simp only [he]
    try rw [← hl]
    try rw [← hy]
    try rw [← hx]
    all_goals kernel_rfl
  · unfold rO
    simp only [JM0,JM4,JAG,JTg,JU9,JDg,JEH,ZK,JF0,JTx,QI,Ze,QF,ZY,QG,QH,JHP,QC,Z2,ZT,JUw,YS,KQ,hx,hl,hy,e2,hc,hi,cond_true,cond_false,Bool.not_false,Bool.not_true,Bool.true_and,Bool.false_and,Bool.and_false,Bool.and_true,Bool.or_false,Bool.false_or,beq_self_eq_true,bne_self_eq_false,Bool.and_self,Bool.or_self,ho,hm,h3,hs,h0,hb,hb0,hg,hg1,Jfn,JeB,Bool.cond_self]
    all_goals kernel_rfl
theorem JhD (x:List GC) (t:Rt) (hx:J2 x = x) (he:t.er = 0) (hl:J2 t.l = t.l) (hy:J2 t.y = t.y) (hc:t.cl = false) (hi:JJY x t = false) (ho:t.op = true) (hm:(J3 (xi x 0) && xi x 16 == 0) = true) (hd:(!ZJ (xi t.l 8) (xi t.l 17) x || !t.has) = false) (hb:Wf t.l t.y = 0) (hg:Q8 (QZ t.l t.y) (Qa t.l t.y) false t.l t.y t.st0 t.st1 t.tr = 0) :
    rE x t = 0 ∧ rS x t = { JJc x t with op := false,has := false,pn0 := QZ t.l t.y,pn1 := Qa t.l t.y,C := [] } ∧ rO x t = ZR (QZ t.l t.y) (Qa t.l t.y) false t.l t.y t.st0 t.st1 t.tr ++ ZC t.l (QZ t.l t.y) (Qa t.l t.y) t.C ++ [JrL x t.l (QZ t.l t.y) (Qa t.l t.y)] := by
  unfold JJY at hi
  have e2:(t.er != 0) = false := by rw [he]; rfl
  rw [hx] at hi
  unfold Wf at hb
  rw [hl,hy] at hb
  have hg1 := hg
  simp only [QZ,Qa,hl,hy] at hg1
  have hE:rE x t = 0 := by
    unfold rE
    simp only [JM0,JM4,JAG,JTg,JU9,JDg,JEH,JTx,QI,Ze,QF,ZY,QG,QH,JCu,QC,Z2,ZT,hx,hl,hy,e2,hc,hi,cond_true,cond_false,Bool.not_false,Bool.not_true,Bool.true_and,Bool.false_and,Bool.and_false,Bool.and_true,Bool.or_false,Bool.false_or,beq_self_eq_true,bne_self_eq_false,Bool.and_self,Bool.or_self,ho,hm,hd,hb,hg1,Wf,JCB,QZ,Qa]
  refine ⟨hE,?_,?_⟩
  · unfold rS JJc
    simp only [JM0,JM4,JAG,JTg,JU9,JDg,JEH,JTx,QI,Ze,QF,ZY,QG,QH,JCu,JNs,Ja6,JRA,JSz,JSC,JFV,QC,YS,JE6,JDo,JEG,JDV,JDy,JDw,JDq,JDx,JA2,kX,kw,kt,qF,qu,zV,zp,zT,qL,kv,qH,qp,qZ,zR,qS,zJ,qy,qm,qU,qi,JA6,zZ,kT,ke,ql,kc,kM,qV,zm,zQ,zF,zz,zj,kr,kN,zP,zq,kh,kx,zo,qP,qN,kb,kl,zY,zU,zn,W6,Z2,ZT,KQ,JBO,JDe,JBE,JEI,JEJ,JDp,JEV,JDn,kR,kW,z8,zL,qz,JA5,kF,qW,ku,qY,zc,qM,kI,zD,kP,kO,qe,qk,kJ,qG,ze,zf,JA0,zu,qj,zH,qT,qf,kL,qg,qx,k8,qv,zt,ky,zw,kU,kn,kS,ki,qX,zB,kQ,zy,km,zO,JA7,zh,kC,k9,WH,hx,hl,hy,e2,hc,hi,cond_true,cond_false,Bool.not_false,Bool.not_true,Bool.true_and,Bool.false_and,Bool.and_false,Bool.and_true,Bool.or_false,Bool.false_or,beq_self_eq_true,bne_self_eq_false,Bool.and_self,Bool.or_self,ho,hm,hd,hb,hg1,Wf,JCB,QZ,Qa]
    try simp only [he]
    try rw [← hl]
    try rw [← hy]
    try rw [← hx]
    all_goals kernel_rfl
  · unfold rO
    simp only [JM0,JM4,JAG,JTg,JU9,JDg,JEH,JTx,QI,Ze,QF,ZY,QG,QH,JCu,QC,Z2,ZT,JNs,YS,KQ,hx,hl,hy,e2,hc,hi,cond_true,cond_false,Bool.not_false,Bool.not_true,Bool.true_and,Bool.false_and,Bool.and_false,Bool.and_true,Bool.or_false,Bool.false_or,beq_self_eq_true,bne_self_eq_false,Bool.and_self,Bool.or_self,ho,hm,hd,hb,hg1,Wf,JCB,QZ,Qa]
    all_goals kernel_rfl
theorem JOF {a b n:Int} (ha:Xa a) (hb:Xa b):Xl a b n 2 = j8 a b n 2 := by
  by_cases h:J6 a ≤ 2147483648 ∧ J6 b ≤ 2147483648 ∧ 1 ≤ n ∧ n ≤ 4611686018427387904
  · exact Jqn ha hb h.1 h.2.1 h.2.2
  · have hc:(decide (J6 a > 2147483648) || decide (J6 b > 2147483648) || decide (n < 1) || decide (n > 4611686018427387904) || !((2:Int) == 0 || (2:Int) == 1 || (2:Int) == 2)) = true := by
      by_cases h1:J6 a > 2147483648
      · rw [decide_eq_true h1]; rfl
      · by_cases h2:J6 b > 2147483648
        · rw [decide_eq_true h2,decide_eq_false h1]; rfl
        · by_cases h3:n < 1
          · rw [decide_eq_true h3,decide_eq_false h1,decide_eq_false h2]; rfl
          · rw [decide_eq_true (show n > 4611686018427387904 by omega)]; simp
    unfold Xl j8
    rw [hc,cond_true,cond_true]
theorem Jtn (a b n:Int) (hn:n < 1):Xl a b n 2 = 0 := by
  have hc:(decide (J6 a > 2147483648) || decide (J6 b > 2147483648) || decide (n < 1) || decide (n > 4611686018427387904) || !((2:Int) == 0 || (2:Int) == 1 || (2:Int) == 2)) = true := by
    rw [decide_eq_true hn]; simp
  unfold Xl
  rw [hc,cond_true]
theorem Jog (a b:Int):Xl a b 0 2 = 0 := Jtn a b 0 (by omega)
theorem JUY (p0 p1 t0 t1 r:Int):XH p0 p1 t0 t1 r = Zl p0 p1 t0 t1 r ∧ XM p0 p1 t0 t1 r = Zp p0 p1 t0 t1 r ∧ JLL p0 p1 t0 t1 r = JKu p0 p1 t0 t1 r := by
  unfold XH XM JLL Zl Zp JKu
  rw [JiB]
  cases hc:(t0 == 0 && t1 == 0 || !Jd t0 4194304 || !Jd t1 4194304 || !Jd p0 1048576 || !Jd p1 1048576 || !Jd r 32768)
  · obtain ⟨h0,h1,h2,h3,h4,h5⟩ := JmO hc
    have i0:Xa t0 := ⟨by omega,by omega⟩
    have ir:Xa r := ⟨by omega,by omega⟩
    rw [JOF (a := IntKind.i64.wrap (0 - t1)) (Jk _) ir,JOF i0 ir]
    unfold JG
    simp only [cond_false,and_self,Bool.not_false]
  · simp only [cond_true,and_self]
theorem JhZ (a b c d s:Int):JCD a b c d s = JCH a b c d s := by
  unfold JCD JCH
  have e:(bif JHI a b c d s then JHI a b c d s else decide (JF a b c d < 0) && decide (s < 0)) = (decide (JF a b c d > 0) && decide (s > 0) || decide (JF a b c d < 0) && decide (s < 0)) := by
    show (bif (decide (JF a b c d > 0) && decide (s > 0)) then (decide (JF a b c d > 0) && decide (s > 0)) else _) = _
    cases (decide (JF a b c d > 0) && decide (s > 0)) <;> rfl
  rw [e]
theorem Jrf (a c:Int):IntKind.i64.wrap (IntKind.i64.wrap (0 - a) - c) = IntKind.i64.wrap (0 - IntKind.i64.wrap (a + c)) := by
  unfold IntKind.wrap
  simp only [IntKind.bits,IntKind.signed]
  simp
  omega
theorem JrM (a b c d i:Int):QQ a b c d i = Zx a b c d i ∧ QP a b c d i = Zy a b c d i := by
  unfold QQ QP Zx Zy Kq
  rw [Jrf,Jrf]
  by_cases h1:J8 a b c d > 0
  · rw [decide_eq_true h1]
    by_cases h2:IntKind.i64.wrap (JF a b c d * i) > 0
    · rw [decide_eq_true h2,decide_eq_false (show ¬ IntKind.i64.wrap (JF a b c d * i) ≤ 0 by omega)]
      exact ⟨rfl,rfl⟩
    · rw [decide_eq_false h2,decide_eq_true (show IntKind.i64.wrap (JF a b c d * i) ≤ 0 by omega)]
      exact ⟨rfl,rfl⟩
  · rw [decide_eq_false h1]
    exact ⟨rfl,rfl⟩
theorem JrO (a b c d i:Int):Xa (QQ a b c d i) ∧ Xa (QP a b c d i) := by
  constructor
  · unfold QQ
    cases (Kq a b c d && decide (IntKind.i64.wrap (JF a b c d * i) > 0)) <;> cases Kq a b c d <;> exact Jk _
  · unfold QP
    cases (Kq a b c d && decide (IntKind.i64.wrap (JF a b c d * i) > 0)) <;> cases Kq a b c d <;> exact Jk _
theorem JcT (a b c d i:Int) {s:Int} (hs:Xa s):oH0 a b c d i s = JKn a b c d i s ∧ oH1 a b c d i s = JKt a b c d i s := by
  obtain ⟨e1,e2⟩ := JrM a b c d i
  obtain ⟨i1,i2⟩ := JrO a b c d i
  unfold oH0 oH1 JKn JKt
  rw [← e1,← e2]
  generalize QQ a b c d i = u at *
  generalize QP a b c d i = v at *
  by_cases h:u = 0 ∧ v = 0
  · obtain ⟨rfl,rfl⟩ := h
    have e:J8 0 0 0 0 = 0 := rfl
    rw [e,Jog]
    exact ⟨rfl,rfl⟩
  · have e:(u == 0 && v == 0) = false := by
      rw [Bool.and_eq_false_iff,beq_eq_false_iff_ne,beq_eq_false_iff_ne]; omega
    rw [e,JOF i1 hs,JOF i2 hs]
    exact ⟨rfl,rfl⟩
theorem Jx4 (x:Int):∃ p:Int,0 ≤ p ∧ (x = p ∨ x = -p) ∧ (0 ≤ x → p = x) ∧ p * p = x * x := by
  by_cases h:x < 0
  · exact ⟨-x,by omega,by omega,by omega,Int.neg_mul_neg _ _⟩
  · exact ⟨x,by omega,by omega,by omega,rfl⟩
abbrev b9 (x:Int):Prop := bd 1000000000 x
abbrev Jvr (d:Int):Prop := d = 0 ∨ d = 1 ∨ d = -1
structure EP (e0 e1 e2 e3 e4 e5 e6:Int):Prop where
  c0:bd 1048576 e0
  c1:bd 1048576 e1
  c2:bd 1048576 e2
  c3:bd 1048576 e3
  c4:bd 1048576 e4
  c5:bd 1048576 e5
  dir:e6 = 0 ∨ e6 = 1 ∨ e6 = -1
  s1:e6 ≠ 0 → e0 - e4 ≠ 0 ∨ e1 - e5 ≠ 0
  s2:e6 ≠ 0 → e2 - e4 ≠ 0 ∨ e3 - e5 ≠ 0
theorem Wh {d:Int} (hd:Jvr d) (r:Int):YL d r = K5 d r := by
  unfold YL K5
  rcases hd with rfl | rfl | rfl <;> rfl
theorem Jxa {r:Int} (hr:bd 1000000000 r):YJ r = (if -r > r then -r else r) ∧ IntKind.i64.wrap (YJ r * YJ r) = IntKind.i64.wrap (r * r) ∧ IntKind.i64.wrap (IntKind.i64.wrap (4 * YJ r) * YJ r) = IntKind.i64.wrap (IntKind.i64.wrap (4 * r) * r) := by
  have e:YJ r = (if -r > r then -r else r) := by
    unfold YJ
    rw [X6 (x := 0 - r) (by omega) (by omega),show 0 - r = -r by omega]
  refine ⟨e,?_,?_⟩
  · rw [e]; split
    · rw [Int.neg_mul_neg]
    · rfl
  · rw [e]; split
    · rw [X6 (x := 4 * -r) (by omega) (by omega),X6 (x := 4 * r) (by omega) (by omega)]
      have:4 * -r * -r = 4 * r * r := by rw [Int.mul_neg 4 r,Int.neg_mul_neg]
      rw [this]
    · rfl
theorem JvN (x y:Int):decide (KC x y ≤ 0) = decide (KC y x ≥ 0) := by
  rcases JCe x y with ⟨h1,h2⟩ | ⟨h1,h2⟩ | ⟨h1,h2⟩ <;> rcases JCe y x with ⟨h3,h4⟩ | ⟨h3,h4⟩ | ⟨h3,h4⟩ <;> rw [h2,h4] <;> first | rfl | (exfalso; omega)
theorem Jhz (a b c d:Int):Xa (J8 a b c d) := Jk _
theorem JMu {e0 e1 e2 e3 e4 e5 e6:Int} (y0 y1:Int) {r:Int} (hd:Jvr e6) (hr:bd 1000000000 r):ZX e0 e1 e2 e3 e4 e5 e6 y0 y1 r = XC e0 e1 e2 e3 e4 e5 e6 y0 y1 r := by
  obtain ⟨_,q1,q2⟩ := Jxa hr
  have re:∀ {n m:Int},Xa n → JCG n (YJ r) m = (decide (IntKind.i64.wrap (IntKind.i64.wrap (m - n) - IntKind.i64.wrap (r * r)) ≥ 0) && decide (JHK (IntKind.i64.wrap (IntKind.i64.wrap (m - n) - IntKind.i64.wrap (r * r))) (IntKind.i64.wrap (IntKind.i64.wrap (m - n) - IntKind.i64.wrap (r * r))) (IntKind.i64.wrap (IntKind.i64.wrap (4 * r) * r)) n ≥ 0)) := fun {n m} hn => by
    unfold JCG JaQ JHd
    rw [q1,q2,Jfj _ _ _ _ (Jk _) hn (Jk _) (Jk _),JdG _ _ _ _ (Jk _) (Jk _) (Jk _) hn,JvN]
  have sp:∀ a b c:Int,JH a b c true = J1 b c := fun _ _ _ => rfl
  unfold ZX XC
  cases h6:e6 == 0
  · rw [cond_false,cond_false]
    unfold Jd1 Yr ji
    rw [Wh hd]
    simp only [sp]
    cases K5 e6 r
    · rw [cond_false,cond_false,cond_false,re (Jhz _ _ _ _)]
    · rw [cond_true,cond_true,cond_true,re (Jhz _ _ _ _)]
  · rw [cond_true,cond_true]
    have e:JQ9 e0 e1 e2 e3 y0 y1 r = JSE e0 e1 e2 e3 y0 y1 r := by
      unfold JQ9 JSE
      have hx:Xa (JF (J1 e2 e0) (J1 e3 e1) (J1 y0 e0) (J1 y1 e1)) := Jk _
      rw [Jfj _ _ _ _ hx hx (Jk _) (Jhz _ _ _ _),JdG _ _ _ _ hx hx (Jk _) (Jhz _ _ _ _)]
    rw [e]
theorem JQ3 {e0 e1 e2 e3 e4 e5 e6:Int} (w:Bool) (hd:Jvr e6) (h0:bd 1048576 e0) (h1:bd 1048576 e1) (h2:bd 1048576 e2) (h3:bd 1048576 e3) (h4:bd 1048576 e4) (h5:bd 1048576 e5) :
    Z6 (Q9 e6) e0 e1 0 e2 e3 0 17 (JP e4 e6) (JP e5 e6) 0 (Jo e6) w = Qp e0 e1 e2 e3 e5 e6 w ∧ Z5 (Q9 e6) e0 e1 0 e2 e3 0 17 (JP e4 e6) (JP e5 e6) 0 (Jo e6) w = Qo e0 e1 e2 e3 e4 e6 w := by
  rcases hd with rfl | rfl | rfl
  · exact ⟨rfl,rfl⟩
  · have a0:Z6 (Q9 1) e0 e1 0 e2 e3 0 17 (JP e4 1) (JP e5 1) 0 (Jo 1) w = IntKind.i64.wrap (0 - (bif w then J1 e3 e5 else J1 e1 e5)) := rfl
    have a1:Z5 (Q9 1) e0 e1 0 e2 e3 0 17 (JP e4 1) (JP e5 1) 0 (Jo 1) w = (bif w then J1 e2 e4 else J1 e0 e4) := rfl
    have b0:Qp e0 e1 e2 e3 e5 1 w = IntKind.i64.wrap (IntKind.i64.wrap (0 - (bif w then J1 e3 e5 else J1 e1 e5)) * 1) := rfl
    have b1:Qo e0 e1 e2 e3 e4 1 w = IntKind.i64.wrap ((bif w then J1 e2 e4 else J1 e0 e4) * 1) := rfl
    rw [a0,a1,b0,b1]
    rw [XY (a := e3) (by omega) (by omega),XY (a := e1) (by omega) (by omega),XY (a := e2) (by omega) (by omega),XY (a := e0) (by omega) (by omega)]
    cases w
    · simp only [cond_false]
      rw [X6 (x := 0 - (e1 - e5)) (by omega) (by omega),X6 (by omega) (by omega),X6 (by omega) (by omega)]; omega
    · simp only [cond_true]
      rw [X6 (x := 0 - (e3 - e5)) (by omega) (by omega),X6 (by omega) (by omega),X6 (by omega) (by omega)]; omega
  · have a0:Z6 (Q9 (-1)) e0 e1 0 e2 e3 0 17 (JP e4 (-1)) (JP e5 (-1)) 0 (Jo (-1)) w = (bif w then J1 e3 e5 else J1 e1 e5) := rfl
    have a1:Z5 (Q9 (-1)) e0 e1 0 e2 e3 0 17 (JP e4 (-1)) (JP e5 (-1)) 0 (Jo (-1)) w = IntKind.i64.wrap (0 - (bif w then J1 e2 e4 else J1 e0 e4)) := rfl
    have b0:Qp e0 e1 e2 e3 e5 (-1) w = IntKind.i64.wrap (IntKind.i64.wrap (0 - (bif w then J1 e3 e5 else J1 e1 e5)) * -1) := rfl
    have b1:Qo e0 e1 e2 e3 e4 (-1) w = IntKind.i64.wrap ((bif w then J1 e2 e4 else J1 e0 e4) * -1) := rfl
    rw [a0,a1,b0,b1]
    rw [XY (a := e3) (by omega) (by omega),XY (a := e1) (by omega) (by omega),XY (a := e2) (by omega) (by omega),XY (a := e0) (by omega) (by omega)]
    cases w
    · simp only [cond_false]
      rw [X6 (x := 0 - (e1 - e5)) (by omega) (by omega),X6 (x := 0 - (e0 - e4)) (by omega) (by omega),X6 (by omega) (by omega),X6 (by omega) (by omega)]; omega
    · simp only [cond_true]
      rw [X6 (x := 0 - (e3 - e5)) (by omega) (by omega),X6 (x := 0 - (e2 - e4)) (by omega) (by omega),X6 (by omega) (by omega),X6 (by omega) (by omega)]; omega
theorem JPW {α:Type} (a b:Bool) (z x:α):(bif a then z else bif b then z else x) = (bif a || b then z else x) := by
  cases a <;> cases b <;> rfl
theorem JRg {e0 e1 e2 e3 e4 e5 e6:Int} (r:Int) (E:EP e0 e1 e2 e3 e4 e5 e6) :
    XN e0 e1 e2 e3 e4 e5 e6 r = Kg e0 e1 e2 e3 e4 e5 e6 r ∧ XO e0 e1 e2 e3 e4 e5 e6 r = Kd e0 e1 e2 e3 e4 e5 e6 r ∧ Xj e0 e1 e2 e3 e4 e5 e6 r = Xm e0 e1 e2 e3 e4 e5 e6 r ∧ Xi e0 e1 e2 e3 e4 e5 e6 r = Xk e0 e1 e2 e3 e4 e5 e6 r ∧ Qr e0 e1 e2 e3 e4 e5 e6 r = Qd e0 e1 e2 e3 e4 e5 e6 r := by
  obtain ⟨t0,t1⟩ := JQ3 false E.dir E.c0 E.c1 E.c2 E.c3 E.c4 E.c5
  obtain ⟨t2,t3⟩ := JQ3 true E.dir E.c0 E.c1 E.c2 E.c3 E.c4 E.c5
  have sp:∀ a b c:Int,JH a b c true = J1 b c := fun _ _ _ => rfl
  have sp':∀ a b c:Int,JH a b c false = J1 a c := fun _ _ _ => rfl
  have hw:∀ a b,QR a b = (Jd a 1048576 && Jd b 1048576) := fun _ _ => rfl
  have hs:Za r = Zd r := rfl
  have N0:∀ p0 p1 t0 t1 r,XH p0 p1 t0 t1 r = Zl p0 p1 t0 t1 r := fun p0 p1 t0 t1 r => (JUY p0 p1 t0 t1 r).1
  have N1:∀ p0 p1 t0 t1 r,XM p0 p1 t0 t1 r = Zp p0 p1 t0 t1 r := fun p0 p1 t0 t1 r => (JUY p0 p1 t0 t1 r).2.1
  refine ⟨?_,?_,?_,?_,?_⟩
  · unfold XN Kg JaB JZp JXS
    simp only [JPW,Bool.not_and,Bool.or_assoc,Wh E.dir,t0,t1,t2,t3,N0,N1,sp,sp',hw,hs]
  · unfold XO Kd JZF JVv Ja7
    simp only [JPW,Bool.not_and,Bool.or_assoc,Wh E.dir,t0,t1,t2,t3,N0,N1,sp,sp',hw,hs]
  · unfold Xj Xm JZD Jap JVn
    simp only [JPW,Bool.not_and,Bool.or_assoc,Wh E.dir,t0,t1,t2,t3,N0,N1,sp,sp',hw,hs]
  · unfold Xi Xk JVw JYX JWE
    simp only [JPW,Bool.not_and,Bool.or_assoc,Wh E.dir,t0,t1,t2,t3,N0,N1,sp,sp',hw,hs]
  · unfold Qr Qd JYI Jat
    simp only [JPW,Bool.not_and,Bool.or_assoc,Wh E.dir,t0,t1,t2,t3,N0,N1,sp,sp',hw,hs]
theorem JGw {a m q r:Int} (hm:0 < m) (h0:0 ≤ r) (h1:r < m) (e:r + m * q = a):a / m = q := ((Int.ediv_emod_unique hm).2 ⟨e,h0,h1⟩).1
theorem JX0 {x:Int} (h0:0 ≤ x) (h1:x ≤ 4611686018427387904):YY x false = x := by
  unfold YY
  rw [decide_eq_true (show x < 9223372036854775808 by omega)]
  simp only [Bool.false_and,cond_false,Bool.not_false,Bool.and_self,cond_true]
  rw [X6 (by omega) (by omega)]
theorem JhN {x:Int} (h0:0 ≤ x) (h1:x ≤ 4611686018427387904):YY x true = -x := by
  unfold YY
  rw [decide_eq_true (show x ≤ 9223372036854775808 by omega)]
  simp only [Bool.and_self,cond_true]
  by_cases hz:x = 0
  · rw [hz]; rfl
  · rw [JAt]
    have:(0 - x) % 18446744073709551616 = 18446744073709551616 - x := by omega
    rw [this]
    unfold IntKind.wrap
    simp only [IntKind.bits,IntKind.signed]
    simp
    omega
theorem Jlf (more:Int) (some ng:Bool):JBN 2 more some ng = (decide (more > 0) || more == 0 && !ng) := rfl
theorem Jxe {d k n:Int} (hd:bd n d) (hk:0 ≤ k ∧ k ≤ n) (hn:1 ≤ n ∧ n ≤ 4194304):XD d k n 2 = (2 * d * k + n) / (2 * n) := by
  obtain ⟨p,p0,p1,pa,_⟩ := Jx4 d
  have sd:J6 d = p := by rw [Xu d ⟨by omega,by omega⟩]; split <;> omega
  have sk:J6 k = k := by rw [Xu k ⟨by omega,by omega⟩,if_neg (by omega)]
  have sn:J6 n = n := by rw [Xu n ⟨by omega,by omega⟩,if_neg (by omega)]
  have hP := Kh 4194304 4194304 (x := p) (y := k) ⟨p0,by omega⟩ ⟨hk.1,by omega⟩ (by omega)
  have e0:QL p k = 0 := by rw [kq _ _ ⟨by omega,by omega⟩ ⟨by omega,by omega⟩]; omega
  have e1:Qh p k = p * k := by rw [qd]; omega
  have hs := JKH d k
  have hdk:d * k = p * k ∨ d * k = -(p * k) := by
    rcases p1 with rfl | rfl
    · exact .inl rfl
    · right; rw [Int.neg_mul]
  have hdk0:0 ≤ d → d * k = p * k := fun h => by rw [pa h]
  have e2:2 * d * k = 2 * (d * k) := Int.mul_assoc _ _ _
  have hneg:d < 0 → d * k = -(p * k) := fun h => by
    have:d = -p := by omega
    rw [this,Int.neg_mul]
  rw [e2]
  generalize d * k = D at *
  generalize p * k = P at *
  obtain ⟨f0,f1⟩ := JLK (a := 0) (b := P) (c := n) (by omega) (by omega) (by omega) (by omega) (by omega)
  rw [show (0:Int) * 18446744073709551616 + P = P by omega] at f0 f1
  have dm := Int.mul_ediv_add_emod P n
  have m0 := Int.emod_nonneg P (show n ≠ 0 by omega)
  have m1 := Int.emod_lt_of_pos P (show 0 < n by omega)
  have q0 := Int.ediv_nonneg hP.1 (show 0 ≤ n by omega)
  have q1 := Int.ediv_le_self n hP.1
  unfold XD JGo jb JGP
  rw [sd,sk,sn,e0,e1,f0,f1,Jlf]
  generalize P / n = q at *
  generalize P % n = m at *
  have g1:(n == 0 || !((2:Int) == 0 || (2:Int) == 1 || (2:Int) == 2)) = false := by
    rw [show (n == 0) = false by simp; omega]; rfl
  have g2:decide ((0:Int) ≥ n) = false := decide_eq_false (by omega)
  have g3:(!decide (Qk d k < 0) == decide (n < 0) && Qk d k != 0) = decide (Qk d k < 0) := by
    rw [decide_eq_false (show ¬ n < 0 by omega)]
    rcases hs with ⟨h1,_⟩ | ⟨h1,_⟩ | ⟨h1,_⟩ <;> rw [h1] <;> rfl
  have g4:IntKind.u64.wrap (n - m) = n - m := W2 (by omega) (by omega)
  have g5:IntKind.u64.wrap (q + 1) = q + 1 := W2 (by omega) (by omega)
  have g6:(q + 1 == 0) = false := by simp; omega
  rw [g1,g2,g3,g4,g5,g6]
  simp only [cond_false]
  have nq:n * q = P - m := by omega
  have hmq:∀ x:Int,2 * n * x = 2 * (n * x) := fun x => Int.mul_assoc _ _ _
  have nq1:n * (q + 1) = P - m + n := by rw [Int.mul_add,Int.mul_one]; omega
  have nqn:n * -q = -(P - m) := by rw [Int.mul_neg,nq]
  have nqn1:n * -(q + 1) = -(P - m + n) := by rw [Int.mul_neg,nq1]
  have hmore:∀ ng:Bool,(decide ((bif decide (m > n - m) then (1:Int) else bif decide (m < n - m) then -1 else 0) > 0) || (bif decide (m > n - m) then (1:Int) else bif decide (m < n - m) then -1 else 0) == 0 && !ng) = (decide (2 * m > n) || decide (2 * m = n) && !ng) := fun ng => by
    by_cases h1:m > n - m
    · rw [decide_eq_true h1,decide_eq_true (show 2 * m > n by omega)]; rfl
    · rw [decide_eq_false h1,decide_eq_false (show ¬ 2 * m > n by omega)]
      by_cases h2:m < n - m
      · rw [decide_eq_true h2,decide_eq_false (show ¬ 2 * m = n by omega)]; rfl
      · rw [decide_eq_false h2,decide_eq_true (show 2 * m = n by omega)]; rfl
  rw [hmore]
  by_cases hsg:Qk d k < 0
  · rw [decide_eq_true hsg]
    have hD:D = -P := by rcases hs with ⟨h1,h2⟩ | ⟨h1,h2,_⟩ | ⟨h1,h2,_⟩ <;> rcases hdk with h | h <;> omega
    by_cases h1:2 * m > n
    · rw [decide_eq_true h1]
      simp only [Bool.true_or,cond_true]
      rw [JhN (by omega) (by omega)]
      exact (JGw (r := 3 * n - 2 * m) (by omega) (by omega) (by omega) (by rw [hmq,nqn1]; omega)).symm
    · rw [decide_eq_false h1]
      simp only [Bool.not_true,Bool.and_false,Bool.or_self,cond_false]
      rw [JhN (by omega) (by omega)]
      exact (JGw (r := n - 2 * m) (by omega) (by omega) (by omega) (by rw [hmq,nqn]; omega)).symm
  · rw [decide_eq_false hsg]
    have hD:D = P := by
      rcases hs with ⟨h1,h2⟩ | ⟨h1,h2,_⟩ | ⟨h1,h2,_⟩
      · rcases hdk with h | h <;> omega
      · rcases hdk with h | h <;> omega
      · exfalso; omega
    by_cases h1:2 * m > n
    · rw [decide_eq_true h1]
      simp only [Bool.true_or,cond_true]
      rw [JX0 (by omega) (by omega)]
      exact (JGw (r := 2 * m - n) (by omega) (by omega) (by omega) (by rw [hmq,nq1]; omega)).symm
    · rw [decide_eq_false h1]
      by_cases h2:2 * m = n
      · rw [decide_eq_true h2]
        simp only [Bool.not_false,Bool.and_self,Bool.or_true,cond_true]
        rw [JX0 (by omega) (by omega)]
        exact (JGw (r := 2 * m - n) (by omega) (by omega) (by omega) (by rw [hmq,nq1]; omega)).symm
      · rw [decide_eq_false h2]
        simp only [Bool.false_and,Bool.or_self,cond_false]
        rw [JX0 (by omega) (by omega)]
        exact (JGw (r := 2 * m + n) (by omega) (by omega) (by omega) (by rw [hmq,nq]; omega)).symm
theorem JxY {a m:Int} (hm:0 < m) (ha:bd 4611686018427387904 a):JD2 a m = a / m := by
  unfold JD2
  by_cases h:0 ≤ a
  · have t1:a.tdiv m = a / m := Int.tdiv_eq_ediv_of_nonneg h
    have t2:a.tmod m = a % m := Int.tmod_eq_emod_of_nonneg h
    have m0 := Int.emod_nonneg a (show m ≠ 0 by omega)
    have q0 := Int.ediv_nonneg h (show 0 ≤ m by omega)
    have q1 := Int.ediv_le_self m h
    rw [t1,t2,decide_eq_false (by omega),cond_false,X6 (by omega) (by omega)]
  · obtain ⟨b,rfl⟩:∃ b,a = -b := ⟨-a,by omega⟩
    have hb:0 ≤ b := by omega
    have t1:(-b).tdiv m = -(b / m) := by rw [Int.neg_tdiv,Int.tdiv_eq_ediv_of_nonneg hb]
    have t2:(-b).tmod m = -(b % m) := by rw [Int.neg_tmod,Int.tmod_eq_emod_of_nonneg hb]
    have m0 := Int.emod_nonneg b (show m ≠ 0 by omega)
    have m1 := Int.emod_lt_of_pos b hm
    have q0 := Int.ediv_nonneg hb (show 0 ≤ m by omega)
    have q1 := Int.ediv_le_self m hb
    have dm := Int.mul_ediv_add_emod b m
    rw [t1,t2]
    by_cases h2:b % m = 0
    · rw [decide_eq_false (by omega),cond_false,X6 (by omega) (by omega)]
      exact (JGw (r := 0) hm (by omega) hm (by rw [Int.mul_neg]; omega)).symm
    · rw [decide_eq_true (by omega),cond_true,X6 (x := -(b / m)) (by omega) (by omega),X6 (by omega) (by omega)]
      have e:m * (-(b / m) - 1) = -(m * (b / m)) - m := by rw [Int.mul_sub,Int.mul_neg,Int.mul_one]
      exact (JGw (r := m - b % m) hm (by omega) (by omega) (by rw [e]; omega)).symm
theorem Jxc {d k n:Int} (hd:bd n d) (hk:0 ≤ k ∧ k ≤ n) (hn:1 ≤ n ∧ n ≤ 4194304):bd (n + 1) ((2 * d * k + n) / (2 * n)) ∧ bd 35184380477440 (2 * d * k + n) := by
  have e2:2 * d * k = 2 * (d * k) := Int.mul_assoc _ _ _
  have h1 := JHe hd (show bd n k by omega) (by omega) (by omega)
  have h2 := Kh 4194304 4194304 (x := n) (y := n) ⟨by omega,hn.2⟩ ⟨by omega,hn.2⟩ (by omega)
  have e3:(n + 1) * (2 * n) = 2 * (n * n) + 2 * n := by grind
  have e4:(-(n + 1)) * (2 * n) = -(2 * (n * n) + 2 * n) := by rw [Int.neg_mul,e3]
  rw [e2]
  refine ⟨⟨?_,?_⟩,by omega⟩
  · exact (Int.le_ediv_iff_mul_le (show 0 < 2 * n by omega)).2 (by rw [e4]; omega)
  · have:(2 * (d * k) + n) / (2 * n) < n + 1 + 1 := (Int.ediv_lt_iff_lt_mul (show 0 < 2 * n by omega)).2 (by
      have e5:(n + 1 + 1) * (2 * n) = 2 * (n * n) + 4 * n := by grind
      rw [e5]; omega)
    omega
theorem JVD {l h k n:Int} (hl:bd 1048576 l) (hd:bd n (h - l)) (hk:0 ≤ k ∧ k ≤ n) (hn:1 ≤ n ∧ n ≤ 4194304):JG l (XD (h - l) k n 2) = ZP l h k n ∧ JG l (XD (h - l) k n 2) = l + (2 * (h - l) * k + n) / (2 * n) := by
  obtain ⟨b1,b2⟩ := Jxc hd hk hn
  have e2:2 * (h - l) * k = 2 * ((h - l) * k) := Int.mul_assoc _ _ _
  rw [Jxe hd hk hn,JYO (by omega) (by omega)]
  refine ⟨?_,rfl⟩
  unfold ZP
  rw [X6 (x := h - l) (by omega) (by omega),X6 (x := 2 * (h - l)) (by omega) (by omega),X6 (x := 2 * (h - l) * k) (by omega) (by omega),X6 (x := 2 * (h - l) * k + n) (by omega) (by omega),X6 (x := 2 * n) (by omega) (by omega),JxY (by omega) (by omega),X6 (by omega) (by omega)]
theorem JW8 {P Q:Int → Bool}:∀ (f:Nat) (a b:Int),0 ≤ a → (∀ k,a ≤ k → k ≤ b → P k = Q k) → bs P f a b = bs Q f a b
  | 0,_,_,_,_ => rfl
  | f + 1,a,b,h0,h => by
    unfold bs
    by_cases g:b - a > 1
    · obtain ⟨m1,m2⟩ := JZC h0 g
      rw [h _ (by omega) (by omega),JW8 f a _ h0 (fun k k1 k2 => h k k1 (by omega)),JW8 f _ b (by omega) (fun k k1 k2 => h k (by omega) k2)]
    · rw [decide_eq_false g]; rfl
theorem JpU {P Q:Int → Bool} {n:Int} (h:∀ k,0 ≤ k → k ≤ n → P k = Q k):bsF P (bs0 n) = bsF Q (bs0 n) := JW8 _ 0 n (by omega) h
theorem JoD {P Q:Int → Int → Bool} {d z:Int} {full:Bool} (hz:Xa z) (h:∀ u w,P u w = Q u w):∀ (f:Nat) (s:CvS),cv P d z full f s = rcv Q d z full f s
  | 0,_ => rfl
  | f + 1,s => by
    have e1:(full && Int.ofNat s.i == 0) = !(!full || decide (Int.ofNat s.i > 0)) := by
      have:(Int.ofNat s.i == 0) = !decide (Int.ofNat s.i > 0) := by
        by_cases g:s.i = 0
        · rw [g]; rfl
        · have:(0:Int) < Int.ofNat s.i := by simp; omega
          rw [decide_eq_true this,show (Int.ofNat s.i == 0) = false by simp; omega]; rfl
      rw [this]
      cases full <;> cases decide (Int.ofNat s.i > 0) <;> rfl
    have e2:JJK s.a0 s.a1 s.b0 s.b1 = !JM7 s := by
      unfold JJK JM7
      rw [Bool.not_and]
    have m0:JUf d z full s = Jhx d z full s := by
      unfold JUf Jhx
      rw [e1,(JcT _ _ _ _ _ hz).1]
      cases (!full || decide (Int.ofNat s.i > 0)) <;> rfl
    have m1:JUm d z full s = Jil d z full s := by
      unfold JUm Jil
      rw [e1,(JcT _ _ _ _ _ hz).2]
      cases (!full || decide (Int.ofNat s.i > 0)) <;> rfl
    have en:cvN P d z full s = rcN Q d z full s := by
      unfold cvN rcN
      rw [m0,m1,h]
    unfold cv rcv
    rw [e1,e2,en,JoD hz h f]
    cases (!full || decide (Int.ofNat s.i > 0)) <;> cases JM7 s <;> rfl
theorem JZ7 (a b c d:Int):((0 < JF a b c d ∨ JF a b c d = 0 ∧ 0 < J8 a b c d) ∧ KJ a b c d = 0) ∨ (¬ (0 < JF a b c d ∨ JF a b c d = 0 ∧ 0 < J8 a b c d) ∧ KJ a b c d = 1) := by
  unfold KJ
  by_cases h1:0 < JF a b c d
  · left; exact ⟨.inl h1,by simp [h1]⟩
  · by_cases h2:JF a b c d = 0
    · by_cases h3:0 < J8 a b c d
      · left; exact ⟨.inr ⟨h2,h3⟩,by simp [h2,h3]⟩
      · right; exact ⟨by omega,by simp [h2,h3]⟩
    · right; exact ⟨by omega,by rw [show decide (JF a b c d > 0) = false from decide_eq_false h1,show (JF a b c d == 0) = false by simpa using h2]; rfl⟩
theorem JIW (a b c d e:Int):((0 < IntKind.i64.wrap (JF a b c d * e) ∨ IntKind.i64.wrap (JF a b c d * e) = 0 ∧ 0 < J8 a b c d) ∧ KR a b c d e = 0) ∨ (¬ (0 < IntKind.i64.wrap (JF a b c d * e) ∨ IntKind.i64.wrap (JF a b c d * e) = 0 ∧ 0 < J8 a b c d) ∧ KR a b c d e = 1) := by
  unfold KR
  generalize IntKind.i64.wrap (JF a b c d * e) = w
  by_cases h1:0 < w
  · left; exact ⟨.inl h1,by simp [h1]⟩
  · by_cases h2:w = 0
    · by_cases h3:0 < J8 a b c d
      · left; exact ⟨.inr ⟨h2,h3⟩,by simp [h2,h3]⟩
      · right; exact ⟨by omega,by simp [h2,h3]⟩
    · right; exact ⟨by omega,by rw [show decide (w > 0) = false from decide_eq_false h1,show (w == 0) = false by simpa using h2]; rfl⟩
theorem Jbr (a0 a1 b0 b1 p0 p1:Int):K7 a0 a1 b0 b1 p0 p1 = QO a0 a1 b0 b1 p0 p1 1 false := by
  have e:∀ x,Xa x → IntKind.i64.wrap (x * 1) = x := fun x h => by rw [Int.mul_one]; exact X6 h.1 h.2
  have r:∀ a b c d,KR a b c d 1 = KJ a b c d := fun a b c d => by
    unfold KR KJ
    rw [e (JF a b c d) (Jk _)]
  unfold K7 QO
  rw [r,r,e (JF p0 p1 b0 b1) (Jk _)]
  generalize KJ a0 a1 p0 p1 = h
  generalize KJ a0 a1 b0 b1 = k
  generalize JF p0 p1 b0 b1 = x
  by_cases h1:h = k
  · subst h1; simp
  · by_cases h2:h < k
    · rw [decide_eq_true h2,show (h != k) = true by simpa using h1]; rfl
    · rw [decide_eq_false h2,show (h != k) = true by simpa using h1,show (h == k) = false by simpa using h1]; rfl
theorem JgY {a0 a1 b0 b1 p0 p1:Int} (ha0:b9 a0) (ha1:b9 a1) (hb0:b9 b0) (hb1:b9 b1) (hp0:b9 p0) (hp1:b9 p1) (ha:a0 ≠ 0 ∨ a1 ≠ 0) (hb:b0 ≠ 0 ∨ b1 ≠ 0) (hp:p0 ≠ 0 ∨ p1 ≠ 0) :
    K7 b0 b1 a0 a1 p0 p1 = QO a0 a1 b0 b1 p0 p1 (-1) false := by
  have hN := JZN ha
  have bnd:∀ {a b c d:Int},b9 a → b9 b → b9 c → b9 d → bd 2000000000000000000 (JF a b c d) := fun {a b c d} h1 h2 h3 h4 => by
    have q1 := JHe h1 h4 (by omega) (by omega)
    have q2 := JHe h2 h3 (by omega) (by omega)
    rw [X7 h1 h2 h3 h4]
    generalize a * d = s at *
    generalize b * c = t at *
    omega
  have neg:∀ x,bd 2000000000000000000 x → IntKind.i64.wrap (x * -1) = -x := fun x h => by rw [show x * -1 = -x by omega]; exact X6 (by omega) (by omega)
  have eC:JF p0 p1 b0 b1 * (a0 * a0 + a1 * a1) = J8 a0 a1 p0 p1 * JF a0 a1 b0 b1 - JF a0 a1 p0 p1 * J8 a0 a1 b0 b1 := by
    rw [X7 hp0 hp1 hb0 hb1,Ko ha0 ha1 hp0 hp1,X7 ha0 ha1 hb0 hb1,X7 ha0 ha1 hp0 hp1,Ko ha0 ha1 hb0 hb1]
    grind
  have eD:J8 b0 b1 p0 p1 * (a0 * a0 + a1 * a1) = J8 a0 a1 p0 p1 * J8 a0 a1 b0 b1 + JF a0 a1 p0 p1 * JF a0 a1 b0 b1 := by
    rw [Ko hb0 hb1 hp0 hp1,Ko ha0 ha1 hp0 hp1,X7 ha0 ha1 hb0 hb1,X7 ha0 ha1 hp0 hp1,Ko ha0 ha1 hb0 hb1]
    grind
  have e1:JF b0 b1 p0 p1 = -JF p0 p1 b0 b1 := by rw [X7 hb0 hb1 hp0 hp1,X7 hp0 hp1 hb0 hb1]; grind
  have e2:JF b0 b1 a0 a1 = -JF a0 a1 b0 b1 := by rw [X7 hb0 hb1 ha0 ha1,X7 ha0 ha1 hb0 hb1]; grind
  have e3:J8 b0 b1 a0 a1 = J8 a0 a1 b0 b1 := by rw [Ko hb0 hb1 ha0 ha1,Ko ha0 ha1 hb0 hb1]; grind
  have e4:JF p0 p1 a0 a1 = -JF a0 a1 p0 p1 := by rw [X7 hp0 hp1 ha0 ha1,X7 ha0 ha1 hp0 hp1]; grind
  have nz:∀ {q0 q1:Int},b9 q0 → b9 q1 → (q0 ≠ 0 ∨ q1 ≠ 0) → J8 a0 a1 q0 q1 ≠ 0 ∨ JF a0 a1 q0 q1 ≠ 0 := fun {q0 q1} h0 h1 hq => by
    have hM := JZN hq
    have e:J8 a0 a1 q0 q1 * J8 a0 a1 q0 q1 + JF a0 a1 q0 q1 * JF a0 a1 q0 q1 = (a0 * a0 + a1 * a1) * (q0 * q0 + q1 * q1) := by
      rw [Ko ha0 ha1 h0 h1,X7 ha0 ha1 h0 h1]
      grind
    have hpos := Int.mul_pos hN hM
    rw [← e] at hpos
    by_cases q1:J8 a0 a1 q0 q1 = 0
    · right
      intro q2
      rw [q1,q2] at hpos
      simp at hpos
    · exact .inl q1
  have core := JjB (x := J8 a0 a1 p0 p1) (y := JF a0 a1 p0 p1) (u := J8 a0 a1 b0 b1) (v := JF a0 a1 b0 b1) (c := JF p0 p1 b0 b1) (d := J8 b0 b1 p0 p1) (nz hp0 hp1 hp) (nz hb0 hb1 hb)
    ⟨fun h => by rw [← eC]; exact JXX hN h,fun h => by rw [← eC] at h; exact q8 hN h⟩ ⟨fun h => by rw [← eC]; exact Jmf hN h,fun h => by rw [← eC] at h; exact Jba hN h⟩ ⟨fun h => by rw [← eD]; exact JXX hN h,fun h => by rw [← eD] at h; exact q8 hN h⟩
  have o1 := JZ7 b0 b1 p0 p1
  have o2 := JZ7 b0 b1 a0 a1
  have o3 := JIW a0 a1 p0 p1 (-1)
  have o4 := JIW a0 a1 b0 b1 (-1)
  rw [neg _ (bnd ha0 ha1 hp0 hp1)] at o3
  rw [neg _ (bnd ha0 ha1 hb0 hb1)] at o4
  rw [e1] at o1
  rw [e2,e3] at o2
  unfold K7 QO
  rw [neg _ (bnd hp0 hp1 hb0 hb1),e4]
  clear eC eD e1 e2 e3 e4
  generalize KJ b0 b1 p0 p1 = q at *
  generalize KJ b0 b1 a0 a1 = k at *
  generalize KR a0 a1 p0 p1 (-1) = h at *
  generalize KR a0 a1 b0 b1 (-1) = k' at *
  generalize JF p0 p1 b0 b1 = c at *
  generalize J8 b0 b1 p0 p1 = d at *
  generalize JF a0 a1 p0 p1 = y at *
  generalize J8 a0 a1 p0 p1 = x at *
  generalize JF a0 a1 b0 b1 = v at *
  generalize J8 a0 a1 b0 b1 = u at *
  clear nz neg bnd ha hb hp hN ha0 ha1 hb0 hb1 hp0 hp1
  have Q1:((c < 0 ∨ c = 0 ∧ 0 < d) ∧ q = 0) ∨ (¬ (c < 0 ∨ c = 0 ∧ 0 < d) ∧ q = 1) := by
    rcases o1 with ⟨g1,g2⟩ | ⟨g1,g2⟩
    · exact .inl ⟨by omega,g2⟩
    · exact .inr ⟨by omega,g2⟩
  have Q2:((v < 0 ∨ v = 0 ∧ 0 < u) ∧ k = 0 ∧ k' = 0) ∨ (¬ (v < 0 ∨ v = 0 ∧ 0 < u) ∧ k = 1 ∧ k' = 1) := by
    rcases o2 with ⟨g1,g2⟩ | ⟨g1,g2⟩ <;> rcases o4 with ⟨g3,g4⟩ | ⟨g3,g4⟩
    · exact .inl ⟨by omega,g2,g4⟩
    · exfalso; omega
    · exfalso; omega
    · exact .inr ⟨by omega,g2,g4⟩
  have Q3:((y < 0 ∨ y = 0 ∧ 0 < x) ∧ h = 0) ∨ (¬ (y < 0 ∨ y = 0 ∧ 0 < x) ∧ h = 1) := by
    rcases o3 with ⟨g1,g2⟩ | ⟨g1,g2⟩
    · exact .inl ⟨by omega,g2⟩
    · exact .inr ⟨by omega,g2⟩
  clear o1 o2 o3 o4
  generalize (c < 0 ∨ c = 0 ∧ 0 < d) = Q at *
  generalize (v < 0 ∨ v = 0 ∧ 0 < u) = K at *
  generalize (y < 0 ∨ y = 0 ∧ 0 < x) = H at *
  rcases Q1 with ⟨A,rfl⟩ | ⟨A,rfl⟩ <;> rcases Q2 with ⟨B,rfl,rfl⟩ | ⟨B,rfl,rfl⟩ <;> rcases Q3 with ⟨D,rfl⟩ | ⟨D,rfl⟩ <;>
    simp only [A,B,D,true_and,false_and,not_true_eq_false,not_false_eq_true,false_or,or_false,true_or,or_true,and_true,iff_true,true_iff,iff_false,false_iff] at core <;>
    rw [Bool.eq_iff_iff] <;> simp <;> omega
theorem vc0 (a b:Int):JF a b 0 0 = 0 := by unfold JF; rw [Int.mul_zero,Int.mul_zero]; rfl
theorem Jy9 (a b:Int):JF 0 0 a b = 0 := by unfold JF; rw [Int.zero_mul,Int.zero_mul]; rfl
theorem vi0 (a b:Int):J8 a b 0 0 = 0 := by unfold J8; rw [Int.mul_zero,Int.mul_zero]; rfl
theorem Jbn {a0 a1 b0 b1:Int} (ha0:b9 a0) (ha1:b9 a1) (hb0:b9 b0) (hb1:b9 b1):K7 b0 b1 a0 a1 0 0 = QO a0 a1 b0 b1 0 0 (-1) false := by
  have q1 := JHe ha0 hb1 (by omega) (by omega)
  have q2 := JHe ha1 hb0 (by omega) (by omega)
  have o2 := JZ7 b0 b1 a0 a1
  have o4 := JIW a0 a1 b0 b1 (-1)
  have e2:JF b0 b1 a0 a1 = -JF a0 a1 b0 b1 := by rw [X7 hb0 hb1 ha0 ha1,X7 ha0 ha1 hb0 hb1]; grind
  have e3:J8 b0 b1 a0 a1 = J8 a0 a1 b0 b1 := by rw [Ko hb0 hb1 ha0 ha1,Ko ha0 ha1 hb0 hb1]; grind
  have e4:IntKind.i64.wrap (JF a0 a1 b0 b1 * -1) = -JF a0 a1 b0 b1 := by
    rw [X7 ha0 ha1 hb0 hb1,show (a0 * b1 - a1 * b0) * -1 = -(a0 * b1 - a1 * b0) by omega]
    generalize a0 * b1 = x at *
    generalize a1 * b0 = y at *
    exact X6 (by omega) (by omega)
  rw [e2,e3] at o2
  rw [e4] at o4
  have c1:KJ b0 b1 0 0 = 1 := by unfold KJ; rw [vc0,vi0]; rfl
  have c2:KR a0 a1 0 0 (-1) = 1 := by unfold KR; rw [vc0,vi0]; rfl
  unfold K7 QO
  rw [c1,c2,Jy9,Jy9]
  have w:IntKind.i64.wrap (0 * -1) = 0 := rfl
  rw [w]
  generalize KJ b0 b1 a0 a1 = h at *
  generalize KR a0 a1 b0 b1 (-1) = k at *
  rcases o2 with ⟨g1,rfl⟩ | ⟨g1,rfl⟩ <;> rcases o4 with ⟨g3,rfl⟩ | ⟨g3,rfl⟩
  · rfl
  · exact absurd g1 g3
  · exact absurd g3 g1
  · rfl
theorem JuZ (a0 a1 b0 b1 u w d:Int) (e7:Bool):QO a0 a1 b0 b1 u w d e7 = (e7 || QO a0 a1 b0 b1 u w d false) := by cases e7 <;> rfl
theorem JjP {e0 e1 e2 e3 e4 e5 e6:Int} (e7:Bool) {u w:Int} (y z:Int) (E:EP e0 e1 e2 e3 e4 e5 e6) (hu:bd 1048576 u) (hw:bd 1048576 w) :
    JI8 e0 e1 e2 e3 e4 e5 e6 e7 u w y z = bif e6 == 0 then decide (J8 (J1 u y) (J1 w z) (J1 e2 e0) (J1 e3 e1) > 0) else
      (QO (J1 e0 e4) (J1 e1 e5) (J1 e2 e4) (J1 e3 e5) (J1 u e4) (J1 w e5) e6 e7 && !XF (J1 e0 e4) (J1 e1 e5) (J1 u e4) (J1 w e5)) := by
  unfold JI8
  cases h6:e6 == 0
  · rw [cond_false,cond_false]
    have hne:e6 ≠ 0 := by simpa using h6
    have c0 := E.c0
    have c1 := E.c1
    have c2 := E.c2
    have c3 := E.c3
    have c4 := E.c4
    have c5 := E.c5
    have hs:(JF (J1 e0 e4) (J1 e1 e5) (J1 u e4) (J1 w e5) != 0 || decide (J8 (J1 e0 e4) (J1 e1 e5) (J1 u e4) (J1 w e5) ≤ 0)) = !XF (J1 e0 e4) (J1 e1 e5) (J1 u e4) (J1 w e5) := by
      unfold XF
      generalize JF (J1 e0 e4) (J1 e1 e5) (J1 u e4) (J1 w e5) = x
      generalize J8 (J1 e0 e4) (J1 e1 e5) (J1 u e4) (J1 w e5) = i
      rw [Bool.eq_iff_iff]
      simp only [Bool.or_eq_true,Bool.not_eq_true',Bool.and_eq_false_iff,bne_iff_ne,decide_eq_true_eq,beq_eq_false_iff_ne,decide_eq_false_iff_not]
      omega
    rw [hs,JuZ]
    have m:∀ {a b:Int},bd 1048576 a → bd 1048576 b → J1 a b = a - b := fun {a b} h1 h2 => XY (by omega) (by omega)
    have z1 := E.s1 hne
    have z2 := E.s2 hne
    rcases E.dir with h | rfl | rfl
    · exact absurd h hne
    · have ei:KN e0 e1 0 e2 e3 0 17 (JP e4 1) (JP e5 1) 0 (Jo 1) (JNo 1 e7) (J1 u e4) (J1 w e5) = (e7 || K7 (J1 e0 e4) (J1 e1 e5) (J1 e2 e4) (J1 e3 e5) (J1 u e4) (J1 w e5)) := rfl
      rw [ei,Jbr]
    · have ei:KN e0 e1 0 e2 e3 0 17 (JP e4 (-1)) (JP e5 (-1)) 0 (Jo (-1)) (JNo (-1) e7) (J1 u e4) (J1 w e5) = (e7 || K7 (J1 e2 e4) (J1 e3 e5) (J1 e0 e4) (J1 e1 e5) (J1 u e4) (J1 w e5)) := rfl
      rw [ei,m (a := e0) (by omega) c4,m (a := e1) (by omega) c5,m (a := e2) (by omega) c4,m (a := e3) (by omega) c5,m hu c4,m hw c5]
      by_cases hz:u - e4 = 0 ∧ w - e5 = 0
      · rw [hz.1,hz.2,Jbn (by omega) (by omega) (by omega) (by omega)]
      · rw [JgY (by omega) (by omega) (by omega) (by omega) (by omega) (by omega) z1 z2 (by omega)]
  · rw [cond_true,cond_true]
theorem Jnt (d k:Int):XD d k 0 2 = 0 := by
  unfold XD
  have:((0:Int) == 0 || !((2:Int) == 0 || (2:Int) == 1 || (2:Int) == 2)) = true := rfl
  rw [this,cond_true]
theorem JkL {e0 e1 e2 e3 e4 e5 e6 f0 f1 f2 f3 f4 f5 f6 l0 l1 h0 h1 r:Int} (e7 f7:Bool) (hd:Jvr e6) (F:EP f0 f1 f2 f3 f4 f5 f6) (hr:bd 1000000000 r) (b0:bd 1048576 l0) (b1:bd 1048576 l1) (b2:bd 1048576 h0) (b3:bd 1048576 h1) :
    (bif f6 == 0 then JCQ l0 l1 h0 h1 e0 e1 e2 e3 e4 e5 e6 e7 r else JKK f0 f1 f2 f3 f4 f5 f6 f7 l0 l1 h0 h1 r e0 e1 e2 e3 e4 e5 e6 e7 r) = JNj e0 e1 e2 e3 e4 e5 e6 e7 f0 f1 f2 f3 f4 f5 f6 f7 l0 l1 h0 h1 r ∧
    (bif f6 == 0 then JCo l0 l1 h0 h1 e0 e1 e2 e3 e4 e5 e6 e7 r else JJe f0 f1 f2 f3 f4 f5 f6 f7 l0 l1 h0 h1 r e0 e1 e2 e3 e4 e5 e6 e7 r) = JOR e0 e1 e2 e3 e4 e5 e6 e7 f0 f1 f2 f3 f4 f5 f6 f7 l0 l1 h0 h1 r := by
  unfold JNj JOR
  cases h6:f6 == 0
  · simp only [cond_false]
    have sp':∀ a b c:Int,JH a b c false = J1 a c := fun _ _ _ => rfl
    have c0 := F.c0
    have c1 := F.c1
    have c4 := F.c4
    have c5 := F.c5
    have m0:J1 f0 f4 = f0 - f4 := XY (by omega) (by omega)
    have m1:J1 f1 f5 = f1 - f5 := XY (by omega) (by omega)
    have hv:J8 (J1 f0 f4) (J1 f1 f5) (J1 f0 f4) (J1 f1 f5) = (f0 - f4) * (f0 - f4) + (f1 - f5) * (f1 - f5) := by rw [m0,m1,Ko (by omega) (by omega) (by omega) (by omega)]
    have hz := (JoV (n := J8 (J1 f0 f4) (J1 f1 f5) (J1 f0 f4) (J1 f1 f5)) (m := 2) (by rw [hv]; exact Jxx _ _) (Jhz _ _ _ _) (.inr (.inr rfl))).1
    simp only [sp']
    rw [← hz]
    unfold JKK JJe
    have key:∀ {Z:Int},Xa Z → (crF Z f0 f1 f2 f3 f4 f5 f6 f7 e0 e1 e2 e3 e4 e5 e6 e7 r).fin (cv0 (J1 l0 f4) (J1 l1 f5) (J1 h0 f4) (J1 h1 f5)) = (faF Z f0 f1 f2 f3 f4 f5 f6 f7 e0 e1 e2 e3 e4 e5 e6 e7 r).fin (cv0 (J1 l0 f4) (J1 l1 f5) (J1 h0 f4) (J1 h1 f5)) := fun {Z} hZ =>
      JoD hZ (fun u w => JMu _ _ hd hr) _ _
    rw [key (Jk _)]
    exact ⟨rfl,rfl⟩
  · simp only [cond_true]
    obtain ⟨en,n0,n1,n2,n3⟩ := Jnj b0 b1 b2 b3
    have en':ZA l0 l1 h0 h1 = YV l0 l1 h0 h1 := by
      unfold ZA JOY JPQ YV
      rw [X6 (x := l0 - h0) (by omega) (by omega),X6 (x := h0 - l0) (by omega) (by omega),X6 (x := h1 - l1) (by omega) (by omega),X6 (x := l1 - h1) (by omega) (by omega),show l0 - h0 = 0 - (h0 - l0) by omega,show l1 - h1 = 0 - (h1 - l1) by omega]
    have d0:J1 h0 l0 = h0 - l0 := XY (by omega) (by omega)
    have d1:J1 h1 l1 = h1 - l1 := XY (by omega) (by omega)
    unfold JCQ JCo
    rw [en,en',d0,d1]
    generalize YV l0 l1 h0 h1 = n at *
    by_cases hn:n = 0
    · have e1:l0 = h0 := by omega
      have e2:l1 = h1 := by omega
      rw [hn,Jnt,Jnt,JYO (by omega) (by omega),JYO (by omega) (by omega)]
      exact ⟨show l0 + 0 = h0 by omega,show l1 + 0 = h1 by omega⟩
    · have hn':(n == 0) = false := by simpa using hn
      have hn1:1 ≤ n ∧ n ≤ 4194304 := by omega
      have hB:(stF l0 l1 (h0 - l0) (h1 - l1) n e0 e1 e2 e3 e4 e5 e6 e7 r).fin (bs0 n) = (fdF l0 l1 h0 h1 n e0 e1 e2 e3 e4 e5 e6 e7 r).fin (bs0 n) := by
        refine JpU fun k k0 k1 => ?_
        show ZX e0 e1 e2 e3 e4 e5 e6 (JG l0 (XD (h0 - l0) k n 2)) (JG l1 (XD (h1 - l1) k n 2)) r = XC e0 e1 e2 e3 e4 e5 e6 (ZP l0 h0 k n) (ZP l1 h1 k n) r
        rw [(JVD b0 n2 ⟨k0,k1⟩ hn1).1,(JVD b1 n3 ⟨k0,k1⟩ hn1).1,JMu _ _ hd hr]
      have hR:0 ≤ (fdF l0 l1 h0 h1 n e0 e1 e2 e3 e4 e5 e6 e7 r).fin (bs0 n) ∧ (fdF l0 l1 h0 h1 n e0 e1 e2 e3 e4 e5 e6 e7 r).fin (bs0 n) ≤ n := Jo2 _ n0
      rw [hB,hn',cond_false,cond_false]
      exact ⟨(JVD b0 n2 hR hn1).1,(JVD b1 n3 hR hn1).1⟩
theorem Jqb {e0 e1 e2 e3 e4 e5 e6 f0 f1 f2 f3 f4 f5 f6 r:Int} (e7 f7:Bool) (E:EP e0 e1 e2 e3 e4 e5 e6) (F:EP f0 f1 f2 f3 f4 f5 f6) (hr:bd 1000000000 r) :
    JMP e0 e1 e2 e3 e4 e5 e6 e7 f0 f1 f2 f3 f4 f5 f6 f7 r = Wn e0 e1 e2 e3 e4 e5 e6 e7 f0 f1 f2 f3 f4 f5 f6 f7 r ∧ JN2 e0 e1 e2 e3 e4 e5 e6 e7 f0 f1 f2 f3 f4 f5 f6 f7 r = j9 e0 e1 e2 e3 e4 e5 e6 e7 f0 f1 f2 f3 f4 f5 f6 f7 r ∧ JPz e0 e1 e2 e3 e4 e5 e6 e7 f0 f1 f2 f3 f4 f5 f6 f7 r = JEP e0 e1 e2 e3 e4 e5 e6 e7 f0 f1 f2 f3 f4 f5 f6 f7 r := by
  obtain ⟨x0,x1,x2,x3,x4⟩ := JRg r E
  obtain ⟨y0,y1,y2,y3,y4⟩ := JRg r F
  obtain ⟨b0,b1,b2,b3⟩ := JFE f0 f1 f2 f3 f4 f5 f6 r
  have fs := JkL (e0 := e0) (e1 := e1) (e2 := e2) (e3 := e3) (e4 := e4) (e5 := e5) e7 f7 E.dir F hr b0 b1 b2 b3
  have s0:JBk e0 e1 e2 e3 e4 e5 e6 e7 f0 f1 f2 f3 f4 f5 f6 f7 r = KE e0 e1 e2 e3 e4 e5 e6 e7 f0 f1 f2 f3 f4 f5 f6 f7 r := by
    unfold JBk KE
    rw [fs.1,y0,y1,y2,y3]
  have s1:JBl e0 e1 e2 e3 e4 e5 e6 e7 f0 f1 f2 f3 f4 f5 f6 f7 r = K9 e0 e1 e2 e3 e4 e5 e6 e7 f0 f1 f2 f3 f4 f5 f6 f7 r := by
    unfold JBl K9
    rw [fs.2,y0,y1,y2,y3]
  have hw:∀ a b,QR a b = (Jd a 1048576 && Jd b 1048576) := fun _ _ => rfl
  have sp:∀ a b c:Int,JH a b c true = J1 b c := fun _ _ _ => rfl
  have sp':∀ a b c:Int,JH a b c false = J1 a c := fun _ _ _ => rfl
  unfold JMP JN2 JPz Wn j9 JEP JPU
  rw [s0,s1,x0,x1,x4,y2,y3,y4,JMu _ _ E.dir hr]
  simp only [hw,sp,sp']
  generalize KE e0 e1 e2 e3 e4 e5 e6 e7 f0 f1 f2 f3 f4 f5 f6 f7 r = u at *
  generalize K9 e0 e1 e2 e3 e4 e5 e6 e7 f0 f1 f2 f3 f4 f5 f6 f7 r = w at *
  cases (Qd e0 e1 e2 e3 e4 e5 e6 r != 0)
  · cases (Qd f0 f1 f2 f3 f4 f5 f6 r != 0)
    · cases (!XC e0 e1 e2 e3 e4 e5 e6 (Xm f0 f1 f2 f3 f4 f5 f6 r) (Xk f0 f1 f2 f3 f4 f5 f6 r) r)
      · simp only [cond_false]
        cases hu:Jd u 1048576
        · exact ⟨rfl,rfl,rfl⟩
        · cases hv:Jd w 1048576
          · exact ⟨rfl,rfl,rfl⟩
          · have h1 := (j3 (by omega) (by omega)).1 hu
            have h2 := (j3 (by omega) (by omega)).1 hv
            rw [JjP e7 _ _ E h1 h2]
            simp only [Bool.not_true,Bool.or_self,Bool.and_self,cond_false]
            cases e6 == 0
            · simp only [cond_false,Bool.not_and,Bool.not_not]
              exact ⟨trivial,trivial,trivial⟩
            · simp only [cond_true]
              have:∀ x:Int,(!decide (x > 0)) = decide (x ≤ 0) := fun x => by
                by_cases h:x > 0
                · rw [decide_eq_true h,decide_eq_false (by omega)]; rfl
                · rw [decide_eq_false h,decide_eq_true (by omega)]; rfl
              simp only [this]
              exact ⟨trivial,trivial,trivial⟩
      · exact ⟨rfl,rfl,rfl⟩
    · exact ⟨rfl,rfl,rfl⟩
  · exact ⟨rfl,rfl,rfl⟩
theorem JmU {c b:Bool} (h:(bif c then false else b) = true):c = false ∧ b = true := by
  cases c
  · exact ⟨rfl,h⟩
  · cases h
theorem JME {a b c:Int} (h:XK a b c = true):bd 1048576 a ∧ bd 1048576 b ∧ bd 1048576 c := by
  unfold XK at h
  simp only [Bool.and_eq_true,decide_eq_true_eq] at h
  exact ⟨⟨by omega,by omega⟩,⟨by omega,by omega⟩,⟨by omega,by omega⟩⟩
theorem JfF {a b c:Int} (p:Int) (h:bd 1048576 a ∧ bd 1048576 b ∧ bd 1048576 c):bd 1048576 (J4 p a b c) ∧ bd 1048576 (J5 p a b c) ∧ bd 1048576 (J9 p a b c) := by
  obtain ⟨h1,h2,h3⟩ := h
  have z:bd 1048576 0 := by decide
  unfold J4 J5 J9
  cases p == 17 <;> cases p == 18 <;> cases p == 19 <;> exact ⟨by assumption,by assumption,by assumption⟩
theorem JHZ {x:List GC} (hv:Qf x = true) (hm:J3 (xi x 0) = true) :
    (bd 1048576 (xi x 2) ∧ bd 1048576 (xi x 3) ∧ bd 1048576 (xi x 4)) ∧ (bd 1048576 (xi x 5) ∧ bd 1048576 (xi x 6) ∧ bd 1048576 (xi x 7)) ∧
    ((xi x 16 == 0) = true → xi x 17 = 0 ∧ (xi x 8 = 0 ∨ xi x 0 = 3)) ∧
    ((xi x 16 == 0) = false → (xi x 0 = 1 ∨ xi x 0 = 2 ∨ xi x 0 = 3) ∧ Kk (xi x 8) = true ∧ (xi x 16 = 1 ∨ xi x 16 = -1) ∧ 0 ≤ xi x 17 ∧ xi x 17 ≤ 32768) ∧
    (xi x 0 = 3 → XX (xi x 0) (xi x 2) (xi x 3) (xi x 4) (xi x 5) (xi x 6) (xi x 7) (xi x 8) (xi x 9) (xi x 10) (xi x 11) (xi x 12) (xb x 13) = 0) := by
  unfold Qf at hv
  obtain ⟨_,hv⟩ := JmU hv
  rw [hm,cond_true] at hv
  obtain ⟨h2,hv⟩ := JmU hv
  simp only [Bool.or_eq_false_iff,Bool.not_eq_false'] at h2
  obtain ⟨⟨⟨⟨w1,w2⟩,_⟩,_⟩,w3⟩ := h2
  refine ⟨JME w1,JME w2,fun h => ?_,fun h => ?_,fun h => ?_⟩
  · rw [h,cond_true] at w3
    simp only [Bool.and_eq_true,Bool.or_eq_true,beq_iff_eq] at w3
    exact w3
  · rw [h,cond_false] at w3
    simp only [Bool.and_eq_true,Bool.or_eq_true,beq_iff_eq,decide_eq_true_eq] at w3
    obtain ⟨⟨⟨⟨a,b⟩,c⟩,d⟩,e⟩ := w3
    refine ⟨?_,b,c,by omega,e⟩
    rcases a with (a | a) | a
    · exact .inl a
    · exact .inr (.inl a)
    · exact .inr (.inr a)
  · rw [show (xi x 0 == 3) = true by simp [h],cond_true] at hv
    obtain ⟨h3,_⟩ := JmU hv
    simpa using h3
theorem WS {k f0 f1 f2 t0 t1 t2 p c0 c1 c2 d:Int} {fu:Bool} (h:XX k f0 f1 f2 t0 t1 t2 p c0 c1 c2 d fu = 0) :
    k = 3 ∧ Kk p = true ∧ (bd 1048576 c0 ∧ bd 1048576 c1 ∧ bd 1048576 c2) ∧ (d = 1 ∨ d = -1) ∧ J9 p f0 f1 f2 = J9 p c0 c1 c2 ∧
    (J4 p f0 f1 f2 - J4 p c0 c1 c2 ≠ 0 ∨ J5 p f0 f1 f2 - J5 p c0 c1 c2 ≠ 0) ∧ (J4 p t0 t1 t2 - J4 p c0 c1 c2 ≠ 0 ∨ J5 p t0 t1 t2 - J5 p c0 c1 c2 ≠ 0) ∧
    64 ≤ J8 (Jf f0 f1 f2 p c0 c1 c2) (Ji f0 f1 f2 p c0 c1 c2) (Jf f0 f1 f2 p c0 c1 c2) (Ji f0 f1 f2 p c0 c1 c2) ∧
    (fu = false → XF (Jf f0 f1 f2 p c0 c1 c2) (Ji f0 f1 f2 p c0 c1 c2) (Jf t0 t1 t2 p c0 c1 c2) (Ji t0 t1 t2 p c0 c1 c2) = false) := by
  unfold XX at h
  obtain ⟨h1,h⟩ := JBa (by decide) h
  simp only [Bool.or_eq_false_iff,bne_eq_false_iff_eq,Bool.not_eq_false',Bool.and_eq_false_iff] at h1
  obtain ⟨⟨⟨⟨⟨⟨k1,k2⟩,_⟩,_⟩,k5⟩,k6⟩,k7⟩ := h1
  have h2 := (JBa (by decide) h).1
  simp only [Bool.or_eq_false_iff,decide_eq_false_iff_not,Int.not_lt] at h2
  obtain ⟨⟨⟨⟨m1,m2⟩,_⟩,_⟩,m5⟩ := h2
  have nz:∀ a b:Int,64 ≤ J8 (IntKind.i64.wrap a) (IntKind.i64.wrap b) (IntKind.i64.wrap a) (IntKind.i64.wrap b) → a ≠ 0 ∨ b ≠ 0 := fun a b h => by
    by_cases ha:a = 0
    · by_cases hb:b = 0
      · subst ha; subst hb
        exact absurd h (by decide)
      · exact .inr hb
    · exact .inl ha
  refine ⟨k1,k2,JME k5,?_,k7,nz _ _ m1,nz _ _ m2,m1,fun hf => ?_⟩
  · exact k6
  · rw [hf] at m5; simpa using m5
structure LI (l:List GC):Prop where
  n:J2 l = l
  k:xi l 0 = 2
  pl:Kk (xi l 8) = true
  sd:xi l 16 = 1 ∨ xi l 16 = -1
  ra:0 ≤ xi l 17 ∧ xi l 17 ≤ 32768
  hh:J9 (xi l 8) (xi l 2) (xi l 3) (xi l 4) = J9 (xi l 8) (xi l 5) (xi l 6) (xi l 7)
structure YI (l y:List GC):Prop where
  n:J2 y = y
  k:xi y 0 = 2 ∨ xi y 0 = 3
  p:xi y 8 = xi l 8
  E:EP (J4 (xi l 8) (xi y 2) (xi y 3) (xi y 4)) (J5 (xi l 8) (xi y 2) (xi y 3) (xi y 4)) (J4 (xi l 8) (xi y 5) (xi y 6) (xi y 7)) (J5 (xi l 8) (xi y 5) (xi y 6) (xi y 7)) (JO (xi l 8) y) (JN (xi l 8) y) (JL y)
  A:xi y 0 = 3 → XX (xi y 0) (xi y 2) (xi y 3) (xi y 4) (xi y 5) (xi y 6) (xi y 7) (xi y 8) (xi y 9) (xi y 10) (xi y 11) (xi y 12) (xb y 13) = 0
theorem JmJ (p:Int) (x:List GC):ZL p x = (xb x 13 || !(J4 p (xi x 2) (xi x 3) (xi x 4) == J4 p (xi x 5) (xi x 6) (xi x 7) && J5 p (xi x 2) (xi x 3) (xi x 4) == J5 p (xi x 5) (xi x 6) (xi x 7))) := rfl
theorem Jvx {x:List GC} (hx:J2 x = x) (hv:Qf x = true) (hm:J3 (xi x 0) = true) (hs:(xi x 16 == 0) = false) (hd:Ja x (xi x 8) (xi x 17) = true):LI x := by
  obtain ⟨_,_,_,h4,_⟩ := JHZ hv hm
  obtain ⟨_,h5,h6,h7⟩ := h4 hs
  unfold Ja at hd
  simp only [Bool.and_eq_true,beq_iff_eq] at hd
  exact ⟨hx,hd.1.1.1,h5,h6,h7,hd.1.1.2⟩
theorem JZ6 {x:List GC} (h:xi x 0 = 2) (p:Int):JO p x = 0 ∧ JN p x = 0 ∧ JL x = 0 ∧ QJ x = false := by
  have e:(xi x 0 == 3) = false := by rw [h]; rfl
  unfold JO JN JL QJ
  rw [e]; exact ⟨rfl,rfl,rfl,rfl⟩
theorem JI1 {x:List GC} (h:xi x 0 = 3) (p:Int):JO p x = J4 p (xi x 9) (xi x 10) (xi x 11) ∧ JN p x = J5 p (xi x 9) (xi x 10) (xi x 11) ∧ JL x = xi x 12 ∧ QJ x = xb x 13 := by
  have e:(xi x 0 == 3) = true := by rw [h]; rfl
  unfold JO JN JL QJ
  rw [e]; exact ⟨rfl,rfl,rfl,rfl⟩
theorem Jnr {x l:List GC} (hx:J2 x = x) (hv:Qf x = true) (hm:J3 (xi x 0) = true) (hs:(xi x 16 == 0) = false) (h1:xi x 0 ≠ 1) (hp:xi x 8 = xi l 8):YI l x := by
  obtain ⟨a,b,_,h4,h5⟩ := JHZ hv hm
  obtain ⟨hk,_⟩ := h4 hs
  obtain ⟨p1,p2,_⟩ := JfF (xi l 8) a
  obtain ⟨q1,q2,_⟩ := JfF (xi l 8) b
  have z:bd 1048576 0 := by decide
  rcases hk with hk | hk | hk
  · exact absurd hk h1
  · obtain ⟨e1,e2,e3,_⟩ := JZ6 hk (xi l 8)
    exact ⟨hx,.inl hk,hp,by rw [e1,e2,e3]; exact ⟨p1,p2,q1,q2,z,z,.inl rfl,fun h => absurd rfl h,fun h => absurd rfl h⟩,fun h => by rw [hk] at h; exact absurd h (by decide)⟩
  · obtain ⟨e1,e2,e3,_⟩ := JI1 hk (xi l 8)
    have hA := h5 hk
    obtain ⟨_,_,m3,m4,_,m6,m7,_⟩ := WS hA
    obtain ⟨r1,r2,_⟩ := JfF (xi l 8) m3
    rw [hp] at m6 m7
    exact ⟨hx,.inr hk,hp,by rw [e1,e2,e3]; exact ⟨p1,p2,q1,q2,r1,r2,.inr m4,fun _ => m6,fun _ => m7⟩,fun _ => hA⟩
theorem JjY {x:List GC} {p:Int} (hv:Qf x = true) (hm:J3 (xi x 0) = true) (hs:(xi x 16 == 0) = false) (h1:xi x 0 ≠ 1) (hp:xi x 8 = p) (hr:ZL p x = false):xi x 0 = 2 := by
  obtain ⟨_,_,_,h4,h5⟩ := JHZ hv hm
  obtain ⟨hk,_⟩ := h4 hs
  rcases hk with hk | hk | hk
  · exact absurd hk h1
  · exact hk
  · exfalso
    rw [JmJ] at hr
    simp only [Bool.or_eq_false_iff,Bool.not_eq_false',Bool.and_eq_true,beq_iff_eq] at hr
    obtain ⟨hf,e0,e1⟩ := hr
    obtain ⟨_,_,_,_,_,_,_,m8,m9⟩ := WS (h5 hk)
    have m9 := m9 hf
    subst hp
    have w0:Jf (xi x 5) (xi x 6) (xi x 7) (xi x 8) (xi x 9) (xi x 10) (xi x 11) = Jf (xi x 2) (xi x 3) (xi x 4) (xi x 8) (xi x 9) (xi x 10) (xi x 11) := by unfold Jf; rw [e0]
    have w1:Ji (xi x 5) (xi x 6) (xi x 7) (xi x 8) (xi x 9) (xi x 10) (xi x 11) = Ji (xi x 2) (xi x 3) (xi x 4) (xi x 8) (xi x 9) (xi x 10) (xi x 11) := by unfold Ji; rw [e1]
    rw [w0,w1] at m9
    unfold XF at m9
    have v0:∀ a b:Int,JF a b a b = 0 := fun a b => by unfold JF; rw [Int.mul_comm b a,Int.sub_self]; rfl
    rw [v0] at m9
    simp only [beq_self_eq_true,Bool.true_and,decide_eq_false_iff_not] at m9
    omega
theorem JUQ {p:Int} (h:Kk p = true):p = 17 ∨ p = 18 ∨ p = 19 := by
  unfold Kk at h
  simpa using h
theorem JXp {p:Int} (h:Kk p = true) (a b c:Int):JQ p (J4 p a b c) (J5 p a b c) (J9 p a b c) = a ∧ JR p (J4 p a b c) (J5 p a b c) (J9 p a b c) = b ∧ JS p (J4 p a b c) (J5 p a b c) (J9 p a b c) = c := by
  rcases JUQ h with rfl | rfl | rfl <;> exact ⟨rfl,rfl,rfl⟩
theorem JYm {p:Int} (h:Kk p = true) (u w k:Int):J4 p (JQ p u w k) (JR p u w k) (JS p u w k) = u ∧ J5 p (JQ p u w k) (JR p u w k) (JS p u w k) = w ∧ J9 p (JQ p u w k) (JR p u w k) (JS p u w k) = k := by
  rcases JUQ h with rfl | rfl | rfl <;> exact ⟨rfl,rfl,rfl⟩
theorem JWa {l y:List GC} (Y:YI l y) (w:Bool) :
    Z6 (xi y 0) (xi y 2) (xi y 3) (xi y 4) (xi y 5) (xi y 6) (xi y 7) (xi y 8) (xi y 9) (xi y 10) (xi y 11) (xi y 12) w = Qp (J4 (xi l 8) (xi y 2) (xi y 3) (xi y 4)) (J5 (xi l 8) (xi y 2) (xi y 3) (xi y 4)) (J4 (xi l 8) (xi y 5) (xi y 6) (xi y 7)) (J5 (xi l 8) (xi y 5) (xi y 6) (xi y 7)) (JN (xi l 8) y) (JL y) w ∧
    Z5 (xi y 0) (xi y 2) (xi y 3) (xi y 4) (xi y 5) (xi y 6) (xi y 7) (xi y 8) (xi y 9) (xi y 10) (xi y 11) (xi y 12) w = Qo (J4 (xi l 8) (xi y 2) (xi y 3) (xi y 4)) (J5 (xi l 8) (xi y 2) (xi y 3) (xi y 4)) (J4 (xi l 8) (xi y 5) (xi y 6) (xi y 7)) (J5 (xi l 8) (xi y 5) (xi y 6) (xi y 7)) (JO (xi l 8) y) (JL y) w := by
  obtain ⟨h0,h1⟩ := JQ3 w Y.E.dir Y.E.c0 Y.E.c1 Y.E.c2 Y.E.c3 Y.E.c4 Y.E.c5
  rw [Y.p]
  rcases Y.k with hk | hk
  · obtain ⟨e1,e2,e3,_⟩ := JZ6 hk (xi l 8)
    rw [hk,e1,e2,e3]
    exact ⟨rfl,rfl⟩
  · obtain ⟨_,_,_,m4,_⟩ := WS (Y.A hk)
    obtain ⟨e1,e2,e3,_⟩ := JI1 hk (xi l 8)
    rw [hk]
    rw [e1,e2,e3] at h0 h1 ⊢
    rcases m4 with h | h
    · rw [h] at h0 h1 ⊢; exact ⟨h0,h1⟩
    · rw [h] at h0 h1 ⊢; exact ⟨h0,h1⟩
theorem JLb {f0 f1 f2 t0 t1 t2 p c0 c1 c2 d u w:Int} (hd:d = 1 ∨ d = -1) (A0:b9 (Jf f0 f1 f2 p c0 c1 c2)) (A1:b9 (Ji f0 f1 f2 p c0 c1 c2)) (B0:b9 (Jf t0 t1 t2 p c0 c1 c2)) (B1:b9 (Ji t0 t1 t2 p c0 c1 c2))
    (ha:Jf f0 f1 f2 p c0 c1 c2 ≠ 0 ∨ Ji f0 f1 f2 p c0 c1 c2 ≠ 0) (hb:Jf t0 t1 t2 p c0 c1 c2 ≠ 0 ∨ Ji t0 t1 t2 p c0 c1 c2 ≠ 0) (hu:b9 u) (hw:b9 w) :
    KN f0 f1 f2 t0 t1 t2 p c0 c1 c2 d false u w = QO (Jf f0 f1 f2 p c0 c1 c2) (Ji f0 f1 f2 p c0 c1 c2) (Jf t0 t1 t2 p c0 c1 c2) (Ji t0 t1 t2 p c0 c1 c2) u w d false := by
  unfold KN
  rcases hd with rfl | rfl
  · exact Jbr ..
  · by_cases hp:u = 0 ∧ w = 0
    · obtain ⟨rfl,rfl⟩ := hp
      exact Jbn A0 A1 B0 B1
    · exact JgY A0 A1 B0 B1 hu hw ha hb (by omega)
theorem JUX (a b:Int):JF a b a b = 0 := by unfold JF; rw [Int.mul_comm b a,Int.sub_self]; rfl
theorem Jhn {a0 a1:Int} (b0 b1 d:Int) (h:64 ≤ J8 a0 a1 a0 a1):QO a0 a1 b0 b1 a0 a1 d false = true := by
  unfold QO
  have h0:KR a0 a1 a0 a1 d = 0 := by
    rcases JIW a0 a1 a0 a1 d with ⟨_,h1⟩ | ⟨h1,_⟩
    · exact h1
    · rw [JUX,Int.zero_mul] at h1
      exact absurd (.inr ⟨rfl,by omega⟩) h1
  rw [h0]
  rcases JIW a0 a1 b0 b1 d with ⟨h1,h2⟩ | ⟨_,h2⟩
  · rw [h2]
    show decide (_ ≥ (0:Int)) = true
    rw [decide_eq_true_eq]
    rcases h1 with h1 | ⟨h1,_⟩ <;> omega
  · rw [h2]; rfl
theorem JqJ (s0 s1 b0 b1 d:Int):QO s0 s1 b0 b1 b0 b1 d false = true := by
  unfold QO
  rw [bne_self_eq_false,JUX,Int.zero_mul]
  rfl
theorem JcG {α:Type} {c d:Bool} {k:Int} {z x:α} (h:k = 0 → c = d):(bif c then z else bif k != 0 then z else x) = (bif d then z else bif k != 0 then z else x) := by
  by_cases hk:k = 0
  · rw [h hk]
  · have:(k != 0) = true := by simpa using hk
    rw [this]; cases c <;> cases d <;> rfl
theorem JJt {a b:Int} (ha:bd 4000000 a) (hb:bd 1048576 b):b9 (IntKind.i64.wrap (a - b)) ∧ IntKind.i64.wrap (a - b) = a - b := by
  have e:IntKind.i64.wrap (a - b) = a - b := X6 (by omega) (by omega)
  rw [e]; exact ⟨⟨by omega,by omega⟩,rfl⟩
theorem bd4 {a:Int} (h:bd 1048576 a):bd 4000000 a := ⟨by omega,by omega⟩
theorem JeH {l y:List GC} (L:LI l) (Y:YI l y) (hk:xi y 0 = 2) (u w a0 a1:Int) (Xo tr:Bool) :
    Q8 u w Xo l y a0 a1 tr = QB u w Xo l y a0 a1 tr ∧ ZR u w Xo l y a0 a1 tr = Zq u w Xo l y a0 a1 tr [] := by
  obtain ⟨e1,e2,e3,e4⟩ := JZ6 hk (xi l 8)
  have k2:(xi y 0 == 2) = true := by rw [hk]; rfl
  have k3:(xi y 0 != 3) = true := by rw [hk]; rfl
  have es:JJo u w l y a0 a1 = qQ u w l y a0 a1 := rfl
  have eo:(tr || Xo) = (Xo || tr) := Bool.or_comm ..
  constructor
  · unfold Q8 QB
    rw [Y.n,e3,k2,es,eo]
    rfl
  · unfold ZR Zq
    rw [Y.n,L.n,e3,k2,es,eo]
    show (bif _ then [] else _) = (bif _ then [] else _)
    cases (Xo || tr) && decide (qQ u w l y a0 a1 ≤ 0)
    · rw [cond_false,cond_false]
      unfold Yd Zs
      show (bif xi y 0 == 2 && (JQ (xi l 8) a0 a1 _ == JQ (xi l 8) u w _ && (JR (xi l 8) a0 a1 _ == JR (xi l 8) u w _ && JS (xi l 8) a0 a1 _ == JS (xi l 8) u w _)) then [] else _) = _
      rw [k2,Bool.true_and,Bool.false_or]
      unfold Kf XS XP XT
      rw [k3]
      cases (JQ (xi l 8) a0 a1 (J9 (xi l 8) (xi y 2) (xi y 3) (xi y 4)) == JQ (xi l 8) u w (J9 (xi l 8) (xi y 5) (xi y 6) (xi y 7)) && (JR (xi l 8) a0 a1 (J9 (xi l 8) (xi y 2) (xi y 3) (xi y 4)) == JR (xi l 8) u w (J9 (xi l 8) (xi y 5) (xi y 6) (xi y 7)) && JS (xi l 8) a0 a1 (J9 (xi l 8) (xi y 2) (xi y 3) (xi y 4)) == JS (xi l 8) u w (J9 (xi l 8) (xi y 5) (xi y 6) (xi y 7))))
      · rfl
      · rfl
    · rfl
theorem Jr1 {l y:List GC} (L:LI l) (Y:YI l y) (hk:xi y 0 = 3) (a0 a1:Int):Kf y = (bif xi y 0 != 3 then 0 else xi y 8) ∧ XS y a0 a1 l = xi y 9 ∧ XP y a0 a1 l = xi y 10 ∧ XT y a0 a1 l = xi y 11 := by
  have k3:(xi y 0 != 3) = false := by rw [hk]; rfl
  obtain ⟨_,_,_,_,m5,_⟩ := WS (Y.A hk)
  rw [Y.p] at m5
  obtain ⟨s0,s1,s2⟩ := JXp L.pl (xi y 9) (xi y 10) (xi y 11)
  obtain ⟨_,_,q2⟩ := JYm L.pl a0 a1 (J9 (xi l 8) (xi y 2) (xi y 3) (xi y 4))
  refine ⟨rfl,?_,?_,?_⟩
  · unfold XS; rw [k3,cond_false,q2,m5,s0]
  · unfold XP; rw [k3,cond_false,q2,m5,s1]
  · unfold XT; rw [k3,cond_false,q2,m5,s2]
theorem Jad {l y:List GC} (L:LI l) (Y:YI l y) (hk:xi y 0 = 3) {u w a0 a1:Int} (hu:bd 4000000 u) (hw:bd 4000000 w) (h0:bd 4000000 a0) (h1:bd 4000000 a1) (Xo tr:Bool) (hc:(Xo || tr) = true) (hf:xb y 13 = false)
    (hK:XX (xi y 0) (JQ (xi l 8) a0 a1 (J9 (xi l 8) (xi y 2) (xi y 3) (xi y 4))) (JR (xi l 8) a0 a1 (J9 (xi l 8) (xi y 2) (xi y 3) (xi y 4))) (JS (xi l 8) a0 a1 (J9 (xi l 8) (xi y 2) (xi y 3) (xi y 4))) (JQ (xi l 8) u w (J9 (xi l 8) (xi y 5) (xi y 6) (xi y 7))) (JR (xi l 8) u w (J9 (xi l 8) (xi y 5) (xi y 6) (xi y 7))) (JS (xi l 8) u w (J9 (xi l 8) (xi y 5) (xi y 6) (xi y 7))) (bif xi y 0 != 3 then 0 else xi y 8) (xi y 9) (xi y 10) (xi y 11) (xi y 12) false = 0) :
    (!QO (XV l y) (XZ l y) (XU l y) (Xg l y) (bif tr then J1 a0 (JO (xi l 8) y) else XV l y) (bif tr then J1 a1 (JN (xi l 8) y) else XZ l y) (JL y) false ||
      !QO (bif tr then J1 a0 (JO (xi l 8) y) else XV l y) (bif tr then J1 a1 (JN (xi l 8) y) else XZ l y) (XU l y) (Xg l y) (bif Xo then J1 u (JO (xi l 8) y) else XU l y) (bif Xo then J1 w (JN (xi l 8) y) else Xg l y) (JL y) false) =
    !W7 u w Xo l y a0 a1 tr := by
  obtain ⟨e1,e2,e3,e4⟩ := JI1 hk (xi l 8)
  have k3:(xi y 0 != 3) = false := by rw [hk]; rfl
  obtain ⟨_,_,m3,m4,_,m6,m7,m8,_⟩ := WS (Y.A hk)
  rw [k3,cond_false,Y.p] at hK
  obtain ⟨_,_,_,_,_,n6,_⟩ := WS hK
  obtain ⟨q0,q1,_⟩ := JYm L.pl a0 a1 (J9 (xi l 8) (xi y 2) (xi y 3) (xi y 4))
  rw [q0,q1] at n6
  have E := Y.E
  rw [e1,e2,e3] at E
  have S0 := JJt h0 E.c4
  have S1 := JJt h1 E.c5
  have T0 := JJt hu E.c4
  have T1 := JJt hw E.c5
  have A0 := JJt (bd4 E.c0) E.c4
  have A1 := JJt (bd4 E.c1) E.c5
  have B0 := JJt (bd4 E.c2) E.c4
  have B1 := JJt (bd4 E.c3) E.c5
  rw [Y.p] at m6 m7 m8
  have r1:XV l y = Jf (xi y 2) (xi y 3) (xi y 4) (xi l 8) (xi y 9) (xi y 10) (xi y 11) := by unfold XV; rw [Y.n,e1]; rfl
  have r2:XZ l y = Ji (xi y 2) (xi y 3) (xi y 4) (xi l 8) (xi y 9) (xi y 10) (xi y 11) := by unfold XZ; rw [Y.n,e2]; rfl
  have r3:XU l y = Jf (xi y 5) (xi y 6) (xi y 7) (xi l 8) (xi y 9) (xi y 10) (xi y 11) := by unfold XU; rw [Y.n,e1]; rfl
  have r4:Xg l y = Ji (xi y 5) (xi y 6) (xi y 7) (xi l 8) (xi y 9) (xi y 10) (xi y 11) := by unfold Xg; rw [Y.n,e2]; rfl
  have za:Jf (xi y 2) (xi y 3) (xi y 4) (xi l 8) (xi y 9) (xi y 10) (xi y 11) ≠ 0 ∨ Ji (xi y 2) (xi y 3) (xi y 4) (xi l 8) (xi y 9) (xi y 10) (xi y 11) ≠ 0 := by
    unfold Jf Ji; rw [A0.2,A1.2]; exact m6
  have zb:Jf (xi y 5) (xi y 6) (xi y 7) (xi l 8) (xi y 9) (xi y 10) (xi y 11) ≠ 0 ∨ Ji (xi y 5) (xi y 6) (xi y 7) (xi l 8) (xi y 9) (xi y 10) (xi y 11) ≠ 0 := by
    unfold Jf Ji; rw [B0.2,B1.2]; exact m7
  have ia:∀ p q:Int,b9 p → b9 q → KN (xi y 2) (xi y 3) (xi y 4) (xi y 5) (xi y 6) (xi y 7) (xi l 8) (xi y 9) (xi y 10) (xi y 11) (xi y 12) false p q = QO (Jf (xi y 2) (xi y 3) (xi y 4) (xi l 8) (xi y 9) (xi y 10) (xi y 11)) (Ji (xi y 2) (xi y 3) (xi y 4) (xi l 8) (xi y 9) (xi y 10) (xi y 11)) (Jf (xi y 5) (xi y 6) (xi y 7) (xi l 8) (xi y 9) (xi y 10) (xi y 11)) (Ji (xi y 5) (xi y 6) (xi y 7) (xi l 8) (xi y 9) (xi y 10) (xi y 11)) p q (xi y 12) false :=
    fun p q hp hq => JLb m4 A0.1 A1.1 B0.1 B1.1 za zb hp hq
  have w0:Jf (JQ (xi l 8) a0 a1 (J9 (xi l 8) (xi y 2) (xi y 3) (xi y 4))) (JR (xi l 8) a0 a1 (J9 (xi l 8) (xi y 2) (xi y 3) (xi y 4))) (JS (xi l 8) a0 a1 (J9 (xi l 8) (xi y 2) (xi y 3) (xi y 4))) (xi l 8) (xi y 9) (xi y 10) (xi y 11) = IntKind.i64.wrap (a0 - J4 (xi l 8) (xi y 9) (xi y 10) (xi y 11)) := by unfold Jf; rw [q0]
  have w1:Ji (JQ (xi l 8) a0 a1 (J9 (xi l 8) (xi y 2) (xi y 3) (xi y 4))) (JR (xi l 8) a0 a1 (J9 (xi l 8) (xi y 2) (xi y 3) (xi y 4))) (JS (xi l 8) a0 a1 (J9 (xi l 8) (xi y 2) (xi y 3) (xi y 4))) (xi l 8) (xi y 9) (xi y 10) (xi y 11) = IntKind.i64.wrap (a1 - J5 (xi l 8) (xi y 9) (xi y 10) (xi y 11)) := by unfold Ji; rw [q1]
  have ip:KN (JQ (xi l 8) a0 a1 (J9 (xi l 8) (xi y 2) (xi y 3) (xi y 4))) (JR (xi l 8) a0 a1 (J9 (xi l 8) (xi y 2) (xi y 3) (xi y 4))) (JS (xi l 8) a0 a1 (J9 (xi l 8) (xi y 2) (xi y 3) (xi y 4))) (xi y 5) (xi y 6) (xi y 7) (xi l 8) (xi y 9) (xi y 10) (xi y 11) (xi y 12) false (jn u l y) (jf w l y) = QO (IntKind.i64.wrap (a0 - J4 (xi l 8) (xi y 9) (xi y 10) (xi y 11))) (IntKind.i64.wrap (a1 - J5 (xi l 8) (xi y 9) (xi y 10) (xi y 11))) (Jf (xi y 5) (xi y 6) (xi y 7) (xi l 8) (xi y 9) (xi y 10) (xi y 11)) (Ji (xi y 5) (xi y 6) (xi y 7) (xi l 8) (xi y 9) (xi y 10) (xi y 11)) (jn u l y) (jf w l y) (xi y 12) false := by
    have := JLb (f0 := JQ (xi l 8) a0 a1 (J9 (xi l 8) (xi y 2) (xi y 3) (xi y 4))) (f1 := JR (xi l 8) a0 a1 (J9 (xi l 8) (xi y 2) (xi y 3) (xi y 4))) (f2 := JS (xi l 8) a0 a1 (J9 (xi l 8) (xi y 2) (xi y 3) (xi y 4))) (t0 := xi y 5) (t1 := xi y 6) (t2 := xi y 7) (p := xi l 8) (c0 := xi y 9) (c1 := xi y 10) (c2 := xi y 11) (u := jn u l y) (w := jf w l y) m4 (by rw [w0]; exact S0.1) (by rw [w1]; exact S1.1) B0.1 B1.1 (by rw [w0,w1,S0.2,S1.2]; exact n6) zb T0.1 T1.1
    rw [w0,w1] at this
    exact this
  have st := Jhn (Jf (xi y 5) (xi y 6) (xi y 7) (xi l 8) (xi y 9) (xi y 10) (xi y 11)) (Ji (xi y 5) (xi y 6) (xi y 7) (xi l 8) (xi y 9) (xi y 10) (xi y 11)) (xi y 12) m8
  unfold W7
  rw [r1,r2,r3,r4,e1,e2,e3,hf,Y.p,ip,ia _ _ S0.1 S1.1,ia _ _ (show b9 (jn u l y) from T0.1) (show b9 (jf w l y) from T1.1)]
  have f0:J1 u (J4 (xi l 8) (xi y 9) (xi y 10) (xi y 11)) = jn u l y := rfl
  have f1:J1 w (J5 (xi l 8) (xi y 9) (xi y 10) (xi y 11)) = jf w l y := rfl
  have g0:J1 a0 (J4 (xi l 8) (xi y 9) (xi y 10) (xi y 11)) = IntKind.i64.wrap (a0 - J4 (xi l 8) (xi y 9) (xi y 10) (xi y 11)) := rfl
  have g1:J1 a1 (J5 (xi l 8) (xi y 9) (xi y 10) (xi y 11)) = IntKind.i64.wrap (a1 - J5 (xi l 8) (xi y 9) (xi y 10) (xi y 11)) := rfl
  rw [f0,f1,g0,g1]
  cases tr
  · have:Xo = true := by simpa using hc
    rw [this]
    simp only [cond_true,cond_false,st,Bool.not_true,Bool.false_or]
  · cases Xo
    · simp only [cond_true,cond_false,JqJ,Bool.not_true,Bool.or_false,Bool.not_false,Bool.true_or]
      generalize QO _ _ _ _ _ _ _ _ = X
      cases X <;> rfl
    · simp only [cond_true,cond_false]
      generalize QO (Jf (xi y 2) (xi y 3) (xi y 4) (xi l 8) (xi y 9) (xi y 10) (xi y 11)) _ _ _ _ _ _ _ = X
      generalize QO (IntKind.i64.wrap (a0 - J4 (xi l 8) (xi y 9) (xi y 10) (xi y 11))) _ _ _ _ _ _ _ = Z
      cases X <;> cases Z <;> rfl
theorem JiG {l y:List GC} (L:LI l) (Y:YI l y) (hk:xi y 0 = 3) {u w a0 a1:Int} (hu:bd 4000000 u) (hw:bd 4000000 w) (h0:bd 4000000 a0) (h1:bd 4000000 a1) (Xo tr:Bool) :
    Q8 u w Xo l y a0 a1 tr = QB u w Xo l y a0 a1 tr ∧ ZR u w Xo l y a0 a1 tr = Zq u w Xo l y a0 a1 tr [] := by
  obtain ⟨e1,e2,e3,e4⟩ := JI1 hk (xi l 8)
  obtain ⟨b2,b3,b4,b5⟩ := Jr1 L Y hk a0 a1
  obtain ⟨_,_,_,m4,_⟩ := WS (Y.A hk)
  have k2:(xi y 0 == 2) = false := by rw [hk]; rfl
  have d0:(JL y == 0) = false := by rw [e3]; rcases m4 with h | h <;> rw [h] <;> rfl
  have ck:∀ F,WJ (xi y 0) (JQ (xi l 8) a0 a1 (J9 (xi l 8) (xi y 2) (xi y 3) (xi y 4))) (JR (xi l 8) a0 a1 (J9 (xi l 8) (xi y 2) (xi y 3) (xi y 4))) (JS (xi l 8) a0 a1 (J9 (xi l 8) (xi y 2) (xi y 3) (xi y 4))) (JQ (xi l 8) u w (J9 (xi l 8) (xi y 5) (xi y 6) (xi y 7))) (JR (xi l 8) u w (J9 (xi l 8) (xi y 5) (xi y 6) (xi y 7))) (JS (xi l 8) u w (J9 (xi l 8) (xi y 5) (xi y 6) (xi y 7))) (Kf y) (XS y a0 a1 l) (XP y a0 a1 l) (XT y a0 a1 l) (xi y 12) F = XX (xi y 0) (JQ (xi l 8) a0 a1 (J9 (xi l 8) (xi y 2) (xi y 3) (xi y 4))) (JR (xi l 8) a0 a1 (J9 (xi l 8) (xi y 2) (xi y 3) (xi y 4))) (JS (xi l 8) a0 a1 (J9 (xi l 8) (xi y 2) (xi y 3) (xi y 4))) (JQ (xi l 8) u w (J9 (xi l 8) (xi y 5) (xi y 6) (xi y 7))) (JR (xi l 8) u w (J9 (xi l 8) (xi y 5) (xi y 6) (xi y 7))) (JS (xi l 8) u w (J9 (xi l 8) (xi y 5) (xi y 6) (xi y 7))) (bif xi y 0 != 3 then 0 else xi y 8) (xi y 9) (xi y 10) (xi y 11) (xi y 12) F := fun F => by rw [b2,b3,b4,b5,JVs]
  have eo:(tr || Xo) = (Xo || tr) := Bool.or_comm ..
  unfold Q8 QB ZR Zq
  have s1:JZE y = (bif xi y 0 != 3 then 0 else xi y 8) := rfl
  rw [L.n,Y.n,d0,k2,eo,ck,ck,s1,b2,b3,b4,b5]
  simp only [cond_false]
  cases hc:(Xo || tr)
  · obtain ⟨h2,h3⟩:Xo = false ∧ tr = false := by simpa using hc
    rw [h2,h3]
    simp only [cond_false,Bool.false_and,Bool.not_false,Bool.and_true,List.nil_append]
    exact ⟨trivial,rfl⟩
  · have ff:(xb y 13 && !Xo && !tr) = false := by cases Xo <;> cases tr <;> simp_all
    rw [ff]
    simp only [cond_true,Bool.true_and,e4,List.nil_append]
    cases hf:xb y 13
    · simp only [Bool.not_false,Bool.true_and]
      exact ⟨JcG fun hK => Jad L Y hk hu hw h0 h1 Xo tr hc hf hK,JcG fun hK => Jad L Y hk hu hw h0 h1 Xo tr hc hf hK⟩
    · simp only [Bool.not_true,Bool.false_and,cond_false]
      exact ⟨trivial,rfl⟩
theorem Yp {l y:List GC} (L:LI l) (Y:YI l y) {u w a0 a1:Int} (hu:bd 4000000 u) (hw:bd 4000000 w) (h0:bd 4000000 a0) (h1:bd 4000000 a1) (Xo tr:Bool) :
    Q8 u w Xo l y a0 a1 tr = QB u w Xo l y a0 a1 tr ∧ ZR u w Xo l y a0 a1 tr = Zq u w Xo l y a0 a1 tr [] := by
  rcases Y.k with hk | hk
  · exact JeH L Y hk u w a0 a1 Xo tr
  · exact JiG L Y hk hu hw h0 h1 Xo tr
theorem Jko {l:List GC} (L:LI l):bd 1000000000 (JT l) := by
  unfold JT
  obtain ⟨r1,r2⟩ := L.ra
  rcases L.sd with h | h <;> rw [h]
  · rw [X6 (by omega) (by omega)]; exact ⟨by omega,by omega⟩
  · rw [X6 (by omega) (by omega)]; exact ⟨by omega,by omega⟩
theorem JC8 {l y:List GC} (Y:YI l y):Wd y l = nE l y ∧ Yk y l = n0 l y ∧ Yq y l = n1 l y ∧ Wf l y = nE l y ∧ QZ l y = f0 l y ∧ Qa l y = f1 l y ∧ YZ l y = nE l y := by
  obtain ⟨h0,h1,h2,h3,h4⟩ := JRg (JT l) Y.E
  exact ⟨h4.symm,h0.symm,h1.symm,h4.symm,h2.symm,h3.symm,h4.symm⟩
theorem Jd8 {l y x:List GC} (L:LI l) (Y:YI l y) (X:YI l x) :
    Wn (J4 (xi l 8) (xi y 2) (xi y 3) (xi y 4)) (J5 (xi l 8) (xi y 2) (xi y 3) (xi y 4)) (J4 (xi l 8) (xi y 5) (xi y 6) (xi y 7)) (J5 (xi l 8) (xi y 5) (xi y 6) (xi y 7)) (JO (xi l 8) y) (JN (xi l 8) y) (JL y) (QJ y) (J4 (xi l 8) (xi x 2) (xi x 3) (xi x 4)) (J5 (xi l 8) (xi x 2) (xi x 3) (xi x 4)) (J4 (xi l 8) (xi x 5) (xi x 6) (xi x 7)) (J5 (xi l 8) (xi x 5) (xi x 6) (xi x 7)) (JO (xi l 8) x) (JN (xi l 8) x) (JL x) (QJ x) (JT l) = tr0 l y x ∧
    j9 (J4 (xi l 8) (xi y 2) (xi y 3) (xi y 4)) (J5 (xi l 8) (xi y 2) (xi y 3) (xi y 4)) (J4 (xi l 8) (xi y 5) (xi y 6) (xi y 7)) (J5 (xi l 8) (xi y 5) (xi y 6) (xi y 7)) (JO (xi l 8) y) (JN (xi l 8) y) (JL y) (QJ y) (J4 (xi l 8) (xi x 2) (xi x 3) (xi x 4)) (J5 (xi l 8) (xi x 2) (xi x 3) (xi x 4)) (J4 (xi l 8) (xi x 5) (xi x 6) (xi x 7)) (J5 (xi l 8) (xi x 5) (xi x 6) (xi x 7)) (JO (xi l 8) x) (JN (xi l 8) x) (JL x) (QJ x) (JT l) = tr1 l y x ∧
    JEP (J4 (xi l 8) (xi y 2) (xi y 3) (xi y 4)) (J5 (xi l 8) (xi y 2) (xi y 3) (xi y 4)) (J4 (xi l 8) (xi y 5) (xi y 6) (xi y 7)) (J5 (xi l 8) (xi y 5) (xi y 6) (xi y 7)) (JO (xi l 8) y) (JN (xi l 8) y) (JL y) (QJ y) (J4 (xi l 8) (xi x 2) (xi x 3) (xi x 4)) (J5 (xi l 8) (xi x 2) (xi x 3) (xi x 4)) (J4 (xi l 8) (xi x 5) (xi x 6) (xi x 7)) (J5 (xi l 8) (xi x 5) (xi x 6) (xi x 7)) (JO (xi l 8) x) (JN (xi l 8) x) (JL x) (QJ x) (JT l) = trE l y x := by
  obtain ⟨h0,h1,h2⟩ := Jqb (QJ y) (QJ x) Y.E X.E (Jko L)
  exact ⟨h0.symm,h1.symm,h2.symm⟩
theorem Juo (e0 e1 e2 e3 e4 e5 e6:Int) (e7:Bool) (f0 f1 f2 f3 f4 f5 f6:Int) (f7:Bool) (r:Int):bd 1048576 (Wn e0 e1 e2 e3 e4 e5 e6 e7 f0 f1 f2 f3 f4 f5 f6 f7 r) ∧ bd 1048576 (j9 e0 e1 e2 e3 e4 e5 e6 e7 f0 f1 f2 f3 f4 f5 f6 f7 r) := by
  have z:bd 1048576 0 := by decide
  have key:∀ (a b c d p q s:Bool) (x:Int),(d = false → bd 1048576 x) → bd 1048576 (bif a then 0 else bif b then 0 else bif c then 0 else bif d then 0 else bif p then (bif q then 0 else x) else bif s then 0 else x) := fun a b c d p q s x h => by
    cases a
    · cases b
      · cases c
        · cases d
          · have := h rfl
            cases p <;> cases q <;> cases s <;> first | exact z | exact this
          · exact z
        · exact z
      · exact z
    · exact z
  have w:∀ u v:Int,(!QR u v) = false → bd 1048576 u ∧ bd 1048576 v := fun u v h => by
    have h':QR u v = true := by simpa using h
    unfold QR at h'
    simp only [Bool.and_eq_true] at h'
    exact ⟨(j3 (by omega) (by omega)).1 h'.1,(j3 (by omega) (by omega)).1 h'.2⟩
  exact ⟨key _ _ _ _ _ _ _ _ fun h => (w _ _ h).1,key _ _ _ _ _ _ _ _ fun h => (w _ _ h).2⟩
theorem Jw5 {l y x:List GC} (L:LI l) (Y:YI l y) (X:YI l x):bd 4000000 (tr0 l y x) ∧ bd 4000000 (tr1 l y x) := by
  obtain ⟨h0,h1,_⟩ := Jd8 L Y X
  rw [← h0,← h1]
  obtain ⟨a,b⟩ := Juo (J4 (xi l 8) (xi y 2) (xi y 3) (xi y 4)) (J5 (xi l 8) (xi y 2) (xi y 3) (xi y 4)) (J4 (xi l 8) (xi y 5) (xi y 6) (xi y 7)) (J5 (xi l 8) (xi y 5) (xi y 6) (xi y 7)) (JO (xi l 8) y) (JN (xi l 8) y) (JL y) (QJ y) (J4 (xi l 8) (xi x 2) (xi x 3) (xi x 4)) (J5 (xi l 8) (xi x 2) (xi x 3) (xi x 4)) (J4 (xi l 8) (xi x 5) (xi x 6) (xi x 7)) (J5 (xi l 8) (xi x 5) (xi x 6) (xi x 7)) (JO (xi l 8) x) (JN (xi l 8) x) (JL x) (QJ x) (JT l)
  exact ⟨bd4 a,bd4 b⟩
theorem Jhs (l y:List GC):bd 4000000 (n0 l y) ∧ bd 4000000 (n1 l y) ∧ bd 4000000 (f0 l y) ∧ bd 4000000 (f1 l y) := by
  unfold n0 n1 f0 f1
  exact ⟨bd4 (JFE ..).1,bd4 (JFE ..).2.1,bd4 (JFE ..).2.2.1,bd4 (JFE ..).2.2.2⟩
theorem jt {l y x:List GC} (Y:YI l y) (X:YI l x):Jy x l y = kd l y x := by
  obtain ⟨a0,a1⟩ := JWa Y true
  obtain ⟨b0,b1⟩ := JWa X false
  unfold kd
  rw [a0,a1,b0,b1,JhZ]
  rfl
theorem JX3 {l y x:List GC} (L:LI l) (Y:YI l y) (X:YI l x) :
    JvM x l y = (bif kd l y x == 2 then trE l y x else bif nE l y == 0 then nE l x else nE l y) ∧
    Xs x l y = (bif kd l y x == 2 then tr0 l y x else f0 l y) ∧ Xt x l y = (bif kd l y x == 2 then tr1 l y x else f1 l y) ∧
    kG x l y = (bif kd l y x == 2 then tr0 l y x else bif nE l y == 0 then n0 l x else 0) ∧ zS x l y = (bif kd l y x == 2 then tr1 l y x else bif nE l y == 0 then n1 l x else 0) := by
  obtain ⟨t0,t1,t2⟩ := Jd8 L Y X
  obtain ⟨x0,x1,x2,_⟩ := JC8 X
  obtain ⟨_,_,_,_,y4,y5,y6⟩ := JC8 Y
  rw [← jt Y X,← t0,← t1,← t2,← x0,← x1,← x2,← y4,← y5,← y6]
  exact ⟨rfl,rfl,rfl,rfl,rfl⟩
theorem Jrd {x s:Int} (hx:Xa x) (hs:s = 1 ∨ s = -1):(IntKind.i64.wrap (x * IntKind.i64.wrap (0 - s)) == 0) = (x == 0) := by
  obtain ⟨h1,h2⟩ := hx
  have e:∀ z:Int,(z == 0) = decide (z = 0) := fun z => rfl
  rcases hs with rfl | rfl
  · rw [show IntKind.i64.wrap (0 - 1) = -1 from by decide,Int.mul_neg_one]
    by_cases hm:x = -9223372036854775808
    · subst hm; decide
    · rw [X6 (by omega) (by omega),e,e]
      exact decide_eq_decide.2 (by omega)
  · rw [show IntKind.i64.wrap (0 - -1) = 1 from by decide,Int.mul_one,X6 h1 h2]
theorem JhP {l x:List GC} (L:LI l) (u0 u1 v0 v1:Int) (ou:Bool) (O:LL):jA x v0 v1 ou l u0 u1 O = O ++ Wc x u0 u1 v0 v1 ou l := by
  have e1:Wu x v0 v1 l u0 u1 = Y3 x u0 u1 v0 v1 l := rfl
  have e0:(Y3 x u0 u1 v0 v1 l == 0) = (Y4 x u0 u1 v0 v1 l == 0) := Jrd (Jk _) L.sd
  unfold jA Wc
  rw [e1,e0]
  rw [show J8 (K3 x l u0) (Xx x l u1) (Xy x v0 l) (K2 x v1 l) = Yc x u0 u1 v0 v1 l from rfl,show J8 (K3 x l u0) (Xx x l u1) (K3 x l u0) (Xx x l u1) = ZQ x u0 u1 l from rfl,show J8 (Xy x v0 l) (K2 x v1 l) (Xy x v0 l) (K2 x v1 l) = ZQ x v0 v1 l from rfl]
  generalize (ou && (decide (Y3 x u0 u1 v0 v1 l > 0) || Y4 x u0 u1 v0 v1 l == 0 && decide (Yc x u0 u1 v0 v1 l < 0)) && decide (ZQ x u0 u1 l ≥ 64) && decide (ZQ x v0 v1 l ≥ 64)) = c
  cases c
  · simp only [cond_false]
    unfold Zs Yd
    rw [L.n,Bool.false_or]
    show (bif !(JQ (xi l 8) u0 u1 (J9 (xi l 8) (xi x 2) (xi x 3) (xi x 4)) == JQ (xi l 8) v0 v1 (J9 (xi l 8) (xi x 2) (xi x 3) (xi x 4)) && (JR (xi l 8) u0 u1 (J9 (xi l 8) (xi x 2) (xi x 3) (xi x 4)) == JR (xi l 8) v0 v1 (J9 (xi l 8) (xi x 2) (xi x 3) (xi x 4)) && JS (xi l 8) u0 u1 (J9 (xi l 8) (xi x 2) (xi x 3) (xi x 4)) == JS (xi l 8) v0 v1 (J9 (xi l 8) (xi x 2) (xi x 3) (xi x 4)))) then _ else _) = O ++ (bif true && (JQ (xi l 8) u0 u1 (J9 (xi l 8) (xi x 2) (xi x 3) (xi x 4)) == JQ (xi l 8) v0 v1 (J9 (xi l 8) (xi x 2) (xi x 3) (xi x 4)) && (JR (xi l 8) u0 u1 (J9 (xi l 8) (xi x 2) (xi x 3) (xi x 4)) == JR (xi l 8) v0 v1 (J9 (xi l 8) (xi x 2) (xi x 3) (xi x 4)) && JS (xi l 8) u0 u1 (J9 (xi l 8) (xi x 2) (xi x 3) (xi x 4)) == JS (xi l 8) v0 v1 (J9 (xi l 8) (xi x 2) (xi x 3) (xi x 4)))) then [] else _)
    rw [Bool.true_and]
    cases (JQ (xi l 8) u0 u1 (J9 (xi l 8) (xi x 2) (xi x 3) (xi x 4)) == JQ (xi l 8) v0 v1 (J9 (xi l 8) (xi x 2) (xi x 3) (xi x 4)) && (JR (xi l 8) u0 u1 (J9 (xi l 8) (xi x 2) (xi x 3) (xi x 4)) == JR (xi l 8) v0 v1 (J9 (xi l 8) (xi x 2) (xi x 3) (xi x 4)) && JS (xi l 8) u0 u1 (J9 (xi l 8) (xi x 2) (xi x 3) (xi x 4)) == JS (xi l 8) v0 v1 (J9 (xi l 8) (xi x 2) (xi x 3) (xi x 4))))
    · rfl
    · exact (List.append_nil _).symm
  · rfl
def CI (C:LL):Prop := ∀ r ∈ C,J3 (r.getD 0 0) = true → r.getD 0 0 = 2
theorem Jqs (l:List GC) (a0 a1:Int) (O:LL) (r:List Int) (hl:J2 l = l) (h:J3 (r.getD 0 0) = true → r.getD 0 0 = 2):JUj l a0 a1 O r = rfS l a0 a1 O r := by
  unfold JUj rfS
  cases hm:J3 (r.getD 0 0)
  · rfl
  · rw [cond_true,cond_true]
    have hk := h hm
    unfold Zs Yl
    rw [hl,Bool.false_or]
    have k2:(xi (Ju3 l (Q0 r) a0 a1 a0 a1) 0 == 2) = true := by show (r.getD 0 0 == 2) = true; rw [hk]; rfl
    rw [k2,Bool.true_and]
    have k3:(r.getD 0 0 != 3) = true := by rw [hk]; rfl
    have c9:XS (Q0 r) a0 a1 l = r.getD 9 0 := by unfold XS; show (bif r.getD 0 0 != 3 then _ else _) = _; rw [k3]; rfl
    have c10:XP (Q0 r) a0 a1 l = r.getD 10 0 := by unfold XP; show (bif r.getD 0 0 != 3 then _ else _) = _; rw [k3]; rfl
    have c11:XT (Q0 r) a0 a1 l = r.getD 11 0 := by unfold XT; show (bif r.getD 0 0 != 3 then _ else _) = _; rw [k3]; rfl
    unfold Ju3
    rw [hl,c9,c10,c11]
    show (bif !(JQ (xi l 8) a0 a1 (J9 (xi l 8) (r.getD 2 0) (r.getD 3 0) (r.getD 4 0)) == JQ (xi l 8) a0 a1 (J9 (xi l 8) (r.getD 5 0) (r.getD 6 0) (r.getD 7 0)) && (JR (xi l 8) a0 a1 (J9 (xi l 8) (r.getD 2 0) (r.getD 3 0) (r.getD 4 0)) == JR (xi l 8) a0 a1 (J9 (xi l 8) (r.getD 5 0) (r.getD 6 0) (r.getD 7 0)) && (JS (xi l 8) a0 a1 (J9 (xi l 8) (r.getD 2 0) (r.getD 3 0) (r.getD 4 0)) == JS (xi l 8) a0 a1 (J9 (xi l 8) (r.getD 5 0) (r.getD 6 0) (r.getD 7 0))))) then _ else _) = (bif (JQ (xi l 8) a0 a1 (J9 (xi l 8) (r.getD 2 0) (r.getD 3 0) (r.getD 4 0)) == JQ (xi l 8) a0 a1 (J9 (xi l 8) (r.getD 5 0) (r.getD 6 0) (r.getD 7 0)) && (JR (xi l 8) a0 a1 (J9 (xi l 8) (r.getD 2 0) (r.getD 3 0) (r.getD 4 0)) == JR (xi l 8) a0 a1 (J9 (xi l 8) (r.getD 5 0) (r.getD 6 0) (r.getD 7 0)) && (JS (xi l 8) a0 a1 (J9 (xi l 8) (r.getD 2 0) (r.getD 3 0) (r.getD 4 0)) == JS (xi l 8) a0 a1 (J9 (xi l 8) (r.getD 5 0) (r.getD 6 0) (r.getD 7 0))))) then _ else _)
    cases (JQ (xi l 8) a0 a1 (J9 (xi l 8) (r.getD 2 0) (r.getD 3 0) (r.getD 4 0)) == JQ (xi l 8) a0 a1 (J9 (xi l 8) (r.getD 5 0) (r.getD 6 0) (r.getD 7 0)) && (JR (xi l 8) a0 a1 (J9 (xi l 8) (r.getD 2 0) (r.getD 3 0) (r.getD 4 0)) == JR (xi l 8) a0 a1 (J9 (xi l 8) (r.getD 5 0) (r.getD 6 0) (r.getD 7 0)) && (JS (xi l 8) a0 a1 (J9 (xi l 8) (r.getD 2 0) (r.getD 3 0) (r.getD 4 0)) == JS (xi l 8) a0 a1 (J9 (xi l 8) (r.getD 5 0) (r.getD 6 0) (r.getD 7 0))))) <;> rfl
theorem JhI (x:List GC) (O:LL):Yl x O = O ++ Yl x [] := by
  unfold Yl
  cases (_:Bool) && _
  · rfl
  · exact (List.append_nil _).symm
theorem Jva (l:List GC) (a b:Int) (O:LL) (r:List Int):rfS l a b O r = O ++ rfS l a b [] r := by
  unfold rfS
  cases J3 (r.getD 0 0)
  · rfl
  · exact JhI ..
theorem JSJ (l:List GC) (a b:Int):∀ (C O:LL),C.foldl (rfS l a b) O = O ++ C.foldl (rfS l a b) []
  | [],O => (List.append_nil _).symm
  | r :: C,O => by
    rw [List.foldl_cons,List.foldl_cons,JSJ l a b C,JSJ l a b C (rfS l a b [] r),Jva l a b O,List.append_assoc]
theorem JcM (l:List GC) (a0 a1:Int) (hl:J2 l = l):∀ (C O:LL),CI C → JZS l a0 a1 O C = C.foldl (rfS l a0 a1) O
  | [],O,_ => rfl
  | r :: C,O,h => by
    show JZS l a0 a1 (JUj l a0 a1 O r) C = _
    rw [Jqs l a0 a1 O r hl (h r (List.mem_cons_self ..)),JcM l a0 a1 hl C _ fun q hq => h q (List.mem_cons_of_mem _ hq)]
    rfl
theorem JBH {l:List GC} (hl:J2 l = l) (a0 a1:Int) {C:LL} (O:LL) (h:CI C):Qb l a0 a1 C O = O ++ ZC l a0 a1 C := by
  unfold Qb ZC rfL
  rw [hl,JcM l a0 a1 hl C O h,JSJ]
theorem Jid {l:List GC} (L:LI l) (u w:Int):Zs l u w (J9 (xi l 8) (xi l 2) (xi l 3) (xi l 4)) (J9 (xi l 8) (xi l 2) (xi l 3) (xi l 4)) true l (J4 (xi l 8) (xi l 2) (xi l 3) (xi l 4)) (J5 (xi l 8) (xi l 2) (xi l 3) (xi l 4)) [] = [Jx1 l (J4 (xi l 8) (xi l 2) (xi l 3) (xi l 4)) (J5 (xi l 8) (xi l 2) (xi l 3) (xi l 4)) u w] := by
  have k3:(xi l 0 != 3) = true := by rw [L.k]; rfl
  have c9:XS l (J4 (xi l 8) (xi l 2) (xi l 3) (xi l 4)) (J5 (xi l 8) (xi l 2) (xi l 3) (xi l 4)) l = xi l 9 := by unfold XS; rw [k3]; rfl
  have c10:XP l (J4 (xi l 8) (xi l 2) (xi l 3) (xi l 4)) (J5 (xi l 8) (xi l 2) (xi l 3) (xi l 4)) l = xi l 10 := by unfold XP; rw [k3]; rfl
  have c11:XT l (J4 (xi l 8) (xi l 2) (xi l 3) (xi l 4)) (J5 (xi l 8) (xi l 2) (xi l 3) (xi l 4)) l = xi l 11 := by unfold XT; rw [k3]; rfl
  unfold Zs Jx1
  rw [c9,c10,c11,← L.hh]
  rfl
theorem JfS {l x:List GC} (L:LI l) (hv:Qf x = true) (hm:J3 (xi x 0) = true) (hs:(xi x 16 == 0) = true) (hd:Ja x (xi l 8) (xi l 17) = true) (u w:Int) (O:LL) :
    Zs x (J4 (xi l 8) (xi x 5) (xi x 6) (xi x 7)) (J5 (xi l 8) (xi x 5) (xi x 6) (xi x 7)) (J9 (xi l 8) (xi x 5) (xi x 6) (xi x 7)) (J9 (xi l 8) (xi x 5) (xi x 6) (xi x 7)) true l u w O = O ++ [JrL x l u w] := by
  obtain ⟨_,_,h3,_⟩ := JHZ hv hm
  obtain ⟨r0,p0⟩ := h3 hs
  unfold Ja at hd
  simp only [Bool.and_eq_true,beq_iff_eq] at hd
  obtain ⟨⟨⟨hk,hh⟩,_⟩,_⟩ := hd
  have s0:xi x 16 = 0 := by simpa using hs
  have p0:xi x 8 = 0 := by
    rcases p0 with h | h
    · exact h
    · rw [hk] at h; exact absurd h (by decide)
  obtain ⟨q0,q1,q2⟩ := JXp L.pl (xi x 5) (xi x 6) (xi x 7)
  unfold Zs JrL
  rw [q0,q1,q2,hh,s0,r0,p0,hk]
  rfl
theorem JHu (x:List GC) (p r:Int):Ja x p r = ZJ p r x := by
  unfold Ja ZJ
  rw [show J8 (JFa x p) (JEq x p) (JFa x p) (JEq x p) = JGd p x from rfl]
  cases xi x 0 == 2 <;> cases decide (JGd p x > 0) <;> cases decide (JGd p x ≥ IntKind.i64.wrap (r * r)) <;> cases (J9 p (xi x 2) (xi x 3) (xi x 4) == J9 p (xi x 5) (xi x 6) (xi x 7)) <;> rfl
structure Op (s:St) (t:Rt):Prop where
  l:s.l = t.l
  L:LI s.l
  C:s.C = t.C
  ci:CI s.C
  h:t.has = (xi s.y 0 != 0)
  z:t.has = false → s.tr = false
  e:t.has = true → s.y = t.y ∧ YI s.l s.y ∧ s.a0 = t.st0 ∧ s.a1 = t.st1 ∧ bd 4000000 s.a0 ∧ bd 4000000 s.a1 ∧ s.tr = t.tr
structure Rel (s:St) (t:Rt):Prop where
  cl:s.cl = t.cl
  er:s.er = t.er
  sl:J2 s.l = s.l
  sy:J2 s.y = s.y
  tl:J2 t.l = t.l
  ty:J2 t.y = t.y
  C8:s.C.length ≤ 8
  D8:t.C.length ≤ 8
  ok:s.er = 0 → s.op = t.op ∧ s.mo = t.mo ∧ s.en = t.en ∧ s.la0 = t.la0 ∧ s.la1 = t.la1 ∧ s.la2 = t.la2 ∧ (s.op = true → Op s t)
def Jw2 (x:List GC) (t:Rt):Int := QC x t.cl t.op t.mo t.en t.la0 t.la1 t.la2 t.l t.has t.y t.st0 t.st1 t.tr t.C
theorem Jnb (a:Int):(bif a != 0 then a else 0) = a := JCs a
theorem JvU {x:List GC} {t:Rt} (hx:J2 x = x) (he:t.er = 0) (hl:J2 t.l = t.l) (hy:J2 t.y = t.y):rE x t = Jw2 x t := by
  unfold rE ZT Z2 Jw2
  rw [he,bne_self_eq_false,cond_false,Jnb,hx,hl,hy,hl,hy]
theorem Jt5 {x:List GC} {t:Rt} (he:t.er ≠ 0):rE x t = t.er := by
  unfold rE ZT
  rw [show (t.er != 0) = true by simpa using he]; rfl
theorem Jy4 (x:List GC) (t:Rt):(rS x t).cl = t.cl := by
  unfold rS JBO
  simp only [Bool.cond_self]
theorem Jxv (x:List GC) (t:Rt):(rS x t).er = rE x t := by
  unfold rS rE JBE ZT
  show (bif t.er != 0 then t.er else bif (Z2 ..) != 0 then _ else t.er) = _
  cases h:(t.er != 0)
  · have:t.er = 0 := by simpa using h
    rw [this]
  · rfl
theorem Jsu {x:List GC} {t:Rt} (he:t.er ≠ 0):rO x t = [] := by
  unfold rO KQ
  rw [show (t.er != 0) = true by simpa using he]; rfl
theorem Jx3 {x:List GC} {t:Rt} (he:t.er = 0) (h:rE x t ≠ 0):rO x t = [] := by
  unfold rE ZT Z2 at h
  rw [he,bne_self_eq_false,cond_false,Jnb] at h
  unfold rO KQ
  rw [he,bne_self_eq_false,cond_false,bne_iff_ne.2 h]; rfl
theorem JyM (x:List GC) (t:Rt):J2 (rS x t).l = (rS x t).l := by kernel_rfl
theorem JyL (x:List GC) (t:Rt):J2 (rS x t).y = (rS x t).y := by kernel_rfl
theorem Jvt (x:List GC) (s:St):J2 (XW x s).l = (XW x s).l := by kernel_rfl
theorem Jv9 (x:List GC) (s:St):J2 (XW x s).y = (XW x s).y := by kernel_rfl
theorem Jxq (x:List GC) (t:Rt) (h:t.C.length ≤ 8):(rS x t).C.length ≤ 8 := by
  show (WH ..).length ≤ 8
  unfold WH
  exact WR h (WR h (JeC _ _ _ _ _ _ _ _ _ _ _ _ _ _ _ h))
theorem Jxd (a b:Int):(bif a != 0 then a else bif b != 0 then b else 0) = (bif a == 0 then (bif b != 0 then b else 0) else (bif a != 0 then a else 0)) := by
  cases h:(a == 0)
  · have:(a != 0) = true := by simpa using h
    rw [this]; rfl
  · have:(a != 0) = false := by simpa using h
    rw [this]; rfl
theorem JiF {x:List GC} {s:St} {t:Rt} (hx:J2 x = x) (hmo:s.mo = t.mo) (hen:s.en = t.en) (h0:s.la0 = t.la0) (h1:s.la1 = t.la1) (h2:s.la2 = t.la2):inv x s = JJY x t := by
  unfold inv JJY
  rw [JlE,hmo,hen,h0,h1,h2]
theorem JNy (x l:List GC):jO x l = (!J3 (xi x 0) || !ZL (xi l 8) x) := rfl
theorem Jta (x l:List GC):(xi x 0 == 1 || xi x 0 == 11 || xi x 0 == 14 || J3 (xi x 0) && (xi x 8 != xi l 8 || xi x 16 != xi l 16 || xi x 17 != xi l 17)) = (three x || odd x l) := rfl
theorem JdL {x:List GC} {s:St} (hx:J2 x = x) (hi:inv x s = false) (hm:(J3 (xi x 0) && xi x 16 == 0) = false) (h3:three x = false) (ho:odd x s.l = false) (hmo:J3 (xi x 0) = true) :
    Qf x = true ∧ (xi x 16 == 0) = false ∧ xi x 0 ≠ 1 ∧ xi x 8 = xi s.l 8 := by
  unfold inv at hi
  unfold three at h3
  unfold odd at ho
  rw [hx] at hi
  rw [hmo] at hm ho
  simp only [Bool.or_eq_false_iff,Bool.not_eq_false',Bool.true_and,beq_eq_false_iff_ne,ne_eq,bne_eq_false_iff_eq] at hi hm h3 ho
  exact ⟨hi.1.1,by simpa using hm,h3.1.1,ho.1.1⟩
theorem Jrz {x:List GC} {s:St} {t:Rt} (hx:J2 x = x) (R:Rel s t) (he:s.er = 0):JvG x s = Jw2 x t := by
  obtain ⟨hop,hmo,hen,h0,h1,h2,hO⟩ := R.ok he
  have hI := JiF hx hmo hen h0 h1 h2
  unfold JvG Jw2 QC
  rw [← R.cl,← hop,hx]
  have hI2:(!Qm x || t.en || J3 (xi x 0) && t.mo && !(xi x 2 == t.la0 && (xi x 3 == t.la1 && xi x 4 == t.la2))) = JJY x t := by unfold JJY; rw [hx]
  rw [hI2,← hI]
  cases hcl:s.cl
  case true => rfl
  cases hi:inv x s
  case true => rfl
  simp only [cond_false]
  cases ho:s.op
  · simp only [Bool.not_false,Bool.true_and,cond_true]
    rw [JHu]
    have hne:(xi x 16 != 0) = !(xi x 16 == 0) := rfl
    rw [hne]
    cases J3 (xi x 0) <;> cases (xi x 16 == 0) <;> rfl
  · have O := hO ho
    simp only [Bool.not_true,Bool.false_and,cond_false]
    rw [← O.l]
    cases hm:(J3 (xi x 0) && xi x 16 == 0)
    · simp only [cond_false]
      rw [Jta,← JNy]
      cases h3:three x
      case true => rfl
      cases hd:odd x s.l
      case true => rfl
      simp only [Bool.or_self,cond_false]
      rw [← O.C]
      cases hs:jO x s.l
      case true => rfl
      simp only [cond_false]
      have hmot:J3 (xi x 0) = true := by
        unfold jO at hs
        simp only [Bool.or_eq_false_iff,Bool.not_eq_false'] at hs
        exact hs.1
      obtain ⟨v1,v2,v3,v4⟩ := JdL hx hi hm h3 hd hmot
      have X:YI s.l x := Jnr hx v1 hmot v2 v3 v4
      obtain ⟨x0,_⟩ := JC8 X
      have hh:(xi s.y 0 == 0) = !t.has := by rw [O.h]; cases hq:(xi s.y 0 == 0) <;> simp_all
      rw [hh]
      cases hha:t.has
      · simp only [Bool.not_false,cond_true]
        unfold JDE
        rw [O.L.n,x0]
      · simp only [Bool.not_true,cond_false]
        obtain ⟨ey,Y,ea,eb,ba,bb,et⟩ := O.e hha
        obtain ⟨b0,s5,s6,_,_⟩ := JX3 O.L Y X
        rw [O.L.n,← ey,R.sy]
        unfold JHP
        rw [Jfn,JeB,O.L.n,R.sy,← ea,← eb,← et,jt Y X,b0,s5,s6]
        cases hk:(kd s.l s.y x == 2)
        · simp only [cond_false]
          obtain ⟨_,_,f1,f2⟩ := Jhs s.l s.y
          rw [(Yp O.L Y f1 f2 ba bb false s.tr).1]
          have hS:QB (f0 s.l s.y) (Go.Proofs.YtmbfbhimdkjkoaaGreat.f1 s.l s.y) false s.l s.y s.a0 s.a1 s.tr = shE (f0 s.l s.y) (Go.Proofs.YtmbfbhimdkjkoaaGreat.f1 s.l s.y) false s := by unfold shE; rw [R.sl,R.sy]
          rw [hS]
          cases hn:(nE s.l s.y == 0)
          · have:(nE s.l s.y != 0) = true := by simpa using hn
            rw [this]; simp only [cond_true,cond_false,this]
          · have:(nE s.l s.y != 0) = false := by simpa using hn
            rw [this]
            simp only [cond_true,cond_false]
            exact (Jxd _ _).symm
        · simp only [cond_true]
          obtain ⟨f1,f2⟩ := Jw5 O.L Y X
          rw [(Yp O.L Y f1 f2 ba bb true s.tr).1]
          have hS:QB (tr0 s.l s.y x) (tr1 s.l s.y x) true s.l s.y s.a0 s.a1 s.tr = shE (tr0 s.l s.y x) (tr1 s.l s.y x) true s := by unfold shE; rw [R.sl,R.sy]
          rw [hS]
          exact (Jxd _ _).symm
    · simp only [cond_true]
      have hh:(xi s.y 0 == 0) = !t.has := by rw [O.h]; cases hq:(xi s.y 0 == 0) <;> simp_all
      rw [hh,JHu]
      cases hld:(!ZJ (xi s.l 8) (xi s.l 17) x || !t.has)
      case true => rfl
      simp only [cond_false]
      have hha:t.has = true := by
        simp only [Bool.or_eq_false_iff,Bool.not_eq_false'] at hld
        exact hld.2
      obtain ⟨ey,Y,ea,eb,ba,bb,et⟩ := O.e hha
      obtain ⟨_,_,_,y3,y4,y5,_⟩ := JC8 Y
      rw [O.L.n,← ey,R.sy]
      unfold JCu
      have hs1:JCB s.l s.y s.a0 s.a1 s.tr = Q8 (QZ s.l s.y) (Qa s.l s.y) false (J2 s.l) (J2 s.y) s.a0 s.a1 s.tr := by kernel_rfl
      rw [← ea,← eb,← et,y3,hs1,y4,y5,O.L.n,R.sy]
      obtain ⟨_,_,f1,f2⟩ := Jhs s.l s.y
      rw [(Yp O.L Y f1 f2 ba bb false s.tr).1]
      have hS:QB (f0 s.l s.y) (Go.Proofs.YtmbfbhimdkjkoaaGreat.f1 s.l s.y) false s.l s.y s.a0 s.a1 s.tr = shE (f0 s.l s.y) (Go.Proofs.YtmbfbhimdkjkoaaGreat.f1 s.l s.y) false s := by unfold shE; rw [R.sl,R.sy]
      rw [hS]
      exact (Jxd _ _).symm
def Rok (s:St) (t:Rt):Prop := s.op = t.op ∧ s.mo = t.mo ∧ s.en = t.en ∧ s.la0 = t.la0 ∧ s.la1 = t.la1 ∧ s.la2 = t.la2 ∧ (s.op = true → Op s t)
theorem JHB {x:List GC} {s:St} {t:Rt} (R:Rel s t) (hE:WF x s = rE x t) (h:(XW x s).er = 0 → Rok (XW x s) (rS x t)):Rel (XW x s) (rS x t) :=
  ⟨by rw [Jy4]; exact (show s.cl = t.cl from R.cl),by rw [← Jaa,Jxv,hE],Jvt x s,Jv9 x s,JyM x t,JyL x t,Jec x s R.C8,Jxq x t R.D8,h⟩
theorem JxQ {s:St} {t:Rt} (x:List GC) (hmo:s.mo = t.mo) (h0:s.la0 = t.la0) (h1:s.la1 = t.la1) (h2:s.la2 = t.la2):(mvd x s).mo = (JJc x t).mo ∧ (mvd x s).en = (JJc x t).en ∧ (mvd x s).la0 = (JJc x t).la0 ∧ (mvd x s).la1 = (JJc x t).la1 ∧ (mvd x s).la2 = (JJc x t).la2 := by
  refine ⟨?_,rfl,?_,?_,?_⟩
  · show (_ || _) = (_ || _); rw [hmo]
  · show (bif _ then _ else _) = (bif _ then _ else _); rw [h0]
  · show (bif _ then _ else _) = (bif _ then _ else _); rw [h1]
  · show (bif _ then _ else _) = (bif _ then _ else _); rw [h2]
theorem Jvl {c:Bool} {n:Int} (h:(c && n != 0) = false):(!c || n == 0) = true := by
  have:(n != 0) = !(n == 0) := rfl
  rw [this] at h
  clear this
  generalize (n == 0) = b at *
  cases c <;> cases b <;> simp_all
theorem Jvo {c:Bool} {n:Int} (h:(c && n != 0) = true):(!c || n == 0) = false ∧ c = true ∧ (n == 0) = false := by
  have:(n != 0) = !(n == 0) := rfl
  rw [this] at h
  clear this
  generalize (n == 0) = b at *
  cases c <;> cases b <;> simp_all
theorem Jg8 {l x:List GC} (X:YI l x):true = (xi x 0 != 0) := by
  rcases X.k with h | h <;> rw [h] <;> rfl
theorem JQO {x:List GC} {s:St} {t:Rt} (hx:J2 x = x) (R:Rel s t):WF x s = rE x t ∧ Ks x s = rO x t ∧ Rel (XW x s) (rS x t) := by
  by_cases he:s.er = 0
  case neg =>
    have he':t.er ≠ 0 := by rw [← R.er]; exact he
    have hE:WF x s = rE x t := by rw [JU3 x s he,Jt5 he',R.er]
    refine ⟨hE,by rw [Jgp x s he,Jsu he'],JHB R hE fun h => ?_⟩
    rw [← Jaa,JU3 x s he] at h
    exact absurd h he
  have he':t.er = 0 := by rw [← R.er]; exact he
  have hE:WF x s = rE x t := by rw [JYg x s he,JvU hx he' R.tl R.ty,Jrz hx R he]
  refine ⟨hE,?_⟩
  by_cases h:WF x s = 0
  case neg =>
    have h':rE x t ≠ 0 := by rw [← hE]; exact h
    refine ⟨by rw [Jqg x s h,Jx3 he' h'],JHB R hE fun q => ?_⟩
    rw [← Jaa] at q
    exact absurd q h
  obtain ⟨hop,hmo,hen,l0,l1,l2,hO⟩ := R.ok he
  obtain ⟨hc,hi,hcase⟩ := JjZ x s he h
  have hc':t.cl = false := by rw [← R.cl]; exact hc
  have hi':JJY x t = false := by rw [← JiF hx hmo hen l0 l1 l2]; exact hi
  obtain ⟨m1,m2,m3,m4,m5⟩ := JxQ x hmo l0 l1 l2
  rcases hcase with ⟨ho,hm⟩ | ⟨ho,hm,hd⟩ | ⟨ho,hm,hd,hn,hS⟩ | ⟨ho,hm,h3,hod,hcase⟩
  · obtain ⟨S1,O1⟩ := JjM x s he R.sl R.sy hc hi ho hm
    obtain ⟨_,S2,O2⟩ := JhE x t hx he' R.tl R.ty hc' hi' (by rw [← hop]; exact ho) (Jvl hm)
    refine ⟨by rw [O1,O2],JHB R hE fun _ => ?_⟩
    rw [S1,S2]
    exact ⟨hop,m1,m2,m3,m4,m5,fun q => by rw [show s.op = true from q] at ho; cases ho⟩
  · obtain ⟨hm',hmot,hs0⟩ := Jvo hm
    obtain ⟨S1,O1⟩ := JlZ x s he R.sl R.sy hc hi ho hm hd
    rw [hx] at hd
    obtain ⟨_,S2,O2⟩ := Jir x t hx he' R.tl R.ty hc' hi' (by rw [← hop]; exact ho) hm' (by rw [← JHu]; exact hd)
    refine ⟨by rw [O1,O2],JHB R hE fun _ => ?_⟩
    rw [S1,S2]
    have hv:Qf x = true := by
      unfold inv at hi
      rw [hx] at hi
      simp only [Bool.or_eq_false_iff,Bool.not_eq_false'] at hi
      exact hi.1.1
    exact ⟨rfl,m1,m2,m3,m4,m5,fun _ => ⟨hx,by rw [hx]; exact Jvx hx hv hmot hs0 hd,rfl,(fun r hr => by cases hr),rfl,fun _ => rfl,fun q => by cases q⟩⟩
  · have O := hO ho
    obtain ⟨S1,O1⟩ := Jho x s he R.sl R.sy hc hi ho hm hd hn hS
    simp only [Bool.or_eq_false_iff,Bool.not_eq_false',hx] at hd
    have hha:t.has = true := by rw [O.h]; show (!(xi s.y 0 == 0)) = true; rw [hd.2]; rfl
    obtain ⟨ey,Y,ea,eb,ba,bb,et⟩ := O.e hha
    obtain ⟨_,_,_,y3,y4,y5,_⟩ := JC8 Y
    obtain ⟨_,_,b2,b3⟩ := Jhs s.l s.y
    have st := Yp O.L Y b2 b3 ba bb false s.tr
    have hS':QB (f0 s.l s.y) (f1 s.l s.y) false s.l s.y s.a0 s.a1 s.tr = 0 := by rw [← hS]; unfold shE; rw [R.sl,R.sy]
    have hrl:ZJ (xi s.l 8) (xi s.l 17) x = true := by rw [← JHu]; exact hd.1
    obtain ⟨_,S2,O2⟩ := JhD x t hx he' R.tl R.ty hc' hi' (by rw [← hop]; exact ho) hm (by rw [← O.l,hrl,hha]; rfl) (by rw [← O.l,← ey,y3]; exact hn) (by rw [← O.l,← ey,← ea,← eb,← et,y4,y5,st.1]; exact hS')
    simp only [Bool.and_eq_true] at hm
    have hv:Qf x = true := by
      unfold inv at hi
      rw [hx] at hi
      simp only [Bool.or_eq_false_iff,Bool.not_eq_false'] at hi
      exact hi.1.1
    refine ⟨?_,JHB R hE fun _ => ?_⟩
    · rw [O1,O2,← O.l,← ey,← ea,← eb,← et,← O.C,y4,y5,st.2,hx,O.L.n]
      rw [JfS O.L hv hm.1 hm.2 hd.1,JBH O.L.n _ _ _ O.ci]
      unfold shO
      rw [R.sl,R.sy]
    · rw [S1,S2]
      exact ⟨rfl,m1,m2,m3,m4,m5,fun q => by cases q⟩
  · have O := hO ho
    have ho':t.op = true := by rw [← hop]; exact ho
    have h3':(xi x 0 == 1 || xi x 0 == 11 || xi x 0 == 14 || J3 (xi x 0) && (xi x 8 != xi t.l 8 || xi x 16 != xi t.l 16 || xi x 17 != xi t.l 17)) = false := by rw [Jta,← O.l,h3,hod]; rfl
    rcases hcase with ⟨hs,h8⟩ | ⟨hs,h0,hn⟩ | ⟨hs,h0,hk,hn,hS⟩ | ⟨hs,h0,hk,hn,hn',hS⟩
    · obtain ⟨S1,O1⟩ := Jmn x s he R.sl R.sy hc hi ho hm h3 hod hs h8
      obtain ⟨_,S2,O2⟩ := JiZ x t hx he' R.tl R.ty hc' hi' ho' hm h3' (by rw [← JNy,← O.l]; exact hs) (by rw [← O.C]; exact h8)
      refine ⟨by rw [O1,O2],JHB R hE fun _ => ?_⟩
      rw [S1,S2]
      refine ⟨hop,m1,m2,m3,m4,m5,fun _ => ⟨O.l,O.L,congrArg (· ++ [JFw x]) O.C,?_,O.h,O.z,O.e⟩⟩
      intro r hr hq
      rcases List.mem_append.1 hr with hr | hr
      · exact O.ci r hr hq
      · have hr':r = JFw x := by simpa using hr
        subst hr'
        have hmot:J3 (xi x 0) = true := hq
        obtain ⟨v1,v2,v3,v4⟩ := JdL hx hi hm h3 hod hmot
        rw [JNy,hmot] at hs
        exact JjY v1 hmot v2 v3 v4 (by simpa using hs)
    all_goals
      have hmot:J3 (xi x 0) = true := by
        unfold jO at hs
        simp only [Bool.or_eq_false_iff,Bool.not_eq_false'] at hs
        exact hs.1
      obtain ⟨v1,v2,v3,v4⟩ := JdL hx hi hm h3 hod hmot
      have X:YI s.l x := Jnr hx v1 hmot v2 v3 v4
      obtain ⟨x0,x1,x2,_⟩ := JC8 X
      obtain ⟨p0,p1,_,_⟩ := Jhs s.l x
      have hs':(!J3 (xi x 0) || !ZL (xi t.l 8) x) = false := by rw [← JNy,← O.l]; exact hs
    · have hha:t.has = false := by rw [O.h]; show (!(xi s.y 0 == 0)) = false; rw [h0]; rfl
      obtain ⟨S1,O1⟩ := JlG x s he R.sl R.sy hc hi ho hm h3 hod hs h0 hn
      obtain ⟨_,S2,O2⟩ := Ji5 x t hx he' R.tl R.ty hc' hi' ho' hm h3' hs' hha (by rw [← O.l,x0]; exact hn)
      refine ⟨?_,JHB R hE fun _ => ?_⟩
      · rw [O1,O2,← O.l,← O.C,O.L.n,x1,x2,Jid O.L,JBH O.L.n _ _ _ O.ci]
        rfl
      · rw [S1,S2]
        exact ⟨hop,m1,m2,m3,m4,m5,fun _ => ⟨O.l,O.L,rfl,(fun r hr => by cases hr),by rw [hx]; exact Jg8 X,(fun q => by cases q),fun _ => ⟨hx,by rw [hx]; exact X,by rw [← O.l]; exact x1.symm,by rw [← O.l]; exact x2.symm,p0,p1,O.z hha⟩⟩⟩
    · have hha:t.has = true := by rw [O.h]; show (!(xi s.y 0 == 0)) = true; rw [h0]; rfl
      obtain ⟨ey,Y,ea,eb,ba,bb,et⟩ := O.e hha
      obtain ⟨b0,s5,s6,s8,s9⟩ := JX3 O.L Y X
      obtain ⟨t0,t1⟩ := Jw5 O.L Y X
      rw [hk,cond_true] at b0 s5 s6 s8 s9
      have st := Yp O.L Y t0 t1 ba bb true s.tr
      have hS':QB (tr0 s.l s.y x) (tr1 s.l s.y x) true s.l s.y s.a0 s.a1 s.tr = 0 := by rw [← hS]; unfold shE; rw [R.sl,R.sy]
      obtain ⟨S1,O1⟩ := JgU x s he R.sl R.sy hc hi ho hm h3 hod hs h0 hk hn hS
      obtain ⟨_,S2,O2⟩ := JXm x t hx he' R.tl R.ty hc' hi' ho' hm h3' hs' hha (by rw [← O.l,← ey,b0]; exact hn) (by rw [← O.l,← ey,← ea,← eb,← et,s5,s6,jt Y X,hk,st.1]; exact hS')
      refine ⟨?_,JHB R hE fun _ => ?_⟩
      · rw [O1,O2,← O.l,← ey,← ea,← eb,← et,← O.C,jt Y X,show (kd s.l s.y x != 2) = false by simpa using hk,cond_false]
        unfold JGM
        rw [s5,s6,jt Y X,hk,O.L.n,R.sy,st.2,JBH O.L.n _ _ _ O.ci]
        unfold shO
        rw [R.sl,R.sy]
      · rw [S1,S2]
        exact ⟨hop,m1,m2,m3,m4,m5,fun _ => ⟨O.l,O.L,rfl,(fun r hr => by cases hr),by rw [hx]; show t.has = _; rw [hha]; exact Jg8 X,fun q => absurd (show t.has = false from q) (by rw [hha]; decide),fun _ => ⟨hx,by rw [hx]; exact X,by rw [← O.l,← ey]; exact s8.symm,by rw [← O.l,← ey]; exact s9.symm,t0,t1,by rw [← O.l,← ey,jt Y X]; exact hk.symm⟩⟩⟩
    · have hha:t.has = true := by rw [O.h]; show (!(xi s.y 0 == 0)) = true; rw [h0]; rfl
      obtain ⟨ey,Y,ea,eb,ba,bb,et⟩ := O.e hha
      obtain ⟨b0,s5,s6,s8,s9⟩ := JX3 O.L Y X
      obtain ⟨_,_,q2,q3⟩ := Jhs s.l s.y
      rw [hk,cond_false] at b0 s5 s6 s8 s9
      rw [hn,beq_self_eq_true,cond_true] at b0 s8 s9
      have st := Yp O.L Y q2 q3 ba bb false s.tr
      have hS':QB (f0 s.l s.y) (f1 s.l s.y) false s.l s.y s.a0 s.a1 s.tr = 0 := by rw [← hS]; unfold shE; rw [R.sl,R.sy]
      obtain ⟨S1,O1⟩ := Jex x s he R.sl R.sy hc hi ho hm h3 hod hs h0 hk hn hn' hS
      obtain ⟨_,S2,O2⟩ := JXm x t hx he' R.tl R.ty hc' hi' ho' hm h3' hs' hha (by rw [← O.l,← ey,b0]; exact hn') (by rw [← O.l,← ey,← ea,← eb,← et,s5,s6,jt Y X,hk,st.1]; exact hS')
      refine ⟨?_,JHB R hE fun _ => ?_⟩
      · rw [O1,O2,← O.l,← ey,← ea,← eb,← et,← O.C,jt Y X,show (kd s.l s.y x != 2) = true by simpa using hk,cond_true]
        unfold JGM
        rw [s5,s6,s8,s9,jt Y X,hk,O.L.n,R.sy,hx,st.2,JhP O.L,JBH O.L.n _ _ _ O.ci]
        unfold shO
        rw [R.sl,R.sy]
      · rw [S1,S2]
        exact ⟨hop,m1,m2,m3,m4,m5,fun _ => ⟨O.l,O.L,rfl,(fun r hr => by cases hr),by rw [hx]; show t.has = _; rw [hha]; exact Jg8 X,fun q => absurd (show t.has = false from q) (by rw [hha]; decide),fun _ => ⟨hx,by rw [hx]; exact X,by rw [← O.l,← ey]; exact s8.symm,by rw [← O.l,← ey]; exact s9.symm,p0,p1,by rw [← O.l,← ey,jt Y X]; exact hk.symm⟩⟩⟩
def JoM (g:Nat → Nat) (t:Rt) (c:Nat):List (Nat × SC) := JkT g t.cl t.op t.er t.mo t.en t.la0 t.la1 t.la2 t.l c t.has t.y t.st0 t.st1 t.tr t.pn0 t.pn1
def Rt0:Rt := ⟨false,false,0,false,false,0,0,0,JXi,false,JXi,0,0,false,0,0,[]⟩
theorem JSk (r:List Int):J2 (Q0 r) = Q0 r := by kernel_rfl
theorem Jwr:Rel YQ Rt0 := ⟨rfl,rfl,rfl,rfl,rfl,rfl,Nat.zero_le _,Nat.zero_le _,fun _ => ⟨rfl,rfl,rfl,rfl,rfl,rfl,fun h => by cases h⟩⟩
structure RaS where
  i:Nat
  s:St
  t:Rt
  R:LL
structure RaT where
  bad:Bool
  i:Nat
  e:Int
  t:Rt
  R:LL
def raN (L:LL):Nat → RaS → RaT
  | 0,a => ⟨false,a.i,0,a.t,a.R⟩
  | k + 1,a => bif rE (Q0 (L.getD a.i [])) a.t != 0 then ⟨true,a.i,rE (Q0 (L.getD a.i [])) a.t,rS (Q0 (L.getD a.i [])) a.t,a.R⟩
    else raN L k ⟨a.i + 1,XW (Q0 (L.getD a.i [])) a.s,rS (Q0 (L.getD a.i [])) a.t,a.R ++ rO (Q0 (L.getD a.i [])) a.t⟩
def raG (k:Nat):Nat := 1000000100 + k
def raH (k:Nat):Nat := 180 + k
def raF (L:LL):Fam RaS RaT where
  k := 200
  E a := [(7,ent 1000000000 (.one (I (Int.ofNat a.i)))),(6,ent 1000000001 (.one (.wh 160))),(5,ent 73 (.one (.ptr 7 0))),(0,ent 0 (.one (.wh 0)))]
  M a := [(7,.blk 74 (JoM raG a.t 170)),Jvm 170 1000000200 a.t.C,Kw 0 1 L,Kw 160 1000000202 a.R]
  out t := .ite t.bad (.leaf .ret [(2,ent 80 (.one .nilsl)),(3,ent 81 (.one (I (Int.ofNat t.i)))),(4,ent 82 (.one (I t.e)))] [Kw 0 1 L])
    (.leaf (.exit 0) [(6,ent 83 (.one (.wh 160))),(5,ent 73 (.one (.ptr 7 0))),(0,ent 0 (.one (.wh 0)))] [(7,.blk 74 (JoM raH t.t 170)),Jvm 170 240 t.t.C,Kw 0 1 L,Kw 160 242 t.R])
  fin a := raN L (L.length - a.i) a
  next a _ := ⟨a.i + 1,XW (Q0 (L.getD a.i [])) a.s,rS (Q0 (L.getD a.i [])) a.t,a.R ++ rO (Q0 (L.getD a.i [])) a.t⟩
  J a := a.i ≤ L.length ∧ L.length ≤ 1000 ∧ Rel a.s a.t ∧ a.R.length ≤ 11 * a.i
  μ a := L.length - a.i
section
variable (L:LL) (a:RaS)
def JnC:Prop:= decide (Int.ofNat a.i < Int.ofNat L.length) = true
def Jno:Int:= ZT (Q0 (L.getD (Int.ofNat a.i).toNat [])) a.t.cl a.t.op a.t.er a.t.mo a.t.en a.t.la0 a.t.la1 a.t.la2 (J2 a.t.l) a.t.has (J2 a.t.y) a.t.st0 a.t.st1 a.t.tr a.t.C
def Jne:LL:= KQ (Q0 (L.getD (Int.ofNat a.i).toNat [])) a.t.cl a.t.op a.t.er a.t.mo a.t.en a.t.la0 a.t.la1 a.t.la2 (J2 a.t.l) a.t.has (J2 a.t.y) a.t.st0 a.t.st1 a.t.tr a.t.C
end
abbrev eqT (t t':Rt) (r:Prop):Prop := t.cl = t'.cl ∧ t.op = t'.op ∧ t.er = t'.er ∧ t.mo = t'.mo ∧ t.en = t'.en ∧ t.la0 = t'.la0 ∧ t.la1 = t'.la1 ∧ t.la2 = t'.la2 ∧ xi t.l 0 = xi t'.l 0 ∧ xi t.l 1 = xi t'.l 1 ∧ xi t.l 2 = xi t'.l 2 ∧ xi t.l 3 = xi t'.l 3 ∧ xi t.l 4 = xi t'.l 4 ∧ xi t.l 5 = xi t'.l 5 ∧ xi t.l 6 = xi t'.l 6 ∧ xi t.l 7 = xi t'.l 7 ∧ xi t.l 8 = xi t'.l 8 ∧ xi t.l 9 = xi t'.l 9 ∧ xi t.l 10 = xi t'.l 10 ∧ xi t.l 11 = xi t'.l 11 ∧ xi t.l 12 = xi t'.l 12 ∧ xb t.l 13 = xb t'.l 13 ∧ xi t.l 14 = xi t'.l 14 ∧ xb t.l 15 = xb t'.l 15 ∧ xi t.l 16 = xi t'.l 16 ∧ xi t.l 17 = xi t'.l 17 ∧ xi t.l 18 = xi t'.l 18 ∧ xi t.l 19 = xi t'.l 19 ∧ xi t.l 20 = xi t'.l 20 ∧ xb t.l 21 = xb t'.l 21 ∧ t.has = t'.has ∧ xi t.y 0 = xi t'.y 0 ∧ xi t.y 1 = xi t'.y 1 ∧ xi t.y 2 = xi t'.y 2 ∧ xi t.y 3 = xi t'.y 3 ∧ xi t.y 4 = xi t'.y 4 ∧ xi t.y 5 = xi t'.y 5 ∧ xi t.y 6 = xi t'.y 6 ∧ xi t.y 7 = xi t'.y 7 ∧ xi t.y 8 = xi t'.y 8 ∧ xi t.y 9 = xi t'.y 9 ∧ xi t.y 10 = xi t'.y 10 ∧ xi t.y 11 = xi t'.y 11 ∧ xi t.y 12 = xi t'.y 12 ∧ xb t.y 13 = xb t'.y 13 ∧ xi t.y 14 = xi t'.y 14 ∧ xb t.y 15 = xb t'.y 15 ∧ xi t.y 16 = xi t'.y 16 ∧ xi t.y 17 = xi t'.y 17 ∧ xi t.y 18 = xi t'.y 18 ∧ xi t.y 19 = xi t'.y 19 ∧ xi t.y 20 = xi t'.y 20 ∧ xb t.y 21 = xb t'.y 21 ∧ t.st0 = t'.st0 ∧ t.st1 = t'.st1 ∧ t.tr = t'.tr ∧ t.pn0 = t'.pn0 ∧ t.pn1 = t'.pn1 ∧ t.C = t'.C ∧ r
def JWu (L:LL) (a:RaS):List Prop := [JnC L a → 0 ≤ Int.ofNat a.i ∧ (Int.ofNat a.i).toNat < L.length ∧ (Int.ofNat a.i).toNat < L.length ∧ ((a.t.er != 0) = false → a.t.C.length ≤ 8) ∧ ((Jno L a != 0) = false → (a.R.length + (Jne L a).length) * 176 ≤ 140737488355328 ∧ a.R.length + (Jne L a).length ≤ 9223372036854775807),JnC L a → ((Jno L a != 0) = true → (((raF L).fin a).bad = true → Int.ofNat ((raF L).fin a).i = Int.ofNat a.i ∧ ((raF L).fin a).e = Jno L a) ∧ (((raF L).fin a).bad = false → False)) ∧ ((Jno L a != 0) = false → (((raF L).next a 1).i ≤ L.length ∧ L.length ≤ 1000 ∧ YtmbfbhimdkjkoaaGreat.Rel ((raF L).next a 1).s ((raF L).next a 1).t ∧ ((raF L).next a 1).R.length ≤ 11 * ((raF L).next a 1).i) ∧ (raF L).μ ((raF L).next a 1) < (raF L).μ a ∧ (raF L).fin ((raF L).next a 1) = (raF L).fin a ∧ Int.ofNat ((raF L).next a 1).i = IntKind.i64.wrap (Int.ofNat a.i + 1) ∧ eqT ((raF L).next a 1).t ((raF L).next a 1).t (((raF L).next a 1).R = a.R ++ Jne L a)),decide (Int.ofNat a.i < Int.ofNat L.length) = false → (((raF L).fin a).bad = true → False) ∧ (((raF L).fin a).bad = false → eqT ((raF L).fin a).t a.t (((raF L).fin a).R = a.R))]
theorem Jrl (L:LL) (a:RaS) (hNeeds:∀ pN ∈ (JWu L a),pN):Q4 (Xd (raF L) (QX Tryz.prog (JC JHp) jQ 13 0) 76 a) :=
  Q4.of (ps := (JWu L a)) (by kernel_rfl) (by kernel_rfl) hNeeds
theorem JiX {L:LL} {a:RaS} (h:a.i < L.length):raN L (L.length - a.i) a = bif rE (Q0 (L.getD a.i [])) a.t != 0 then ⟨true,a.i,rE (Q0 (L.getD a.i [])) a.t,rS (Q0 (L.getD a.i [])) a.t,a.R⟩
    else raN L (L.length - (a.i + 1)) ⟨a.i + 1,XW (Q0 (L.getD a.i [])) a.s,rS (Q0 (L.getD a.i [])) a.t,a.R ++ rO (Q0 (L.getD a.i [])) a.t⟩ := by
  have e:L.length - a.i = (L.length - (a.i + 1)) + 1 := by omega
  rw [e]; rfl
theorem Jqd (L:LL):Qw (raF L) (QX Tryz.prog (JC JHp) jQ 13 0) 76 := by
  intro a hJ
  obtain ⟨h1,h2,h3,h4⟩:a.i ≤ L.length ∧ L.length ≤ 1000 ∧ Rel a.s a.t ∧ a.R.length ≤ 11 * a.i := hJ
  obtain ⟨p1,p2,p3⟩ := JQO (JSk (L.getD a.i [])) h3
  have lt:JnC L a → a.i < L.length := by unfold JnC; simp
  have ho := JKl (Q0 (L.getD a.i [])) a.s h3.C8
  rw [p2] at ho
  have e6:IntKind.i64.wrap (Int.ofNat a.i + 1) = Int.ofNat (a.i + 1) := X6 (by simp; omega) (by simp; omega)
  refine Jrl L a ?_
  unfold JWu
  simp only [awc,awn,and_true]
  have e0 (h:a.i < L.length) (hb:(rE (Q0 (L.getD a.i [])) a.t != 0) = true):(raF L).fin a = ⟨true,a.i,rE (Q0 (L.getD a.i [])) a.t,rS (Q0 (L.getD a.i [])) a.t,a.R⟩ := by
    show raN L (L.length - a.i) a = _
    rw [JiX h,hb]; rfl
  refine ⟨fun h => ⟨by simp,lt h,lt h,fun _ => h3.D8,fun _ => ?_⟩,fun h => ⟨fun hb => ⟨fun _ => ?_,fun hf => ?_⟩,fun hb => ⟨⟨?_,h2,p3,?_⟩,?_,?_,e6.symm,?_⟩⟩,fun h => ?_⟩
  · have ho':(Jne L a).length ≤ 11 := ho
    omega
  · rw [e0 (lt h) hb]; exact ⟨rfl,rfl⟩
  · rw [e0 (lt h) hb] at hf; cases hf
  · have := lt h
    show a.i + 1 ≤ _; omega
  · show (a.R ++ rO (Q0 (L.getD a.i [])) a.t).length ≤ 11 * (a.i + 1)
    rw [List.length_append]; omega
  · have := lt h
    show L.length - (a.i + 1) < L.length - a.i; omega
  · show raN L (L.length - (a.i + 1)) _ = raN L (L.length - a.i) a
    have hb':(rE (Q0 (L.getD a.i [])) a.t != 0) = false := hb
    rw [JiX (lt h),hb']; rfl
  · repeat' first | refine ⟨by kernel_rfl,?_⟩ | kernel_rfl | exact trivial | refine ⟨trivial,?_⟩
  · have hi:a.i = L.length := by simp at h; omega
    have e:(raF L).fin a = ⟨false,a.i,0,a.t,a.R⟩ := by
      show raN L (L.length - a.i) a = _
      rw [hi,Nat.sub_self]; unfold raN; rw [hi]
    rw [e]
    refine ⟨fun h => (by cases h),fun _ => ?_⟩
    repeat' first | refine ⟨by kernel_rfl,?_⟩ | kernel_rfl | exact trivial | refine ⟨trivial,?_⟩
def Jy2:QE := fun env mem m => match SX.JD mem 0 with
  | some (.row _ _ _ (.lst _ _ L)) => jk (raF L) 76 (fun _ _ => some ⟨0,YQ,Rt0,[]⟩) env mem m
  | _ => none
def JMO:FuncId → Nat → Option QE := JA9 jQ 13 4 Jy2
theorem Jco:Known Tryz.prog (JC JHp) JMO := by
  refine Qe 0 JUA (by kernel_rfl) (Qv fun env mem m x h => ?_)
  unfold Jy2 at h
  have hlen:(QW Tryz.prog 13).length = 1 := by kernel_rfl
  split at h
  · exact ⟨_,XG (Qc Zz JUA (by omega)) (Jqd _),h⟩
  · cases h
section
variable (L:LL)
def raT:RaT:= (raF L).fin (RaS.mk 0 YQ Rt0 [])
def raC:Int:= YT (raT L).t.cl (raT L).t.op (raT L).t.er
def raI:Int:= bif (raT L).bad then Int.ofNat (raT L).i else bif raC L != 0 then Int.ofNat L.length else Int.ofNat L.length
def raE:Int:= bif (raT L).bad then (raT L).e else bif raC L != 0 then raC L else 0
def raO:LL:= bif (raT L).bad then [] else bif raC L != 0 then [] else (raT L).R ++ []
end
theorem Jwg (L:LL):∀ (k:Nat) (a:RaS),Rel a.s a.t → (raN L k a).R.length ≤ a.R.length + 11 * k
  | 0,a,h => Nat.le_refl _
  | k + 1,a,h => by
    obtain ⟨p1,p2,p3⟩ := JQO (JSk (L.getD a.i [])) h
    have ho := JKl (Q0 (L.getD a.i [])) a.s h.C8
    rw [p2] at ho
    unfold raN
    cases hb:rE (Q0 (L.getD a.i [])) a.t != 0
    · have := Jwg L k ⟨a.i + 1,XW (Q0 (L.getD a.i [])) a.s,rS (Q0 (L.getD a.i [])) a.t,a.R ++ rO (Q0 (L.getD a.i [])) a.t⟩ p3
      rw [cond_false]
      simp only [List.length_append] at this
      omega
    · show a.R.length ≤ _; omega
def Yf:Tpl := ⟨[.one (.wh 0)],[(0,.row false 40 22 1 CKi)],2⟩
section
variable (L:LL)
def Jr4:Int:= bif ((raF L).fin (RaS.mk 0 YQ Rt0 [])).bad then Int.ofNat ((raF L).fin (RaS.mk 0 YQ Rt0 [])).i else bif YT ((raF L).fin (RaS.mk 0 YQ Rt0 [])).t.cl ((raF L).fin (RaS.mk 0 YQ Rt0 [])).t.op ((raF L).fin (RaS.mk 0 YQ Rt0 [])).t.er != 0 then Int.ofNat L.length else Int.ofNat L.length
def Jch:Int:= YT ((raF L).fin (RaS.mk 0 YQ Rt0 [])).t.cl ((raF L).fin (RaS.mk 0 YQ Rt0 [])).t.op ((raF L).fin (RaS.mk 0 YQ Rt0 [])).t.er
def JrK:Int:= bif ((raF L).fin (RaS.mk 0 YQ Rt0 [])).bad then ((raF L).fin (RaS.mk 0 YQ Rt0 [])).e else bif Jch L != 0 then Jch L else 0
def Jrj:LL:= bif ((raF L).fin (RaS.mk 0 YQ Rt0 [])).bad then [] else bif YT ((raF L).fin (RaS.mk 0 YQ Rt0 [])).t.cl ((raF L).fin (RaS.mk 0 YQ Rt0 [])).t.op ((raF L).fin (RaS.mk 0 YQ Rt0 [])).t.er != 0 then [] else ((raF L).fin (RaS.mk 0 YQ Rt0 [])).R ++ []
def Wp:List Prop:= [0 ≤ L.length ∧ L.length ≤ 1000 ∧ YtmbfbhimdkjkoaaGreat.Rel (RaS.mk 0 YQ Rt0 []).s (RaS.mk 0 YQ Rt0 []).t ∧ 0 ≤ 0,Int.ofNat 0 = 0,false = false,false = false,Int.ofNat 0 = 0,false = false, false = false,Int.ofNat 0 = 0,Int.ofNat 0 = 0,Int.ofNat 0 = 0,Int.ofNat 0 = 0,Int.ofNat 0 = 0,Int.ofNat 0 = 0,Int.ofNat 0 = 0,Int.ofNat 0 = 0,Int.ofNat 0 = 0,Int.ofNat 0 = 0, Int.ofNat 0 = 0,Int.ofNat 0 = 0,Int.ofNat 0 = 0,Int.ofNat 0 = 0,Int.ofNat 0 = 0,Int.ofNat 0 = 0,false = false,Int.ofNat 0 = 0,false = false,Int.ofNat 0 = 0,Int.ofNat 0 = 0, Int.ofNat 0 = 0,Int.ofNat 0 = 0,Int.ofNat 0 = 0,false = false,false = false,Int.ofNat 0 = 0,Int.ofNat 0 = 0,Int.ofNat 0 = 0,Int.ofNat 0 = 0,Int.ofNat 0 = 0,Int.ofNat 0 = 0, Int.ofNat 0 = 0,Int.ofNat 0 = 0,Int.ofNat 0 = 0,Int.ofNat 0 = 0,Int.ofNat 0 = 0,Int.ofNat 0 = 0,Int.ofNat 0 = 0,false = false,Int.ofNat 0 = 0,false = false,Int.ofNat 0 = 0, Int.ofNat 0 = 0,Int.ofNat 0 = 0,Int.ofNat 0 = 0,Int.ofNat 0 = 0,false = false,Int.ofNat 0 = 0,Int.ofNat 0 = 0,false = false,Int.ofNat 0 = 0,Int.ofNat 0 = 0,(RaS.mk 0 YQ Rt0 []).t.C = [], (RaS.mk 0 YQ Rt0 []).R = [], ((raF L).fin (RaS.mk 0 YQ Rt0 [])).bad = false → (YT ((raF L).fin (RaS.mk 0 YQ Rt0 [])).t.cl ((raF L).fin (RaS.mk 0 YQ Rt0 [])).t.op ((raF L).fin (RaS.mk 0 YQ Rt0 [])).t.er != 0) = false → (((raF L).fin (RaS.mk 0 YQ Rt0 [])).R.length + 0) * 176 ≤ 140737488355328 ∧ ((raF L).fin (RaS.mk 0 YQ Rt0 [])).R.length + 0 ≤ 9223372036854775807]
end
theorem JhA {L:LL} (hW:∀ q ∈ ([L.length ≤ 1000]:List Prop),q):∀ q ∈ (Wp L),q := by
  simp only [awc,awn,and_true] at hW
  unfold Wp
  simp only [awc,awn,and_true]
  have hr := Jwg L (L.length - 0) ⟨0,YQ,Rt0,[]⟩ Jwr
  have e:(raF L).fin (RaS.mk 0 YQ Rt0 []) = raN L (L.length - 0) ⟨0,YQ,Rt0,[]⟩ := rfl
  have hz:(RaS.mk 0 YQ Rt0 []).R.length = 0 := rfl
  refine ⟨⟨Nat.zero_le _,hW,Jwr,by decide⟩,?_⟩
  repeat' first | refine ⟨by kernel_rfl,?_⟩ | kernel_rfl | exact trivial | (exact fun _ _ => by rw [e]; omega) | refine ⟨rfl,?_⟩ | refine ⟨trivial,?_⟩
theorem JgW (L:LL) (hNeeds:∀ pN ∈ (Wp L),pN):Runs (Jm (JC JHp) JMO 13) (Yf.args []) (Yf.memo [] [L]) Yf.n (SV.tup [(false,[SC.wh 403]),(false,[SC.int IntKind.i64 (SI.v (Jr4 L))]),(false,[SC.int IntKind.i64 (SI.v (JrK L))])])
    ([(403,
     Obj.row false 40 22
     (RowC.lst 402
     [CK.int IntKind.i64,CK.int IntKind.i64,CK.int IntKind.i64,CK.int IntKind.i64,CK.int IntKind.i64,CK.int IntKind.i64,CK.int IntKind.i64,CK.int IntKind.i64,CK.int IntKind.i64,
     CK.int IntKind.i64,CK.int IntKind.i64,CK.int IntKind.i64,CK.int IntKind.i64,CK.bool,CK.int IntKind.i64,CK.bool,CK.int IntKind.i64,CK.int IntKind.i64,CK.int IntKind.i64,
     CK.int IntKind.i64,CK.int IntKind.i64,CK.bool]
     (Jrj L))),
    (0,
     Obj.row false 40 22
     (RowC.lst 1
     [CK.int IntKind.i64,CK.int IntKind.i64,CK.int IntKind.i64,CK.int IntKind.i64,CK.int IntKind.i64,CK.int IntKind.i64,CK.int IntKind.i64,CK.int IntKind.i64,CK.int IntKind.i64,
     CK.int IntKind.i64,CK.int IntKind.i64,CK.int IntKind.i64,CK.int IntKind.i64,CK.bool,CK.int IntKind.i64,CK.bool,CK.int IntKind.i64,CK.int IntKind.i64,CK.int IntKind.i64,
     CK.int IntKind.i64,CK.int IntKind.i64,CK.bool]
     L))]) :=
  Runs.of1 (ps := (Wp L)) (by kernel_rfl) hNeeds
def JMo:List Pm → Qs → Option CRes
  | [],[L] => some ⟨SV.tup [(false,[SC.wh 403]),(false,[SC.int IntKind.i64 (SI.v ((raI L)))]),(false,[SC.int IntKind.i64 (SI.v ((raE L)))])],
    [(403,
     Obj.row false 40 22
     (RowC.lst 402
     [CK.int IntKind.i64,CK.int IntKind.i64,CK.int IntKind.i64,CK.int IntKind.i64,CK.int IntKind.i64,CK.int IntKind.i64,CK.int IntKind.i64,CK.int IntKind.i64,CK.int IntKind.i64,
     CK.int IntKind.i64,CK.int IntKind.i64,CK.int IntKind.i64,CK.int IntKind.i64,CK.bool,CK.int IntKind.i64,CK.bool,CK.int IntKind.i64,CK.int IntKind.i64,CK.int IntKind.i64,
     CK.int IntKind.i64,CK.int IntKind.i64,CK.bool]
     ((raO L)))),
    (0,
     Obj.row false 40 22
     (RowC.lst 1
     [CK.int IntKind.i64,CK.int IntKind.i64,CK.int IntKind.i64,CK.int IntKind.i64,CK.int IntKind.i64,CK.int IntKind.i64,CK.int IntKind.i64,CK.int IntKind.i64,CK.int IntKind.i64,
     CK.int IntKind.i64,CK.int IntKind.i64,CK.int IntKind.i64,CK.int IntKind.i64,CK.bool,CK.int IntKind.i64,CK.bool,CK.int IntKind.i64,CK.int IntKind.i64,CK.int IntKind.i64,
     CK.int IntKind.i64,CK.int IntKind.i64,CK.bool]
     L))],
    [L.length ≤ 1000],[],404⟩
  | _,_ => none
theorem JbE (L:LL) (hNeeds:∀ pN ∈ (Wp L),pN):Runs (Jm (JC JHp) JMO 13) (Yf.args []) (Yf.memo [] [L]) Yf.n (SV.tup [(false,[SC.wh 403]),(false,[SC.int IntKind.i64 (SI.v ((raI L)))]),(false,[SC.int IntKind.i64 (SI.v ((raE L)))])])
    ([(403,
     Obj.row false 40 22
     (RowC.lst 402
     [CK.int IntKind.i64,CK.int IntKind.i64,CK.int IntKind.i64,CK.int IntKind.i64,CK.int IntKind.i64,CK.int IntKind.i64,CK.int IntKind.i64,CK.int IntKind.i64,CK.int IntKind.i64,
     CK.int IntKind.i64,CK.int IntKind.i64,CK.int IntKind.i64,CK.int IntKind.i64,CK.bool,CK.int IntKind.i64,CK.bool,CK.int IntKind.i64,CK.int IntKind.i64,CK.int IntKind.i64,
     CK.int IntKind.i64,CK.int IntKind.i64,CK.bool]
     ((raO L)))),
    (0,
     Obj.row false 40 22
     (RowC.lst 1
     [CK.int IntKind.i64,CK.int IntKind.i64,CK.int IntKind.i64,CK.int IntKind.i64,CK.int IntKind.i64,CK.int IntKind.i64,CK.int IntKind.i64,CK.int IntKind.i64,CK.int IntKind.i64,
     CK.int IntKind.i64,CK.int IntKind.i64,CK.int IntKind.i64,CK.int IntKind.i64,CK.bool,CK.int IntKind.i64,CK.bool,CK.int IntKind.i64,CK.int IntKind.i64,CK.int IntKind.i64,
     CK.int IntKind.i64,CK.int IntKind.i64,CK.bool]
     L))]) :=
  (JgW L hNeeds).to (by first | rfl | (simp only [])) (by first | rfl | (simp only []))
theorem JpX:Ql Tryz.prog 13 (JU Yf JMo) := by
  refine JI (JE Jco 13) fun ps ls r hr hn _ => ?_
  unfold JMo at hr
  split at hr
  · cases hr; exact ⟨_,JbE _ (JhA (by exact hn)),fun _ => rfl⟩
  · cases hr
def Ja2:List (Nat × JY) := (13,JU Yf JMo) :: JHp
theorem JNu:Known Tryz.prog (JC Ja2) JMO := J7 Jco JpX
end
end Go.Proofs.YtmbfbhimdkjkoaaGreat
namespace Go.Proofs.YtmbfbhimdkjkoaaGreat
noncomputable section
open Go Go.SX Go.RowKit
theorem JsY {s:St} {t:Rt} (R:Rel s t):JOj s.op s.cl s.er = YT t.cl t.op t.er := by
  unfold JOj YT
  rw [← R.er,← R.cl]
  by_cases h:s.er = 0
  · obtain ⟨hop,_⟩ := R.ok h
    rw [← hop]
  · rw [show (s.er == 0) = false by simpa using h,Bool.false_and,Bool.false_and]
theorem Jm1 {s:St} {t:Rt} (R:Rel s t):JBz s.op s.cl s.er = YT t.cl t.op t.er := by
  have:JBz s.op s.cl s.er = JOj s.op s.cl s.er := JCs _
  rw [this,JsY R]
theorem JMl (op cl:Bool) (er:Int):W4 op cl er [] = [] := by unfold W4 ZO; cases (bif er == 0 && (cl || op) then (13:Int) else er) != 0 <;> rfl
theorem JwT (L:LL):∀ (k i:Nat) (s:St) (t:Rt) (R:LL),Rel s t →
    (apN L k ⟨i,s,R⟩).bad = (raN L k ⟨i,s,t,R⟩).bad ∧ (apN L k ⟨i,s,R⟩).i = (raN L k ⟨i,s,t,R⟩).i ∧ (apN L k ⟨i,s,R⟩).e = (raN L k ⟨i,s,t,R⟩).e ∧
    (apN L k ⟨i,s,R⟩).R = (raN L k ⟨i,s,t,R⟩).R ∧ Rel (apN L k ⟨i,s,R⟩).s (raN L k ⟨i,s,t,R⟩).t
  | 0,i,s,t,R,h => ⟨rfl,rfl,rfl,rfl,h⟩
  | k + 1,i,s,t,R,h => by
    obtain ⟨p1,p2,p3⟩ := JQO (JSk (L.getD i [])) h
    unfold apN raN
    simp only [p1,p2]
    cases hb:rE (Q0 (L.getD i [])) t != 0
    · rw [cond_false,cond_false]; exact JwT L k _ _ _ _ p3
    · rw [cond_true,cond_true]; exact ⟨rfl,rfl,rfl,rfl,p3⟩
theorem jS (L:LL):apI L = raI L ∧ apE L = raE L ∧ apO L = raO L := by
  obtain ⟨h1,h2,h3,h4,h5⟩ := JwT L (L.length - 0) 0 YQ Rt0 [] Jwr
  have e1:apT L = apN L (L.length - 0) ⟨0,YQ,[]⟩ := rfl
  have e2:raT L = raN L (L.length - 0) ⟨0,YQ,Rt0,[]⟩ := rfl
  have hc:apC L = raC L := by unfold apC raC; rw [e1,e2]; exact Jm1 h5
  have b:(apT L).bad = (raT L).bad := h1
  have i:(apT L).i = (raT L).i := h2
  have e:(apT L).e = (raT L).e := h3
  have r:(apT L).R = (raT L).R := h4
  unfold apI raI apE raE apO raO
  rw [hc,b,i,e,r,JMl]
  exact ⟨rfl,rfl,rfl⟩
theorem Jv2 {c:Bool} {a b n m:Int} (h:n ≤ a ∧ a ≤ m) (h':n ≤ b ∧ b ≤ m):n ≤ (bif c then a else b) ∧ (bif c then a else b) ≤ m := by cases c <;> assumption
theorem JtP {c:Bool} {a b:Int} (h:0 ≤ a) (h':0 ≤ b):0 ≤ (bif c then a else b) := by cases c <;> assumption
def JOh:Tpl := ⟨[.one (.ptr 0 0),.one (.int .i64)],[(0,.blk 57 [(2,.wh 1),(3,.int .i64)]),(1,.row true 3 1 4 [.int .i64])],5⟩
section
variable (n a:Int) (L:LL)
def Yw:Int:= JK (IntKind.i64.wrap (0 - n)) n a L
def Yy:Int:= JK (IntKind.i64.wrap (0 - n)) n (J0 a L) L
def JKj:List Prop:= [0 ≤ a,L.length ≤ 1000000,IntKind.i64.wrap (0 - n) ≤ n ∧ -1000000 ≤ IntKind.i64.wrap (0 - n) ∧ n ≤ 1000000,0 ≤ J0 a L,L.length ≤ 1000000, IntKind.i64.wrap (0 - n) ≤ n ∧ -1000000 ≤ IntKind.i64.wrap (0 - n) ∧ n ≤ 1000000]
end
theorem Jt1 {n:Int} {a:Int} {L:LL} (hW:∀ q ∈ ([0 ≤ a,L.length ≤ 1000000,0 ≤ n ∧ n ≤ 1000000]:List Prop),q):∀ q ∈ (JKj n a L),q := by
  simp only [awc,awn,and_true] at hW
  unfold JKj
  simp only [awc,awn,and_true]
  obtain ⟨h1,h2,h3⟩ := hW
  have e:IntKind.i64.wrap (0 - n) = 0 - n := X6 (by omega) (by omega)
  rw [e]
  exact ⟨h1,h2,by omega,KM _ _ h1 h2,h2,by omega⟩
theorem JuY (n a:Int) (L:LL) (hNeeds:∀ pN ∈ (JKj n a L),pN):Runs (Jm (JC Ja2) JMO 52) (JOh.args [.i n,.i a]) (JOh.memo [.i n,.i a] [L]) JOh.n (SV.agg [SC.int IntKind.i64 (SI.v (Yw n a L)),SC.int IntKind.i64 (SI.v (Yy n a L))])
    ([(0,Obj.blk 57 [(2,SC.wh 1),(156,SC.int IntKind.i64 (SI.v (J0 (J0 a L) L)))]),(1,Obj.row true 3 1 (RowC.lst 4 [CK.int IntKind.i64] L))]) :=
  Runs.of1 (ps := (JKj n a L)) (by kernel_rfl) hNeeds
def Jeu:List Pm → Qs → Option CRes
  | [.i n,.i a],[L] => some ⟨SV.agg [SC.int IntKind.i64 (SI.v (Yw n a L)),SC.int IntKind.i64 (SI.v (Yy n a L))],
    [(0,Obj.blk 57 [(2,SC.wh 1),(156,SC.int IntKind.i64 (SI.v (J0 (J0 a L) L)))]),(1,Obj.row true 3 1 (RowC.lst 4 [CK.int IntKind.i64] L))],
    [0 ≤ a,L.length ≤ 1000000,0 ≤ n ∧ n ≤ 1000000],[],165⟩
  | _,_ => none
theorem Jx9:Ql Tryz.prog 52 (JU JOh Jeu) := by
  refine JI (JE JNu 52) fun ps ls r hr hn _ => ?_
  unfold Jeu at hr
  split at hr
  · cases hr; exact ⟨_,JuY _ _ _ (Jt1 (by exact hn)),fun _ => rfl⟩
  · cases hr
def JrJ:List (Nat × JY) := (52,JU JOh Jeu) :: Ja2
theorem Jcp:Known Tryz.prog (JC JrJ) JMO := J7 JNu Jx9
def qw:Tpl := ⟨[.one (.ptr 0 0)],[(0,.blk 57 [(2,.wh 1),(3,.int .i64)]),(1,.row true 3 1 4 [.int .i64])],5⟩
section
variable (a:Int) (L:LL)
def JFd:Int:= Yw (bif (JA 3 a L).toNat.beq 0 then 20 else bif (JA 3 a L).toNat.beq 1 then 300 else 20000) (J0 a L) L
def JFt:Int:= Yy (bif (JA 3 a L).toNat.beq 0 then 20 else bif (JA 3 a L).toNat.beq 1 then 300 else 20000) (J0 a L) L
def QT:Int:= bif (JA 3 a L).toNat.beq 0 then 20 else bif (JA 3 a L).toNat.beq 1 then 300 else 20000
def JX4:Int:= bif JA 4 (J0 (J0 (J0 (J0 a L) L) L) L) L == 0 then IntKind.i64.wrap (0 - Yy (QT a L) (J0 a L) L) else bif JA 4 (J0 (J0 (J0 (J0 a L) L) L) L) L == 1 then IntKind.i64.wrap (0 - Yw (QT a L) (J0 a L) L) else bif JA 4 (J0 (J0 (J0 (J0 a L) L) L) L) L == 2 then Yy (QT a L) (J0 a L) L else Yy (QT a L) (J0 a L) L
def JGn:Int:= bif JA 8 (J0 (J0 (J0 a L) L) L) L == 0 then Yw (QT a L) (J0 a L) L else bif JA 3 (J0 (J0 (J0 (J0 (J0 a L) L) L) L) L) L == 0 then IntKind.i64.wrap (JX4 a L + JK (-2) 2 (J0 (J0 (J0 (J0 (J0 (J0 a L) L) L) L) L) L) L) else JX4 a L
def JGN:Int:= bif JA 8 (J0 (J0 (J0 a L) L) L) L == 0 then Yy (QT a L) (J0 a L) L else bif JA 4 (J0 (J0 (J0 (J0 a L) L) L) L) L == 0 then Yw (QT a L) (J0 a L) L else bif JA 4 (J0 (J0 (J0 (J0 a L) L) L) L) L == 1 then IntKind.i64.wrap (0 - Yy (QT a L) (J0 a L) L) else bif JA 4 (J0 (J0 (J0 (J0 a L) L) L) L) L == 2 then Yw (QT a L) (J0 a L) L else IntKind.i64.wrap (0 - Yw (QT a L) (J0 a L) L)
def JCJ:Bool:= JA 8 (J0 (J0 (J0 a L) L) L) L == 0
def JZG:Int:= IntKind.i64.wrap (0 - Yy (QT a L) (J0 a L) L)
def JWI:Int:= IntKind.i64.wrap (0 - Yw (QT a L) (J0 a L) L)
def JZq:Int:= bif JA 4 (J0 (J0 (J0 (J0 a L) L) L) L) L == 0 then JZG a L else bif JA 4 (J0 (J0 (J0 (J0 a L) L) L) L) L == 1 then JWI a L else bif JA 4 (J0 (J0 (J0 (J0 a L) L) L) L) L == 2 then Yy (QT a L) (J0 a L) L else Yy (QT a L) (J0 a L) L
def XI:Bool:= JcE (Yw (QT a L) (J0 a L) L) (Yy (QT a L) (J0 a L) L) (bif JCJ a L then Yw (QT a L) (J0 a L) L else bif JA 3 (J0 (J0 (J0 (J0 (J0 a L) L) L) L) L) L == 0 then IntKind.i64.wrap (JZq a L + JK (-2) 2 (J0 (J0 (J0 (J0 (J0 (J0 a L) L) L) L) L) L) L) else JZq a L) (bif JCJ a L then Yy (QT a L) (J0 a L) L else bif JA 4 (J0 (J0 (J0 (J0 a L) L) L) L) L == 0 then Yw (QT a L) (J0 a L) L else bif JA 4 (J0 (J0 (J0 (J0 a L) L) L) L) L == 1 then JZG a L else bif JA 4 (J0 (J0 (J0 (J0 a L) L) L) L) L == 2 then Yw (QT a L) (J0 a L) L else JWI a L) (JCJ a L)
def JZ:Int:= bif JA 8 (J0 (J0 (J0 a L) L) L) L == 0 then J0 (J0 (J0 (J0 (J0 a L) L) L) L) L else bif JA 3 (J0 (J0 (J0 (J0 (J0 a L) L) L) L) L) L == 0 then J0 (J0 (J0 (J0 (J0 (J0 (J0 a L) L) L) L) L) L) L else J0 (J0 (J0 (J0 (J0 (J0 a L) L) L) L) L) L
def jx:List Prop:= [0 ≤ a,L.length ≤ 1000000,Int.ofNat 3 ≠ 0,0 ≤ JA 3 a L,(JA 3 a L).toNat < 3,(JA 3 a L).toNat < 3,0 ≤ J0 a L,L.length ≤ 1000000,0 ≤ QT a L ∧ QT a L ≤ 1000000, 0 ≤ J0 (J0 (J0 a L) L) L,L.length ≤ 1000000,Int.ofNat 8 ≠ 0,0 ≤ J0 (J0 (J0 (J0 a L) L) L) L,L.length ≤ 1000000,Int.ofNat 4 ≠ 0, (JA 8 (J0 (J0 (J0 a L) L) L) L == 0) = false → 0 ≤ J0 (J0 (J0 (J0 (J0 a L) L) L) L) L ∧ L.length ≤ 1000000 ∧ Int.ofNat 3 ≠ 0 ∧ ((JA 3 (J0 (J0 (J0 (J0 (J0 a L) L) L) L) L) L == 0) = true → 0 ≤ J0 (J0 (J0 (J0 (J0 (J0 a L) L) L) L) L) L ∧ L.length ≤ 1000000 ∧ -2 ≤ 2 ∧ -1000000 ≤ -2 ∧ Int.ofNat 2 ≤ 1000000)]
end
theorem JHk {a:Int} {L:LL} (h1:0 ≤ a) (h2:L.length ≤ 1000000):0 ≤ JZ a L := by
  have nn:∀ x,0 ≤ x → 0 ≤ J0 x L := fun x h => KM x L h h2
  unfold JZ
  repeat' first | exact h1 | refine nn _ ?_ | refine JtP ?_ ?_
theorem JeL {a:Int} {L:LL} (hW:∀ q ∈ ([0 ≤ a,L.length ≤ 1000000]:List Prop),q):∀ q ∈ (jx a L),q := by
  simp only [awc,awn,and_true] at hW
  unfold jx
  simp only [awc,awn,and_true]
  obtain ⟨h1,h2⟩ := hW
  have nn:∀ x,0 ≤ x → 0 ≤ J0 x L := fun x h => KM x L h h2
  have r3:∀ x,0 ≤ JA 3 x L ∧ (JA 3 x L).toNat < 3 := fun x => by have := Y1 3 x L (by omega) (by omega); omega
  have s0:0 ≤ QT a L ∧ QT a L ≤ 1000000 := by
    unfold QT
    repeat' first | exact ⟨by decide,by decide⟩ | refine Jv2 ?_ ?_
  repeat' first | exact h2 | exact h1 | exact (r3 _).1 | exact (r3 _).2 | refine nn _ ?_ | exact s0 | decide | refine And.intro ?_ ?_ | intro _
theorem JgB (a:Int) (L:LL) (hNeeds:∀ pN ∈ (jx a L),pN):Runs (Jm (JC JrJ) JMO 51) (qw.args [.i a]) (qw.memo [.i a] [L]) qw.n (SV.tup
    [(true,[SC.int IntKind.i64 (SI.v (JFd a L)),SC.int IntKind.i64 (SI.v (JFt a L))]),(true,[SC.int IntKind.i64 (SI.v (JGn a L)),SC.int IntKind.i64 (SI.v (JGN a L))]),
     (false,[SC.bool (SB.v (JCJ a L))]),(false,[SC.bool (SB.v (XI a L))])])
    ([(0,Obj.blk 57 [(2,SC.wh 1),(568,SC.int IntKind.i64 (SI.v (JZ a L)))]),(1,Obj.row true 3 1 (RowC.lst 4 [CK.int IntKind.i64] L))]) :=
  Runs.of1 (ps := (jx a L)) (by kernel_rfl) hNeeds
def JJT:List Pm → Qs → Option CRes
  | [.i a],[L] => some ⟨SV.tup
    [(true,[SC.int IntKind.i64 (SI.v (JFd a L)),SC.int IntKind.i64 (SI.v (JFt a L))]),(true,[SC.int IntKind.i64 (SI.v (JGn a L)),SC.int IntKind.i64 (SI.v (JGN a L))]),
     (false,[SC.bool (SB.v (JCJ a L))]),(false,[SC.bool (SB.v (XI a L))])],
    [(0,Obj.blk 57 [(2,SC.wh 1),(568,SC.int IntKind.i64 (SI.v (JZ a L)))]),(1,Obj.row true 3 1 (RowC.lst 4 [CK.int IntKind.i64] L))],
    [0 ≤ a,L.length ≤ 1000000],[],1125⟩
  | _,_ => none
theorem Jka:Ql Tryz.prog 51 (JU qw JJT) := by
  refine JI (JE Jcp 51) fun ps ls r hr hn _ => ?_
  unfold JJT at hr
  split at hr
  · cases hr; exact ⟨_,JgB _ _ (JeL (by exact hn)),fun _ => rfl⟩
  · cases hr
def JRS:List (Nat × JY) := (51,JU qw JJT) :: JrJ
theorem JLO:Known Tryz.prog (JC JRS) JMO := J7 Jcp Jka
def JIh:Tpl := ⟨[.one (.ptr 0 0)],[(0,.blk 57 [(2,.wh 1),(3,.int .i64)]),(1,.row true 3 1 4 [.int .i64])],5⟩
section
variable (a:Int) (L:LL)
def Jdo:Int:= JQ (JK 17 19 a L) (IntKind.i64.wrap (Yw 30000 (JZ (J0 a L) L) L + bif !XI (J0 a L) L then 50 else JFd (J0 a L) L)) (IntKind.i64.wrap (Yy 30000 (JZ (J0 a L) L) L + bif !XI (J0 a L) L then 0 else JFt (J0 a L) L)) (JK (-500) 500 (J0 (J0 (JZ (J0 a L) L) L) L) L)
def JgQ:Int:= JR (JK 17 19 a L) (IntKind.i64.wrap (Yw 30000 (JZ (J0 a L) L) L + bif !XI (J0 a L) L then 50 else JFd (J0 a L) L)) (IntKind.i64.wrap (Yy 30000 (JZ (J0 a L) L) L + bif !XI (J0 a L) L then 0 else JFt (J0 a L) L)) (JK (-500) 500 (J0 (J0 (JZ (J0 a L) L) L) L) L)
def Jed:Int:= JS (JK 17 19 a L) (IntKind.i64.wrap (Yw 30000 (JZ (J0 a L) L) L + bif !XI (J0 a L) L then 50 else JFd (J0 a L) L)) (IntKind.i64.wrap (Yy 30000 (JZ (J0 a L) L) L + bif !XI (J0 a L) L then 0 else JFt (J0 a L) L)) (JK (-500) 500 (J0 (J0 (JZ (J0 a L) L) L) L) L)
def Jj9:Int:= JQ (JK 17 19 a L) (IntKind.i64.wrap (Yw 30000 (JZ (J0 a L) L) L + bif !XI (J0 a L) L then 0 else JGn (J0 a L) L)) (IntKind.i64.wrap (Yy 30000 (JZ (J0 a L) L) L + bif !XI (J0 a L) L then 50 else JGN (J0 a L) L)) (JK (-500) 500 (J0 (J0 (J0 (JZ (J0 a L) L) L) L) L) L)
def Jk8:Int:= JR (JK 17 19 a L) (IntKind.i64.wrap (Yw 30000 (JZ (J0 a L) L) L + bif !XI (J0 a L) L then 0 else JGn (J0 a L) L)) (IntKind.i64.wrap (Yy 30000 (JZ (J0 a L) L) L + bif !XI (J0 a L) L then 50 else JGN (J0 a L) L)) (JK (-500) 500 (J0 (J0 (J0 (JZ (J0 a L) L) L) L) L) L)
def Jma:Int:= JS (JK 17 19 a L) (IntKind.i64.wrap (Yw 30000 (JZ (J0 a L) L) L + bif !XI (J0 a L) L then 0 else JGn (J0 a L) L)) (IntKind.i64.wrap (Yy 30000 (JZ (J0 a L) L) L + bif !XI (J0 a L) L then 50 else JGN (J0 a L) L)) (JK (-500) 500 (J0 (J0 (J0 (JZ (J0 a L) L) L) L) L) L)
def Jmo:Int:= JQ (JK 17 19 a L) (Yw 30000 (JZ (J0 a L) L) L) (Yy 30000 (JZ (J0 a L) L) L) (JK (-500) 500 (J0 (J0 (JZ (J0 a L) L) L) L) L)
def JmF:Int:= JR (JK 17 19 a L) (Yw 30000 (JZ (J0 a L) L) L) (Yy 30000 (JZ (J0 a L) L) L) (JK (-500) 500 (J0 (J0 (JZ (J0 a L) L) L) L) L)
def JjX:Int:= JS (JK 17 19 a L) (Yw 30000 (JZ (J0 a L) L) L) (Yy 30000 (JZ (J0 a L) L) L) (JK (-500) 500 (J0 (J0 (JZ (J0 a L) L) L) L) L)
def Jks:Int:= IntKind.i64.wrap (1 - IntKind.i64.wrap (2 * JA 2 (J0 (J0 (J0 (J0 (JZ (J0 a L) L) L) L) L) L) L))
def JfA:Bool:= bif !XI (J0 a L) L then false else JCJ (J0 a L) L
def JgG:Bool:= JA 4 (J0 (J0 (J0 (J0 (J0 (J0 (JZ (J0 a L) L) L) L) L) L) L) L) L == 0
def JIB:List Prop:= [0 ≤ a,L.length ≤ 1000000,Int.ofNat 17 ≤ 19 ∧ -1000000 ≤ 17 ∧ Int.ofNat 19 ≤ 1000000,0 ≤ J0 a L,L.length ≤ 1000000,0 ≤ JZ (J0 a L) L,L.length ≤ 1000000, Int.ofNat 0 ≤ 30000 ∧ Int.ofNat 30000 ≤ 1000000,0 ≤ J0 (J0 (JZ (J0 a L) L) L) L,L.length ≤ 1000000,-500 ≤ 500 ∧ -1000000 ≤ -500 ∧ Int.ofNat 500 ≤ 1000000, 0 ≤ J0 (J0 (J0 (JZ (J0 a L) L) L) L) L,L.length ≤ 1000000,-500 ≤ 500 ∧ -1000000 ≤ -500 ∧ Int.ofNat 500 ≤ 1000000, 0 ≤ J0 (J0 (J0 (J0 (JZ (J0 a L) L) L) L) L) L,L.length ≤ 1000000,Int.ofNat 2 ≠ 0,0 ≤ J0 (J0 (J0 (J0 (J0 (JZ (J0 a L) L) L) L) L) L) L, L.length ≤ 1000000,Int.ofNat 1 ≤ 90000 ∧ -1000000 ≤ 1 ∧ Int.ofNat 90000 ≤ 1000000,0 ≤ J0 (J0 (J0 (J0 (J0 (J0 (JZ (J0 a L) L) L) L) L) L) L) L, L.length ≤ 1000000,Int.ofNat 4 ≠ 0,0 ≤ J0 (J0 (J0 (J0 (J0 (J0 (J0 (JZ (J0 a L) L) L) L) L) L) L) L) L,L.length ≤ 1000000,Int.ofNat 200 ≠ 0, 0 ≤ J0 (J0 (J0 (J0 (J0 (J0 (J0 (J0 (JZ (J0 a L) L) L) L) L) L) L) L) L) L,L.length ≤ 1000000,Int.ofNat 20 ≠ 0]
end
theorem Jqr {a:Int} {L:LL} (hW:∀ q ∈ ([0 ≤ a,L.length ≤ 1000000]:List Prop),q):∀ q ∈ (JIB a L),q := by
  simp only [awc,awn,and_true] at hW
  unfold JIB
  simp only [awc,awn,and_true]
  obtain ⟨h1,h2⟩ := hW
  have nn:∀ x,0 ≤ x → 0 ≤ J0 x L := fun x h => KM x L h h2
  have r3:∀ x,0 ≤ JA 3 x L ∧ (JA 3 x L).toNat < 3 := fun x => by have := Y1 3 x L (by omega) (by omega); omega
  have sp:∀ x,0 ≤ x → 0 ≤ JZ x L := fun x h => JHk h h2
  repeat' first | exact h2 | exact h1 | exact (r3 _).1 | exact (r3 _).2 | refine nn _ ?_ | refine sp _ ?_ | decide | refine And.intro ?_ ?_ | intro _
theorem JqT (a:Int) (L:LL) (hNeeds:∀ pN ∈ (JIB a L),pN):Runs (Jm (JC JRS) JMO 38) (JIh.args [.i a]) (JIh.memo [.i a] [L]) JIh.n (SV.agg
    [SC.int IntKind.i64 (SI.c 3),SC.int IntKind.i64 (SI.v (JA 20 (J0 (J0 (J0 (J0 (J0 (J0 (J0 (J0 (JZ (J0 a L) L) L) L) L) L) L) L) L) L) L)),
     SC.int IntKind.i64 (SI.v (Jdo a L)),SC.int IntKind.i64 (SI.v (JgQ a L)),SC.int IntKind.i64 (SI.v (Jed a L)),SC.int IntKind.i64 (SI.v (Jj9 a L)),
     SC.int IntKind.i64 (SI.v (Jk8 a L)),SC.int IntKind.i64 (SI.v (Jma a L)),SC.int IntKind.i64 (SI.v (JK 17 19 a L)),SC.int IntKind.i64 (SI.v (Jmo a L)),
     SC.int IntKind.i64 (SI.v (JmF a L)),SC.int IntKind.i64 (SI.v (JjX a L)),SC.int IntKind.i64 (SI.v (Jks a L)),SC.bool (SB.v (JfA a L)),
     SC.int IntKind.i64 (SI.v (JK 1 90000 (J0 (J0 (J0 (J0 (J0 (JZ (J0 a L) L) L) L) L) L) L) L)),SC.bool (SB.v (JgG a L)),SC.int IntKind.i64 (SI.c 0),
     SC.int IntKind.i64 (SI.c 0),SC.int IntKind.i64 (SI.v (JA 200 (J0 (J0 (J0 (J0 (J0 (J0 (J0 (JZ (J0 a L) L) L) L) L) L) L) L) L) L)),
     SC.int IntKind.i64 (SI.c 0),SC.int IntKind.i64 (SI.c 0),SC.bool (SB.c false)])
    ([(0,Obj.blk 57 [(2,SC.wh 1),(2247,SC.int IntKind.i64 (SI.v (J0 (J0 (J0 (J0 (J0 (J0 (J0 (J0 (J0 (JZ (J0 a L) L) L) L) L) L) L) L) L) L) L)))]),
    (1,Obj.row true 3 1 (RowC.lst 4 [CK.int IntKind.i64] L))]) :=
  Runs.of1 (ps := (JIB a L)) (by kernel_rfl) hNeeds
def JX1:List Pm → Qs → Option CRes
  | [.i a],[L] => some ⟨SV.agg
    [SC.int IntKind.i64 (SI.c 3),SC.int IntKind.i64 (SI.v (JA 20 (J0 (J0 (J0 (J0 (J0 (J0 (J0 (J0 (JZ (J0 a L) L) L) L) L) L) L) L) L) L) L)),
     SC.int IntKind.i64 (SI.v (Jdo a L)),SC.int IntKind.i64 (SI.v (JgQ a L)),SC.int IntKind.i64 (SI.v (Jed a L)),SC.int IntKind.i64 (SI.v (Jj9 a L)),
     SC.int IntKind.i64 (SI.v (Jk8 a L)),SC.int IntKind.i64 (SI.v (Jma a L)),SC.int IntKind.i64 (SI.v (JK 17 19 a L)),SC.int IntKind.i64 (SI.v (Jmo a L)),
     SC.int IntKind.i64 (SI.v (JmF a L)),SC.int IntKind.i64 (SI.v (JjX a L)),SC.int IntKind.i64 (SI.v (Jks a L)),SC.bool (SB.v (JfA a L)),
     SC.int IntKind.i64 (SI.v (JK 1 90000 (J0 (J0 (J0 (J0 (J0 (JZ (J0 a L) L) L) L) L) L) L) L)),SC.bool (SB.v (JgG a L)),SC.int IntKind.i64 (SI.c 0),
     SC.int IntKind.i64 (SI.c 0),SC.int IntKind.i64 (SI.v (JA 200 (J0 (J0 (J0 (J0 (J0 (J0 (J0 (JZ (J0 a L) L) L) L) L) L) L) L) L) L)),
     SC.int IntKind.i64 (SI.c 0),SC.int IntKind.i64 (SI.c 0),SC.bool (SB.c false)],
    [(0,Obj.blk 57 [(2,SC.wh 1),(2247,SC.int IntKind.i64 (SI.v (J0 (J0 (J0 (J0 (J0 (J0 (J0 (J0 (J0 (JZ (J0 a L) L) L) L) L) L) L) L) L) L) L)))]),
    (1,Obj.row true 3 1 (RowC.lst 4 [CK.int IntKind.i64] L))],
    [0 ≤ a,L.length ≤ 1000000],[],2273⟩
  | _,_ => none
theorem Jvb:Ql Tryz.prog 38 (JU JIh JX1) := by
  refine JI (JE JLO 38) fun ps ls r hr hn _ => ?_
  unfold JX1 at hr
  split at hr
  · cases hr; exact ⟨_,JqT _ _ (Jqr (by exact hn)),fun _ => rfl⟩
  · cases hr
def Jl7:List (Nat × JY) := (38,JU JIh JX1) :: JRS
theorem JYR:Known Tryz.prog (JC Jl7) JMO := J7 JLO Jvb
def JEr:Tpl := ⟨[.one (.ptr 0 0),.agg [.int .i64,.int .i64,.int .i64]],[(0,.blk 57 [(2,.wh 1),(3,.int .i64)]),(1,.row true 3 1 4 [.int .i64])],5⟩
section
variable (z y x a:Int) (L:LL)
def Jx:Bool:= JA 14 (J0 a L) L == 1
def Jv:Bool:= JA 14 (J0 a L) L == 2
def Ju:Bool:= JA 14 (J0 a L) L == 3
def Jw:Bool:= JA 14 (J0 a L) L == 5
def WL:Int:= bif JA 14 (J0 a L) L == 0 then 1 else bif bif Jx a L then Jx a L else bif Jv a L then Jv a L else bif Ju a L then Ju a L else JA 14 (J0 a L) L == 4 then 2 else bif bif Jw a L then Jw a L else JA 14 (J0 a L) L == 6 then 3 else bif JA 14 (J0 a L) L == 7 then 4 else bif JA 14 (J0 a L) L == 8 then 6 else bif JA 14 (J0 a L) L == 9 then 7 else bif JA 14 (J0 a L) L == 10 then 8 else bif JA 14 (J0 a L) L == 11 then 9 else bif JA 14 (J0 a L) L == 12 then 10 else bif (JA 3 (J0 (J0 a L) L) L).toNat.beq 0 then 11 else bif (JA 3 (J0 (J0 a L) L) L).toNat.beq 1 then 12 else 13
def JKr:Int:= bif JA 14 (J0 a L) L == 0 then JA 30 a L else bif bif Jx a L then Jx a L else bif Jv a L then Jv a L else bif Ju a L then Ju a L else JA 14 (J0 a L) L == 4 then JA 30 a L else bif bif Jw a L then Jw a L else JA 14 (J0 a L) L == 6 then JA 30 a L else JA 30 a L
def KF:Int:= bif JA 14 (J0 a L) L == 0 then x else bif bif Jx a L then Jx a L else bif Jv a L then Jv a L else bif Ju a L then Ju a L else JA 14 (J0 a L) L == 4 then x else bif bif Jw a L then Jw a L else JA 14 (J0 a L) L == 6 then x else bif JA 14 (J0 a L) L == 7 then x else bif JA 14 (J0 a L) L == 8 then x else 0
def JDk:Int:= bif JA 14 (J0 a L) L == 0 then JG x (Zt 300 (J0 (J0 a L) L) L) else bif bif Jx a L then Jx a L else bif Jv a L then Jv a L else bif Ju a L then Ju a L else JA 14 (J0 a L) L == 4 then JG x (Zt 300 (J0 (J0 a L) L) L) else bif bif Jw a L then Jw a L else JA 14 (J0 a L) L == 6 then JG (Jj9 (J0 (J0 a L) L) L) (J1 x (Jdo (J0 (J0 a L) L) L)) else bif JA 14 (J0 a L) L == 7 then JG x (Zt 300 (J0 (J0 a L) L) L) else bif JA 14 (J0 a L) L == 8 then JG x (Zt 300 (J0 (J0 a L) L) L) else 0
def JDm:Int:= bif JA 14 (J0 a L) L == 0 then JG y (Zu 300 (J0 (J0 a L) L) L) else bif bif Jx a L then Jx a L else bif Jv a L then Jv a L else bif Ju a L then Ju a L else JA 14 (J0 a L) L == 4 then JG y (Zu 300 (J0 (J0 a L) L) L) else bif bif Jw a L then Jw a L else JA 14 (J0 a L) L == 6 then JG (Jk8 (J0 (J0 a L) L) L) (J1 y (JgQ (J0 (J0 a L) L) L)) else bif JA 14 (J0 a L) L == 7 then JG y (Zu 300 (J0 (J0 a L) L) L) else bif JA 14 (J0 a L) L == 8 then JG y (Zu 300 (J0 (J0 a L) L) L) else 0
def JES:Int:= bif JA 14 (J0 a L) L == 0 then JG z (QV 300 (J0 (J0 a L) L) L) else bif bif Jx a L then Jx a L else bif Jv a L then Jv a L else bif Ju a L then Ju a L else JA 14 (J0 a L) L == 4 then JG z (QV 300 (J0 (J0 a L) L) L) else bif bif Jw a L then Jw a L else JA 14 (J0 a L) L == 6 then JG (Jma (J0 (J0 a L) L) L) (J1 z (Jed (J0 (J0 a L) L) L)) else bif JA 14 (J0 a L) L == 7 then JG z (QV 300 (J0 (J0 a L) L) L) else bif JA 14 (J0 a L) L == 8 then JG z (QV 300 (J0 (J0 a L) L) L) else 0
def JKz:Int:= bif JA 14 (J0 a L) L == 0 then 0 else bif bif Jx a L then Jx a L else bif Jv a L then Jv a L else bif Ju a L then Ju a L else JA 14 (J0 a L) L == 4 then 0 else bif bif Jw a L then Jw a L else JA 14 (J0 a L) L == 6 then JK 17 19 (J0 (J0 a L) L) L else 0
def JL4:Int:= bif JA 14 (J0 a L) L == 0 then 0 else bif bif Jx a L then Jx a L else bif Jv a L then Jv a L else bif Ju a L then Ju a L else JA 14 (J0 a L) L == 4 then 0 else bif bif Jw a L then Jw a L else JA 14 (J0 a L) L == 6 then JG (Jmo (J0 (J0 a L) L) L) (J1 x (Jdo (J0 (J0 a L) L) L)) else 0
def JFC:Int:= bif JA 14 (J0 a L) L == 0 then 0 else bif bif Jx a L then Jx a L else bif Jv a L then Jv a L else bif Ju a L then Ju a L else JA 14 (J0 a L) L == 4 then 0 else bif bif Jw a L then Jw a L else JA 14 (J0 a L) L == 6 then JG (JmF (J0 (J0 a L) L) L) (J1 y (JgQ (J0 (J0 a L) L) L)) else 0
def JFb:Int:= bif JA 14 (J0 a L) L == 0 then 0 else bif bif Jx a L then Jx a L else bif Jv a L then Jv a L else bif Ju a L then Ju a L else JA 14 (J0 a L) L == 4 then 0 else bif bif Jw a L then Jw a L else JA 14 (J0 a L) L == 6 then JG (JjX (J0 (J0 a L) L) L) (J1 z (Jed (J0 (J0 a L) L) L)) else 0
def JFe:Int:= bif JA 14 (J0 a L) L == 0 then 0 else bif bif Jx a L then Jx a L else bif Jv a L then Jv a L else bif Ju a L then Ju a L else JA 14 (J0 a L) L == 4 then 0 else bif bif Jw a L then Jw a L else JA 14 (J0 a L) L == 6 then Jks (J0 (J0 a L) L) L else 0
def JEu:Bool:= bif JA 14 (J0 a L) L == 0 then false else bif bif Jx a L then Jx a L else bif Jv a L then Jv a L else bif Ju a L then Ju a L else JA 14 (J0 a L) L == 4 then false else (bif Jw a L then Jw a L else JA 14 (J0 a L) L == 6) && JfA (J0 (J0 a L) L) L
def JGl:Int:= bif JA 14 (J0 a L) L == 0 then 0 else bif bif Jx a L then Jx a L else bif Jv a L then Jv a L else bif Ju a L then Ju a L else JA 14 (J0 a L) L == 4 then JK 1 90000 (J0 (J0 (J0 (J0 (J0 a L) L) L) L) L) L else bif bif Jw a L then Jw a L else JA 14 (J0 a L) L == 6 then JK 1 90000 (J0 (J0 (J0 (J0 (J0 (JZ (J0 (J0 (J0 a L) L) L) L) L) L) L) L) L) L else bif JA 14 (J0 a L) L == 7 then JK 1 90000 (J0 (J0 (J0 (J0 (J0 a L) L) L) L) L) L else bif JA 14 (J0 a L) L == 8 then JK 1 9000 (J0 (J0 (J0 (J0 (J0 a L) L) L) L) L) L else 0
def JEj:Bool:= bif JA 14 (J0 a L) L == 0 then false else bif bif Jx a L then Jx a L else bif Jv a L then Jv a L else bif Ju a L then Ju a L else JA 14 (J0 a L) L == 4 then JA 5 (J0 (J0 (J0 (J0 (J0 (J0 a L) L) L) L) L) L) L == 0 else bif bif Jw a L then Jw a L else JA 14 (J0 a L) L == 6 then JgG (J0 (J0 a L) L) L else bif JA 14 (J0 a L) L == 7 then false else JA 14 (J0 a L) L == 8
def JG9:Int:= bif JA 14 (J0 a L) L == 0 then 0 else bif bif Jx a L then Jx a L else bif Jv a L then Jv a L else bif Ju a L then Ju a L else JA 14 (J0 a L) L == 4 then JA 50 (J0 (J0 (J0 (J0 (J0 (J0 (J0 a L) L) L) L) L) L) L) L else bif bif Jw a L then Jw a L else JA 14 (J0 a L) L == 6 then JA 200 (J0 (J0 (J0 (J0 (J0 (J0 (J0 (JZ (J0 (J0 (J0 a L) L) L) L) L) L) L) L) L) L) L) L else 0
def JFL:Int:= bif JA 14 (J0 a L) L == 0 then 0 else bif bif Jx a L then Jx a L else bif Jv a L then Jv a L else bif Ju a L then Ju a L else JA 14 (J0 a L) L == 4 then 0 else bif bif Jw a L then Jw a L else JA 14 (J0 a L) L == 6 then 0 else bif JA 14 (J0 a L) L == 7 then 0 else bif JA 14 (J0 a L) L == 8 then JK 3 4 (J0 (J0 (J0 (J0 (J0 (J0 a L) L) L) L) L) L) L else bif JA 14 (J0 a L) L == 9 then JA 100 (J0 (J0 a L) L) L else bif JA 14 (J0 a L) L == 10 then JK 3 5 (J0 (J0 a L) L) L else bif JA 14 (J0 a L) L == 11 then JK 7 8 (J0 (J0 a L) L) L else bif JA 14 (J0 a L) L == 12 then JA 16 (J0 (J0 a L) L) L else 0
def JGQ:Int:= bif JA 14 (J0 a L) L == 0 then 0 else bif bif Jx a L then Jx a L else bif Jv a L then Jv a L else bif Ju a L then Ju a L else JA 14 (J0 a L) L == 4 then 0 else bif bif Jw a L then Jw a L else JA 14 (J0 a L) L == 6 then 0 else bif JA 14 (J0 a L) L == 7 then 0 else bif JA 14 (J0 a L) L == 8 then 0 else bif JA 14 (J0 a L) L == 9 then 0 else bif JA 14 (J0 a L) L == 10 then bif decide (JK 3 5 (J0 (J0 a L) L) L < 5) then JA 9000 (J0 (J0 (J0 a L) L) L) L else 0 else 0
def JiY:Bool:= JA 2 (J0 (J0 (J0 a L) L) L) L == 0
def JEn:Bool:= bif JA 14 (J0 a L) L == 0 then false else bif bif Jx a L then Jx a L else bif Jv a L then Jv a L else bif Ju a L then Ju a L else JA 14 (J0 a L) L == 4 then false else bif bif Jw a L then Jw a L else JA 14 (J0 a L) L == 6 then false else bif JA 14 (J0 a L) L == 7 then false else bif JA 14 (J0 a L) L == 8 then false else bif JA 14 (J0 a L) L == 9 then false else bif JA 14 (J0 a L) L == 10 then false else bif JA 14 (J0 a L) L == 11 then JiY a L else JA 14 (J0 a L) L == 12 && JiY a L
def kY:Int:= bif JA 14 (J0 a L) L == 0 then J0 (J0 (J0 (J0 (J0 a L) L) L) L) L else bif bif Jx a L then Jx a L else bif Jv a L then Jv a L else bif Ju a L then Ju a L else JA 14 (J0 a L) L == 4 then J0 (J0 (J0 (J0 (J0 (J0 (J0 (J0 a L) L) L) L) L) L) L) L else bif bif Jw a L then Jw a L else JA 14 (J0 a L) L == 6 then J0 (J0 (J0 (J0 (J0 (J0 (J0 (J0 (J0 (JZ (J0 (J0 (J0 a L) L) L) L) L) L) L) L) L) L) L) L) L else bif JA 14 (J0 a L) L == 7 then J0 (J0 (J0 (J0 (J0 (J0 a L) L) L) L) L) L else bif JA 14 (J0 a L) L == 8 then J0 (J0 (J0 (J0 (J0 (J0 (J0 a L) L) L) L) L) L) L else bif JA 14 (J0 a L) L == 9 then J0 (J0 (J0 a L) L) L else bif JA 14 (J0 a L) L == 10 then bif decide (JK 3 5 (J0 (J0 a L) L) L < 5) then J0 (J0 (J0 (J0 a L) L) L) L else J0 (J0 (J0 a L) L) L else bif JA 14 (J0 a L) L == 11 then J0 (J0 (J0 (J0 a L) L) L) L else bif JA 14 (J0 a L) L == 12 then J0 (J0 (J0 (J0 a L) L) L) L else J0 (J0 (J0 a L) L) L
def JiW:Prop:= 0 ≤ J0 (J0 (J0 a L) L) L ∧ L.length ≤ 1000000 ∧ Int.ofNat 2 ≠ 0
def JEU:List Prop:= [0 ≤ a,L.length ≤ 1000000,Int.ofNat 30 ≠ 0,0 ≤ J0 a L,L.length ≤ 1000000,Int.ofNat 14 ≠ 0, (JA 14 (J0 a L) L == 0) = true → 0 ≤ J0 (J0 a L) L ∧ L.length ≤ 1000000 ∧ Int.ofNat 0 ≤ 300 ∧ Int.ofNat 300 ≤ 1000000, (JA 14 (J0 a L) L == 0) = false → ((bif Jx a L then Jx a L else bif Jv a L then Jv a L else bif Ju a L then Ju a L else JA 14 (J0 a L) L == 4) = true → 0 ≤ J0 (J0 a L) L ∧ L.length ≤ 1000000 ∧ (Int.ofNat 0 ≤ 300 ∧ Int.ofNat 300 ≤ 1000000) ∧ 0 ≤ J0 (J0 (J0 (J0 (J0 a L) L) L) L) L ∧ L.length ≤ 1000000 ∧ (Int.ofNat 1 ≤ 90000 ∧ -1000000 ≤ 1 ∧ Int.ofNat 90000 ≤ 1000000) ∧ 0 ≤ J0 (J0 (J0 (J0 (J0 (J0 a L) L) L) L) L) L ∧ L.length ≤ 1000000 ∧ Int.ofNat 5 ≠ 0 ∧ 0 ≤ J0 (J0 (J0 (J0 (J0 (J0 (J0 a L) L) L) L) L) L) L ∧ L.length ≤ 1000000 ∧ Int.ofNat 50 ≠ 0) ∧ ((bif Jx a L then Jx a L else bif Jv a L then Jv a L else bif Ju a L then Ju a L else JA 14 (J0 a L) L == 4) = false → ((bif Jw a L then Jw a L else JA 14 (J0 a L) L == 6) = true → 0 ≤ J0 (J0 a L) L ∧ L.length ≤ 1000000) ∧ ((bif Jw a L then Jw a L else JA 14 (J0 a L) L == 6) = false → ((JA 14 (J0 a L) L == 7) = true → 0 ≤ J0 (J0 a L) L ∧ L.length ≤ 1000000 ∧ (Int.ofNat 0 ≤ 300 ∧ Int.ofNat 300 ≤ 1000000) ∧ 0 ≤ J0 (J0 (J0 (J0 (J0 a L) L) L) L) L ∧ L.length ≤ 1000000 ∧ Int.ofNat 1 ≤ 90000 ∧ -1000000 ≤ 1 ∧ Int.ofNat 90000 ≤ 1000000) ∧ ((JA 14 (J0 a L) L == 7) = false → ((JA 14 (J0 a L) L == 8) = true → 0 ≤ J0 (J0 a L) L ∧ L.length ≤ 1000000 ∧ (Int.ofNat 0 ≤ 300 ∧ Int.ofNat 300 ≤ 1000000) ∧ 0 ≤ J0 (J0 (J0 (J0 (J0 a L) L) L) L) L ∧ L.length ≤ 1000000 ∧ (Int.ofNat 1 ≤ 9000 ∧ -1000000 ≤ 1 ∧ Int.ofNat 9000 ≤ 1000000) ∧ 0 ≤ J0 (J0 (J0 (J0 (J0 (J0 a L) L) L) L) L) L ∧ L.length ≤ 1000000 ∧ Int.ofNat 3 ≤ 4 ∧ -1000000 ≤ 3 ∧ Int.ofNat 4 ≤ 1000000) ∧ ((JA 14 (J0 a L) L == 8) = false → ((JA 14 (J0 a L) L == 9) = true → 0 ≤ J0 (J0 a L) L ∧ L.length ≤ 1000000 ∧ Int.ofNat 100 ≠ 0) ∧ ((JA 14 (J0 a L) L == 9) = false → ((JA 14 (J0 a L) L == 10) = true → 0 ≤ J0 (J0 a L) L ∧ L.length ≤ 1000000 ∧ (Int.ofNat 3 ≤ 5 ∧ -1000000 ≤ 3 ∧ Int.ofNat 5 ≤ 1000000) ∧ (decide (JK 3 5 (J0 (J0 a L) L) L < 5) = true → 0 ≤ J0 (J0 (J0 a L) L) L ∧ L.length ≤ 1000000 ∧ Int.ofNat 9000 ≠ 0)) ∧ ((JA 14 (J0 a L) L == 10) = false → ((JA 14 (J0 a L) L == 11) = true → 0 ≤ J0 (J0 a L) L ∧ L.length ≤ 1000000 ∧ (Int.ofNat 7 ≤ 8 ∧ -1000000 ≤ 7 ∧ Int.ofNat 8 ≤ 1000000) ∧ JiW a L) ∧ ((JA 14 (J0 a L) L == 11) = false → ((JA 14 (J0 a L) L == 12) = true → 0 ≤ J0 (J0 a L) L ∧ L.length ≤ 1000000 ∧ Int.ofNat 16 ≠ 0 ∧ JiW a L) ∧
 ((JA 14 (J0 a L) L == 12) = false → 0 ≤ J0 (J0 a L) L ∧ L.length ≤ 1000000 ∧ Int.ofNat 3 ≠ 0 ∧ 0 ≤ JA 3 (J0 (J0 a L) L) L ∧ (JA 3 (J0 (J0 a L) L) L).toNat < 3 ∧ (JA 3 (J0 (J0 a L) L) L).toNat < 3))))))))]
end
theorem Jmd {a:Int} {L:LL} (hW:∀ q ∈ ([0 ≤ a,L.length ≤ 1000000]:List Prop),q):∀ q ∈ (JEU a L),q := by
  simp only [awc,awn,and_true] at hW
  unfold JEU
  simp only [awc,awn,and_true]
  obtain ⟨h1,h2⟩ := hW
  have nn:∀ x,0 ≤ x → 0 ≤ J0 x L := fun x h => KM x L h h2
  have r3:∀ x,0 ≤ JA 3 x L ∧ (JA 3 x L).toNat < 3 := fun x => by have := Y1 3 x L (by omega) (by omega); omega
  have sp:∀ x,0 ≤ x → 0 ≤ JZ x L := fun x h => JHk h h2
  repeat' first | exact h2 | exact h1 | exact (r3 _).1 | exact (r3 _).2 | refine nn _ ?_ | refine sp _ ?_ | decide | refine And.intro ?_ ?_ | intro _
theorem JkZ (x y z a:Int) (L:LL) (hNeeds:∀ pN ∈ (JEU a L),pN):Runs (Jm (JC Jl7) JMO 28) (JEr.args [.i x,.i y,.i z,.i a]) (JEr.memo [.i x,.i y,.i z,.i a] [L]) JEr.n (SV.agg
    [SC.int IntKind.i64 (SI.v (WL a L)),SC.int IntKind.i64 (SI.v (JKr a L)),SC.int IntKind.i64 (SI.v (KF x a L)),SC.int IntKind.i64 (SI.v (KF y a L)),
     SC.int IntKind.i64 (SI.v (KF z a L)),SC.int IntKind.i64 (SI.v (JDk x a L)),SC.int IntKind.i64 (SI.v (JDm y a L)),SC.int IntKind.i64 (SI.v (JES z a L)),
     SC.int IntKind.i64 (SI.v (JKz a L)),SC.int IntKind.i64 (SI.v (JL4 x a L)),SC.int IntKind.i64 (SI.v (JFC y a L)),SC.int IntKind.i64 (SI.v (JFb z a L)),
     SC.int IntKind.i64 (SI.v (JFe a L)),SC.bool (SB.v (JEu a L)),SC.int IntKind.i64 (SI.v (JGl a L)),SC.bool (SB.v (JEj a L)),SC.int IntKind.i64 (SI.c 0),
     SC.int IntKind.i64 (SI.c 0),SC.int IntKind.i64 (SI.v (JG9 a L)),SC.int IntKind.i64 (SI.v (JFL a L)),SC.int IntKind.i64 (SI.v (JGQ a L)),SC.bool (SB.v (JEn a L))])
    ([(0,Obj.blk 57 [(2,SC.wh 1),(5054,SC.int IntKind.i64 (SI.v (kY a L)))]),(1,Obj.row true 3 1 (RowC.lst 4 [CK.int IntKind.i64] L))]) :=
  Runs.of1 (ps := (JEU a L)) (by kernel_rfl) hNeeds
def JQo:List Pm → Qs → Option CRes
  | [.i x,.i y,.i z,.i a],[L] => some ⟨SV.agg
    [SC.int IntKind.i64 (SI.v (WL a L)),SC.int IntKind.i64 (SI.v (JKr a L)),SC.int IntKind.i64 (SI.v (KF x a L)),SC.int IntKind.i64 (SI.v (KF y a L)),
     SC.int IntKind.i64 (SI.v (KF z a L)),SC.int IntKind.i64 (SI.v (JDk x a L)),SC.int IntKind.i64 (SI.v (JDm y a L)),SC.int IntKind.i64 (SI.v (JES z a L)),
     SC.int IntKind.i64 (SI.v (JKz a L)),SC.int IntKind.i64 (SI.v (JL4 x a L)),SC.int IntKind.i64 (SI.v (JFC y a L)),SC.int IntKind.i64 (SI.v (JFb z a L)),
     SC.int IntKind.i64 (SI.v (JFe a L)),SC.bool (SB.v (JEu a L)),SC.int IntKind.i64 (SI.v (JGl a L)),SC.bool (SB.v (JEj a L)),SC.int IntKind.i64 (SI.c 0),
     SC.int IntKind.i64 (SI.c 0),SC.int IntKind.i64 (SI.v (JG9 a L)),SC.int IntKind.i64 (SI.v (JFL a L)),SC.int IntKind.i64 (SI.v (JGQ a L)),SC.bool (SB.v (JEn a L))],
    [(0,Obj.blk 57 [(2,SC.wh 1),(5054,SC.int IntKind.i64 (SI.v (kY a L)))]),(1,Obj.row true 3 1 (RowC.lst 4 [CK.int IntKind.i64] L))],
    [0 ≤ a,L.length ≤ 1000000],[],5090⟩
  | _,_ => none
theorem Jsv:Ql Tryz.prog 28 (JU JEr JQo) := by
  refine JI (JE JYR 28) fun ps ls r hr hn _ => ?_
  unfold JQo at hr
  split at hr
  · cases hr; exact ⟨_,JkZ _ _ _ _ _ (Jmd (by exact hn)),fun _ => rfl⟩
  · cases hr
def JGv:List (Nat × JY) := (28,JU JEr JQo) :: Jl7
theorem JTV:Known Tryz.prog (JC JGv) JMO := J7 JYR Jsv
end
end Go.Proofs.YtmbfbhimdkjkoaaGreat
