/- The contracts of the program's functions: part 1. -/
import Derived.Test.YthdomhdippmaiaaGreatSig
import Derived.Test.YthdomhdippmaiaaGreatDefs2
import Derived.Test.YthdomhdippmaiaaGreatHand
namespace Go.Ovl
open Go Go.Ab Go.Proofs
set_option maxRecDepth 100000
def c'0 : List CSh := [.int .i64, .int .i64, .int .i64, .int .i64, .flt .f64, .flt .f64, .flt .f64, .own 32768 103]
def c'1 : List CSh := [.int .i64, .int .i64, .int .i64, .int .i64, .flt .f64, .flt .f64, .flt .f64, .own 32769 103]
def c'2 : List CSh := [.int .i64, .int .i64, .int .i64, .int .i64, .int .i64, .int .i64, .int .i64, .int .i64, .int .i64]
def c'3 : List CSh := [.int .i64, .int .i64, .int .i64, .int .i64, .flt .f64, .flt .f64, .flt .f64, .ro 103]
def c'4 : List CSh := [.own 32768 3, .own 32769 4, .own 32770 4, .own 32771 98]
def c'5 : List CSh := [.str, .str, .int .i64]
def c'6 : List CSh := [.int .i64, .int .i64, .int .i64, .int .i64, .int .i64]
def c'7 : List CSh := [.int .i64, .int .i64, .int .i64, .int .i64, .bool]
def c'8 : List CSh := [.ro 3, .ro 4, .ro 4, .ro 98]
def c'9 : List CSh := [.own 32769 3, .own 32770 4, .own 32771 4, .own 32772 98]
def c'10 : List CSh := [.own 32773 3, .own 32774 4, .own 32775 4, .own 32776 98]
def c'11 : List CSh := [.own 32772 3, .own 32773 4, .own 32774 4, .own 32775 98]
def c'12 : List CSh := [.np 65536 171, .own 32768 5]
def c'13 : List CSh := [.np 65536 171, .ro 5]
def c'14 : List CSh := [.np 176 171, .own 32769 5]
def c'15 : List CSh := [.np 176 171, .own 32768 5]
def c'16 : List CSh := [.int .i64, .int .i64, .int .i64, .own 32768 137, .int .i64, .bool]
def c'17 : List CSh := [.own 32768 3, .own 32769 4, .own 32770 4, .own 32771 98, .str, .str, .int .i64, .own 32772 78, .own 32773 62, .own 32774 71, .own 32775 80, .own 32776 3, .own 32777 82, .int .i64, .int .i64, .int .i64]
def c'18 : List CSh := [.own 32778 3, .own 32779 4, .own 32780 4, .own 32781 98, .str, .str, .int .i64, .own 32782 78, .own 32783 62, .own 32784 71, .own 32785 80, .own 32786 3, .own 32787 82, .int .i64, .int .i64, .int .i64]
def c'19 : List CSh := [.int .i64, .int .i64, .int .i64, .ro 137, .int .i64, .bool]
def c'20 : List CSh := [.ro 3, .ro 4, .ro 4, .ro 98, .str, .str, .int .i64, .ro 78, .ro 62, .ro 71, .ro 80, .ro 3, .ro 82, .int .i64, .int .i64, .int .i64]
def c'21 : List CSh := [.own 32768 3, .own 32769 4, .own 32770 4, .ro 98]
def c'22 : List CSh := [.own 32771 3, .own 32772 4, .own 32773 4, .own 32774 98]
def c'23 : List CSh := [.ro 3, .ro 4, .ro 4, .ro 98, .str, .str, .int .i64, .own 32768 78, .own 32769 62, .own 32770 71, .own 32771 80, .own 32772 3, .own 32773 82, .int .i64, .int .i64, .int .i64]
def c'24 : List CSh := [.ro 3, .ro 4, .ro 4, .ro 98, .str, .str, .int .i64, .own 32778 78, .own 32779 62, .own 32780 71, .own 32781 80, .own 32782 3, .own 32783 82, .int .i64, .int .i64, .int .i64]
def c'25 : List CSh := [.int .u32, .bool, .bool, .bool, .bool, .int .i64, .int .i64, .int .i64, .int .i64, .int .i64, .int .i64, .int .i64, .int .i64, .int .i64, .int .i64, .int .i64, .int .i64, .int .i64, .int .i64, .int .i64, .int .i64, .int .i64, .int .i64, .int .i64, .int .i64, .int .i64, .int .i64, .int .i64, .int .i64, .int .i64, .int .i64, .int .i64, .int .i64, .int .i64, .int .i64, .int .i64, .int .i64, .int .i64, .int .i64, .int .i64, .int .i64]
def c'26 : List CSh := [.int .i64, .int .i64, .int .i64, .int .i64, .int .i64, .int .i64, .int .i64, .int .i64, .int .i64, .int .i64, .int .i64, .int .i64, .int .i64, .int .i64, .int .i64, .int .i64, .int .i64, .int .i64, .int .i64, .int .i64, .int .i64, .int .i64, .int .i64, .int .i64, .int .i64, .int .i64, .int .i64, .int .i64, .int .i64, .int .i64, .int .i64, .int .i64, .int .i64, .int .i64, .int .i64, .int .i64]
def c'27 : List CSh := [.int .i64, .int .i64, .int .i64]
def c'28 : List CSh := [.int .i64, .int .i64]
def c'29 : List CSh := [.int .i64, .int .i64, .int .i64, .bool, .int .i64]
def c'30 : List CSh := [.int .i64, .int .i64, .int .i64, .int .i64, .int .i64, .bool, .int .i64, .int .i64, .int .i64, .int .i64, .int .u32, .int .i64, .int .i64, .bool]
def c'31 : List CSh := [.int .u8, .int .u8, .int .u8]
theorem cx : Ctx Tryz.prog G := ⟨sigOK, eqOK, hmix⟩
def I0 : Sp := ⟨[(0, oi64), (1, oi64)], [], []⟩
def E0 : SL := [(.ret, ⟨[(4, op 64)], [(64, c'0)], []⟩)]
def S0_0 : Sp := ⟨[(0, oi64), (1, oi64), (4, op 64), (5, op 80), (6, oi64)], [(64, c'0), (80, c'1)], []⟩
def X0_0 : SL := [(.exit 0, ⟨[(4, op 64), (5, op 80)], [(64, c'0), (80, c'1)], []⟩)]
def J0 : Nat → Option SL := jl []
noncomputable def P0 : Nat → St G → M (Ex × St G) := pl [lpX S0_0 X0_0 ngh']
theorem l0_0 : LoopOK Tryz.prog G 24 (P0 0) (nj' (ng' Tryz.f22) 0) := lk cx tn J0 1 S0_0 X0_0 (rfl : ngh' = _) (by kernel_rfl) (an0 (by kernel_rfl)) fun x => by kernel_rfl
noncomputable def e0 : Fe G := ⟨I0, E0, fun x => nkq' x.1.1 x.1.2.1, Tryz.f22.results.toList⟩
theorem k0 : FnOK Tryz.prog G 22 e0 := fk cx tn J0 (lp := P0) Tryz.func22 (by kernel_rfl) (by kernel_rfl) rfl (nk' _ (by kernel_rfl) (ni' l0_0 nr')) fun x => by kernel_rfl
def I1 : Sp := ⟨[(0, ou8), (1, ou8)], [], []⟩
def E1 : SL := [(.ret, ⟨[(4, op 64)], [(64, c'0)], []⟩)]
noncomputable def e1 : Fe G := ⟨I1, E1, fun x => nc5' x.1.1 x.1.2.1, Tryz.f7.results.toList⟩
theorem k1 : FnOK Tryz.prog G 7 e1 := fk cx (tc k0 tn) (jl []) (lp := (pl [])) Tryz.func7 (by kernel_rfl) (by kernel_rfl) rfl (an0 (by kernel_rfl)) fun x => by kernel_rfl
def I2 : Sp := ⟨[(0, oi64), (1, oi64), (2, oro 3)], [], []⟩
def E2 : SL := [(.ret, ⟨[(6, ob)], [], []⟩)]
def S2_0 : Sp := ⟨[(0, oi64), (1, oi64), (9, oro 3), (10, oi64), (11, oi64)], [], []⟩
def X2_0 : SL := [(.exit 0, ⟨[], [], []⟩), (.ret, ⟨[(6, ob)], [], []⟩)]
def J2 : Nat → Option SL := jl []
noncomputable def P2 : Nat → St G → M (Ex × St G) := pl [lpX S2_0 X2_0 nfi']
theorem l2_0 : LoopOK Tryz.prog G 24 (P2 0) (nj' (ng' Tryz.f91) 0) := lk cx tn J2 1 S2_0 X2_0 (rfl : nfi' = _) (by kernel_rfl) (an0 (by kernel_rfl)) fun x => by kernel_rfl
noncomputable def e2 : Fe G := ⟨I2, E2, fun x => nbc' x.1.1 x.1.2.1 x.1.2.2.1, Tryz.f91.results.toList⟩
theorem k2 : FnOK Tryz.prog G 91 e2 := fk cx tn J2 (lp := P2) Tryz.func91 (by kernel_rfl) (by kernel_rfl) rfl (nk' _ (by kernel_rfl) (ni' l2_0 nr')) fun x => by kernel_rfl
def I3 : Sp := ⟨[(0, .agg c'2), (1, oi64)], [], []⟩
def E3 : SL := [(.ret, ⟨[(4, ob)], [], []⟩)]
noncomputable def e3 : Fe G := ⟨I3, E3, fun x => ng8' x.1.1.1 x.1.1.2.1 x.1.1.2.2.1 x.1.1.2.2.2.1 x.1.1.2.2.2.2.1 x.1.1.2.2.2.2.2.1 x.1.1.2.2.2.2.2.2.1 x.1.1.2.2.2.2.2.2.2.1 x.1.1.2.2.2.2.2.2.2.2.1 x.1.2.1, Tryz.f92.results.toList⟩
theorem k3 : FnOK Tryz.prog G 92 e3 := fk cx (tc k2 tn) (jl [(1048577, [(.normal, ⟨[(4, ob)], [], []⟩)])]) (lp := (pl [])) Tryz.func92 (by kernel_rfl) (by kernel_rfl) rfl (an0 (by kernel_rfl)) fun x => by kernel_rfl
def I4 : Sp := ⟨[(0, .agg c'3)], [], []⟩
def E4 : SL := [(.ret, ⟨[(2, ob)], [], []⟩)]
noncomputable def e4 : Fe G := ⟨I4, E4, fun x => ng9' x.1.1.1 x.1.1.2.1 x.1.1.2.2.1 x.1.1.2.2.2.1 x.1.1.2.2.2.2.1 x.1.1.2.2.2.2.2.1 x.1.1.2.2.2.2.2.2.1 x.1.1.2.2.2.2.2.2.2.1, Tryz.f93.results.toList⟩
theorem k4 : FnOK Tryz.prog G 93 e4 := fk cx tn (jl [(1048577, [(.normal, ⟨[(2, ob)], [], []⟩)])]) (lp := (pl [])) Tryz.func93 (by kernel_rfl) (by kernel_rfl) rfl (an0 (by kernel_rfl)) fun x => by kernel_rfl
def I5 : Sp := ⟨[(0, .agg c'3)], [], []⟩
def E5 : SL := [(.ret, ⟨[(2, oi64)], [], []⟩)]
def S5_0 : Sp := ⟨[(1, op 16), (3, ob), (28, oro 103), (29, oi64), (30, oi64)], [(16, c'3)], []⟩
def X5_0 : SL := [(.exit 0, ⟨[(1, op 16), (3, ob)], [(16, c'3)], []⟩)]
def J5 : Nat → Option SL := jl [(1048581, [(.normal, ⟨[(1, op 16), (3, ob)], [(16, c'3)], []⟩)]), (1048585, [(.normal, ⟨[(1, op 16), (3, ob), (28, oro 103), (29, oi64), (30, oi64)], [(16, c'3)], []⟩)])]
noncomputable def P5 : Nat → St G → M (Ex × St G) := pl [lpX S5_0 X5_0 nf1']
theorem t5 : ∀ p ∈ [(91, e2), (92, e3), (93, e4)], FnOK Tryz.prog G p.1 p.2 := (tc k2 (tc k3 (tc k4 tn)))
theorem l5_0 : LoopOK Tryz.prog G 60 (P5 0) (nj' (ng' Tryz.f53) 0) := lk cx t5 J5 1 S5_0 X5_0 (rfl : nf1' = _) (by kernel_rfl) (an0 (by kernel_rfl)) fun x => by kernel_rfl
noncomputable def e5 : Fe G := ⟨I5, E5, fun x => nby' x.1.1.1 x.1.1.2.1 x.1.1.2.2.1 x.1.1.2.2.2.1 x.1.1.2.2.2.2.1 x.1.1.2.2.2.2.2.1 x.1.1.2.2.2.2.2.2.1 x.1.1.2.2.2.2.2.2.2.1, Tryz.f53.results.toList⟩
theorem k5 : FnOK Tryz.prog G 53 e5 := fk cx t5 J5 (lp := P5) Tryz.func53 (by kernel_rfl) (by kernel_rfl) rfl (nk' _ (by kernel_rfl) (ni' l5_0 nr')) fun x => by kernel_rfl
def I6 : Sp := ⟨[(0, .agg c'3)], [], []⟩
def E6 : SL := [(.ret, ⟨[(2, op 32)], [(32, c'4)], []⟩)]
noncomputable def e6 : Fe G := ⟨I6, E6, fun x => njl' x.1.1.1 x.1.1.2.1 x.1.1.2.2.1 x.1.1.2.2.2.1 x.1.1.2.2.2.2.1 x.1.1.2.2.2.2.2.1 x.1.1.2.2.2.2.2.2.1 x.1.1.2.2.2.2.2.2.2.1, Tryz.f112.results.toList⟩
theorem k6 : FnOK Tryz.prog G 112 e6 := fk cx (tc k5 tn) (jl []) (lp := (pl [])) Tryz.func112 (by kernel_rfl) (by kernel_rfl) rfl (an0 (by kernel_rfl)) fun x => by kernel_rfl
def I7 : Sp := ⟨[(0, .agg c'5)], [], []⟩
def E7 : SL := [(.ret, ⟨[(2, os)], [], []⟩)]
noncomputable def e7 : Fe G := ⟨I7, E7, fun x => nhw' x.1.1.1 x.1.1.2.1 x.1.1.2.2.1, Tryz.f114.results.toList⟩
theorem k7 : FnOK Tryz.prog G 114 e7 := fk cx tn (jl []) (lp := (pl [])) Tryz.func114 (by kernel_rfl) (by kernel_rfl) rfl (an0 (by kernel_rfl)) fun x => by kernel_rfl
def I8 : Sp := ⟨[(0, os)], [], []⟩
def E8 : SL := [(.ret, ⟨[(2, ou8)], [], []⟩)]
def S8_0 : Sp := ⟨[(0, os), (3, ou8), (7, oi64), (8, oi64)], [], []⟩
def X8_0 : SL := [(.exit 0, ⟨[(3, ou8)], [], []⟩)]
def S8_1 : Sp := ⟨[(0, os), (3, ou8), (7, oi64), (8, oi64), (16, oi64)], [], []⟩
def X8_1 : SL := [(.exit 2, ⟨[(0, os), (3, ou8), (7, oi64), (8, oi64)], [], []⟩)]
def J8 : Nat → Option SL := jl []
noncomputable def P8 : Nat → St G → M (Ex × St G) := pl [lpX S8_0 X8_0 nj6', lpX S8_1 X8_1 nkm']
theorem l8_1 : LoopOK Tryz.prog G 28 (P8 1) (nj' (ng' Tryz.f140) 1) := lk cx tn J8 2 S8_1 X8_1 (rfl : nkm' = _) (by kernel_rfl) (an0 (by kernel_rfl)) fun x => by kernel_rfl
theorem l8_0 : LoopOK Tryz.prog G 28 (P8 0) (nj' (ng' Tryz.f140) 0) := lk cx tn J8 1 S8_0 X8_0 (rfl : nj6' = _) (by kernel_rfl) (nk' _ (by kernel_rfl) (ni' l8_1 nr')) fun x => by kernel_rfl
noncomputable def e8 : Fe G := ⟨I8, E8, fun x => nkw' x.1.1, Tryz.f140.results.toList⟩
theorem k8 : FnOK Tryz.prog G 140 e8 := fk cx tn J8 (lp := P8) Tryz.func140 (by kernel_rfl) (by kernel_rfl) rfl (nk' _ (by kernel_rfl) (ni' l8_0 (ni' l8_1 nr'))) fun x => by kernel_rfl
def I9 : Sp := ⟨[(0, oi64), (1, oi64), (2, oi64)], [], []⟩
def E9 : SL := [(.ret, ⟨[(6, ob)], [], []⟩)]
noncomputable def e9 : Fe G := ⟨I9, E9, fun x => ngc' x.1.1 x.1.2.1 x.1.2.2.1, Tryz.f107.results.toList⟩
theorem k9 : FnOK Tryz.prog G 107 e9 := fk cx (tc k2 tn) (jl [(1048577, [(.normal, ⟨[(6, ob)], [], []⟩)])]) (lp := (pl [])) Tryz.func107 (by kernel_rfl) (by kernel_rfl) rfl (an0 (by kernel_rfl)) fun x => by kernel_rfl
def I10 : Sp := ⟨[(0, .agg c'3), (1, oi64), (2, oi64)], [], []⟩
def E10 : SL := [(.ret, ⟨[(6, ob)], [], []⟩)]
noncomputable def e10 : Fe G := ⟨I10, E10, fun x => nd1' x.1.1.1 x.1.1.2.1 x.1.1.2.2.1 x.1.1.2.2.2.1 x.1.1.2.2.2.2.1 x.1.1.2.2.2.2.2.1 x.1.1.2.2.2.2.2.2.1 x.1.1.2.2.2.2.2.2.2.1 x.1.2.1 x.1.2.2.1, Tryz.f81.results.toList⟩
theorem k10 : FnOK Tryz.prog G 81 e10 := fk cx (tc k5 (tc k9 tn)) (jl [(1048577, [(.normal, ⟨[(6, ob)], [], []⟩)])]) (lp := (pl [])) Tryz.func81 (by kernel_rfl) (by kernel_rfl) rfl (an0 (by kernel_rfl)) fun x => by kernel_rfl
def I11 : Sp := ⟨[(0, oi64), (1, oi64), (2, oi64)], [], []⟩
def E11 : SL := [(.ret, ⟨[(6, ob)], [], []⟩)]
noncomputable def e11 : Fe G := ⟨I11, E11, fun x => nco' x.1.1 x.1.2.1 x.1.2.2.1, Tryz.f151.results.toList⟩
theorem k11 : FnOK Tryz.prog G 151 e11 := fk cx tn (jl [(1048577, [(.normal, ⟨[(6, ob)], [], []⟩)])]) (lp := (pl [])) Tryz.func151 (by kernel_rfl) (by kernel_rfl) rfl (an0 (by kernel_rfl)) fun x => by kernel_rfl
def I12 : Sp := ⟨[(0, .agg c'3), (1, .agg c'6)], [], []⟩
def E12 : SL := [(.ret, ⟨[(4, ob)], [], []⟩)]
noncomputable def e12 : Fe G := ⟨I12, E12, fun x => ngy' x.1.1.1 x.1.1.2.1 x.1.1.2.2.1 x.1.1.2.2.2.1 x.1.1.2.2.2.2.1 x.1.1.2.2.2.2.2.1 x.1.1.2.2.2.2.2.2.1 x.1.1.2.2.2.2.2.2.2.1 x.1.2.1.1 x.1.2.1.2.1 x.1.2.1.2.2.1 x.1.2.1.2.2.2.1 x.1.2.1.2.2.2.2.1, Tryz.f139.results.toList⟩
theorem k12 : FnOK Tryz.prog G 139 e12 := fk cx (tc k5 (tc k10 (tc k11 tn))) (jl [(1048580, [(.normal, ⟨[(2, op 32), (3, op 48), (5, ob), (6, ob)], [(32, c'3), (48, c'6)], []⟩)]), (1048584, [(.normal, ⟨[(4, ob)], [], []⟩)]), (1048586, [(.normal, ⟨[(4, ob)], [], []⟩)]), (1048588, [(.normal, ⟨[(4, ob)], [], []⟩)]), (1048590, [(.normal, ⟨[(4, ob)], [], []⟩)]), (1048593, [(.normal, ⟨[(4, ob)], [], []⟩)])]) (lp := (pl [])) Tryz.func139 (by kernel_rfl) (by kernel_rfl) rfl (an0 (by kernel_rfl)) fun x => by kernel_rfl
def I13 : Sp := ⟨[(0, .agg c'3), (1, os)], [], []⟩
def E13 : SL := [(.ret, ⟨[(4, op 64), (5, oi64)], [(64, c'6)], []⟩)]
noncomputable def e13 : Fe G := ⟨I13, E13, fun x => nh0' x.1.1.1 x.1.1.2.1 x.1.1.2.2.1 x.1.1.2.2.2.1 x.1.1.2.2.2.2.1 x.1.1.2.2.2.2.2.1 x.1.1.2.2.2.2.2.2.1 x.1.1.2.2.2.2.2.2.2.1 x.1.2.1, Tryz.f132.results.toList⟩
theorem k13 : FnOK Tryz.prog G 132 e13 := fk cx (tc k5 (tc k8 (tc k12 tn))) (jl []) (lp := (pl [])) Tryz.func132 (by kernel_rfl) (by kernel_rfl) rfl (an0 (by kernel_rfl)) fun x => by kernel_rfl
def I14 : Sp := ⟨[(0, .agg c'3), (1, os)], [], []⟩
def E14 : SL := [(.ret, ⟨[(4, .one (.own 32768 92)), (5, oi64)], [], []⟩)]
def S14_0 : Sp := ⟨[(1, os), (2, op 32), (6, .one (.own 32768 92)), (7, oi64)], [(32, c'3)], []⟩
def X14_0 : SL := [(.exit 0, ⟨[(6, .one (.own 32768 92)), (7, oi64)], [], []⟩)]
def J14 : Nat → Option SL := jl []
noncomputable def P14 : Nat → St G → M (Ex × St G) := pl [lpX S14_0 X14_0 nh8']
theorem t14 : ∀ p ∈ [(132, e13)], FnOK Tryz.prog G p.1 p.2 := (tc k13 tn)
theorem l14_0 : LoopOK Tryz.prog G 35 (P14 0) (nj' (ng' Tryz.f113) 0) := lk cx t14 J14 1 S14_0 X14_0 (rfl : nh8' = _) (by kernel_rfl) (an0 (by kernel_rfl)) fun x => by kernel_rfl
noncomputable def e14 : Fe G := ⟨I14, E14, fun x => njd' x.1.1.1 x.1.1.2.1 x.1.1.2.2.1 x.1.1.2.2.2.1 x.1.1.2.2.2.2.1 x.1.1.2.2.2.2.2.1 x.1.1.2.2.2.2.2.2.1 x.1.1.2.2.2.2.2.2.2.1 x.1.2.1, Tryz.f113.results.toList⟩
theorem k14 : FnOK Tryz.prog G 113 e14 := fk cx t14 J14 (lp := P14) Tryz.func113 (by kernel_rfl) (by kernel_rfl) rfl (nk' _ (by kernel_rfl) (ni' l14_0 nr')) fun x => by kernel_rfl
def I15 : Sp := ⟨[(0, oi64)], [], []⟩
def E15 : SL := [(.ret, ⟨[(2, ob)], [], []⟩)]
noncomputable def e15 : Fe G := ⟨I15, E15, fun x => nh1' x.1.1, Tryz.f131.results.toList⟩
theorem k15 : FnOK Tryz.prog G 131 e15 := fk cx tn (jl []) (lp := (pl [])) Tryz.func131 (by kernel_rfl) (by kernel_rfl) rfl (an0 (by kernel_rfl)) fun x => by kernel_rfl
def I16 : Sp := ⟨[(0, oi64), (1, oi64)], [], []⟩
def E16 : SL := [(.ret, ⟨[(4, oi64)], [], []⟩)]
noncomputable def e16 : Fe G := ⟨I16, E16, fun x => nda' x.1.1 x.1.2.1, Tryz.f109.results.toList⟩
theorem k16 : FnOK Tryz.prog G 109 e16 := fk cx (tc k15 tn) (jl []) (lp := (pl [])) Tryz.func109 (by kernel_rfl) (by kernel_rfl) rfl (an0 (by kernel_rfl)) fun x => by kernel_rfl
def I17 : Sp := ⟨[(0, oro 3)], [], []⟩
def E17 : SL := [(.ret, ⟨[(2, oi64)], [], []⟩)]
def S17_0 : Sp := ⟨[(3, oi64), (6, oro 3), (7, oi64), (8, oi64)], [], []⟩
def X17_0 : SL := [(.exit 0, ⟨[(3, oi64)], [], []⟩), (.ret, ⟨[(2, oi64)], [], []⟩)]
def J17 : Nat → Option SL := jl []
noncomputable def P17 : Nat → St G → M (Ex × St G) := pl [lpX S17_0 X17_0 nin']
theorem l17_0 : LoopOK Tryz.prog G 18 (P17 0) (nj' (ng' Tryz.f108) 0) := lk cx tn J17 1 S17_0 X17_0 (rfl : nin' = _) (by kernel_rfl) (an0 (by kernel_rfl)) fun x => by kernel_rfl
noncomputable def e17 : Fe G := ⟨I17, E17, fun x => nia' x.1.1, Tryz.f108.results.toList⟩
theorem k17 : FnOK Tryz.prog G 108 e17 := fk cx tn J17 (lp := P17) Tryz.func108 (by kernel_rfl) (by kernel_rfl) rfl (nk' _ (by kernel_rfl) (ni' l17_0 nr')) fun x => by kernel_rfl
def I18 : Sp := ⟨[(0, .agg c'7), (1, .agg c'7)], [], []⟩
def E18 : SL := [(.ret, ⟨[(4, oi64)], [], []⟩)]
noncomputable def e18 : Fe G := ⟨I18, E18, fun x => nfm' x.1.1.1 x.1.1.2.1 x.1.1.2.2.1 x.1.1.2.2.2.1 x.1.1.2.2.2.2.1 x.1.2.1.1 x.1.2.1.2.1 x.1.2.1.2.2.1 x.1.2.1.2.2.2.1 x.1.2.1.2.2.2.2.1, Tryz.f105.results.toList⟩
theorem k18 : FnOK Tryz.prog G 105 e18 := fk cx (tc k16 (tc k17 tn)) (jl []) (lp := (pl [])) Tryz.func105 (by kernel_rfl) (by kernel_rfl) rfl (an0 (by kernel_rfl)) fun x => by kernel_rfl
def I19 : Sp := ⟨[(0, oro 98), (1, .agg c'7), (2, .one (.clo 105 [] []))], [], []⟩
def E19 : SL := [(.ret, ⟨[(6, oi64), (7, ob)], [], []⟩)]
def S19_0 : Sp := ⟨[(0, oro 98), (2, .one (.clo 105 [] [])), (4, op 64), (8, oi64), (9, oi64), (10, oi64)], [(64, c'7)], []⟩
def X19_0 : SL := [(.exit 0, ⟨[(0, oro 98), (2, .one (.clo 105 [] [])), (4, op 64), (8, oi64), (9, oi64)], [(64, c'7)], []⟩)]
def J19 : Nat → Option SL := jl [(1048584, [(.normal, ⟨[(6, oi64), (7, ob)], [], []⟩)])]
noncomputable def P19 : Nat → St G → M (Ex × St G) := pl [lpX S19_0 X19_0 nv']
theorem t19 : ∀ p ∈ [(105, e18)], FnOK Tryz.prog G p.1 p.2 := (tc k18 tn)
theorem l19_0 : LoopOK Tryz.prog G 49 (P19 0) (nj' (ng' Tryz.f148) 0) := lk cx t19 J19 1 S19_0 X19_0 (rfl : nv' = _) (by kernel_rfl) (an0 (by kernel_rfl)) fun x => by kernel_rfl
noncomputable def e19 : Fe G := ⟨I19, E19, fun x => n7' x.1.1 x.1.2.1.1 x.1.2.1.2.1 x.1.2.1.2.2.1 x.1.2.1.2.2.2.1 x.1.2.1.2.2.2.2.1, Tryz.f148.results.toList⟩
theorem k19 : FnOK Tryz.prog G 148 e19 := fk cx t19 J19 (lp := P19) Tryz.func148 (by kernel_rfl) (by kernel_rfl) rfl (nk' _ (by kernel_rfl) (ni' l19_0 nr')) fun x => by kernel_rfl
def I20 : Sp := ⟨[(0, .agg c'8), (1, oi64), (2, oi64)], [], []⟩
def E20 : SL := [(.ret, ⟨[(6, oi64), (7, ob)], [], []⟩)]
noncomputable def e20 : Fe G := ⟨I20, E20, fun x => nma' x.1.1.1 x.1.1.2.1 x.1.1.2.2.1 x.1.1.2.2.2.1 x.1.2.1 x.1.2.2.1, Tryz.f133.results.toList⟩
theorem k20 : FnOK Tryz.prog G 133 e20 := fk cx (tc k19 tn) (jl []) (lp := (pl [])) Tryz.func133 (by kernel_rfl) (by kernel_rfl) rfl (an0 (by kernel_rfl)) fun x => by kernel_rfl
def I21 : Sp := ⟨[(0, .one (.own 32768 98)), (1, oi64), (2, .one (.own 32769 98))], [], []⟩
def E21 : SL := [(.ret, ⟨[(6, .one (.own 32768 98))], [], []⟩)]
noncomputable def e21 : Fe G := ⟨I21, E21, fun x => ncu' x.1.1 x.1.2.1 x.1.2.2.1, Tryz.f134.results.toList⟩
theorem s21 : insFe G 6 98 = e21 := by kernel_rfl
theorem k21 : FnOK Tryz.prog G 134 e21 := s21 ▸ n3s' (r := 6) (t := 98) sigOK ⟨_, Tryz.func134, by kernel_rfl, by kernel_rfl⟩ (by intro h; cases h) (fun _ => rfl) (nr1')
def I22 : Sp := ⟨[(0, .one (.own 32768 98)), (1, oi64), (2, oi64)], [], []⟩
def E22 : SL := [(.ret, ⟨[(6, .one (.own 32768 98))], [], []⟩)]
noncomputable def e22 : Fe G := ⟨I22, E22, fun x => ncv' x.1.1 x.1.2.1 x.1.2.2.1, Tryz.f135.results.toList⟩
theorem s22 : delFe G 6 98 = e22 := by kernel_rfl
theorem k22 : FnOK Tryz.prog G 135 e22 := s22 ▸ n3l' (r := 6) (t := 98) sigOK ⟨_, Tryz.func135, by kernel_rfl, by kernel_rfl⟩ (by intro h; cases h) (fun _ => rfl) (nrz')
def I23 : Sp := ⟨[(0, op 65536), (1, .agg c'6)], [(65536, c'4)], []⟩
def E23 : SL := [(.normal, ⟨[], [(65536, c'4)], [65536]⟩)]
noncomputable def e23 : Fe G := ⟨I23, E23, fun x => nj8' x.1.2.1.1 x.1.2.1.2.1 x.1.2.1.2.2.1 x.1.2.1.2.2.2.1 x.1.2.1.2.2.2.2.1 x.2.1.1 x.2.1.2.1 x.2.1.2.2.1 x.2.1.2.2.2.1, Tryz.f115.results.toList⟩
theorem k23 : FnOK Tryz.prog G 115 e23 := fk cx (tc k20 (tc k21 (tc k22 tn))) (jl []) (lp := (pl [])) Tryz.func115 (by kernel_rfl) (by kernel_rfl) rfl (an0 (by kernel_rfl)) fun x => by kernel_rfl
def I24 : Sp := ⟨[(0, .agg c'3), (1, .agg c'5)], [], []⟩
def E24 : SL := [(.ret, ⟨[(4, op 64)], [(64, c'4)], []⟩)]
def S24_0 : Sp := ⟨[(4, op 64), (5, op 80), (19, .one (.own 32768 92)), (20, oi64), (21, oi64)], [(64, c'9), (80, c'10)], []⟩
def X24_0 : SL := [(.exit 0, ⟨[(4, op 64), (5, op 80)], [(64, c'4), (80, c'11)], []⟩)]
def J24 : Nat → Option SL := jl []
noncomputable def P24 : Nat → St G → M (Ex × St G) := pl [lpX S24_0 X24_0 nim']
theorem t24 : ∀ p ∈ [(112, e6), (114, e7), (113, e14), (115, e23)], FnOK Tryz.prog G p.1 p.2 := (tc k6 (tc k7 (tc k14 (tc k23 tn))))
theorem l24_0 : LoopOK Tryz.prog G 29 (P24 0) (nj' (ng' Tryz.f86) 0) := lk cx t24 J24 1 S24_0 X24_0 (rfl : nim' = _) (by kernel_rfl) (an0 (by kernel_rfl)) fun x => by kernel_rfl
noncomputable def e24 : Fe G := ⟨I24, E24, fun x => nj9' x.1.1.1 x.1.1.2.1 x.1.1.2.2.1 x.1.1.2.2.2.1 x.1.1.2.2.2.2.1 x.1.1.2.2.2.2.2.1 x.1.1.2.2.2.2.2.2.1 x.1.1.2.2.2.2.2.2.2.1 x.1.2.1.1 x.1.2.1.2.1 x.1.2.1.2.2.1, Tryz.f86.results.toList⟩
theorem k24 : FnOK Tryz.prog G 86 e24 := fk cx t24 J24 (lp := P24) Tryz.func86 (by kernel_rfl) (by kernel_rfl) rfl (nk' _ (by kernel_rfl) (ni' l24_0 nr')) fun x => by kernel_rfl
def I25 : Sp := ⟨[(0, oi64), (1, .agg c'5)], [], []⟩
def E25 : SL := [(.ret, ⟨[(4, ob)], [], []⟩)]
noncomputable def e25 : Fe G := ⟨I25, E25, fun x => nde' x.1.1 x.1.2.1.1 x.1.2.1.2.1 x.1.2.1.2.2.1, Tryz.f30.results.toList⟩
theorem k25 : FnOK Tryz.prog G 30 e25 := fk cx tn (jl [(1048577, [(.normal, ⟨[(4, ob)], [], []⟩)])]) (lp := (pl [])) Tryz.func30 (by kernel_rfl) (by kernel_rfl) rfl (an0 (by kernel_rfl)) fun x => by kernel_rfl
def I26 : Sp := ⟨[(0, .agg c'3), (1, .agg c'7)], [], []⟩
def E26 : SL := [(.ret, ⟨[(4, ob)], [], []⟩)]
noncomputable def e26 : Fe G := ⟨I26, E26, fun x => njb' x.1.1.1 x.1.1.2.1 x.1.1.2.2.1 x.1.1.2.2.2.1 x.1.1.2.2.2.2.1 x.1.1.2.2.2.2.2.1 x.1.1.2.2.2.2.2.2.1 x.1.1.2.2.2.2.2.2.2.1 x.1.2.1.1 x.1.2.1.2.1 x.1.2.1.2.2.1 x.1.2.1.2.2.2.1 x.1.2.1.2.2.2.2.1, Tryz.f104.results.toList⟩
theorem k26 : FnOK Tryz.prog G 104 e26 := fk cx (tc k10 tn) (jl [(1048577, [(.normal, ⟨[(4, ob)], [], []⟩)])]) (lp := (pl [])) Tryz.func104 (by kernel_rfl) (by kernel_rfl) rfl (an0 (by kernel_rfl)) fun x => by kernel_rfl
def I27 : Sp := ⟨[(0, .agg c'3), (1, .agg c'8)], [], []⟩
def E27 : SL := [(.ret, ⟨[(4, ob)], [], []⟩)]
def S27_0 : Sp := ⟨[(2, op 32), (3, op 48), (38, oro 3), (39, oi64), (40, oi64)], [(32, c'3), (48, c'8)], []⟩
def X27_0 : SL := [(.exit 0, ⟨[(2, op 32), (3, op 48)], [(32, c'3), (48, c'8)], []⟩), (.ret, ⟨[(4, ob)], [], []⟩)]
def S27_1 : Sp := ⟨[(2, op 32), (3, op 48), (52, oro 98), (53, oi64), (54, oi64)], [(32, c'3), (48, c'8)], []⟩
def X27_1 : SL := [(.exit 2, ⟨[], [], []⟩), (.ret, ⟨[(4, ob)], [], []⟩)]
def J27 : Nat → Option SL := jl [(1048589, [(.normal, ⟨[(2, op 32), (3, op 48), (52, oro 98), (53, oi64), (54, oi64), (77, ob)], [(32, c'3), (48, c'8)], []⟩)])]
noncomputable def P27 : Nat → St G → M (Ex × St G) := pl [lpX S27_0 X27_0 nh5', lpX S27_1 X27_1 nh7']
theorem t27 : ∀ p ∈ [(53, e5), (104, e26), (105, e18)], FnOK Tryz.prog G p.1 p.2 := (tc k5 (tc k26 (tc k18 tn)))
theorem l27_1 : LoopOK Tryz.prog G 79 (P27 1) (nj' (ng' Tryz.f74) 1) := lk cx t27 J27 2 S27_1 X27_1 (rfl : nh7' = _) (by kernel_rfl) (an0 (by kernel_rfl)) fun x => by kernel_rfl
theorem l27_0 : LoopOK Tryz.prog G 79 (P27 0) (nj' (ng' Tryz.f74) 0) := lk cx t27 J27 1 S27_0 X27_0 (rfl : nh5' = _) (by kernel_rfl) (an0 (by kernel_rfl)) fun x => by kernel_rfl
noncomputable def e27 : Fe G := ⟨I27, E27, fun x => nfs' x.1.1.1 x.1.1.2.1 x.1.1.2.2.1 x.1.1.2.2.2.1 x.1.1.2.2.2.2.1 x.1.1.2.2.2.2.2.1 x.1.1.2.2.2.2.2.2.1 x.1.1.2.2.2.2.2.2.2.1 x.1.2.1.1 x.1.2.1.2.1 x.1.2.1.2.2.1 x.1.2.1.2.2.2.1, Tryz.f74.results.toList⟩
theorem k27 : FnOK Tryz.prog G 74 e27 := fk cx t27 J27 (lp := P27) Tryz.func74 (by kernel_rfl) (by kernel_rfl) rfl (nk' _ (by kernel_rfl) (ni' l27_0 (ni' l27_1 nr'))) fun x => by kernel_rfl
def I28 : Sp := ⟨[(0, oi64), (1, oi64), (2, op 65536), (3, op 65537)], [(65536, [.own 32768 92]), (65537, [.int .i64])], []⟩
def E28 : SL := [(.normal, ⟨[], [(65536, [.own 32768 92]), (65537, [.int .i64])], [65536, 65537]⟩)]
noncomputable def e28 : Fe G := ⟨I28, E28, fun x => nff' x.1.1 x.1.2.1 x.2.1.1 x.2.2.1.1, Tryz.f136.results.toList⟩
theorem k28 : FnOK Tryz.prog G 136 e28 := fk cx tn (jl []) (lp := (pl [])) Tryz.func136 (by kernel_rfl) (by kernel_rfl) rfl (an0 (by kernel_rfl)) fun x => by kernel_rfl
def I29 : Sp := ⟨[(0, ob)], [], []⟩
def E29 : SL := [(.ret, ⟨[(2, oi64)], [], []⟩)]
noncomputable def e29 : Fe G := ⟨I29, E29, fun x => ngo' x.1.1, Tryz.f137.results.toList⟩
theorem k29 : FnOK Tryz.prog G 137 e29 := fk cx tn (jl []) (lp := (pl [])) Tryz.func137 (by kernel_rfl) (by kernel_rfl) rfl (an0 (by kernel_rfl)) fun x => by kernel_rfl
def I30 : Sp := ⟨[(0, oi64), (1, oi64), (2, oi64), (3, op 65536), (4, op 65537)], [(65536, [.own 32768 92]), (65537, c'7)], []⟩
def E30 : SL := [(.normal, ⟨[], [(65536, [.own 32768 92]), (65537, c'7)], [65536, 65537]⟩)]
noncomputable def e30 : Fe G := ⟨I30, E30, fun x => nfd' x.1.1 x.1.2.1 x.1.2.2.1 x.2.1.1 x.2.2.1.1 x.2.2.1.2.1 x.2.2.1.2.2.1 x.2.2.1.2.2.2.1 x.2.2.1.2.2.2.2.1, Tryz.f138.results.toList⟩
theorem k30 : FnOK Tryz.prog G 138 e30 := fk cx tn (jl []) (lp := (pl [])) Tryz.func138 (by kernel_rfl) (by kernel_rfl) rfl (an0 (by kernel_rfl)) fun x => by kernel_rfl
def I31 : Sp := ⟨[(0, .agg c'3), (1, .agg c'8)], [], []⟩
def E31 : SL := [(.ret, ⟨[(4, .one (.own 32768 92))], [], []⟩)]
def S31_0 : Sp := ⟨[(3, op 48), (5, op 80), (17, oi64), (18, oi64)], [(48, c'8), (80, [.own 32768 92])], []⟩
def X31_0 : SL := [(.exit 0, ⟨[(3, op 48), (5, op 80)], [(48, c'8), (80, [.own 32768 92])], []⟩)]
def S31_1 : Sp := ⟨[(5, op 80), (47, oro 98), (48, oi64), (49, oi64)], [(80, [.own 32768 92])], []⟩
def X31_1 : SL := [(.exit 2, ⟨[(5, op 80)], [(80, [.own 32768 92])], []⟩)]
def J31 : Nat → Option SL := jl []
noncomputable def P31 : Nat → St G → M (Ex × St G) := pl [lpX S31_0 X31_0 ng2', lpX S31_1 X31_1 ng3']
theorem t31 : ∀ p ∈ [(74, e27), (136, e28), (137, e29), (138, e30)], FnOK Tryz.prog G p.1 p.2 := (tc k27 (tc k28 (tc k29 (tc k30 tn))))
theorem l31_1 : LoopOK Tryz.prog G 69 (P31 1) (nj' (ng' Tryz.f116) 1) := lk cx t31 J31 2 S31_1 X31_1 (rfl : ng3' = _) (by kernel_rfl) (an0 (by kernel_rfl)) fun x => by kernel_rfl
theorem l31_0 : LoopOK Tryz.prog G 69 (P31 0) (nj' (ng' Tryz.f116) 0) := lk cx t31 J31 1 S31_0 X31_0 (rfl : ng2' = _) (by kernel_rfl) (an0 (by kernel_rfl)) fun x => by kernel_rfl
noncomputable def e31 : Fe G := ⟨I31, E31, fun x => nio' x.1.1.1 x.1.1.2.1 x.1.1.2.2.1 x.1.1.2.2.2.1 x.1.1.2.2.2.2.1 x.1.1.2.2.2.2.2.1 x.1.1.2.2.2.2.2.2.1 x.1.1.2.2.2.2.2.2.2.1 x.1.2.1.1 x.1.2.1.2.1 x.1.2.1.2.2.1 x.1.2.1.2.2.2.1, Tryz.f116.results.toList⟩
theorem k31 : FnOK Tryz.prog G 116 e31 := fk cx t31 J31 (lp := P31) Tryz.func116 (by kernel_rfl) (by kernel_rfl) rfl (nk' _ (by kernel_rfl) (ni' l31_0 (ni' l31_1 nr'))) fun x => by kernel_rfl
def I32 : Sp := ⟨[(0, .agg c'3), (1, .agg c'6)], [], []⟩
def E32 : SL := [(.ret, ⟨[(4, os), (5, oi64)], [], []⟩)]
noncomputable def e32 : Fe G := ⟨I32, E32, fun x => nh2' x.1.1.1 x.1.1.2.1 x.1.1.2.2.1 x.1.1.2.2.2.1 x.1.1.2.2.2.2.1 x.1.1.2.2.2.2.2.1 x.1.1.2.2.2.2.2.2.1 x.1.1.2.2.2.2.2.2.2.1 x.1.2.1.1 x.1.2.1.2.1 x.1.2.1.2.2.1 x.1.2.1.2.2.2.1 x.1.2.1.2.2.2.2.1, Tryz.f117.results.toList⟩
theorem k32 : FnOK Tryz.prog G 117 e32 := fk cx (tc k12 (tc k8 tn)) (jl []) (lp := (pl [])) Tryz.func117 (by kernel_rfl) (by kernel_rfl) rfl (an0 (by kernel_rfl)) fun x => by kernel_rfl
def I33 : Sp := ⟨[(0, op 65536), (1, os)], [(65536, c'12)], []⟩
def E33 : SL := [(.ret, ⟨[(4, oi64), (5, .one (.nili))], [(65536, c'12)], [65536]⟩)]
noncomputable def e33 : Fe G := ⟨I33, E33, fun x => nc3' x.1.2.1 x.2.1.2.1, Tryz.f118.results.toList⟩
theorem s33 : wsFe G 4 5 171 5 (fun b => (b.toNat : Int)) = e33 := by kernel_rfl
theorem k33 : FnOK Tryz.prog G 118 e33 := s33 ▸ n38' (tb := 171) (te := 5) sigOK ⟨_, Tryz.func118, by kernel_rfl, by kernel_rfl⟩ (by intro h; cases h) (fun _ => rfl) (by kernel_rfl) (r0 := 4) (r1 := 5) (by decide) (ofB := fun b => (b.toNat : Int)) (fun _ => rfl) (fun b w a0 v ha hb n xs ho hne s h => nyv' b w a0 v ha hb n xs ho hne s h)
def I34 : Sp := ⟨[(0, oi64), (1, .agg c'5), (2, oi64), (3, oi64)], [], []⟩
def E34 : SL := [(.ret, ⟨[(8, oi64)], [], []⟩)]
noncomputable def e34 : Fe G := ⟨I34, E34, fun x => nfr' x.1.1 x.1.2.1.1 x.1.2.1.2.1 x.1.2.1.2.2.1 x.1.2.2.1 x.1.2.2.2.1, Tryz.f144.results.toList⟩
theorem k34 : FnOK Tryz.prog G 144 e34 := fk cx (tc k25 tn) (jl [(1048579, [(.normal, ⟨[(3, oi64), (14, ob)], [], []⟩)])]) (lp := (pl [])) Tryz.func144 (by kernel_rfl) (by kernel_rfl) rfl (an0 (by kernel_rfl)) fun x => by kernel_rfl
def I35 : Sp := ⟨[(0, op 65536), (1, op 65537)], [(65536, c'5), (65537, [.int .i64])], []⟩
def E35 : SL := [(.normal, ⟨[], [(65536, c'5), (65537, [.int .i64])], [65536, 65537]⟩)]
noncomputable def e35 : Fe G := ⟨I35, E35, fun x => nj3' x.2.1.1 x.2.1.2.1 x.2.1.2.2.1 x.2.2.1.1, Tryz.f143.results.toList⟩
theorem k35 : FnOK Tryz.prog G 143 e35 := fk cx tn (jl []) (lp := (pl [])) Tryz.func143 (by kernel_rfl) (by kernel_rfl) rfl (an0 (by kernel_rfl)) fun x => by kernel_rfl
def I36 : Sp := ⟨[(0, oi64), (1, .agg c'5), (2, oi64), (3, oi64), (4, .one (.clo 143 [] [(65536, 0)]))], [(65536, [.int .i64])], []⟩
def E36 : SL := [(.ret, ⟨[(10, op 160), (11, oi64), (12, oi64)], [(160, c'5), (65536, [.int .i64])], [65536]⟩)]
noncomputable def e36 : Fe G := ⟨I36, E36, fun x => new' x.1.1 x.1.2.1.1 x.1.2.1.2.1 x.1.2.1.2.2.1 x.1.2.2.1 x.1.2.2.2.1 x.2.1.1, Tryz.f142.results.toList⟩
theorem k36 : FnOK Tryz.prog G 142 e36 := fk cx (tc k34 (tc k35 tn)) (jl []) (lp := (pl [])) Tryz.func142 (by kernel_rfl) (by kernel_rfl) rfl (an0 (by kernel_rfl)) fun x => by kernel_rfl
def I37 : Sp := ⟨[(0, oi64), (1, .agg c'5), (2, oi64), (3, oi64)], [], []⟩
def E37 : SL := [(.ret, ⟨[(8, op 128), (9, oi64), (10, oi64)], [(128, c'5)], []⟩)]
noncomputable def e37 : Fe G := ⟨I37, E37, fun x => ni9' x.1.1 x.1.2.1.1 x.1.2.1.2.1 x.1.2.1.2.2.1 x.1.2.2.1 x.1.2.2.2.1, Tryz.f119.results.toList⟩
theorem k37 : FnOK Tryz.prog G 119 e37 := fk cx (tc k36 tn) (jl []) (lp := (pl [])) Tryz.func119 (by kernel_rfl) (by kernel_rfl) rfl (an0 (by kernel_rfl)) fun x => by kernel_rfl
def I38 : Sp := ⟨[(0, op 65536)], [(65536, c'12)], []⟩
def E38 : SL := [(.ret, ⟨[(2, os)], [(65536, c'13)], [65536]⟩)]
noncomputable def e38 : Fe G := ⟨I38, E38, fun x => ndw' x.2.1.2.1, Tryz.f121.results.toList⟩
theorem s38 : stFe G 2 171 5 = e38 := by kernel_rfl
theorem k38 : FnOK Tryz.prog G 121 e38 := s38 ▸ n33' (tb := 171) (te := 5) sigOK ⟨_, Tryz.func121, by kernel_rfl, by kernel_rfl⟩ (by intro h; cases h) (by kernel_rfl) (r0 := 2) (fun _ => rfl) (fun b w a0 g0 cap cur l h0 hb hg hn hc h63 hx => ny2' b w a0 g0 cap cur l h0 hb hg hn hc h63 hx)
def I39 : Sp := ⟨[(0, oi64), (1, .agg c'5), (2, oi64), (3, os), (4, oi64)], [], []⟩
def E39 : SL := [(.ret, ⟨[(10, op 160), (11, oi64), (12, oi64)], [(160, c'5)], []⟩)]
noncomputable def e39 : Fe G := ⟨I39, E39, fun x => njm' x.1.1 x.1.2.1.1 x.1.2.1.2.1 x.1.2.1.2.2.1 x.1.2.2.1 x.1.2.2.2.1 x.1.2.2.2.2.1, Tryz.f120.results.toList⟩
theorem k39 : FnOK Tryz.prog G 120 e39 := fk cx (tc k34 tn) (jl []) (lp := (pl [])) Tryz.func120 (by kernel_rfl) (by kernel_rfl) rfl (an0 (by kernel_rfl)) fun x => by kernel_rfl
def I40 : Sp := ⟨[(0, op 65536), (1, op 65537)], [(65536, c'5), (65537, [.int .i64])], []⟩
def E40 : SL := [(.normal, ⟨[], [(65536, c'5), (65537, [.int .i64])], [65536, 65537]⟩)]
noncomputable def e40 : Fe G := ⟨I40, E40, fun x => njq' x.2.1.1 x.2.1.2.1 x.2.1.2.2.1 x.2.2.1.1, Tryz.f145.results.toList⟩
theorem k40 : FnOK Tryz.prog G 145 e40 := fk cx tn (jl []) (lp := (pl [])) Tryz.func145 (by kernel_rfl) (by kernel_rfl) rfl (an0 (by kernel_rfl)) fun x => by kernel_rfl
def I41 : Sp := ⟨[(0, oi64), (1, .agg c'5), (2, oi64), (3, oi64), (4, .one (.clo 145 [] [(65536, 0)]))], [(65536, [.int .i64])], []⟩
def E41 : SL := [(.ret, ⟨[(10, op 160), (11, oi64), (12, oi64)], [(160, c'5), (65536, [.int .i64])], [65536]⟩)]
noncomputable def e41 : Fe G := ⟨I41, E41, fun x => nek' x.1.1 x.1.2.1.1 x.1.2.1.2.1 x.1.2.1.2.2.1 x.1.2.2.1 x.1.2.2.2.1 x.2.1.1, Tryz.f142.results.toList⟩
theorem k41 : FnOK Tryz.prog G 142 e41 := fk cx (tc k34 (tc k40 tn)) (jl []) (lp := (pl [])) Tryz.func142 (by kernel_rfl) (by kernel_rfl) rfl (an0 (by kernel_rfl)) fun x => by kernel_rfl
def I42 : Sp := ⟨[(0, oi64), (1, .agg c'5), (2, oi64), (3, oi64)], [], []⟩
def E42 : SL := [(.ret, ⟨[(8, op 128), (9, oi64), (10, oi64)], [(128, c'5)], []⟩)]
noncomputable def e42 : Fe G := ⟨I42, E42, fun x => nik' x.1.1 x.1.2.1.1 x.1.2.1.2.1 x.1.2.1.2.2.1 x.1.2.2.1 x.1.2.2.2.1, Tryz.f122.results.toList⟩
theorem k42 : FnOK Tryz.prog G 122 e42 := fk cx (tc k41 tn) (jl []) (lp := (pl [])) Tryz.func122 (by kernel_rfl) (by kernel_rfl) rfl (an0 (by kernel_rfl)) fun x => by kernel_rfl
def I43 : Sp := ⟨[(0, .agg c'3), (1, .agg c'5), (2, .agg c'8), (3, oi64)], [], []⟩
def E43 : SL := [(.ret, ⟨[(8, op 128), (9, oi64), (10, oi64)], [(128, c'5)], []⟩)]
def S43_0 : Sp := ⟨[(3, oi64), (4, op 64), (5, op 80), (8, op 128), (11, op 176), (36, .one (.own 32768 92)), (37, oi64), (38, oi64)], [(64, c'3), (80, c'5), (128, c'5), (176, c'14)], []⟩
def X43_0 : SL := [(.exit 0, ⟨[(3, oi64), (4, op 64), (5, op 80), (8, op 128), (11, op 176)], [(64, c'3), (80, c'5), (128, c'5), (176, c'15)], []⟩)]
def J43 : Nat → Option SL := jl [(15, [(.normal, ⟨[(3, oi64), (4, op 64), (5, op 80), (8, op 128), (16, oi64), (17, oi64)], [(64, c'3), (80, c'5), (128, c'5)], []⟩)])]
noncomputable def P43 : Nat → St G → M (Ex × St G) := pl [lpX S43_0 X43_0 nhz']
theorem t43 : ∀ p ∈ [(30, e25), (74, e27), (116, e31), (117, e32), (118, e33), (119, e37), (121, e38), (120, e39), (122, e42)], FnOK Tryz.prog G p.1 p.2 := (tc k25 (tc k27 (tc k31 (tc k32 (tc k33 (tc k37 (tc k38 (tc k39 (tc k42 tn)))))))))
theorem l43_0 : LoopOK Tryz.prog G 92 (P43 0) (nj' (ng' Tryz.f87) 0) := lk cx t43 J43 1 S43_0 X43_0 (rfl : nhz' = _) (by kernel_rfl) (an0 (by kernel_rfl)) fun x => by kernel_rfl
noncomputable def e43 : Fe G := ⟨I43, E43, fun x => ni6' x.1.1.1 x.1.1.2.1 x.1.1.2.2.1 x.1.1.2.2.2.1 x.1.1.2.2.2.2.1 x.1.1.2.2.2.2.2.1 x.1.1.2.2.2.2.2.2.1 x.1.1.2.2.2.2.2.2.2.1 x.1.2.1.1 x.1.2.1.2.1 x.1.2.1.2.2.1 x.1.2.2.1.1 x.1.2.2.1.2.1 x.1.2.2.1.2.2.1 x.1.2.2.1.2.2.2.1 x.1.2.2.2.1, Tryz.f87.results.toList⟩
theorem k43 : FnOK Tryz.prog G 87 e43 := fk cx t43 J43 (lp := P43) Tryz.func87 (by kernel_rfl) (by kernel_rfl) rfl (nk' _ (by kernel_rfl) (ni' l43_0 nr')) fun x => by kernel_rfl
def I44 : Sp := ⟨[(0, .agg c'3), (1, .agg c'5), (2, oi64)], [], []⟩
def E44 : SL := [(.ret, ⟨[(6, op 96), (7, op 112), (8, oi64), (9, oi64)], [(96, c'5), (112, c'4)], []⟩)]
noncomputable def e44 : Fe G := ⟨I44, E44, fun x => njf' x.1.1.1 x.1.1.2.1 x.1.1.2.2.1 x.1.1.2.2.2.1 x.1.1.2.2.2.2.1 x.1.1.2.2.2.2.2.1 x.1.1.2.2.2.2.2.2.1 x.1.1.2.2.2.2.2.2.2.1 x.1.2.1.1 x.1.2.1.2.1 x.1.2.1.2.2.1 x.1.2.2.1, Tryz.f51.results.toList⟩
theorem k44 : FnOK Tryz.prog G 51 e44 := fk cx (tc k24 (tc k43 tn)) (jl []) (lp := (pl [])) Tryz.func51 (by kernel_rfl) (by kernel_rfl) rfl (an0 (by kernel_rfl)) fun x => by kernel_rfl
def I45 : Sp := ⟨[(0, .agg c'3), (1, .agg c'8)], [], []⟩
def E45 : SL := [(.ret, ⟨[(4, ob)], [], []⟩)]
noncomputable def e45 : Fe G := ⟨I45, E45, fun x => nfb' x.1.1.1 x.1.1.2.1 x.1.1.2.2.1 x.1.1.2.2.2.1 x.1.1.2.2.2.2.1 x.1.1.2.2.2.2.2.1 x.1.1.2.2.2.2.2.2.1 x.1.1.2.2.2.2.2.2.2.1 x.1.2.1.1 x.1.2.1.2.1 x.1.2.1.2.2.1 x.1.2.1.2.2.2.1, Tryz.f29.results.toList⟩
theorem k45 : FnOK Tryz.prog G 29 e45 := fk cx (tc k27 tn) (jl [(1048577, [(.normal, ⟨[(4, ob)], [], []⟩)])]) (lp := (pl [])) Tryz.func29 (by kernel_rfl) (by kernel_rfl) rfl (an0 (by kernel_rfl)) fun x => by kernel_rfl
def I46 : Sp := ⟨[(0, oro 3)], [], []⟩
def E46 : SL := [(.ret, ⟨[(2, .one (.own 32768 3))], [], []⟩)]
noncomputable def e46 : Fe G := ⟨I46, E46, fun x => ne1' x.1.1, Tryz.f75.results.toList⟩
theorem s46 : cloFe G 2 3 = e46 := by kernel_rfl
theorem k46 : FnOK Tryz.prog G 75 e46 := s46 ▸ nus' (r := 2) (t := 3) sigOK ⟨_, Tryz.func75, by kernel_rfl, by kernel_rfl⟩ (tS := 33) (size := 1) (bytes := Tryz.t3.bytes) (by kernel_rfl) (by kernel_rfl) (Nat.le_of_ble_eq_true (by kernel_rfl)) (fun w a n c news => ny0' _ rfl (by kernel_rfl) w a n c news) (n0y')
def I47 : Sp := ⟨[(0, oro 4)], [], []⟩
def E47 : SL := [(.ret, ⟨[(2, .one (.own 32768 4))], [], []⟩)]
noncomputable def e47 : Fe G := ⟨I47, E47, fun x => ndc' x.1.1, Tryz.f76.results.toList⟩
theorem s47 : cloFe G 2 4 = e47 := by kernel_rfl
theorem k47 : FnOK Tryz.prog G 76 e47 := s47 ▸ nus' (r := 2) (t := 4) sigOK ⟨_, Tryz.func76, by kernel_rfl, by kernel_rfl⟩ (tS := 34) (size := 1) (bytes := Tryz.t4.bytes) (by kernel_rfl) (by kernel_rfl) (Nat.le_of_ble_eq_true (by kernel_rfl)) (fun w a n c news => nyy' _ rfl (by kernel_rfl) w a n c news) (n0h')
def I48 : Sp := ⟨[(0, oro 98)], [], []⟩
def E48 : SL := [(.ret, ⟨[(2, .one (.own 32768 98))], [], []⟩)]
noncomputable def e48 : Fe G := ⟨I48, E48, fun x => ncy' x.1.1, Tryz.f77.results.toList⟩
theorem s48 : cloFe G 2 98 = e48 := by kernel_rfl
theorem k48 : FnOK Tryz.prog G 77 e48 := s48 ▸ nus' (r := 2) (t := 98) sigOK ⟨_, Tryz.func77, by kernel_rfl, by kernel_rfl⟩ (tS := 35) (size := 5) (bytes := Tryz.t98.bytes) (by kernel_rfl) (by kernel_rfl) (Nat.le_of_ble_eq_true (by kernel_rfl)) (fun w a n c news => nyt' _ rfl (by kernel_rfl) w a n c news) (n0n')
def I49 : Sp := ⟨[(0, .agg c'8)], [], []⟩
def E49 : SL := [(.ret, ⟨[(2, op 32)], [(32, c'4)], []⟩)]
noncomputable def e49 : Fe G := ⟨I49, E49, fun x => nfe' x.1.1.1 x.1.1.2.1 x.1.1.2.2.1 x.1.1.2.2.2.1, Tryz.f31.results.toList⟩
theorem k49 : FnOK Tryz.prog G 31 e49 := fk cx (tc k46 (tc k47 (tc k48 tn))) (jl []) (lp := (pl [])) Tryz.func31 (by kernel_rfl) (by kernel_rfl) rfl (an0 (by kernel_rfl)) fun x => by kernel_rfl
def I50 : Sp := ⟨[], [], []⟩
def E50 : SL := [(.ret, ⟨[(0, op 0)], [(0, c'16)], []⟩)]
noncomputable def e50 : Fe G := ⟨I50, E50, fun _ => ng0', Tryz.f32.results.toList⟩
theorem k50 : FnOK Tryz.prog G 32 e50 := fk cx tn (jl []) (lp := (pl [])) Tryz.func32 (by kernel_rfl) (by kernel_rfl) rfl (an0 (by kernel_rfl)) fun x => by kernel_rfl
def I51 : Sp := ⟨[(0, .agg c'3), (1, .agg c'8), (2, .agg c'5)], [], []⟩
def E51 : SL := [(.ret, ⟨[(6, op 96), (7, oi64)], [(96, c'17)], []⟩)]
def S51_0 : Sp := ⟨[(3, op 48), (4, op 64), (6, op 96), (9, op 144), (42, oi64), (43, oi64)], [(48, c'3), (64, c'8), (96, c'17), (144, c'18)], []⟩
def X51_0 : SL := [(.exit 0, ⟨[(3, op 48), (4, op 64), (6, op 96), (9, op 144)], [(48, c'3), (64, c'8), (96, c'17), (144, c'18)], []⟩)]
def S51_1 : Sp := ⟨[(3, op 48), (6, op 96), (9, op 144), (53, oro 98), (54, oi64), (55, oi64)], [(48, c'3), (96, c'17), (144, c'18)], []⟩
def X51_1 : SL := [(.exit 2, ⟨[(6, op 96), (9, op 144)], [(96, c'17), (144, c'18)], []⟩)]
def J51 : Nat → Option SL := jl [(16, [(.normal, ⟨[(3, op 48), (6, op 96), (9, op 144), (12, oi64), (53, oro 98), (54, oi64), (55, oi64)], [(48, c'3), (96, c'17), (144, c'18)], []⟩)])]
noncomputable def P51 : Nat → St G → M (Ex × St G) := pl [lpX S51_0 X51_0 nex', lpX S51_1 X51_1 ney']
theorem t51 : ∀ p ∈ [(29, e45), (30, e25), (31, e49), (32, e50)], FnOK Tryz.prog G p.1 p.2 := (tc k45 (tc k25 (tc k49 (tc k50 tn))))
noncomputable def n5w' (_h_belief_New : (Unit × Unit) → Option ((Unit × Unit) × (T'29 × Unit))) (s53 : List (Entry)) (s54 s55 b_Floors b_Debounce b_Room b_Park : Int) (b_Empty b_Full b_Over : Nat) (b_Cars : List (Car)) (b6_Image_Phases : List (Int)) (b6_Image_Flags b6_Image_Leaving : List (Bool)) (b6_Image_Entries : List (Entry)) (b6_Store_Halves_0 b6_Store_Halves_1 : ByteArray) (b6_Store_Select : Int) (b6_Contacts : List (Debounced)) (b6_Beliefs : List (Belief)) (b6_Cars : List (NewCar)) (b6_Loads : List (Loaded)) (b6_Expect : List (Int)) (b6_Lit : List (Calls)) (b6_Tick b6_Faults b6_Refused : Int) (out_Image_Phases : List (Int)) (out_Image_Flags out_Image_Leaving : List (Bool)) (out_Image_Entries : List (Entry)) (out_Store_Halves_0 out_Store_Halves_1 : ByteArray) (out_Store_Select : Int) (out_Contacts : List (Debounced)) (out_Beliefs : List (Belief)) (out_Cars : List (NewCar)) (out_Loads : List (Loaded)) (out_Expect : List (Int)) (out_Lit : List (Calls)) (out_Tick out_Faults out_Refused : Int) : Option (Sum (T'34 × T'35) ((Unit × Unit × Unit) × (T'30 × T'30 × Unit))) :=
 bif (decide (s55 < s54)) then
 bif (inB s55 (List.length s53)) then
 let z0 : Entry := (List.getD s53 (Int.toNat s55) (Entry.mk (0 : Int) (0 : Int) (0 : Int) (0 : Int) false))
 Option.bind (bif (decide ((0 : Int) ≤ z0.Car)) then
 bif (inB z0.Car (List.length b_Cars)) then
 some (((), (), (), (List.getD b_Cars (Int.toNat z0.Car) (Car.mk (0 : Int) (0 : Int) (0 : Int) (0 : Int) (0 : Int) (0 : Int) (0 : Int) (0 : Int) (0 : Int))).Deadline, s53, s54, s55, ()), ((b_Floors, b_Debounce, b_Room, b_Park, b_Empty, b_Full, b_Over, b_Cars, ()), (b6_Image_Phases, b6_Image_Flags, b6_Image_Leaving, b6_Image_Entries, b6_Store_Halves_0, b6_Store_Halves_1, b6_Store_Select, b6_Contacts, b6_Beliefs, b6_Cars, b6_Loads, b6_Expect, b6_Lit, b6_Tick, b6_Faults, b6_Refused, ()), (out_Image_Phases, out_Image_Flags, out_Image_Leaving, out_Image_Entries, out_Store_Halves_0, out_Store_Halves_1, out_Store_Select, out_Contacts, out_Beliefs, out_Cars, out_Loads, out_Expect, out_Lit, out_Tick, out_Faults, out_Refused, ()), ()))
 else
 none
 else
 some (((), (), (), (0 : Int), s53, s54, s55, ()), ((b_Floors, b_Debounce, b_Room, b_Park, b_Empty, b_Full, b_Over, b_Cars, ()), (b6_Image_Phases, b6_Image_Flags, b6_Image_Leaving, b6_Image_Entries, b6_Store_Halves_0, b6_Store_Halves_1, b6_Store_Select, b6_Contacts, b6_Beliefs, b6_Cars, b6_Loads, b6_Expect, b6_Lit, b6_Tick, b6_Faults, b6_Refused, ()), (out_Image_Phases, out_Image_Flags, out_Image_Leaving, out_Image_Entries, out_Store_Halves_0, out_Store_Halves_1, out_Store_Select, out_Contacts, out_Beliefs, out_Cars, out_Loads, out_Expect, out_Lit, out_Tick, out_Faults, out_Refused, ()), ()))) fun y1 =>
 let z1 : List (Int) := [y1.1.2.2.2.1]
 bif (Nat.ble ((List.length y1.2.2.2.1.2.2.2.2.2.2.2.2.2.2.2.1) + (List.length z1)) 2147483648) then
 some (Sum.inl (((), (), (), y1.1.2.2.2.2.1, y1.1.2.2.2.2.2.1, (IntKind.i64.wrap (y1.1.2.2.2.2.2.2.1 + (1 : Int))), ()), (y1.2.1, y1.2.2.1, (y1.2.2.2.1.1, y1.2.2.2.1.2.1, y1.2.2.2.1.2.2.1, y1.2.2.2.1.2.2.2.1, y1.2.2.2.1.2.2.2.2.1, y1.2.2.2.1.2.2.2.2.2.1, y1.2.2.2.1.2.2.2.2.2.2.1, y1.2.2.2.1.2.2.2.2.2.2.2.1, y1.2.2.2.1.2.2.2.2.2.2.2.2.1, y1.2.2.2.1.2.2.2.2.2.2.2.2.2.1, y1.2.2.2.1.2.2.2.2.2.2.2.2.2.2.1, (y1.2.2.2.1.2.2.2.2.2.2.2.2.2.2.2.1 ++ z1), y1.2.2.2.1.2.2.2.2.2.2.2.2.2.2.2.2.1, y1.2.2.2.1.2.2.2.2.2.2.2.2.2.2.2.2.2.1, y1.2.2.2.1.2.2.2.2.2.2.2.2.2.2.2.2.2.2.1, y1.2.2.2.1.2.2.2.2.2.2.2.2.2.2.2.2.2.2.2.1, ()), ())))
 else
 none
 else
 none
 else
 some (Sum.inr (((), (), ()), ((b6_Image_Phases, b6_Image_Flags, b6_Image_Leaving, b6_Image_Entries, b6_Store_Halves_0, b6_Store_Halves_1, b6_Store_Select, b6_Contacts, b6_Beliefs, b6_Cars, b6_Loads, b6_Expect, b6_Lit, b6_Tick, b6_Faults, b6_Refused, ()), (out_Image_Phases, out_Image_Flags, out_Image_Leaving, out_Image_Entries, out_Store_Halves_0, out_Store_Halves_1, out_Store_Select, out_Contacts, out_Beliefs, out_Cars, out_Loads, out_Expect, out_Lit, out_Tick, out_Faults, out_Refused, ()), ())))
theorem g51_1 (h_belief_New : (Unit × Unit) → Option ((Unit × Unit) × (T'29 × Unit))) (x : S51_1.T G) : rndI (cfP [(29, e45), (30, e25), (31, e49), (32, Fe.mk (G := G) I50 E50 h_belief_New Tryz.f32.results.toList)]) P51 J51 77 2 (nj' (ng' Tryz.f11) 1) S51_1 X51_1 x = n5w' h_belief_New x.1.2.2.2.1 x.1.2.2.2.2.1 x.1.2.2.2.2.2.1 x.2.1.1 x.2.1.2.1 x.2.1.2.2.1 x.2.1.2.2.2.1 x.2.1.2.2.2.2.1 x.2.1.2.2.2.2.2.1 x.2.1.2.2.2.2.2.2.1 x.2.1.2.2.2.2.2.2.2.1 x.2.2.1.1 x.2.2.1.2.1 x.2.2.1.2.2.1 x.2.2.1.2.2.2.1 x.2.2.1.2.2.2.2.1 x.2.2.1.2.2.2.2.2.1 x.2.2.1.2.2.2.2.2.2.1 x.2.2.1.2.2.2.2.2.2.2.1 x.2.2.1.2.2.2.2.2.2.2.2.1 x.2.2.1.2.2.2.2.2.2.2.2.2.1 x.2.2.1.2.2.2.2.2.2.2.2.2.2.1 x.2.2.1.2.2.2.2.2.2.2.2.2.2.2.1 x.2.2.1.2.2.2.2.2.2.2.2.2.2.2.2.1 x.2.2.1.2.2.2.2.2.2.2.2.2.2.2.2.2.1 x.2.2.1.2.2.2.2.2.2.2.2.2.2.2.2.2.2.1 x.2.2.1.2.2.2.2.2.2.2.2.2.2.2.2.2.2.2.1 x.2.2.2.1.1 x.2.2.2.1.2.1 x.2.2.2.1.2.2.1 x.2.2.2.1.2.2.2.1 x.2.2.2.1.2.2.2.2.1 x.2.2.2.1.2.2.2.2.2.1 x.2.2.2.1.2.2.2.2.2.2.1 x.2.2.2.1.2.2.2.2.2.2.2.1 x.2.2.2.1.2.2.2.2.2.2.2.2.1 x.2.2.2.1.2.2.2.2.2.2.2.2.2.1 x.2.2.2.1.2.2.2.2.2.2.2.2.2.2.1 x.2.2.2.1.2.2.2.2.2.2.2.2.2.2.2.1 x.2.2.2.1.2.2.2.2.2.2.2.2.2.2.2.2.1 x.2.2.2.1.2.2.2.2.2.2.2.2.2.2.2.2.2.1 x.2.2.2.1.2.2.2.2.2.2.2.2.2.2.2.2.2.2.1 x.2.2.2.1.2.2.2.2.2.2.2.2.2.2.2.2.2.2.2.1 := by kernel_rfl
theorem l51_1 : LoopOK Tryz.prog G 77 (P51 1) (nj' (ng' Tryz.f11) 1) := lk cx t51 J51 2 S51_1 X51_1 (rfl : ney' = _) (by kernel_rfl) (an0 (by kernel_rfl)) fun x => (g51_1 (fun _ => ng0' ) x).trans (by kernel_rfl)
noncomputable def n50' (h_belief_New : (Unit × Unit) → Option ((Unit × Unit) × (T'29 × Unit))) (s42 s43 b_Floors b_Debounce b_Room b_Park : Int) (b_Empty b_Full b_Over : Nat) (b_Cars : List (Car)) (m_Phases : List (Int)) (m_Flags m_Leaving : List (Bool)) (m_Entries : List (Entry)) (b6_Image_Phases : List (Int)) (b6_Image_Flags b6_Image_Leaving : List (Bool)) (b6_Image_Entries : List (Entry)) (b6_Store_Halves_0 b6_Store_Halves_1 : ByteArray) (b6_Store_Select : Int) (b6_Contacts : List (Debounced)) (b6_Beliefs : List (Belief)) (b6_Cars : List (NewCar)) (b6_Loads : List (Loaded)) (b6_Expect : List (Int)) (b6_Lit : List (Calls)) (b6_Tick b6_Faults b6_Refused : Int) (out_Image_Phases : List (Int)) (out_Image_Flags out_Image_Leaving : List (Bool)) (out_Image_Entries : List (Entry)) (out_Store_Halves_0 out_Store_Halves_1 : ByteArray) (out_Store_Select : Int) (out_Contacts : List (Debounced)) (out_Beliefs : List (Belief)) (out_Cars : List (NewCar)) (out_Loads : List (Loaded)) (out_Expect : List (Int)) (out_Lit : List (Calls)) (out_Tick out_Faults out_Refused : Int) : Option (Sum (T'31 × T'32) (T'33 × T'32)) :=
 bif (decide (s43 < s42)) then
 (h_belief_New ((), ())).bind fun y1 =>
 let z0 : List (Belief) := [(Belief.mk y1.2.1.1 y1.2.1.2.1 y1.2.1.2.2.1 y1.2.1.2.2.2.1 y1.2.1.2.2.2.2.1 y1.2.1.2.2.2.2.2.1)]
 bif (Nat.ble ((List.length out_Beliefs) + (List.length z0)) 2147483648) then
 some (Sum.inl (((), (), (), (), s42, (IntKind.i64.wrap (s43 + (1 : Int))), ()), ((b_Floors, b_Debounce, b_Room, b_Park, b_Empty, b_Full, b_Over, b_Cars, ()), (m_Phases, m_Flags, m_Leaving, m_Entries, ()), (b6_Image_Phases, b6_Image_Flags, b6_Image_Leaving, b6_Image_Entries, b6_Store_Halves_0, b6_Store_Halves_1, b6_Store_Select, b6_Contacts, b6_Beliefs, b6_Cars, b6_Loads, b6_Expect, b6_Lit, b6_Tick, b6_Faults, b6_Refused, ()), (out_Image_Phases, out_Image_Flags, out_Image_Leaving, out_Image_Entries, out_Store_Halves_0, out_Store_Halves_1, out_Store_Select, out_Contacts, (out_Beliefs ++ z0), out_Cars, out_Loads, out_Expect, out_Lit, out_Tick, out_Faults, out_Refused, ()), ())))
 else
 none
 else
 some (Sum.inr (((), (), (), (), ()), ((b_Floors, b_Debounce, b_Room, b_Park, b_Empty, b_Full, b_Over, b_Cars, ()), (m_Phases, m_Flags, m_Leaving, m_Entries, ()), (b6_Image_Phases, b6_Image_Flags, b6_Image_Leaving, b6_Image_Entries, b6_Store_Halves_0, b6_Store_Halves_1, b6_Store_Select, b6_Contacts, b6_Beliefs, b6_Cars, b6_Loads, b6_Expect, b6_Lit, b6_Tick, b6_Faults, b6_Refused, ()), (out_Image_Phases, out_Image_Flags, out_Image_Leaving, out_Image_Entries, out_Store_Halves_0, out_Store_Halves_1, out_Store_Select, out_Contacts, out_Beliefs, out_Cars, out_Loads, out_Expect, out_Lit, out_Tick, out_Faults, out_Refused, ()), ())))
theorem g51_0 (h_belief_New : (Unit × Unit) → Option ((Unit × Unit) × (T'29 × Unit))) (x : S51_0.T G) : rndI (cfP [(29, e45), (30, e25), (31, e49), (32, Fe.mk (G := G) I50 E50 h_belief_New Tryz.f32.results.toList)]) P51 J51 77 1 (nj' (ng' Tryz.f11) 0) S51_0 X51_0 x = n50' h_belief_New x.1.2.2.2.2.1 x.1.2.2.2.2.2.1 x.2.1.1 x.2.1.2.1 x.2.1.2.2.1 x.2.1.2.2.2.1 x.2.1.2.2.2.2.1 x.2.1.2.2.2.2.2.1 x.2.1.2.2.2.2.2.2.1 x.2.1.2.2.2.2.2.2.2.1 x.2.2.1.1 x.2.2.1.2.1 x.2.2.1.2.2.1 x.2.2.1.2.2.2.1 x.2.2.2.1.1 x.2.2.2.1.2.1 x.2.2.2.1.2.2.1 x.2.2.2.1.2.2.2.1 x.2.2.2.1.2.2.2.2.1 x.2.2.2.1.2.2.2.2.2.1 x.2.2.2.1.2.2.2.2.2.2.1 x.2.2.2.1.2.2.2.2.2.2.2.1 x.2.2.2.1.2.2.2.2.2.2.2.2.1 x.2.2.2.1.2.2.2.2.2.2.2.2.2.1 x.2.2.2.1.2.2.2.2.2.2.2.2.2.2.1 x.2.2.2.1.2.2.2.2.2.2.2.2.2.2.2.1 x.2.2.2.1.2.2.2.2.2.2.2.2.2.2.2.2.1 x.2.2.2.1.2.2.2.2.2.2.2.2.2.2.2.2.2.1 x.2.2.2.1.2.2.2.2.2.2.2.2.2.2.2.2.2.2.1 x.2.2.2.1.2.2.2.2.2.2.2.2.2.2.2.2.2.2.2.1 x.2.2.2.2.1.1 x.2.2.2.2.1.2.1 x.2.2.2.2.1.2.2.1 x.2.2.2.2.1.2.2.2.1 x.2.2.2.2.1.2.2.2.2.1 x.2.2.2.2.1.2.2.2.2.2.1 x.2.2.2.2.1.2.2.2.2.2.2.1 x.2.2.2.2.1.2.2.2.2.2.2.2.1 x.2.2.2.2.1.2.2.2.2.2.2.2.2.1 x.2.2.2.2.1.2.2.2.2.2.2.2.2.2.1 x.2.2.2.2.1.2.2.2.2.2.2.2.2.2.2.1 x.2.2.2.2.1.2.2.2.2.2.2.2.2.2.2.2.1 x.2.2.2.2.1.2.2.2.2.2.2.2.2.2.2.2.2.1 x.2.2.2.2.1.2.2.2.2.2.2.2.2.2.2.2.2.2.1 x.2.2.2.2.1.2.2.2.2.2.2.2.2.2.2.2.2.2.2.1 x.2.2.2.2.1.2.2.2.2.2.2.2.2.2.2.2.2.2.2.2.1 := by kernel_rfl
theorem l51_0 : LoopOK Tryz.prog G 77 (P51 0) (nj' (ng' Tryz.f11) 0) := lk cx t51 J51 1 S51_0 X51_0 (rfl : nex' = _) (by kernel_rfl) (an0 (by kernel_rfl)) fun x => (g51_0 (fun _ => ng0' ) x).trans (by kernel_rfl)
noncomputable def H51 (_h_belief_New : (Unit × Unit) → Option ((Unit × Unit) × (T'29 × Unit))) (b_Floors b_Debounce b_Room b_Park : Int) (b_Empty b_Full b_Over : Nat) (b_Cars : List (Car)) (m_Phases : List (Int)) (m_Flags m_Leaving : List (Bool)) (m_Entries : List (Entry)) (s_Halves_0 s_Halves_1 : ByteArray) (s_Select : Int) : Option ((Unit × Int × Unit) × (T'30 × Unit)) :=
 (nfb' b_Floors b_Debounce b_Room b_Park b_Empty b_Full b_Over b_Cars m_Phases m_Flags m_Leaving m_Entries).bind fun y1 =>
 bif (!y1.1.1) then
 some (((), (1 : Int), ()), ((([] : List (Int)), ([] : List (Bool)), ([] : List (Bool)), ([] : List (Entry)), (ByteArray.mk (Array.mk [])), (ByteArray.mk (Array.mk [])), (0 : Int), ([] : List (Debounced)), ([] : List (Belief)), ([] : List (NewCar)), ([] : List (Loaded)), ([] : List (Int)), ([] : List (Calls)), (0 : Int), (0 : Int), (0 : Int), ()), ()))
 else
 (nde' b_Room s_Halves_0 s_Halves_1 s_Select).bind fun y2 =>
 bif (!y2.1.1) then
 some (((), (1 : Int), ()), ((([] : List (Int)), ([] : List (Bool)), ([] : List (Bool)), ([] : List (Entry)), (ByteArray.mk (Array.mk [])), (ByteArray.mk (Array.mk [])), (0 : Int), ([] : List (Debounced)), ([] : List (Belief)), ([] : List (NewCar)), ([] : List (Loaded)), ([] : List (Int)), ([] : List (Calls)), (0 : Int), (0 : Int), (0 : Int), ()), ()))
 else
 let z0 : Int := ((List.length b_Cars : Nat) : Int)
 (nfe' m_Phases m_Flags m_Leaving m_Entries).bind fun y3 =>
 bif (((decide ((0 : Int) ≤ z0)) && (decide (z0 ≤ z0))) && (decide (z0 ≤ (2147483648 : Int)))) then
 bif (((decide ((0 : Int) ≤ z0)) && (decide (z0 ≤ z0))) && (decide (z0 ≤ (2147483648 : Int)))) then
 bif (((decide ((0 : Int) ≤ z0)) && (decide (z0 ≤ z0))) && (decide (z0 ≤ (2147483648 : Int)))) then
 bif (((decide ((0 : Int) ≤ z0)) && (decide (z0 ≤ z0))) && (decide (z0 ≤ (2147483648 : Int)))) then
 (nex' (((), (), (), (), ((List.length b_Cars : Nat) : Int), (0 : Int), ()), ((b_Floors, b_Debounce, b_Room, b_Park, b_Empty, b_Full, b_Over, b_Cars, ()), (m_Phases, m_Flags, m_Leaving, m_Entries, ()), (([] : List (Int)), ([] : List (Bool)), ([] : List (Bool)), ([] : List (Entry)), (ByteArray.mk (Array.mk [])), (ByteArray.mk (Array.mk [])), (0 : Int), ([] : List (Debounced)), ([] : List (Belief)), ([] : List (NewCar)), ([] : List (Loaded)), ([] : List (Int)), ([] : List (Calls)), (0 : Int), (0 : Int), (0 : Int), ()), (y3.2.1.1, y3.2.1.2.1, y3.2.1.2.2.1, y3.2.1.2.2.2.1, s_Halves_0, s_Halves_1, s_Select, (List.replicate (Int.toNat z0) (Debounced.mk (0 : Int) false false false false (0 : Int) (0 : Int) (0 : Int) (0 : Int) (0 : Int) (0 : Int) (0 : Int) (0 : Int) (0 : Int) (0 : Int) (0 : Int) (0 : Int) (0 : Int) (0 : Int) (0 : Int) (0 : Int) (0 : Int) (0 : Int) (0 : Int) (0 : Int) (0 : Int) (0 : Int) (0 : Int) (0 : Int) (0 : Int) (0 : Int) (0 : Int) (0 : Int) (0 : Int) (0 : Int) (0 : Int) (0 : Int) (0 : Int) (0 : Int) (0 : Int) (0 : Int))), ([] : List (Belief)), (List.replicate (Int.toNat z0) (NewCar.mk (0 : Int) (0 : Int) (0 : Int) (0 : Int) (0 : Int) false (0 : Int) (0 : Int) (0 : Int) (0 : Int) (0 : Int) (0 : Int) (0 : Int) false)), (List.replicate (Int.toNat z0) (Loaded.mk (0 : Int))), ([] : List (Int)), (List.replicate (Int.toNat z0) (Calls.mk (0 : Int) (0 : Int))), (0 : Int), (0 : Int), (0 : Int), ()), ()))).bind fun y4 =>
 (ney' (((), (), (), y4.2.2.1.2.2.2.1, ((List.length y4.2.2.1.2.2.2.1 : Nat) : Int), (0 : Int), ()), (y4.2.1, y4.2.2.2.1, y4.2.2.2.2.1, ()))).bind fun y5 =>
 some (((), (0 : Int), ()), (y5.2.2.1, ()))
 else
 none
 else
 none
 else
 none
 else
 none
theorem q51 (h_belief_New : (Unit × Unit) → Option ((Unit × Unit) × (T'29 × Unit))) (x : I51.T G) : endI (cfP [(29, e45), (30, e25), (31, e49), (32, Fe.mk (G := G) I50 E50 h_belief_New Tryz.f32.results.toList)]) P51 J51 77 (ng' Tryz.f11) I51 E51 x = H51 h_belief_New x.1.1.1 x.1.1.2.1 x.1.1.2.2.1 x.1.1.2.2.2.1 x.1.1.2.2.2.2.1 x.1.1.2.2.2.2.2.1 x.1.1.2.2.2.2.2.2.1 x.1.1.2.2.2.2.2.2.2.1 x.1.2.1.1 x.1.2.1.2.1 x.1.2.1.2.2.1 x.1.2.1.2.2.2.1 x.1.2.2.1.1 x.1.2.2.1.2.1 x.1.2.2.1.2.2.1 := by kernel_rfl
noncomputable def e51 : Fe G := ⟨I51, E51, fun x => ncp' x.1.1.1 x.1.1.2.1 x.1.1.2.2.1 x.1.1.2.2.2.1 x.1.1.2.2.2.2.1 x.1.1.2.2.2.2.2.1 x.1.1.2.2.2.2.2.2.1 x.1.1.2.2.2.2.2.2.2.1 x.1.2.1.1 x.1.2.1.2.1 x.1.2.1.2.2.1 x.1.2.1.2.2.2.1 x.1.2.2.1.1 x.1.2.2.1.2.1 x.1.2.2.1.2.2.1, Tryz.f11.results.toList⟩
theorem k51 : FnOK Tryz.prog G 11 e51 := fk cx t51 J51 (lp := P51) Tryz.func11 (by kernel_rfl) (by kernel_rfl) rfl (nk' _ (by kernel_rfl) (ni' l51_0 (ni' l51_1 nr'))) fun x => (q51 (fun _ => ng0' ) x).trans (by kernel_rfl)
def I52 : Sp := ⟨[(0, .agg c'3), (1, .agg c'5), (2, oi64)], [], []⟩
def E52 : SL := [(.ret, ⟨[(6, op 96), (7, oi64), (8, oi64)], [(96, c'17)], []⟩)]
noncomputable def e52 : Fe G := ⟨I52, E52, fun x => nct' x.1.1.1 x.1.1.2.1 x.1.1.2.2.1 x.1.1.2.2.2.1 x.1.1.2.2.2.2.1 x.1.1.2.2.2.2.2.1 x.1.1.2.2.2.2.2.2.1 x.1.1.2.2.2.2.2.2.2.1 x.1.2.1.1 x.1.2.1.2.1 x.1.2.1.2.2.1 x.1.2.2.1, Tryz.f15.results.toList⟩
theorem k52 : FnOK Tryz.prog G 15 e52 := fk cx (tc k44 (tc k51 tn)) (jl [(2097156, [(.normal, ⟨[(3, op 48), (4, op 64), (6, op 96), (9, op 144), (10, oi64)], [(48, c'3), (64, c'5), (96, c'17), (144, c'8)], []⟩)])]) (lp := (pl [])) Tryz.func15 (by kernel_rfl) (by kernel_rfl) rfl (an0 (by kernel_rfl)) fun x => by kernel_rfl
def I53 : Sp := ⟨[(0, .agg c'3)], [], []⟩
def E53 : SL := [(.ret, ⟨[(2, op 32), (3, oi64)], [(32, c'17)], []⟩)]
noncomputable def e53 : Fe G := ⟨I53, E53, fun x => nck' x.1.1.1 x.1.1.2.1 x.1.1.2.2.1 x.1.1.2.2.2.1 x.1.1.2.2.2.2.1 x.1.1.2.2.2.2.2.1 x.1.1.2.2.2.2.2.2.1 x.1.1.2.2.2.2.2.2.2.1, Tryz.f17.results.toList⟩
theorem k53 : FnOK Tryz.prog G 17 e53 := fk cx (tc k5 (tc k52 tn)) (jl []) (lp := (pl [])) Tryz.func17 (by kernel_rfl) (by kernel_rfl) rfl (an0 (by kernel_rfl)) fun x => by kernel_rfl
def I54 : Sp := ⟨[(0, oro 78), (1, oro 78)], [], []⟩
def E54 : SL := [(.ret, ⟨[(4, ob)], [], []⟩)]
def S54_0 : Sp := ⟨[(0, oro 78), (1, oro 78), (12, oi64), (13, oi64)], [], []⟩
def X54_0 : SL := [(.exit 0, ⟨[], [], []⟩), (.ret, ⟨[(4, ob)], [], []⟩)]
def J54 : Nat → Option SL := jl []
noncomputable def P54 : Nat → St G → M (Ex × St G) := pl [lpX S54_0 X54_0 nbo']
theorem l54_0 : LoopOK Tryz.prog G 26 (P54 0) (nj' (ng' Tryz.f60) 0) := lk cx tn J54 1 S54_0 X54_0 (rfl : nbo' = _) (by kernel_rfl) (an0 (by kernel_rfl)) fun x => by kernel_rfl
noncomputable def e54 : Fe G := ⟨I54, E54, fun x => nbq' x.1.1 x.1.2.1, Tryz.f60.results.toList⟩
theorem k54 : FnOK Tryz.prog G 60 e54 := fk cx tn J54 (lp := P54) Tryz.func60 (by kernel_rfl) (by kernel_rfl) rfl (nk' _ (by kernel_rfl) (ni' l54_0 nr')) fun x => by kernel_rfl
def I55 : Sp := ⟨[(0, oro 137), (1, oro 137)], [], []⟩
def E55 : SL := [(.ret, ⟨[(4, ob)], [], []⟩)]
def S55_0 : Sp := ⟨[(0, oro 137), (1, oro 137), (12, oi64), (13, oi64)], [], []⟩
def X55_0 : SL := [(.exit 0, ⟨[], [], []⟩), (.ret, ⟨[(4, ob)], [], []⟩)]
def J55 : Nat → Option SL := jl []
noncomputable def P55 : Nat → St G → M (Ex × St G) := pl [lpX S55_0 X55_0 nch']
theorem l55_0 : LoopOK Tryz.prog G 26 (P55 0) (nj' (ng' Tryz.f100) 0) := lk cx tn J55 1 S55_0 X55_0 (rfl : nch' = _) (by kernel_rfl) (an0 (by kernel_rfl)) fun x => by kernel_rfl
noncomputable def e55 : Fe G := ⟨I55, E55, fun x => ncm' x.1.1 x.1.2.1, Tryz.f100.results.toList⟩
theorem k55 : FnOK Tryz.prog G 100 e55 := fk cx tn J55 (lp := P55) Tryz.func100 (by kernel_rfl) (by kernel_rfl) rfl (nk' _ (by kernel_rfl) (ni' l55_0 nr')) fun x => by kernel_rfl
def I56 : Sp := ⟨[(0, .agg c'19), (1, .agg c'19)], [], []⟩
def E56 : SL := [(.ret, ⟨[(4, ob)], [], []⟩)]
noncomputable def e56 : Fe G := ⟨I56, E56, fun x => njk' x.1.1.1 x.1.1.2.1 x.1.1.2.2.1 x.1.1.2.2.2.1 x.1.1.2.2.2.2.1 x.1.1.2.2.2.2.2.1 x.1.2.1.1 x.1.2.1.2.1 x.1.2.1.2.2.1 x.1.2.1.2.2.2.1 x.1.2.1.2.2.2.2.1 x.1.2.1.2.2.2.2.2.1, Tryz.f62.results.toList⟩
theorem k56 : FnOK Tryz.prog G 62 e56 := fk cx (tc k55 tn) (jl [(1048577, [(.normal, ⟨[(4, ob)], [], []⟩)])]) (lp := (pl [])) Tryz.func62 (by kernel_rfl) (by kernel_rfl) rfl (an0 (by kernel_rfl)) fun x => by kernel_rfl
def I57 : Sp := ⟨[(0, oro 62), (1, oro 62), (2, .one (.clo 62 [] []))], [], []⟩
def E57 : SL := [(.ret, ⟨[(6, ob)], [], []⟩)]
def S57_0 : Sp := ⟨[(1, oro 62), (2, .one (.clo 62 [] [])), (15, oro 62), (16, oi64), (17, oi64)], [], []⟩
def X57_0 : SL := [(.exit 0, ⟨[], [], []⟩), (.ret, ⟨[(6, ob)], [], []⟩)]
def J57 : Nat → Option SL := jl []
noncomputable def P57 : Nat → St G → M (Ex × St G) := pl [lpX S57_0 X57_0 nl']
theorem t57 : ∀ p ∈ [(62, e56)], FnOK Tryz.prog G p.1 p.2 := (tc k56 tn)
theorem l57_0 : LoopOK Tryz.prog G 32 (P57 0) (nj' (ng' Tryz.f61) 0) := lk cx t57 J57 1 S57_0 X57_0 (rfl : nl' = _) (by kernel_rfl) (an0 (by kernel_rfl)) fun x => by kernel_rfl
noncomputable def e57 : Fe G := ⟨I57, E57, fun x => nn' x.1.1 x.1.2.1, Tryz.f61.results.toList⟩
theorem k57 : FnOK Tryz.prog G 61 e57 := fk cx t57 J57 (lp := P57) Tryz.func61 (by kernel_rfl) (by kernel_rfl) rfl (nk' _ (by kernel_rfl) (ni' l57_0 nr')) fun x => by kernel_rfl
def I58 : Sp := ⟨[(0, oro 71), (1, oro 71)], [], []⟩
def E58 : SL := [(.ret, ⟨[(4, ob)], [], []⟩)]
def S58_0 : Sp := ⟨[(0, oro 71), (1, oro 71), (12, oi64), (13, oi64)], [], []⟩
def X58_0 : SL := [(.exit 0, ⟨[], [], []⟩), (.ret, ⟨[(4, ob)], [], []⟩)]
def J58 : Nat → Option SL := jl []
noncomputable def P58 : Nat → St G → M (Ex × St G) := pl [lpX S58_0 X58_0 nbz']
theorem l58_0 : LoopOK Tryz.prog G 26 (P58 0) (nj' (ng' Tryz.f63) 0) := lk cx tn J58 1 S58_0 X58_0 (rfl : nbz' = _) (by kernel_rfl) (an0 (by kernel_rfl)) fun x => by kernel_rfl
noncomputable def e58 : Fe G := ⟨I58, E58, fun x => ncb' x.1.1 x.1.2.1, Tryz.f63.results.toList⟩
theorem k58 : FnOK Tryz.prog G 63 e58 := fk cx tn J58 (lp := P58) Tryz.func63 (by kernel_rfl) (by kernel_rfl) rfl (nk' _ (by kernel_rfl) (ni' l58_0 nr')) fun x => by kernel_rfl
def I59 : Sp := ⟨[(0, oro 80), (1, oro 80)], [], []⟩
def E59 : SL := [(.ret, ⟨[(4, ob)], [], []⟩)]
def S59_0 : Sp := ⟨[(0, oro 80), (1, oro 80), (12, oi64), (13, oi64)], [], []⟩
def X59_0 : SL := [(.exit 0, ⟨[], [], []⟩), (.ret, ⟨[(4, ob)], [], []⟩)]
def J59 : Nat → Option SL := jl []
noncomputable def P59 : Nat → St G → M (Ex × St G) := pl [lpX S59_0 X59_0 nb0']
theorem l59_0 : LoopOK Tryz.prog G 26 (P59 0) (nj' (ng' Tryz.f64) 0) := lk cx tn J59 1 S59_0 X59_0 (rfl : nb0' = _) (by kernel_rfl) (an0 (by kernel_rfl)) fun x => by kernel_rfl
noncomputable def e59 : Fe G := ⟨I59, E59, fun x => nb8' x.1.1 x.1.2.1, Tryz.f64.results.toList⟩
theorem k59 : FnOK Tryz.prog G 64 e59 := fk cx tn J59 (lp := P59) Tryz.func64 (by kernel_rfl) (by kernel_rfl) rfl (nk' _ (by kernel_rfl) (ni' l59_0 nr')) fun x => by kernel_rfl
def I60 : Sp := ⟨[(0, oro 82), (1, oro 82)], [], []⟩
def E60 : SL := [(.ret, ⟨[(4, ob)], [], []⟩)]
def S60_0 : Sp := ⟨[(0, oro 82), (1, oro 82), (12, oi64), (13, oi64)], [], []⟩
def X60_0 : SL := [(.exit 0, ⟨[], [], []⟩), (.ret, ⟨[(4, ob)], [], []⟩)]
def J60 : Nat → Option SL := jl []
noncomputable def P60 : Nat → St G → M (Ex × St G) := pl [lpX S60_0 X60_0 nca']
theorem l60_0 : LoopOK Tryz.prog G 26 (P60 0) (nj' (ng' Tryz.f65) 0) := lk cx tn J60 1 S60_0 X60_0 (rfl : nca' = _) (by kernel_rfl) (an0 (by kernel_rfl)) fun x => by kernel_rfl
noncomputable def e60 : Fe G := ⟨I60, E60, fun x => ncf' x.1.1 x.1.2.1, Tryz.f65.results.toList⟩
theorem k60 : FnOK Tryz.prog G 65 e60 := fk cx tn J60 (lp := P60) Tryz.func65 (by kernel_rfl) (by kernel_rfl) rfl (nk' _ (by kernel_rfl) (ni' l60_0 nr')) fun x => by kernel_rfl
def I61 : Sp := ⟨[(0, oro 3), (1, oro 3)], [], []⟩
def E61 : SL := [(.ret, ⟨[(4, ob)], [], []⟩)]
def S61_0 : Sp := ⟨[(0, oro 3), (1, oro 3), (12, oi64), (13, oi64)], [], []⟩
def X61_0 : SL := [(.exit 0, ⟨[], [], []⟩), (.ret, ⟨[(4, ob)], [], []⟩)]
def J61 : Nat → Option SL := jl []
noncomputable def P61 : Nat → St G → M (Ex × St G) := pl [lpX S61_0 X61_0 ndf']
theorem l61_0 : LoopOK Tryz.prog G 26 (P61 0) (nj' (ng' Tryz.f67) 0) := lk cx tn J61 1 S61_0 X61_0 (rfl : ndf' = _) (by kernel_rfl) (an0 (by kernel_rfl)) fun x => by kernel_rfl
noncomputable def e61 : Fe G := ⟨I61, E61, fun x => ncw' x.1.1 x.1.2.1, Tryz.f67.results.toList⟩
theorem k61 : FnOK Tryz.prog G 67 e61 := fk cx tn J61 (lp := P61) Tryz.func67 (by kernel_rfl) (by kernel_rfl) rfl (nk' _ (by kernel_rfl) (ni' l61_0 nr')) fun x => by kernel_rfl
def I62 : Sp := ⟨[(0, oro 4), (1, oro 4)], [], []⟩
def E62 : SL := [(.ret, ⟨[(4, ob)], [], []⟩)]
def S62_0 : Sp := ⟨[(0, oro 4), (1, oro 4), (12, oi64), (13, oi64)], [], []⟩
def X62_0 : SL := [(.exit 0, ⟨[], [], []⟩), (.ret, ⟨[(4, ob)], [], []⟩)]
def J62 : Nat → Option SL := jl []
noncomputable def P62 : Nat → St G → M (Ex × St G) := pl [lpX S62_0 X62_0 nc2']
theorem l62_0 : LoopOK Tryz.prog G 26 (P62 0) (nj' (ng' Tryz.f101) 0) := lk cx tn J62 1 S62_0 X62_0 (rfl : nc2' = _) (by kernel_rfl) (an0 (by kernel_rfl)) fun x => by kernel_rfl
noncomputable def e62 : Fe G := ⟨I62, E62, fun x => ncq' x.1.1 x.1.2.1, Tryz.f101.results.toList⟩
theorem k62 : FnOK Tryz.prog G 101 e62 := fk cx tn J62 (lp := P62) Tryz.func101 (by kernel_rfl) (by kernel_rfl) rfl (nk' _ (by kernel_rfl) (ni' l62_0 nr')) fun x => by kernel_rfl
def I63 : Sp := ⟨[(0, oro 98), (1, oro 98)], [], []⟩
def E63 : SL := [(.ret, ⟨[(4, ob)], [], []⟩)]
def S63_0 : Sp := ⟨[(0, oro 98), (1, oro 98), (12, oi64), (13, oi64)], [], []⟩
def X63_0 : SL := [(.exit 0, ⟨[], [], []⟩), (.ret, ⟨[(4, ob)], [], []⟩)]
def J63 : Nat → Option SL := jl []
noncomputable def P63 : Nat → St G → M (Ex × St G) := pl [lpX S63_0 X63_0 nb9']
theorem l63_0 : LoopOK Tryz.prog G 26 (P63 0) (nj' (ng' Tryz.f102) 0) := lk cx tn J63 1 S63_0 X63_0 (rfl : nb9' = _) (by kernel_rfl) (an0 (by kernel_rfl)) fun x => by kernel_rfl
noncomputable def e63 : Fe G := ⟨I63, E63, fun x => ncg' x.1.1 x.1.2.1, Tryz.f102.results.toList⟩
theorem k63 : FnOK Tryz.prog G 102 e63 := fk cx tn J63 (lp := P63) Tryz.func102 (by kernel_rfl) (by kernel_rfl) rfl (nk' _ (by kernel_rfl) (ni' l63_0 nr')) fun x => by kernel_rfl
def I64 : Sp := ⟨[(0, .agg c'8), (1, .agg c'8)], [], []⟩
def E64 : SL := [(.ret, ⟨[(4, ob)], [], []⟩)]
noncomputable def e64 : Fe G := ⟨I64, E64, fun x => nl9' x.1.1.1 x.1.1.2.1 x.1.1.2.2.1 x.1.1.2.2.2.1 x.1.2.1.1 x.1.2.1.2.1 x.1.2.1.2.2.1 x.1.2.1.2.2.2.1, Tryz.f66.results.toList⟩
theorem k64 : FnOK Tryz.prog G 66 e64 := fk cx (tc k61 (tc k62 (tc k63 tn))) (jl [(1048577, [(.normal, ⟨[(4, ob)], [], []⟩)])]) (lp := (pl [])) Tryz.func66 (by kernel_rfl) (by kernel_rfl) rfl (an0 (by kernel_rfl)) fun x => by kernel_rfl
def I65 : Sp := ⟨[(0, .agg c'20), (1, .agg c'20)], [], []⟩
def E65 : SL := [(.ret, ⟨[(4, ob)], [], []⟩)]
noncomputable def e65 : Fe G := ⟨I65, E65, fun x => ngq' x.1.1.1 x.1.1.2.1 x.1.1.2.2.1 x.1.1.2.2.2.1 x.1.1.2.2.2.2.1 x.1.1.2.2.2.2.2.1 x.1.1.2.2.2.2.2.2.1 x.1.1.2.2.2.2.2.2.2.1 x.1.1.2.2.2.2.2.2.2.2.1 x.1.1.2.2.2.2.2.2.2.2.2.1 x.1.1.2.2.2.2.2.2.2.2.2.2.1 x.1.1.2.2.2.2.2.2.2.2.2.2.2.1 x.1.1.2.2.2.2.2.2.2.2.2.2.2.2.1 x.1.1.2.2.2.2.2.2.2.2.2.2.2.2.2.1 x.1.1.2.2.2.2.2.2.2.2.2.2.2.2.2.2.1 x.1.1.2.2.2.2.2.2.2.2.2.2.2.2.2.2.2.1 x.1.2.1.1 x.1.2.1.2.1 x.1.2.1.2.2.1 x.1.2.1.2.2.2.1 x.1.2.1.2.2.2.2.1 x.1.2.1.2.2.2.2.2.1 x.1.2.1.2.2.2.2.2.2.1 x.1.2.1.2.2.2.2.2.2.2.1 x.1.2.1.2.2.2.2.2.2.2.2.1 x.1.2.1.2.2.2.2.2.2.2.2.2.1 x.1.2.1.2.2.2.2.2.2.2.2.2.2.1 x.1.2.1.2.2.2.2.2.2.2.2.2.2.2.1 x.1.2.1.2.2.2.2.2.2.2.2.2.2.2.2.1 x.1.2.1.2.2.2.2.2.2.2.2.2.2.2.2.2.1 x.1.2.1.2.2.2.2.2.2.2.2.2.2.2.2.2.2.1 x.1.2.1.2.2.2.2.2.2.2.2.2.2.2.2.2.2.2.1, Tryz.f20.results.toList⟩
theorem k65 : FnOK Tryz.prog G 20 e65 := fk cx (tc k54 (tc k57 (tc k58 (tc k59 (tc k60 (tc k64 (tc k61 tn))))))) (jl [(1048577, [(.normal, ⟨[(2, op 32), (3, op 48), (5, ob)], [(32, c'20), (48, c'20)], []⟩)]), (1048578, [(.normal, ⟨[(4, ob)], [], []⟩)])]) (lp := (pl [])) Tryz.func20 (by kernel_rfl) (by kernel_rfl) rfl (an0 (by kernel_rfl)) fun x => by kernel_rfl
def I66 : Sp := ⟨[], [], []⟩
def E66 : SL := [(.ret, ⟨[(0, ob)], [], []⟩)]
noncomputable def H66 (h_l10_Building : ((Int × Int × Unit) × Unit) → Option ((Unit × Unit) × (T'0 × Unit))) (h_restart_Start : ((T'0 × Unit) × Unit) → Option ((Unit × Int × Unit) × (T'30 × Unit))) (h_restart_Boot : ((T'0 × T'24 × Int × Unit) × Unit) → Option ((Unit × Int × Int × Unit) × (T'30 × Unit))) (h_restart_Same : ((T'30 × T'30 × Unit) × Unit) → Option ((Bool × Unit) × Unit))  : Option ((Bool × Unit) × Unit) :=
 (h_l10_Building (((9 : Int), (90 : Int), ()), ())).bind fun y1 =>
 Option.bind (some (((), ()), (y1.2.1, ()))) fun y2 =>
 (h_restart_Start ((y2.2.1, ()), ())).bind fun y3 =>
 (h_restart_Boot ((y2.2.1, (y3.2.1.2.2.2.2.1, y3.2.1.2.2.2.2.2.1, y3.2.1.2.2.2.2.2.2.1, ()), (100 : Int), ()), ())).bind fun y4 =>
 (h_restart_Boot ((y2.2.1, (y3.2.1.2.2.2.2.1, y3.2.1.2.2.2.2.2.1, y3.2.1.2.2.2.2.2.2.1, ()), (0 : Int), ()), ())).bind fun y5 =>
 Option.bind (bif (y3.1.2.1 == (0 : Int)) then
 bif (((List.length y3.2.1.2.2.2.2.2.2.2.2.1 : Nat) : Int) == (2 : Int)) then
 bif (inB (1 : Int) (List.length y3.2.1.2.2.2.2.2.2.2.2.1)) then
 bif ((List.getD y3.2.1.2.2.2.2.2.2.2.2.1 (Int.toNat (1 : Int)) (Belief.mk (0 : Int) (0 : Int) (0 : Int) [] (0 : Int) false)).Floor == (-1 : Int)) then
 bif (((List.length y3.2.1.1 : Nat) : Int) == (2 : Int)) then
 bif (y4.1.2.2.1 == (0 : Int)) then
 bif (y4.1.2.1 == (62 : Int)) then
 (h_restart_Same ((y4.2.1, y4.2.1, ()), ())).bind fun y6 =>
 bif y6.1.1 then
 some (((y5.1.2.2.1 == (8 : Int)), ()), ())
 else
 some ((false, ()), ())
 else
 some ((false, ()), ())
 else
 some ((false, ()), ())
 else
 some ((false, ()), ())
 else
 some ((false, ()), ())
 else
 none
 else
 some ((false, ()), ())
 else
 some ((false, ()), ())) fun y7 =>
 some ((y7.1.1, ()), ())
theorem q66 (h_l10_Building : ((Int × Int × Unit) × Unit) → Option ((Unit × Unit) × (T'0 × Unit))) (h_restart_Start : ((T'0 × Unit) × Unit) → Option ((Unit × Int × Unit) × (T'30 × Unit))) (h_restart_Boot : ((T'0 × T'24 × Int × Unit) × Unit) → Option ((Unit × Int × Int × Unit) × (T'30 × Unit))) (h_restart_Same : ((T'30 × T'30 × Unit) × Unit) → Option ((Bool × Unit) × Unit)) (x : I66.T G) : endI (cfP [(7, Fe.mk (G := G) I1 E1 h_l10_Building Tryz.f7.results.toList), (17, Fe.mk (G := G) I53 E53 h_restart_Start Tryz.f17.results.toList), (15, Fe.mk (G := G) I52 E52 h_restart_Boot Tryz.f15.results.toList), (20, Fe.mk (G := G) I65 E65 h_restart_Same Tryz.f20.results.toList)]) (pl []) (jl [(1048581, [(.normal, ⟨[(0, ob)], [], []⟩)]), (2097154, [(.normal, ⟨[(1, op 16)], [(16, c'3)], []⟩)])]) 72 (ng' Tryz.f6) I66 E66 x = H66 h_l10_Building h_restart_Start h_restart_Boot h_restart_Same  := by kernel_rfl
noncomputable def e66 : Fe G := ⟨I66, E66, fun _ => nez', Tryz.f6.results.toList⟩
theorem k66 : FnOK Tryz.prog G 6 e66 := fk cx (tc k1 (tc k53 (tc k52 (tc k65 tn)))) (jl [(1048581, [(.normal, ⟨[(0, ob)], [], []⟩)]), (2097154, [(.normal, ⟨[(1, op 16)], [(16, c'3)], []⟩)])]) (lp := (pl [])) Tryz.func6 (by kernel_rfl) (by kernel_rfl) rfl (an0 (by kernel_rfl)) fun x => (q66 (fun x => nc5' x.1.1 x.1.2.1) (fun x => nck' x.1.1.1 x.1.1.2.1 x.1.1.2.2.1 x.1.1.2.2.2.1 x.1.1.2.2.2.2.1 x.1.1.2.2.2.2.2.1 x.1.1.2.2.2.2.2.2.1 x.1.1.2.2.2.2.2.2.2.1) (fun x => nct' x.1.1.1 x.1.1.2.1 x.1.1.2.2.1 x.1.1.2.2.2.1 x.1.1.2.2.2.2.1 x.1.1.2.2.2.2.2.1 x.1.1.2.2.2.2.2.2.1 x.1.1.2.2.2.2.2.2.2.1 x.1.2.1.1 x.1.2.1.2.1 x.1.2.1.2.2.1 x.1.2.2.1) (fun x => ngq' x.1.1.1 x.1.1.2.1 x.1.1.2.2.1 x.1.1.2.2.2.1 x.1.1.2.2.2.2.1 x.1.1.2.2.2.2.2.1 x.1.1.2.2.2.2.2.2.1 x.1.1.2.2.2.2.2.2.2.1 x.1.1.2.2.2.2.2.2.2.2.1 x.1.1.2.2.2.2.2.2.2.2.2.1 x.1.1.2.2.2.2.2.2.2.2.2.2.1 x.1.1.2.2.2.2.2.2.2.2.2.2.2.1 x.1.1.2.2.2.2.2.2.2.2.2.2.2.2.1 x.1.1.2.2.2.2.2.2.2.2.2.2.2.2.2.1 x.1.1.2.2.2.2.2.2.2.2.2.2.2.2.2.2.1 x.1.1.2.2.2.2.2.2.2.2.2.2.2.2.2.2.2.1 x.1.2.1.1 x.1.2.1.2.1 x.1.2.1.2.2.1 x.1.2.1.2.2.2.1 x.1.2.1.2.2.2.2.1 x.1.2.1.2.2.2.2.2.1 x.1.2.1.2.2.2.2.2.2.1 x.1.2.1.2.2.2.2.2.2.2.1 x.1.2.1.2.2.2.2.2.2.2.2.1 x.1.2.1.2.2.2.2.2.2.2.2.2.1 x.1.2.1.2.2.2.2.2.2.2.2.2.2.1 x.1.2.1.2.2.2.2.2.2.2.2.2.2.2.1 x.1.2.1.2.2.2.2.2.2.2.2.2.2.2.2.1 x.1.2.1.2.2.2.2.2.2.2.2.2.2.2.2.2.1 x.1.2.1.2.2.2.2.2.2.2.2.2.2.2.2.2.2.1 x.1.2.1.2.2.2.2.2.2.2.2.2.2.2.2.2.2.2.1) x).trans (by kernel_rfl)
def I67 : Sp := ⟨[(0, oi64), (1, oi64), (2, oi64)], [], []⟩
def E67 : SL := [(.ret, ⟨[(6, ob)], [], []⟩)]
noncomputable def e67 : Fe G := ⟨I67, E67, fun x => nea' x.1.1 x.1.2.1 x.1.2.2.1, Tryz.f94.results.toList⟩
theorem k67 : FnOK Tryz.prog G 94 e67 := fk cx tn (jl [(1048577, [(.normal, ⟨[(6, ob)], [], []⟩)])]) (lp := (pl [])) Tryz.func94 (by kernel_rfl) (by kernel_rfl) rfl (an0 (by kernel_rfl)) fun x => by kernel_rfl
def I68 : Sp := ⟨[(0, .agg c'3), (1, .agg c'2)], [], []⟩
def E68 : SL := [(.ret, ⟨[(4, ob)], [], []⟩)]
def S68_0 : Sp := ⟨[(2, op 32), (3, op 48), (5, .one (.own 32768 3)), (6, oi64)], [(32, c'3), (48, c'2)], []⟩
def X68_0 : SL := [(.exit 0, ⟨[(2, op 32), (3, op 48)], [(32, c'3), (48, c'2)], []⟩), (.ret, ⟨[(4, ob)], [], []⟩)]
def J68 : Nat → Option SL := jl [(1048585, [(.normal, ⟨[(4, ob)], [], []⟩)])]
noncomputable def P68 : Nat → St G → M (Ex × St G) := pl [lpX S68_0 X68_0 ni7']
theorem t68 : ∀ p ∈ [(94, e67)], FnOK Tryz.prog G p.1 p.2 := (tc k67 tn)
theorem l68_0 : LoopOK Tryz.prog G 56 (P68 0) (nj' (ng' Tryz.f95) 0) := lk cx t68 J68 1 S68_0 X68_0 (rfl : ni7' = _) (by kernel_rfl) (an0 (by kernel_rfl)) fun x => by kernel_rfl
noncomputable def e68 : Fe G := ⟨I68, E68, fun x => nlg' x.1.1.1 x.1.1.2.1 x.1.1.2.2.1 x.1.1.2.2.2.1 x.1.1.2.2.2.2.1 x.1.1.2.2.2.2.2.1 x.1.1.2.2.2.2.2.2.1 x.1.1.2.2.2.2.2.2.2.1 x.1.2.1.1 x.1.2.1.2.1 x.1.2.1.2.2.1 x.1.2.1.2.2.2.1 x.1.2.1.2.2.2.2.1 x.1.2.1.2.2.2.2.2.1 x.1.2.1.2.2.2.2.2.2.1 x.1.2.1.2.2.2.2.2.2.2.1 x.1.2.1.2.2.2.2.2.2.2.2.1, Tryz.f95.results.toList⟩
theorem k68 : FnOK Tryz.prog G 95 e68 := fk cx t68 J68 (lp := P68) Tryz.func95 (by kernel_rfl) (by kernel_rfl) rfl (nk' _ (by kernel_rfl) (ni' l68_0 nr')) fun x => by kernel_rfl
def I69 : Sp := ⟨[(0, .agg c'3)], [], []⟩
def E69 : SL := [(.ret, ⟨[(2, oi64)], [], []⟩)]
def S69_0 : Sp := ⟨[(1, op 16), (3, ob), (4, oi64)], [(16, c'3)], []⟩
def X69_0 : SL := [(.exit 0, ⟨[(1, op 16), (3, ob)], [(16, c'3)], []⟩)]
def J69 : Nat → Option SL := jl [(1048581, [(.normal, ⟨[(1, op 16), (3, ob)], [(16, c'3)], []⟩)]), (1048585, [(.normal, ⟨[(1, op 16), (3, ob), (4, oi64)], [(16, c'3)], []⟩)])]
noncomputable def P69 : Nat → St G → M (Ex × St G) := pl [lpX S69_0 X69_0 njc']
theorem t69 : ∀ p ∈ [(94, e67), (95, e68)], FnOK Tryz.prog G p.1 p.2 := (tc k67 (tc k68 tn))
theorem l69_0 : LoopOK Tryz.prog G 73 (P69 0) (nj' (ng' Tryz.f54) 0) := lk cx t69 J69 1 S69_0 X69_0 (rfl : njc' = _) (by kernel_rfl) (an0 (by kernel_rfl)) fun x => by kernel_rfl
noncomputable def e69 : Fe G := ⟨I69, E69, fun x => nei' x.1.1.1 x.1.1.2.1 x.1.1.2.2.1 x.1.1.2.2.2.1 x.1.1.2.2.2.2.1 x.1.1.2.2.2.2.2.1 x.1.1.2.2.2.2.2.2.1 x.1.1.2.2.2.2.2.2.2.1, Tryz.f54.results.toList⟩
theorem k69 : FnOK Tryz.prog G 54 e69 := fk cx t69 J69 (lp := P69) Tryz.func54 (by kernel_rfl) (by kernel_rfl) rfl (nk' _ (by kernel_rfl) (ni' l69_0 nr')) fun x => by kernel_rfl
def I70 : Sp := ⟨[(0, .agg c'3)], [], []⟩
def E70 : SL := [(.ret, ⟨[(2, op 32)], [(32, c'4)], []⟩)]
noncomputable def e70 : Fe G := ⟨I70, E70, fun x => nhl' x.1.1.1 x.1.1.2.1 x.1.1.2.2.1 x.1.1.2.2.2.1 x.1.1.2.2.2.2.1 x.1.1.2.2.2.2.2.1 x.1.1.2.2.2.2.2.2.1 x.1.1.2.2.2.2.2.2.2.1, Tryz.f23.results.toList⟩
theorem k70 : FnOK Tryz.prog G 23 e70 := fk cx (tc k69 tn) (jl []) (lp := (pl [])) Tryz.func23 (by kernel_rfl) (by kernel_rfl) rfl (an0 (by kernel_rfl)) fun x => by kernel_rfl
def I71 : Sp := ⟨[(0, .agg c'3), (1, oro 5), (2, oi64)], [], []⟩
def E71 : SL := [(.ret, ⟨[(6, .one (.own 32768 92))], [], []⟩)]
def S71_0 : Sp := ⟨[(1, oro 5), (2, oi64), (7, .one (.own 32768 92)), (8, oi64), (9, oi64), (10, oi64)], [], []⟩
def X71_0 : SL := [(.exit 0, ⟨[(7, .one (.own 32768 92))], [], []⟩)]
def J71 : Nat → Option SL := jl [(18, [(.normal, ⟨[(1, oro 5), (2, oi64), (7, .one (.own 32768 92)), (8, oi64), (9, oi64), (10, oi64), (11, oi64), (13, op 208)], [(208, c'6)], []⟩)]), (20, [(.normal, ⟨[(1, oro 5), (2, oi64), (7, .one (.own 32768 92)), (8, oi64), (9, oi64), (10, oi64), (11, oi64), (13, op 208)], [(208, c'6)], []⟩)])]
noncomputable def P71 : Nat → St G → M (Ex × St G) := pl [lpX S71_0 X71_0 nh6']
theorem l71_0 : LoopOK Tryz.prog G 112 (P71 0) (nj' (ng' Tryz.f24) 0) := lk cx tn J71 1 S71_0 X71_0 (rfl : nh6' = _) (by kernel_rfl) (an0 (by kernel_rfl)) fun x => by kernel_rfl
noncomputable def e71 : Fe G := ⟨I71, E71, fun x => njg' x.1.1.1 x.1.1.2.1 x.1.1.2.2.1 x.1.1.2.2.2.1 x.1.1.2.2.2.2.1 x.1.1.2.2.2.2.2.1 x.1.1.2.2.2.2.2.2.1 x.1.1.2.2.2.2.2.2.2.1 x.1.2.1 x.1.2.2.1, Tryz.f24.results.toList⟩
theorem k71 : FnOK Tryz.prog G 24 e71 := fk cx tn J71 (lp := P71) Tryz.func24 (by kernel_rfl) (by kernel_rfl) rfl (nk' _ (by kernel_rfl) (ni' l71_0 nr')) fun x => by kernel_rfl
def I72 : Sp := ⟨[(0, .agg c'3), (1, oi64), (2, oi64)], [], []⟩
def E72 : SL := [(.ret, ⟨[(6, ob)], [], []⟩)]
noncomputable def e72 : Fe G := ⟨I72, E72, fun x => nid' x.1.1.1 x.1.1.2.1 x.1.1.2.2.1 x.1.1.2.2.2.1 x.1.1.2.2.2.2.1 x.1.1.2.2.2.2.2.1 x.1.1.2.2.2.2.2.2.1 x.1.1.2.2.2.2.2.2.2.1 x.1.2.1 x.1.2.2.1, Tryz.f72.results.toList⟩
theorem k72 : FnOK Tryz.prog G 72 e72 := fk cx (tc k69 (tc k67 tn)) (jl [(1048579, [(.normal, ⟨[(6, ob)], [], []⟩)])]) (lp := (pl [])) Tryz.func72 (by kernel_rfl) (by kernel_rfl) rfl (an0 (by kernel_rfl)) fun x => by kernel_rfl
def I73 : Sp := ⟨[(0, .agg c'7), (1, .agg c'7)], [], []⟩
def E73 : SL := [(.ret, ⟨[(4, ob)], [], []⟩)]
noncomputable def e73 : Fe G := ⟨I73, E73, fun x => nka' x.1.1.1 x.1.1.2.1 x.1.1.2.2.1 x.1.1.2.2.2.1 x.1.1.2.2.2.2.1 x.1.2.1.1 x.1.2.1.2.1 x.1.2.1.2.2.1 x.1.2.1.2.2.2.1 x.1.2.1.2.2.2.2.1, Tryz.f73.results.toList⟩
theorem k73 : FnOK Tryz.prog G 73 e73 := fk cx tn (jl [(1048577, [(.normal, ⟨[(4, ob)], [], []⟩)])]) (lp := (pl [])) Tryz.func73 (by kernel_rfl) (by kernel_rfl) rfl (an0 (by kernel_rfl)) fun x => by kernel_rfl
def I74 : Sp := ⟨[(0, .agg c'3), (1, .agg c'8)], [], []⟩
def E74 : SL := [(.ret, ⟨[(4, ob)], [], []⟩)]
def S74_0 : Sp := ⟨[(2, op 32), (3, op 48), (5, oi64), (6, oi64)], [(32, c'3), (48, c'8)], []⟩
def X74_0 : SL := [(.exit 0, ⟨[(2, op 32), (3, op 48), (5, oi64)], [(32, c'3), (48, c'8)], []⟩), (.ret, ⟨[(4, ob)], [], []⟩)]
def S74_1 : Sp := ⟨[(2, op 32), (3, op 48), (5, oi64), (7, oi64)], [(32, c'3), (48, c'8)], []⟩
def X74_1 : SL := [(.exit 2, ⟨[], [], []⟩), (.ret, ⟨[(4, ob)], [], []⟩)]
def J74 : Nat → Option SL := jl [(1048589, [(.normal, ⟨[(2, op 32), (3, op 48), (5, oi64), (7, oi64), (109, ob)], [(32, c'3), (48, c'8)], []⟩)])]
noncomputable def P74 : Nat → St G → M (Ex × St G) := pl [lpX S74_0 X74_0 nh4', lpX S74_1 X74_1 nhy']
theorem t74 : ∀ p ∈ [(54, e69), (72, e72), (73, e73)], FnOK Tryz.prog G p.1 p.2 := (tc k69 (tc k72 (tc k73 tn)))
theorem l74_1 : LoopOK Tryz.prog G 110 (P74 1) (nj' (ng' Tryz.f27) 1) := lk cx t74 J74 2 S74_1 X74_1 (rfl : nhy' = _) (by kernel_rfl) (an0 (by kernel_rfl)) fun x => by kernel_rfl
theorem l74_0 : LoopOK Tryz.prog G 110 (P74 0) (nj' (ng' Tryz.f27) 0) := lk cx t74 J74 1 S74_0 X74_0 (rfl : nh4' = _) (by kernel_rfl) (an0 (by kernel_rfl)) fun x => by kernel_rfl
noncomputable def e74 : Fe G := ⟨I74, E74, fun x => neu' x.1.1.1 x.1.1.2.1 x.1.1.2.2.1 x.1.1.2.2.2.1 x.1.1.2.2.2.2.1 x.1.1.2.2.2.2.2.1 x.1.1.2.2.2.2.2.2.1 x.1.1.2.2.2.2.2.2.2.1 x.1.2.1.1 x.1.2.1.2.1 x.1.2.1.2.2.1 x.1.2.1.2.2.2.1, Tryz.f27.results.toList⟩
theorem k74 : FnOK Tryz.prog G 27 e74 := fk cx t74 J74 (lp := P74) Tryz.func27 (by kernel_rfl) (by kernel_rfl) rfl (nk' _ (by kernel_rfl) (ni' l74_0 (ni' l74_1 nr'))) fun x => by kernel_rfl
def I75 : Sp := ⟨[(0, oi64), (1, oi64), (2, oi64)], [], []⟩
def E75 : SL := [(.ret, ⟨[(6, ob)], [], []⟩)]
noncomputable def e75 : Fe G := ⟨I75, E75, fun x => nf8' x.1.1 x.1.2.1 x.1.2.2.1, Tryz.f103.results.toList⟩
theorem k75 : FnOK Tryz.prog G 103 e75 := fk cx tn (jl [(1048577, [(.normal, ⟨[(6, ob)], [], []⟩)])]) (lp := (pl [])) Tryz.func103 (by kernel_rfl) (by kernel_rfl) rfl (an0 (by kernel_rfl)) fun x => by kernel_rfl
def I76 : Sp := ⟨[(0, .agg c'3), (1, .agg c'6)], [], []⟩
def E76 : SL := [(.ret, ⟨[(4, ob)], [], []⟩)]
noncomputable def e76 : Fe G := ⟨I76, E76, fun x => nhs' x.1.1.1 x.1.1.2.1 x.1.1.2.2.1 x.1.1.2.2.2.1 x.1.1.2.2.2.2.1 x.1.1.2.2.2.2.2.1 x.1.1.2.2.2.2.2.2.1 x.1.1.2.2.2.2.2.2.2.1 x.1.2.1.1 x.1.2.1.2.1 x.1.2.1.2.2.1 x.1.2.1.2.2.2.1 x.1.2.1.2.2.2.2.1, Tryz.f68.results.toList⟩
theorem k76 : FnOK Tryz.prog G 68 e76 := fk cx (tc k69 (tc k72 (tc k75 tn))) (jl [(1048580, [(.normal, ⟨[(2, op 32), (3, op 48), (5, ob), (6, ob)], [(32, c'3), (48, c'6)], []⟩)]), (1048584, [(.normal, ⟨[(4, ob)], [], []⟩)]), (1048586, [(.normal, ⟨[(4, ob)], [], []⟩)]), (1048588, [(.normal, ⟨[(4, ob)], [], []⟩)]), (1048591, [(.normal, ⟨[(4, ob)], [], []⟩)]), (1048593, [(.normal, ⟨[(4, ob)], [], []⟩)])]) (lp := (pl [])) Tryz.func68 (by kernel_rfl) (by kernel_rfl) rfl (an0 (by kernel_rfl)) fun x => by kernel_rfl
def I77 : Sp := ⟨[(0, .agg c'8), (1, oi64), (2, oi64)], [], []⟩
def E77 : SL := [(.ret, ⟨[(6, oi64)], [], []⟩)]
def S77_0 : Sp := ⟨[(1, oi64), (2, oi64), (3, op 48), (7, oi64)], [(48, c'8)], []⟩
def X77_0 : SL := [(.exit 0, ⟨[], [], []⟩), (.ret, ⟨[(6, oi64)], [], []⟩)]
def J77 : Nat → Option SL := jl [(1048580, [(.normal, ⟨[(1, oi64), (2, oi64), (3, op 48), (7, oi64), (32, ob)], [(48, c'8)], []⟩)])]
noncomputable def P77 : Nat → St G → M (Ex × St G) := pl [lpX S77_0 X77_0 nj0']
theorem l77_0 : LoopOK Tryz.prog G 34 (P77 0) (nj' (ng' Tryz.f69) 0) := lk cx tn J77 1 S77_0 X77_0 (rfl : nj0' = _) (by kernel_rfl) (an0 (by kernel_rfl)) fun x => by kernel_rfl
noncomputable def e77 : Fe G := ⟨I77, E77, fun x => nmg' x.1.1.1 x.1.1.2.1 x.1.1.2.2.1 x.1.1.2.2.2.1 x.1.2.1 x.1.2.2.1, Tryz.f69.results.toList⟩
theorem k77 : FnOK Tryz.prog G 69 e77 := fk cx tn J77 (lp := P77) Tryz.func69 (by kernel_rfl) (by kernel_rfl) rfl (nk' _ (by kernel_rfl) (ni' l77_0 nr')) fun x => by kernel_rfl
def I78 : Sp := ⟨[(0, oro 98), (1, .agg c'7)], [], []⟩
def E78 : SL := [(.ret, ⟨[(4, .one (.own 32768 98))], [], []⟩)]
def S78_0 : Sp := ⟨[(0, oro 98), (3, op 48), (5, .one (.own 32768 98)), (6, ob), (7, oi64)], [(48, c'7)], []⟩
def X78_0 : SL := [(.exit 0, ⟨[(3, op 48), (5, .one (.own 32768 98)), (6, ob)], [(48, c'7)], []⟩)]
def J78 : Nat → Option SL := jl [(10, [(.normal, ⟨[(0, oro 98), (3, op 48), (5, .one (.own 32768 98)), (6, ob), (7, oi64)], [(48, c'7)], []⟩)]), (1048582, [(.normal, ⟨[(0, oro 98), (3, op 48), (5, .one (.own 32768 98)), (6, ob), (7, oi64), (23, ob)], [(48, c'7)], []⟩)])]
noncomputable def P78 : Nat → St G → M (Ex × St G) := pl [lpX S78_0 X78_0 nh3']
theorem t78 : ∀ p ∈ [(73, e73)], FnOK Tryz.prog G p.1 p.2 := (tc k73 tn)
theorem l78_0 : LoopOK Tryz.prog G 42 (P78 0) (nj' (ng' Tryz.f70) 0) := lk cx t78 J78 1 S78_0 X78_0 (rfl : nh3' = _) (by kernel_rfl) (an0 (by kernel_rfl)) fun x => by kernel_rfl
noncomputable def e78 : Fe G := ⟨I78, E78, fun x => nja' x.1.1 x.1.2.1.1 x.1.2.1.2.1 x.1.2.1.2.2.1 x.1.2.1.2.2.2.1 x.1.2.1.2.2.2.2.1, Tryz.f70.results.toList⟩
theorem k78 : FnOK Tryz.prog G 70 e78 := fk cx t78 J78 (lp := P78) Tryz.func70 (by kernel_rfl) (by kernel_rfl) rfl (nk' _ (by kernel_rfl) (ni' l78_0 nr')) fun x => by kernel_rfl
def I79 : Sp := ⟨[(0, .agg c'3), (1, .agg c'8), (2, .agg c'6)], [], []⟩
def E79 : SL := [(.ret, ⟨[(6, op 96), (7, oi64)], [(96, c'4)], []⟩)]
noncomputable def e79 : Fe G := ⟨I79, E79, fun x => ni2' x.1.1.1 x.1.1.2.1 x.1.1.2.2.1 x.1.1.2.2.2.1 x.1.1.2.2.2.2.1 x.1.1.2.2.2.2.2.1 x.1.1.2.2.2.2.2.2.1 x.1.1.2.2.2.2.2.2.2.1 x.1.2.1.1 x.1.2.1.2.1 x.1.2.1.2.2.1 x.1.2.1.2.2.2.1 x.1.2.2.1.1 x.1.2.2.1.2.1 x.1.2.2.1.2.2.1 x.1.2.2.1.2.2.2.1 x.1.2.2.1.2.2.2.2.1, Tryz.f25.results.toList⟩
theorem k79 : FnOK Tryz.prog G 25 e79 := fk cx (tc k74 (tc k76 (tc k77 (tc k78 tn)))) (jl [(1048588, [(.normal, ⟨[(4, op 64), (5, op 80), (6, op 96), (8, oi64), (77, ob)], [(64, c'4), (80, c'6), (96, c'11)], []⟩)]), (2097168, [(.normal, ⟨[(4, op 64), (6, op 96), (8, oi64)], [(64, c'21), (96, c'22)], []⟩)])]) (lp := (pl [])) Tryz.func25 (by kernel_rfl) (by kernel_rfl) rfl (an0 (by kernel_rfl)) fun x => by kernel_rfl
def I80 : Sp := ⟨[(0, .agg c'3), (1, oro 5)], [], []⟩
def E80 : SL := [(.ret, ⟨[(4, op 64)], [(64, c'4)], []⟩)]
def S80_0 : Sp := ⟨[(2, op 32), (4, op 64), (5, op 80), (6, .one (.own 32768 92)), (7, oi64)], [(32, c'3), (64, c'9), (80, c'10)], []⟩
def X80_0 : SL := [(.exit 0, ⟨[(4, op 64), (5, op 80)], [(64, c'4), (80, c'11)], []⟩)]
def J80 : Nat → Option SL := jl []
noncomputable def P80 : Nat → St G → M (Ex × St G) := pl [lpX S80_0 X80_0 ni8']
theorem t80 : ∀ p ∈ [(23, e70), (24, e71), (25, e79)], FnOK Tryz.prog G p.1 p.2 := (tc k70 (tc k71 (tc k79 tn)))
theorem l80_0 : LoopOK Tryz.prog G 30 (P80 0) (nj' (ng' Tryz.f8) 0) := lk cx t80 J80 1 S80_0 X80_0 (rfl : ni8' = _) (by kernel_rfl) (an0 (by kernel_rfl)) fun x => by kernel_rfl
noncomputable def e80 : Fe G := ⟨I80, E80, fun x => nix' x.1.1.1 x.1.1.2.1 x.1.1.2.2.1 x.1.1.2.2.2.1 x.1.1.2.2.2.2.1 x.1.1.2.2.2.2.2.1 x.1.1.2.2.2.2.2.2.1 x.1.1.2.2.2.2.2.2.2.1 x.1.2.1, Tryz.f8.results.toList⟩
theorem k80 : FnOK Tryz.prog G 8 e80 := fk cx t80 J80 (lp := P80) Tryz.func8 (by kernel_rfl) (by kernel_rfl) rfl (nk' _ (by kernel_rfl) (ni' l80_0 nr')) fun x => by kernel_rfl
def I81 : Sp := ⟨[(0, ob)], [], []⟩
def E81 : SL := [(.ret, ⟨[(2, oi64)], [], []⟩)]
noncomputable def e81 : Fe G := ⟨I81, E81, fun x => njw' x.1.1, Tryz.f28.results.toList⟩
theorem k81 : FnOK Tryz.prog G 28 e81 := fk cx tn (jl []) (lp := (pl [])) Tryz.func28 (by kernel_rfl) (by kernel_rfl) rfl (an0 (by kernel_rfl)) fun x => by kernel_rfl
def I82 : Sp := ⟨[(0, .agg c'3), (1, .agg c'8)], [], []⟩
def E82 : SL := [(.ret, ⟨[(4, .one (.own 32768 92))], [], []⟩)]
def S82_0 : Sp := ⟨[(3, op 48), (5, .one (.own 32768 92)), (6, oi64)], [(48, c'8)], []⟩
def X82_0 : SL := [(.exit 0, ⟨[(3, op 48), (5, .one (.own 32768 92))], [(48, c'8)], []⟩)]
def S82_1 : Sp := ⟨[(3, op 48), (5, .one (.own 32768 92)), (7, oi64)], [(48, c'8)], []⟩
def X82_1 : SL := [(.exit 2, ⟨[(5, .one (.own 32768 92))], [], []⟩)]
def J82 : Nat → Option SL := jl []
noncomputable def P82 : Nat → St G → M (Ex × St G) := pl [lpX S82_0 X82_0 nhd', lpX S82_1 X82_1 nhb']
theorem t82 : ∀ p ∈ [(27, e74), (28, e81)], FnOK Tryz.prog G p.1 p.2 := (tc k74 (tc k81 tn))
theorem l82_1 : LoopOK Tryz.prog G 84 (P82 1) (nj' (ng' Tryz.f10) 1) := lk cx t82 J82 2 S82_1 X82_1 (rfl : nhb' = _) (by kernel_rfl) (an0 (by kernel_rfl)) fun x => by kernel_rfl
theorem l82_0 : LoopOK Tryz.prog G 84 (P82 0) (nj' (ng' Tryz.f10) 0) := lk cx t82 J82 1 S82_0 X82_0 (rfl : nhd' = _) (by kernel_rfl) (an0 (by kernel_rfl)) fun x => by kernel_rfl
noncomputable def e82 : Fe G := ⟨I82, E82, fun x => ne2' x.1.1.1 x.1.1.2.1 x.1.1.2.2.1 x.1.1.2.2.2.1 x.1.1.2.2.2.2.1 x.1.1.2.2.2.2.2.1 x.1.1.2.2.2.2.2.2.1 x.1.1.2.2.2.2.2.2.2.1 x.1.2.1.1 x.1.2.1.2.1 x.1.2.1.2.2.1 x.1.2.1.2.2.2.1, Tryz.f10.results.toList⟩
theorem k82 : FnOK Tryz.prog G 10 e82 := fk cx t82 J82 (lp := P82) Tryz.func10 (by kernel_rfl) (by kernel_rfl) rfl (nk' _ (by kernel_rfl) (ni' l82_0 (ni' l82_1 nr'))) fun x => by kernel_rfl
def I83 : Sp := ⟨[(0, os)], [], []⟩
def E83 : SL := [(.ret, ⟨[(2, ou8)], [], []⟩)]
def S83_0 : Sp := ⟨[(0, os), (3, oi64), (4, oi64)], [], []⟩
def X83_0 : SL := [(.exit 0, ⟨[(3, oi64)], [], []⟩)]
def S83_1 : Sp := ⟨[(0, os), (3, oi64), (4, oi64), (5, oi64)], [], []⟩
def X83_1 : SL := [(.exit 2, ⟨[(0, os), (3, oi64), (4, oi64)], [], []⟩)]
def J83 : Nat → Option SL := jl []
noncomputable def P83 : Nat → St G → M (Ex × St G) := pl [lpX S83_0 X83_0 nks', lpX S83_1 X83_1 nkk']
theorem l83_1 : LoopOK Tryz.prog G 33 (P83 1) (nj' (ng' Tryz.f71) 1) := lk cx tn J83 2 S83_1 X83_1 (rfl : nkk' = _) (by kernel_rfl) (an0 (by kernel_rfl)) fun x => by kernel_rfl
theorem l83_0 : LoopOK Tryz.prog G 33 (P83 0) (nj' (ng' Tryz.f71) 0) := lk cx tn J83 1 S83_0 X83_0 (rfl : nks' = _) (by kernel_rfl) (nk' _ (by kernel_rfl) (ni' l83_1 nr')) fun x => by kernel_rfl
noncomputable def e83 : Fe G := ⟨I83, E83, fun x => nkl' x.1.1, Tryz.f71.results.toList⟩
theorem k83 : FnOK Tryz.prog G 71 e83 := fk cx tn J83 (lp := P83) Tryz.func71 (by kernel_rfl) (by kernel_rfl) rfl (nk' _ (by kernel_rfl) (ni' l83_0 (ni' l83_1 nr'))) fun x => by kernel_rfl
def I84 : Sp := ⟨[(0, .agg c'3), (1, .agg c'6)], [], []⟩
def E84 : SL := [(.ret, ⟨[(4, os), (5, oi64)], [], []⟩)]
noncomputable def e84 : Fe G := ⟨I84, E84, fun x => nkr' x.1.1.1 x.1.1.2.1 x.1.1.2.2.1 x.1.1.2.2.2.1 x.1.1.2.2.2.2.1 x.1.1.2.2.2.2.2.1 x.1.1.2.2.2.2.2.2.1 x.1.1.2.2.2.2.2.2.2.1 x.1.2.1.1 x.1.2.1.2.1 x.1.2.1.2.2.1 x.1.2.1.2.2.2.1 x.1.2.1.2.2.2.2.1, Tryz.f26.results.toList⟩
theorem k84 : FnOK Tryz.prog G 26 e84 := fk cx (tc k76 (tc k83 tn)) (jl []) (lp := (pl [])) Tryz.func26 (by kernel_rfl) (by kernel_rfl) rfl (an0 (by kernel_rfl)) fun x => by kernel_rfl
def I85 : Sp := ⟨[(0, .agg c'3), (1, oro 92)], [], []⟩
def E85 : SL := [(.ret, ⟨[(4, os)], [], []⟩)]
def S85_0 : Sp := ⟨[(1, oro 92), (2, op 32), (5, os), (6, oi64)], [(32, c'3)], []⟩
def X85_0 : SL := [(.exit 0, ⟨[(5, os)], [], []⟩)]
def J85 : Nat → Option SL := jl []
noncomputable def P85 : Nat → St G → M (Ex × St G) := pl [lpX S85_0 X85_0 nje']
theorem t85 : ∀ p ∈ [(26, e84)], FnOK Tryz.prog G p.1 p.2 := (tc k84 tn)
theorem l85_0 : LoopOK Tryz.prog G 28 (P85 0) (nj' (ng' Tryz.f9) 0) := lk cx t85 J85 1 S85_0 X85_0 (rfl : nje' = _) (by kernel_rfl) (an0 (by kernel_rfl)) fun x => by kernel_rfl
noncomputable def e85 : Fe G := ⟨I85, E85, fun x => nhr' x.1.1.1 x.1.1.2.1 x.1.1.2.2.1 x.1.1.2.2.2.1 x.1.1.2.2.2.2.1 x.1.1.2.2.2.2.2.1 x.1.1.2.2.2.2.2.2.1 x.1.1.2.2.2.2.2.2.2.1 x.1.2.1, Tryz.f9.results.toList⟩
theorem k85 : FnOK Tryz.prog G 9 e85 := fk cx t85 J85 (lp := P85) Tryz.func9 (by kernel_rfl) (by kernel_rfl) rfl (nk' _ (by kernel_rfl) (ni' l85_0 nr')) fun x => by kernel_rfl
def I86 : Sp := ⟨[(0, .agg c'3), (1, .agg c'8)], [], []⟩
def E86 : SL := [(.ret, ⟨[(4, ob)], [], []⟩)]
noncomputable def e86 : Fe G := ⟨I86, E86, fun x => nki' x.1.1.1 x.1.1.2.1 x.1.1.2.2.1 x.1.1.2.2.2.1 x.1.1.2.2.2.2.1 x.1.1.2.2.2.2.2.1 x.1.1.2.2.2.2.2.2.1 x.1.1.2.2.2.2.2.2.2.1 x.1.2.1.1 x.1.2.1.2.1 x.1.2.1.2.2.1 x.1.2.1.2.2.2.1, Tryz.f33.results.toList⟩
theorem k86 : FnOK Tryz.prog G 33 e86 := fk cx (tc k74 tn) (jl [(1048577, [(.normal, ⟨[(4, ob)], [], []⟩)])]) (lp := (pl [])) Tryz.func33 (by kernel_rfl) (by kernel_rfl) rfl (an0 (by kernel_rfl)) fun x => by kernel_rfl
def I87 : Sp := ⟨[(0, oi64), (1, .agg c'5)], [], []⟩
def E87 : SL := [(.ret, ⟨[(4, ob)], [], []⟩)]
noncomputable def e87 : Fe G := ⟨I87, E87, fun x => nfl' x.1.1 x.1.2.1.1 x.1.2.1.2.1 x.1.2.1.2.2.1, Tryz.f34.results.toList⟩
theorem k87 : FnOK Tryz.prog G 34 e87 := fk cx tn (jl [(1048577, [(.normal, ⟨[(4, ob)], [], []⟩)])]) (lp := (pl [])) Tryz.func34 (by kernel_rfl) (by kernel_rfl) rfl (an0 (by kernel_rfl)) fun x => by kernel_rfl
def I88 : Sp := ⟨[], [], []⟩
def E88 : SL := [(.ret, ⟨[(0, op 0)], [(0, c'16)], []⟩)]
noncomputable def e88 : Fe G := ⟨I88, E88, fun _ => njy', Tryz.f35.results.toList⟩
theorem k88 : FnOK Tryz.prog G 35 e88 := fk cx tn (jl []) (lp := (pl [])) Tryz.func35 (by kernel_rfl) (by kernel_rfl) rfl (an0 (by kernel_rfl)) fun x => by kernel_rfl
def I89 : Sp := ⟨[(0, .agg c'3), (1, .agg c'8), (2, .agg c'5)], [], []⟩
def E89 : SL := [(.ret, ⟨[(6, op 96), (7, oi64)], [(96, c'23)], []⟩)]
def S89_0 : Sp := ⟨[(3, op 48), (4, op 64), (6, op 96), (8, oi64), (9, op 144), (10, oi64)], [(48, c'3), (64, c'8), (96, c'17), (144, c'24)], []⟩
def X89_0 : SL := [(.exit 0, ⟨[(3, op 48), (4, op 64), (6, op 96), (9, op 144)], [(48, c'3), (64, c'8), (96, c'17), (144, c'24)], []⟩)]
def S89_1 : Sp := ⟨[(3, op 48), (4, op 64), (6, op 96), (9, op 144), (11, oi64)], [(48, c'3), (64, c'8), (96, c'17), (144, c'24)], []⟩
def X89_1 : SL := [(.exit 2, ⟨[(6, op 96), (9, op 144)], [(96, c'17), (144, c'24)], []⟩)]
def J89 : Nat → Option SL := jl [(17, [(.normal, ⟨[(3, op 48), (4, op 64), (6, op 96), (9, op 144), (11, oi64), (12, oi64)], [(48, c'3), (64, c'8), (96, c'17), (144, c'24)], []⟩)])]
noncomputable def P89 : Nat → St G → M (Ex × St G) := pl [lpX S89_0 X89_0 nhf', lpX S89_1 X89_1 nhh']
theorem t89 : ∀ p ∈ [(33, e86), (34, e87), (35, e88)], FnOK Tryz.prog G p.1 p.2 := (tc k86 (tc k87 (tc k88 tn)))
noncomputable def n5r' (_h_r19_New : (Unit × Unit) → Option ((Unit × Unit) × (T'29 × Unit))) (i b_Floors b_Debounce b_Room b_Park : Int) (b_Empty b_Full b_Over : Nat) (b_Cars : List (Car)) (m_Phases : List (Int)) (m_Flags m_Leaving : List (Bool)) (m_Entries : List (Entry)) (b6_Image_Phases : List (Int)) (b6_Image_Flags b6_Image_Leaving : List (Bool)) (b6_Image_Entries : List (Entry)) (b6_Store_Halves_0 b6_Store_Halves_1 : ByteArray) (b6_Store_Select : Int) (b6_Contacts : List (Debounced)) (b6_Beliefs : List (Belief)) (b6_Cars : List (NewCar)) (b6_Loads : List (Loaded)) (b6_Expect : List (Int)) (b6_Lit : List (Calls)) (b6_Tick b6_Faults b6_Refused : Int) (out_Image_Phases : List (Int)) (out_Image_Flags out_Image_Leaving : List (Bool)) (out_Image_Entries : List (Entry)) (out_Store_Halves_0 out_Store_Halves_1 : ByteArray) (out_Store_Select : Int) (out_Contacts : List (Debounced)) (out_Beliefs : List (Belief)) (out_Cars : List (NewCar)) (out_Loads : List (Loaded)) (out_Expect : List (Int)) (out_Lit : List (Calls)) (out_Tick out_Faults out_Refused : Int) : Option (Sum (T'59 × T'32) ((Unit × Unit × Unit) × (T'30 × T'30 × Unit))) :=
 bif (decide (i < ((List.length m_Entries : Nat) : Int))) then
 Option.bind (bif (inB i (List.length m_Entries)) then
 let z0 : Entry := (List.getD m_Entries (Int.toNat i) (Entry.mk (0 : Int) (0 : Int) (0 : Int) (0 : Int) false))
 bif (decide ((0 : Int) ≤ z0.Car)) then
 bif (inB z0.Car (List.length b_Cars)) then
 some (((), (), (), (), i, (List.getD b_Cars (Int.toNat z0.Car) (Car.mk (0 : Int) (0 : Int) (0 : Int) (0 : Int) (0 : Int) (0 : Int) (0 : Int) (0 : Int) (0 : Int))).Deadline, ()), ((b_Floors, b_Debounce, b_Room, b_Park, b_Empty, b_Full, b_Over, b_Cars, ()), (m_Phases, m_Flags, m_Leaving, m_Entries, ()), (b6_Image_Phases, b6_Image_Flags, b6_Image_Leaving, b6_Image_Entries, b6_Store_Halves_0, b6_Store_Halves_1, b6_Store_Select, b6_Contacts, b6_Beliefs, b6_Cars, b6_Loads, b6_Expect, b6_Lit, b6_Tick, b6_Faults, b6_Refused, ()), (out_Image_Phases, out_Image_Flags, out_Image_Leaving, out_Image_Entries, out_Store_Halves_0, out_Store_Halves_1, out_Store_Select, out_Contacts, out_Beliefs, out_Cars, out_Loads, out_Expect, out_Lit, out_Tick, out_Faults, out_Refused, ()), ()))
 else
 none
 else
 some (((), (), (), (), i, (0 : Int), ()), ((b_Floors, b_Debounce, b_Room, b_Park, b_Empty, b_Full, b_Over, b_Cars, ()), (m_Phases, m_Flags, m_Leaving, m_Entries, ()), (b6_Image_Phases, b6_Image_Flags, b6_Image_Leaving, b6_Image_Entries, b6_Store_Halves_0, b6_Store_Halves_1, b6_Store_Select, b6_Contacts, b6_Beliefs, b6_Cars, b6_Loads, b6_Expect, b6_Lit, b6_Tick, b6_Faults, b6_Refused, ()), (out_Image_Phases, out_Image_Flags, out_Image_Leaving, out_Image_Entries, out_Store_Halves_0, out_Store_Halves_1, out_Store_Select, out_Contacts, out_Beliefs, out_Cars, out_Loads, out_Expect, out_Lit, out_Tick, out_Faults, out_Refused, ()), ()))
 else
 none) fun y1 =>
 let z1 : List (Int) := [y1.1.2.2.2.2.2.1]
 bif (Nat.ble ((List.length y1.2.2.2.2.1.2.2.2.2.2.2.2.2.2.2.2.1) + (List.length z1)) 2147483648) then
 some (Sum.inl (((), (), (), (), (IntKind.i64.wrap (y1.1.2.2.2.2.1 + (1 : Int))), ()), (y1.2.1, y1.2.2.1, y1.2.2.2.1, (y1.2.2.2.2.1.1, y1.2.2.2.2.1.2.1, y1.2.2.2.2.1.2.2.1, y1.2.2.2.2.1.2.2.2.1, y1.2.2.2.2.1.2.2.2.2.1, y1.2.2.2.2.1.2.2.2.2.2.1, y1.2.2.2.2.1.2.2.2.2.2.2.1, y1.2.2.2.2.1.2.2.2.2.2.2.2.1, y1.2.2.2.2.1.2.2.2.2.2.2.2.2.1, y1.2.2.2.2.1.2.2.2.2.2.2.2.2.2.1, y1.2.2.2.2.1.2.2.2.2.2.2.2.2.2.2.1, (y1.2.2.2.2.1.2.2.2.2.2.2.2.2.2.2.2.1 ++ z1), y1.2.2.2.2.1.2.2.2.2.2.2.2.2.2.2.2.2.1, y1.2.2.2.2.1.2.2.2.2.2.2.2.2.2.2.2.2.2.1, y1.2.2.2.2.1.2.2.2.2.2.2.2.2.2.2.2.2.2.2.1, y1.2.2.2.2.1.2.2.2.2.2.2.2.2.2.2.2.2.2.2.2.1, ()), ())))
 else
 none
 else
 some (Sum.inr (((), (), ()), ((b6_Image_Phases, b6_Image_Flags, b6_Image_Leaving, b6_Image_Entries, b6_Store_Halves_0, b6_Store_Halves_1, b6_Store_Select, b6_Contacts, b6_Beliefs, b6_Cars, b6_Loads, b6_Expect, b6_Lit, b6_Tick, b6_Faults, b6_Refused, ()), (out_Image_Phases, out_Image_Flags, out_Image_Leaving, out_Image_Entries, out_Store_Halves_0, out_Store_Halves_1, out_Store_Select, out_Contacts, out_Beliefs, out_Cars, out_Loads, out_Expect, out_Lit, out_Tick, out_Faults, out_Refused, ()), ())))
theorem g89_1 (h_r19_New : (Unit × Unit) → Option ((Unit × Unit) × (T'29 × Unit))) (x : S89_1.T G) : rndI (cfP [(33, e86), (34, e87), (35, Fe.mk (G := G) I88 E88 h_r19_New Tryz.f35.results.toList)]) P89 J89 79 2 (nj' (ng' Tryz.f12) 1) S89_1 X89_1 x = n5r' h_r19_New x.1.2.2.2.2.1 x.2.1.1 x.2.1.2.1 x.2.1.2.2.1 x.2.1.2.2.2.1 x.2.1.2.2.2.2.1 x.2.1.2.2.2.2.2.1 x.2.1.2.2.2.2.2.2.1 x.2.1.2.2.2.2.2.2.2.1 x.2.2.1.1 x.2.2.1.2.1 x.2.2.1.2.2.1 x.2.2.1.2.2.2.1 x.2.2.2.1.1 x.2.2.2.1.2.1 x.2.2.2.1.2.2.1 x.2.2.2.1.2.2.2.1 x.2.2.2.1.2.2.2.2.1 x.2.2.2.1.2.2.2.2.2.1 x.2.2.2.1.2.2.2.2.2.2.1 x.2.2.2.1.2.2.2.2.2.2.2.1 x.2.2.2.1.2.2.2.2.2.2.2.2.1 x.2.2.2.1.2.2.2.2.2.2.2.2.2.1 x.2.2.2.1.2.2.2.2.2.2.2.2.2.2.1 x.2.2.2.1.2.2.2.2.2.2.2.2.2.2.2.1 x.2.2.2.1.2.2.2.2.2.2.2.2.2.2.2.2.1 x.2.2.2.1.2.2.2.2.2.2.2.2.2.2.2.2.2.1 x.2.2.2.1.2.2.2.2.2.2.2.2.2.2.2.2.2.2.1 x.2.2.2.1.2.2.2.2.2.2.2.2.2.2.2.2.2.2.2.1 x.2.2.2.2.1.1 x.2.2.2.2.1.2.1 x.2.2.2.2.1.2.2.1 x.2.2.2.2.1.2.2.2.1 x.2.2.2.2.1.2.2.2.2.1 x.2.2.2.2.1.2.2.2.2.2.1 x.2.2.2.2.1.2.2.2.2.2.2.1 x.2.2.2.2.1.2.2.2.2.2.2.2.1 x.2.2.2.2.1.2.2.2.2.2.2.2.2.1 x.2.2.2.2.1.2.2.2.2.2.2.2.2.2.1 x.2.2.2.2.1.2.2.2.2.2.2.2.2.2.2.1 x.2.2.2.2.1.2.2.2.2.2.2.2.2.2.2.2.1 x.2.2.2.2.1.2.2.2.2.2.2.2.2.2.2.2.2.1 x.2.2.2.2.1.2.2.2.2.2.2.2.2.2.2.2.2.2.1 x.2.2.2.2.1.2.2.2.2.2.2.2.2.2.2.2.2.2.2.1 x.2.2.2.2.1.2.2.2.2.2.2.2.2.2.2.2.2.2.2.2.1 := by kernel_rfl
theorem l89_1 : LoopOK Tryz.prog G 79 (P89 1) (nj' (ng' Tryz.f12) 1) := lk cx t89 J89 2 S89_1 X89_1 (rfl : nhh' = _) (by kernel_rfl) (an0 (by kernel_rfl)) fun x => (g89_1 (fun _ => njy' ) x).trans (by kernel_rfl)
noncomputable def n41' (h_r19_New : (Unit × Unit) → Option ((Unit × Unit) × (T'29 × Unit))) (n i b_Floors b_Debounce b_Room b_Park : Int) (b_Empty b_Full b_Over : Nat) (b_Cars : List (Car)) (m_Phases : List (Int)) (m_Flags m_Leaving : List (Bool)) (m_Entries : List (Entry)) (b6_Image_Phases : List (Int)) (b6_Image_Flags b6_Image_Leaving : List (Bool)) (b6_Image_Entries : List (Entry)) (b6_Store_Halves_0 b6_Store_Halves_1 : ByteArray) (b6_Store_Select : Int) (b6_Contacts : List (Debounced)) (b6_Beliefs : List (Belief)) (b6_Cars : List (NewCar)) (b6_Loads : List (Loaded)) (b6_Expect : List (Int)) (b6_Lit : List (Calls)) (b6_Tick b6_Faults b6_Refused : Int) (out_Image_Phases : List (Int)) (out_Image_Flags out_Image_Leaving : List (Bool)) (out_Image_Entries : List (Entry)) (out_Store_Halves_0 out_Store_Halves_1 : ByteArray) (out_Store_Select : Int) (out_Contacts : List (Debounced)) (out_Beliefs : List (Belief)) (out_Cars : List (NewCar)) (out_Loads : List (Loaded)) (out_Expect : List (Int)) (out_Lit : List (Calls)) (out_Tick out_Faults out_Refused : Int) : Option (Sum (T'58 × T'32) (T'33 × T'32)) :=
 bif (decide (i < n)) then
 (h_r19_New ((), ())).bind fun y1 =>
 let z0 : List (Belief) := [(Belief.mk y1.2.1.1 y1.2.1.2.1 y1.2.1.2.2.1 y1.2.1.2.2.2.1 y1.2.1.2.2.2.2.1 y1.2.1.2.2.2.2.2.1)]
 bif (Nat.ble ((List.length out_Beliefs) + (List.length z0)) 2147483648) then
 some (Sum.inl (((), (), (), n, (), (IntKind.i64.wrap (i + (1 : Int))), ()), ((b_Floors, b_Debounce, b_Room, b_Park, b_Empty, b_Full, b_Over, b_Cars, ()), (m_Phases, m_Flags, m_Leaving, m_Entries, ()), (b6_Image_Phases, b6_Image_Flags, b6_Image_Leaving, b6_Image_Entries, b6_Store_Halves_0, b6_Store_Halves_1, b6_Store_Select, b6_Contacts, b6_Beliefs, b6_Cars, b6_Loads, b6_Expect, b6_Lit, b6_Tick, b6_Faults, b6_Refused, ()), (out_Image_Phases, out_Image_Flags, out_Image_Leaving, out_Image_Entries, out_Store_Halves_0, out_Store_Halves_1, out_Store_Select, out_Contacts, (out_Beliefs ++ z0), out_Cars, out_Loads, out_Expect, out_Lit, out_Tick, out_Faults, out_Refused, ()), ())))
 else
 none
 else
 some (Sum.inr (((), (), (), (), ()), ((b_Floors, b_Debounce, b_Room, b_Park, b_Empty, b_Full, b_Over, b_Cars, ()), (m_Phases, m_Flags, m_Leaving, m_Entries, ()), (b6_Image_Phases, b6_Image_Flags, b6_Image_Leaving, b6_Image_Entries, b6_Store_Halves_0, b6_Store_Halves_1, b6_Store_Select, b6_Contacts, b6_Beliefs, b6_Cars, b6_Loads, b6_Expect, b6_Lit, b6_Tick, b6_Faults, b6_Refused, ()), (out_Image_Phases, out_Image_Flags, out_Image_Leaving, out_Image_Entries, out_Store_Halves_0, out_Store_Halves_1, out_Store_Select, out_Contacts, out_Beliefs, out_Cars, out_Loads, out_Expect, out_Lit, out_Tick, out_Faults, out_Refused, ()), ())))
theorem g89_0 (h_r19_New : (Unit × Unit) → Option ((Unit × Unit) × (T'29 × Unit))) (x : S89_0.T G) : rndI (cfP [(33, e86), (34, e87), (35, Fe.mk (G := G) I88 E88 h_r19_New Tryz.f35.results.toList)]) P89 J89 79 1 (nj' (ng' Tryz.f12) 0) S89_0 X89_0 x = n41' h_r19_New x.1.2.2.2.1 x.1.2.2.2.2.2.1 x.2.1.1 x.2.1.2.1 x.2.1.2.2.1 x.2.1.2.2.2.1 x.2.1.2.2.2.2.1 x.2.1.2.2.2.2.2.1 x.2.1.2.2.2.2.2.2.1 x.2.1.2.2.2.2.2.2.2.1 x.2.2.1.1 x.2.2.1.2.1 x.2.2.1.2.2.1 x.2.2.1.2.2.2.1 x.2.2.2.1.1 x.2.2.2.1.2.1 x.2.2.2.1.2.2.1 x.2.2.2.1.2.2.2.1 x.2.2.2.1.2.2.2.2.1 x.2.2.2.1.2.2.2.2.2.1 x.2.2.2.1.2.2.2.2.2.2.1 x.2.2.2.1.2.2.2.2.2.2.2.1 x.2.2.2.1.2.2.2.2.2.2.2.2.1 x.2.2.2.1.2.2.2.2.2.2.2.2.2.1 x.2.2.2.1.2.2.2.2.2.2.2.2.2.2.1 x.2.2.2.1.2.2.2.2.2.2.2.2.2.2.2.1 x.2.2.2.1.2.2.2.2.2.2.2.2.2.2.2.2.1 x.2.2.2.1.2.2.2.2.2.2.2.2.2.2.2.2.2.1 x.2.2.2.1.2.2.2.2.2.2.2.2.2.2.2.2.2.2.1 x.2.2.2.1.2.2.2.2.2.2.2.2.2.2.2.2.2.2.2.1 x.2.2.2.2.1.1 x.2.2.2.2.1.2.1 x.2.2.2.2.1.2.2.1 x.2.2.2.2.1.2.2.2.1 x.2.2.2.2.1.2.2.2.2.1 x.2.2.2.2.1.2.2.2.2.2.1 x.2.2.2.2.1.2.2.2.2.2.2.1 x.2.2.2.2.1.2.2.2.2.2.2.2.1 x.2.2.2.2.1.2.2.2.2.2.2.2.2.1 x.2.2.2.2.1.2.2.2.2.2.2.2.2.2.1 x.2.2.2.2.1.2.2.2.2.2.2.2.2.2.2.1 x.2.2.2.2.1.2.2.2.2.2.2.2.2.2.2.2.1 x.2.2.2.2.1.2.2.2.2.2.2.2.2.2.2.2.2.1 x.2.2.2.2.1.2.2.2.2.2.2.2.2.2.2.2.2.2.1 x.2.2.2.2.1.2.2.2.2.2.2.2.2.2.2.2.2.2.2.1 x.2.2.2.2.1.2.2.2.2.2.2.2.2.2.2.2.2.2.2.2.1 := by kernel_rfl
theorem l89_0 : LoopOK Tryz.prog G 79 (P89 0) (nj' (ng' Tryz.f12) 0) := lk cx t89 J89 1 S89_0 X89_0 (rfl : nhf' = _) (by kernel_rfl) (an0 (by kernel_rfl)) fun x => (g89_0 (fun _ => njy' ) x).trans (by kernel_rfl)
noncomputable def H89 (_h_r19_New : (Unit × Unit) → Option ((Unit × Unit) × (T'29 × Unit))) (b_Floors b_Debounce b_Room b_Park : Int) (b_Empty b_Full b_Over : Nat) (b_Cars : List (Car)) (m_Phases : List (Int)) (m_Flags m_Leaving : List (Bool)) (m_Entries : List (Entry)) (s_Halves_0 s_Halves_1 : ByteArray) (s_Select : Int) : Option ((Unit × Int × Unit) × (T'30 × Unit)) :=
 (nki' b_Floors b_Debounce b_Room b_Park b_Empty b_Full b_Over b_Cars m_Phases m_Flags m_Leaving m_Entries).bind fun y1 =>
 bif (!y1.1.1) then
 some (((), (1 : Int), ()), ((([] : List (Int)), ([] : List (Bool)), ([] : List (Bool)), ([] : List (Entry)), (ByteArray.mk (Array.mk [])), (ByteArray.mk (Array.mk [])), (0 : Int), ([] : List (Debounced)), ([] : List (Belief)), ([] : List (NewCar)), ([] : List (Loaded)), ([] : List (Int)), ([] : List (Calls)), (0 : Int), (0 : Int), (0 : Int), ()), ()))
 else
 (nfl' b_Room s_Halves_0 s_Halves_1 s_Select).bind fun y2 =>
 bif (!y2.1.1) then
 some (((), (1 : Int), ()), ((([] : List (Int)), ([] : List (Bool)), ([] : List (Bool)), ([] : List (Entry)), (ByteArray.mk (Array.mk [])), (ByteArray.mk (Array.mk [])), (0 : Int), ([] : List (Debounced)), ([] : List (Belief)), ([] : List (NewCar)), ([] : List (Loaded)), ([] : List (Int)), ([] : List (Calls)), (0 : Int), (0 : Int), (0 : Int), ()), ()))
 else
 let z0 : Int := ((List.length b_Cars : Nat) : Int)
 bif (((decide ((0 : Int) ≤ z0)) && (decide (z0 ≤ z0))) && (decide (z0 ≤ (2147483648 : Int)))) then
 bif (((decide ((0 : Int) ≤ z0)) && (decide (z0 ≤ z0))) && (decide (z0 ≤ (2147483648 : Int)))) then
 bif (((decide ((0 : Int) ≤ z0)) && (decide (z0 ≤ z0))) && (decide (z0 ≤ (2147483648 : Int)))) then
 bif (((decide ((0 : Int) ≤ z0)) && (decide (z0 ≤ z0))) && (decide (z0 ≤ (2147483648 : Int)))) then
 (nhf' (((), (), (), z0, (), (0 : Int), ()), ((b_Floors, b_Debounce, b_Room, b_Park, b_Empty, b_Full, b_Over, b_Cars, ()), (m_Phases, m_Flags, m_Leaving, m_Entries, ()), (([] : List (Int)), ([] : List (Bool)), ([] : List (Bool)), ([] : List (Entry)), (ByteArray.mk (Array.mk [])), (ByteArray.mk (Array.mk [])), (0 : Int), ([] : List (Debounced)), ([] : List (Belief)), ([] : List (NewCar)), ([] : List (Loaded)), ([] : List (Int)), ([] : List (Calls)), (0 : Int), (0 : Int), (0 : Int), ()), (m_Phases, m_Flags, m_Leaving, m_Entries, s_Halves_0, s_Halves_1, s_Select, (List.replicate (Int.toNat z0) (Debounced.mk (0 : Int) false false false false (0 : Int) (0 : Int) (0 : Int) (0 : Int) (0 : Int) (0 : Int) (0 : Int) (0 : Int) (0 : Int) (0 : Int) (0 : Int) (0 : Int) (0 : Int) (0 : Int) (0 : Int) (0 : Int) (0 : Int) (0 : Int) (0 : Int) (0 : Int) (0 : Int) (0 : Int) (0 : Int) (0 : Int) (0 : Int) (0 : Int) (0 : Int) (0 : Int) (0 : Int) (0 : Int) (0 : Int) (0 : Int) (0 : Int) (0 : Int) (0 : Int) (0 : Int))), ([] : List (Belief)), (List.replicate (Int.toNat z0) (NewCar.mk (0 : Int) (0 : Int) (0 : Int) (0 : Int) (0 : Int) false (0 : Int) (0 : Int) (0 : Int) (0 : Int) (0 : Int) (0 : Int) (0 : Int) false)), (List.replicate (Int.toNat z0) (Loaded.mk (0 : Int))), ([] : List (Int)), (List.replicate (Int.toNat z0) (Calls.mk (0 : Int) (0 : Int))), (0 : Int), (0 : Int), (0 : Int), ()), ()))).bind fun y3 =>
 (nhh' (((), (), (), (), (0 : Int), ()), (y3.2.1, y3.2.2.1, y3.2.2.2.1, y3.2.2.2.2.1, ()))).bind fun y4 =>
 some (((), (0 : Int), ()), (y4.2.2.1, ()))
 else
 none
 else
 none
 else
 none
 else
 none
theorem q89 (h_r19_New : (Unit × Unit) → Option ((Unit × Unit) × (T'29 × Unit))) (x : I89.T G) : endI (cfP [(33, e86), (34, e87), (35, Fe.mk (G := G) I88 E88 h_r19_New Tryz.f35.results.toList)]) P89 J89 79 (ng' Tryz.f12) I89 E89 x = H89 h_r19_New x.1.1.1 x.1.1.2.1 x.1.1.2.2.1 x.1.1.2.2.2.1 x.1.1.2.2.2.2.1 x.1.1.2.2.2.2.2.1 x.1.1.2.2.2.2.2.2.1 x.1.1.2.2.2.2.2.2.2.1 x.1.2.1.1 x.1.2.1.2.1 x.1.2.1.2.2.1 x.1.2.1.2.2.2.1 x.1.2.2.1.1 x.1.2.2.1.2.1 x.1.2.2.1.2.2.1 := by kernel_rfl
noncomputable def e89 : Fe G := ⟨I89, E89, fun x => nf6' x.1.1.1 x.1.1.2.1 x.1.1.2.2.1 x.1.1.2.2.2.1 x.1.1.2.2.2.2.1 x.1.1.2.2.2.2.2.1 x.1.1.2.2.2.2.2.2.1 x.1.1.2.2.2.2.2.2.2.1 x.1.2.1.1 x.1.2.1.2.1 x.1.2.1.2.2.1 x.1.2.1.2.2.2.1 x.1.2.2.1.1 x.1.2.2.1.2.1 x.1.2.2.1.2.2.1, Tryz.f12.results.toList⟩
theorem k89 : FnOK Tryz.prog G 12 e89 := fk cx t89 J89 (lp := P89) Tryz.func12 (by kernel_rfl) (by kernel_rfl) rfl (nk' _ (by kernel_rfl) (ni' l89_0 (ni' l89_1 nr'))) fun x => (q89 (fun _ => njy' ) x).trans (by kernel_rfl)
def I90 : Sp := ⟨[(0, .agg c'8), (1, .agg c'8)], [], []⟩
def E90 : SL := [(.ret, ⟨[(4, ob)], [], []⟩)]
def S90_0 : Sp := ⟨[(2, op 32), (3, op 48), (5, oi64)], [(32, c'8), (48, c'8)], []⟩
def X90_0 : SL := [(.exit 0, ⟨[(2, op 32), (3, op 48)], [(32, c'8), (48, c'8)], []⟩), (.ret, ⟨[(4, ob)], [], []⟩)]
def S90_1 : Sp := ⟨[(2, op 32), (3, op 48), (6, oi64)], [(32, c'8), (48, c'8)], []⟩
def X90_1 : SL := [(.exit 2, ⟨[(2, op 32), (3, op 48)], [(32, c'8), (48, c'8)], []⟩), (.ret, ⟨[(4, ob)], [], []⟩)]
def S90_2 : Sp := ⟨[(2, op 32), (3, op 48), (7, oi64)], [(32, c'8), (48, c'8)], []⟩
def X90_2 : SL := [(.exit 4, ⟨[(2, op 32), (3, op 48)], [(32, c'8), (48, c'8)], []⟩), (.ret, ⟨[(4, ob)], [], []⟩)]
def S90_3 : Sp := ⟨[(2, op 32), (3, op 48), (8, oi64)], [(32, c'8), (48, c'8)], []⟩
def X90_3 : SL := [(.exit 6, ⟨[], [], []⟩), (.ret, ⟨[(4, ob)], [], []⟩)]
def J90 : Nat → Option SL := jl []
noncomputable def P90 : Nat → St G → M (Ex × St G) := pl [lpX S90_0 X90_0 nj5', lpX S90_1 X90_1 nku', lpX S90_2 X90_2 nkd', lpX S90_3 X90_3 nj1']
theorem l90_3 : LoopOK Tryz.prog G 115 (P90 3) (nj' (ng' Tryz.f21) 3) := lk cx tn J90 4 S90_3 X90_3 (rfl : nj1' = _) (by kernel_rfl) (an0 (by kernel_rfl)) fun x => by kernel_rfl
theorem l90_2 : LoopOK Tryz.prog G 115 (P90 2) (nj' (ng' Tryz.f21) 2) := lk cx tn J90 3 S90_2 X90_2 (rfl : nkd' = _) (by kernel_rfl) (an0 (by kernel_rfl)) fun x => by kernel_rfl
theorem l90_1 : LoopOK Tryz.prog G 115 (P90 1) (nj' (ng' Tryz.f21) 1) := lk cx tn J90 2 S90_1 X90_1 (rfl : nku' = _) (by kernel_rfl) (an0 (by kernel_rfl)) fun x => by kernel_rfl
theorem l90_0 : LoopOK Tryz.prog G 115 (P90 0) (nj' (ng' Tryz.f21) 0) := lk cx tn J90 1 S90_0 X90_0 (rfl : nj5' = _) (by kernel_rfl) (an0 (by kernel_rfl)) fun x => by kernel_rfl
noncomputable def e90 : Fe G := ⟨I90, E90, fun x => nmd' x.1.1.1 x.1.1.2.1 x.1.1.2.2.1 x.1.1.2.2.2.1 x.1.2.1.1 x.1.2.1.2.1 x.1.2.1.2.2.1 x.1.2.1.2.2.2.1, Tryz.f21.results.toList⟩
theorem k90 : FnOK Tryz.prog G 21 e90 := fk cx tn J90 (lp := P90) Tryz.func21 (by kernel_rfl) (by kernel_rfl) rfl (nk' _ (by kernel_rfl) (ni' l90_0 (ni' l90_1 (ni' l90_2 (ni' l90_3 nr'))))) fun x => by kernel_rfl
def I91 : Sp := ⟨[(0, oro 82), (1, oro 82)], [], []⟩
def E91 : SL := [(.ret, ⟨[(4, ob)], [], []⟩)]
def S91_0 : Sp := ⟨[(0, oro 82), (1, oro 82), (5, oi64)], [], []⟩
def X91_0 : SL := [(.exit 0, ⟨[], [], []⟩), (.ret, ⟨[(4, ob)], [], []⟩)]
def J91 : Nat → Option SL := jl []
noncomputable def P91 : Nat → St G → M (Ex × St G) := pl [lpX S91_0 X91_0 ngb']
theorem l91_0 : LoopOK Tryz.prog G 26 (P91 0) (nj' (ng' Tryz.f36) 0) := lk cx tn J91 1 S91_0 X91_0 (rfl : ngb' = _) (by kernel_rfl) (an0 (by kernel_rfl)) fun x => by kernel_rfl
noncomputable def e91 : Fe G := ⟨I91, E91, fun x => nh9' x.1.1 x.1.2.1, Tryz.f36.results.toList⟩
theorem k91 : FnOK Tryz.prog G 36 e91 := fk cx tn J91 (lp := P91) Tryz.func36 (by kernel_rfl) (by kernel_rfl) rfl (nk' _ (by kernel_rfl) (ni' l91_0 nr')) fun x => by kernel_rfl
def I92 : Sp := ⟨[(0, oro 3), (1, oro 3)], [], []⟩
def E92 : SL := [(.ret, ⟨[(4, ob)], [], []⟩)]
def S92_0 : Sp := ⟨[(0, oro 3), (1, oro 3), (5, oi64)], [], []⟩
def X92_0 : SL := [(.exit 0, ⟨[], [], []⟩), (.ret, ⟨[(4, ob)], [], []⟩)]
def J92 : Nat → Option SL := jl []
noncomputable def P92 : Nat → St G → M (Ex × St G) := pl [lpX S92_0 X92_0 ng7']
theorem l92_0 : LoopOK Tryz.prog G 26 (P92 0) (nj' (ng' Tryz.f37) 0) := lk cx tn J92 1 S92_0 X92_0 (rfl : ng7' = _) (by kernel_rfl) (an0 (by kernel_rfl)) fun x => by kernel_rfl
noncomputable def e92 : Fe G := ⟨I92, E92, fun x => niq' x.1.1 x.1.2.1, Tryz.f37.results.toList⟩
theorem k92 : FnOK Tryz.prog G 37 e92 := fk cx tn J92 (lp := P92) Tryz.func37 (by kernel_rfl) (by kernel_rfl) rfl (nk' _ (by kernel_rfl) (ni' l92_0 nr')) fun x => by kernel_rfl
def I93 : Sp := ⟨[(0, .agg c'19), (1, .agg c'19)], [], []⟩
def E93 : SL := [(.ret, ⟨[(4, ob)], [], []⟩)]
def S93_0 : Sp := ⟨[(2, op 32), (3, op 48), (5, oi64)], [(32, c'19), (48, c'19)], []⟩
def X93_0 : SL := [(.exit 0, ⟨[], [], []⟩), (.ret, ⟨[(4, ob)], [], []⟩)]
def J93 : Nat → Option SL := jl []
noncomputable def P93 : Nat → St G → M (Ex × St G) := pl [lpX S93_0 X93_0 nkf']
theorem l93_0 : LoopOK Tryz.prog G 66 (P93 0) (nj' (ng' Tryz.f38) 0) := lk cx tn J93 1 S93_0 X93_0 (rfl : nkf' = _) (by kernel_rfl) (an0 (by kernel_rfl)) fun x => by kernel_rfl
noncomputable def e93 : Fe G := ⟨I93, E93, fun x => nmi' x.1.1.1 x.1.1.2.1 x.1.1.2.2.1 x.1.1.2.2.2.1 x.1.1.2.2.2.2.1 x.1.1.2.2.2.2.2.1 x.1.2.1.1 x.1.2.1.2.1 x.1.2.1.2.2.1 x.1.2.1.2.2.2.1 x.1.2.1.2.2.2.2.1 x.1.2.1.2.2.2.2.2.1, Tryz.f38.results.toList⟩
theorem k93 : FnOK Tryz.prog G 38 e93 := fk cx tn J93 (lp := P93) Tryz.func38 (by kernel_rfl) (by kernel_rfl) rfl (nk' _ (by kernel_rfl) (ni' l93_0 nr')) fun x => by kernel_rfl
def I94 : Sp := ⟨[(0, .agg c'20), (1, .agg c'20)], [], []⟩
def E94 : SL := [(.ret, ⟨[(4, ob)], [], []⟩)]
def S94_0 : Sp := ⟨[(2, op 32), (3, op 48), (5, oi64)], [(32, c'20), (48, c'20)], []⟩
def X94_0 : SL := [(.exit 0, ⟨[(2, op 32), (3, op 48)], [(32, c'20), (48, c'20)], []⟩), (.ret, ⟨[(4, ob)], [], []⟩)]
def S94_1 : Sp := ⟨[(2, op 32), (3, op 48), (6, oi64)], [(32, c'20), (48, c'20)], []⟩
def X94_1 : SL := [(.exit 2, ⟨[(2, op 32), (3, op 48)], [(32, c'20), (48, c'20)], []⟩), (.ret, ⟨[(4, ob)], [], []⟩)]
def S94_2 : Sp := ⟨[(2, op 32), (3, op 48), (7, oi64)], [(32, c'20), (48, c'20)], []⟩
def X94_2 : SL := [(.exit 4, ⟨[(2, op 32), (3, op 48)], [(32, c'20), (48, c'20)], []⟩), (.ret, ⟨[(4, ob)], [], []⟩)]
def S94_3 : Sp := ⟨[(2, op 32), (3, op 48), (8, oi64)], [(32, c'20), (48, c'20)], []⟩
def X94_3 : SL := [(.exit 6, ⟨[], [], []⟩), (.ret, ⟨[(4, ob)], [], []⟩)]
def J94 : Nat → Option SL := jl []
noncomputable def P94 : Nat → St G → M (Ex × St G) := pl [lpX S94_0 X94_0 nkg', lpX S94_1 X94_1 nkx', lpX S94_2 X94_2 nko', lpX S94_3 X94_3 nj2']
theorem t94 : ∀ p ∈ [(21, e90), (36, e91), (37, e92), (38, e93)], FnOK Tryz.prog G p.1 p.2 := (tc k90 (tc k91 (tc k92 (tc k93 tn))))
theorem l94_3 : LoopOK Tryz.prog G 168 (P94 3) (nj' (ng' Tryz.f13) 3) := lk cx t94 J94 4 S94_3 X94_3 (rfl : nj2' = _) (by kernel_rfl) (an0 (by kernel_rfl)) fun x => by kernel_rfl
theorem l94_2 : LoopOK Tryz.prog G 168 (P94 2) (nj' (ng' Tryz.f13) 2) := lk cx t94 J94 3 S94_2 X94_2 (rfl : nko' = _) (by kernel_rfl) (an0 (by kernel_rfl)) fun x => by kernel_rfl
theorem l94_1 : LoopOK Tryz.prog G 168 (P94 1) (nj' (ng' Tryz.f13) 1) := lk cx t94 J94 2 S94_1 X94_1 (rfl : nkx' = _) (by kernel_rfl) (an0 (by kernel_rfl)) fun x => by kernel_rfl
theorem l94_0 : LoopOK Tryz.prog G 168 (P94 0) (nj' (ng' Tryz.f13) 0) := lk cx t94 J94 1 S94_0 X94_0 (rfl : nkg' = _) (by kernel_rfl) (an0 (by kernel_rfl)) fun x => by kernel_rfl
noncomputable def e94 : Fe G := ⟨I94, E94, fun x => nej' x.1.1.1 x.1.1.2.1 x.1.1.2.2.1 x.1.1.2.2.2.1 x.1.1.2.2.2.2.1 x.1.1.2.2.2.2.2.1 x.1.1.2.2.2.2.2.2.1 x.1.1.2.2.2.2.2.2.2.1 x.1.1.2.2.2.2.2.2.2.2.1 x.1.1.2.2.2.2.2.2.2.2.2.1 x.1.1.2.2.2.2.2.2.2.2.2.2.1 x.1.1.2.2.2.2.2.2.2.2.2.2.2.1 x.1.1.2.2.2.2.2.2.2.2.2.2.2.2.1 x.1.1.2.2.2.2.2.2.2.2.2.2.2.2.2.1 x.1.1.2.2.2.2.2.2.2.2.2.2.2.2.2.2.1 x.1.1.2.2.2.2.2.2.2.2.2.2.2.2.2.2.2.1 x.1.2.1.1 x.1.2.1.2.1 x.1.2.1.2.2.1 x.1.2.1.2.2.2.1 x.1.2.1.2.2.2.2.1 x.1.2.1.2.2.2.2.2.1 x.1.2.1.2.2.2.2.2.2.1 x.1.2.1.2.2.2.2.2.2.2.1 x.1.2.1.2.2.2.2.2.2.2.2.1 x.1.2.1.2.2.2.2.2.2.2.2.2.1 x.1.2.1.2.2.2.2.2.2.2.2.2.2.1 x.1.2.1.2.2.2.2.2.2.2.2.2.2.2.1 x.1.2.1.2.2.2.2.2.2.2.2.2.2.2.2.1 x.1.2.1.2.2.2.2.2.2.2.2.2.2.2.2.2.1 x.1.2.1.2.2.2.2.2.2.2.2.2.2.2.2.2.2.1 x.1.2.1.2.2.2.2.2.2.2.2.2.2.2.2.2.2.2.1, Tryz.f13.results.toList⟩
theorem k94 : FnOK Tryz.prog G 13 e94 := fk cx t94 J94 (lp := P94) Tryz.func13 (by kernel_rfl) (by kernel_rfl) rfl (nk' _ (by kernel_rfl) (ni' l94_0 (ni' l94_1 (ni' l94_2 (ni' l94_3 nr'))))) fun x => by kernel_rfl
def I95 : Sp := ⟨[(0, oi64)], [], []⟩
def E95 : SL := [(.ret, ⟨[(2, ob)], [], []⟩)]
noncomputable def e95 : Fe G := ⟨I95, E95, fun x => nfy' x.1.1, Tryz.f79.results.toList⟩
theorem k95 : FnOK Tryz.prog G 79 e95 := fk cx tn (jl [(1048577, [(.normal, ⟨[(2, ob)], [], []⟩)])]) (lp := (pl [])) Tryz.func79 (by kernel_rfl) (by kernel_rfl) rfl (an0 (by kernel_rfl)) fun x => by kernel_rfl
def I96 : Sp := ⟨[(0, oro 3), (1, .one (.clo 79 [] []))], [], []⟩
def E96 : SL := [(.ret, ⟨[(4, oi64)], [], []⟩)]
def S96_0 : Sp := ⟨[(0, oro 3), (1, .one (.clo 79 [] [])), (7, oi64), (8, oi64)], [], []⟩
def X96_0 : SL := [(.exit 0, ⟨[], [], []⟩), (.ret, ⟨[(4, oi64)], [], []⟩)]
def J96 : Nat → Option SL := jl []
noncomputable def P96 : Nat → St G → M (Ex × St G) := pl [lpX S96_0 X96_0 nbm']
theorem t96 : ∀ p ∈ [(79, e95)], FnOK Tryz.prog G p.1 p.2 := (tc k95 tn)
theorem l96_0 : LoopOK Tryz.prog G 19 (P96 0) (nj' (ng' Tryz.f106) 0) := lk cx t96 J96 1 S96_0 X96_0 (rfl : nbm' = _) (by kernel_rfl) (an0 (by kernel_rfl)) fun x => by kernel_rfl
noncomputable def e96 : Fe G := ⟨I96, E96, fun x => nci' x.1.1, Tryz.f106.results.toList⟩
theorem k96 : FnOK Tryz.prog G 106 e96 := fk cx t96 J96 (lp := P96) Tryz.func106 (by kernel_rfl) (by kernel_rfl) rfl (nk' _ (by kernel_rfl) (ni' l96_0 nr')) fun x => by kernel_rfl
def I97 : Sp := ⟨[(0, oro 3), (1, .one (.clo 79 [] []))], [], []⟩
def E97 : SL := [(.ret, ⟨[(4, ob)], [], []⟩)]
noncomputable def e97 : Fe G := ⟨I97, E97, fun x => nb7' x.1.1, Tryz.f78.results.toList⟩
theorem k97 : FnOK Tryz.prog G 78 e97 := fk cx (tc k96 tn) (jl []) (lp := (pl [])) Tryz.func78 (by kernel_rfl) (by kernel_rfl) rfl (an0 (by kernel_rfl)) fun x => by kernel_rfl
def I98 : Sp := ⟨[(0, oro 3)], [], []⟩
def E98 : SL := [(.ret, ⟨[(2, ob)], [], []⟩)]
noncomputable def e98 : Fe G := ⟨I98, E98, fun x => nfh' x.1.1, Tryz.f39.results.toList⟩
theorem k98 : FnOK Tryz.prog G 39 e98 := fk cx (tc k97 tn) (jl []) (lp := (pl [])) Tryz.func39 (by kernel_rfl) (by kernel_rfl) rfl (an0 (by kernel_rfl)) fun x => by kernel_rfl
def I99 : Sp := ⟨[(0, oi64), (1, .agg c'25)], [], []⟩
def E99 : SL := [(.ret, ⟨[(4, ob)], [], []⟩)]
def S99_0 : Sp := ⟨[(0, oi64), (14, .agg c'26), (15, oi64)], [], []⟩
def X99_0 : SL := [(.exit 0, ⟨[], [], []⟩), (.ret, ⟨[(4, ob)], [], []⟩)]
def J99 : Nat → Option SL := jl []
noncomputable def P99 : Nat → St G → M (Ex × St G) := pl [lpX S99_0 X99_0 nfj']
theorem l99_0 : LoopOK Tryz.prog G 26 (P99 0) (nj' (ng' Tryz.f42) 0) := lk cx tn J99 1 S99_0 X99_0 (rfl : nfj' = _) (by kernel_rfl) (an0 (by kernel_rfl)) fun x => by kernel_rfl
noncomputable def e99 : Fe G := ⟨I99, E99, fun x => nga' x.1.1 x.1.2.1.1 x.1.2.1.2.1 x.1.2.1.2.2.1 x.1.2.1.2.2.2.1 x.1.2.1.2.2.2.2.1 x.1.2.1.2.2.2.2.2.1 x.1.2.1.2.2.2.2.2.2.1 x.1.2.1.2.2.2.2.2.2.2.1 x.1.2.1.2.2.2.2.2.2.2.2.1 x.1.2.1.2.2.2.2.2.2.2.2.2.1 x.1.2.1.2.2.2.2.2.2.2.2.2.2.1 x.1.2.1.2.2.2.2.2.2.2.2.2.2.2.1 x.1.2.1.2.2.2.2.2.2.2.2.2.2.2.2.1 x.1.2.1.2.2.2.2.2.2.2.2.2.2.2.2.2.1 x.1.2.1.2.2.2.2.2.2.2.2.2.2.2.2.2.2.1 x.1.2.1.2.2.2.2.2.2.2.2.2.2.2.2.2.2.2.1 x.1.2.1.2.2.2.2.2.2.2.2.2.2.2.2.2.2.2.2.1 x.1.2.1.2.2.2.2.2.2.2.2.2.2.2.2.2.2.2.2.2.1 x.1.2.1.2.2.2.2.2.2.2.2.2.2.2.2.2.2.2.2.2.2.1 x.1.2.1.2.2.2.2.2.2.2.2.2.2.2.2.2.2.2.2.2.2.2.1 x.1.2.1.2.2.2.2.2.2.2.2.2.2.2.2.2.2.2.2.2.2.2.2.1 x.1.2.1.2.2.2.2.2.2.2.2.2.2.2.2.2.2.2.2.2.2.2.2.2.1 x.1.2.1.2.2.2.2.2.2.2.2.2.2.2.2.2.2.2.2.2.2.2.2.2.2.1 x.1.2.1.2.2.2.2.2.2.2.2.2.2.2.2.2.2.2.2.2.2.2.2.2.2.2.1 x.1.2.1.2.2.2.2.2.2.2.2.2.2.2.2.2.2.2.2.2.2.2.2.2.2.2.2.1 x.1.2.1.2.2.2.2.2.2.2.2.2.2.2.2.2.2.2.2.2.2.2.2.2.2.2.2.2.1 x.1.2.1.2.2.2.2.2.2.2.2.2.2.2.2.2.2.2.2.2.2.2.2.2.2.2.2.2.2.1 x.1.2.1.2.2.2.2.2.2.2.2.2.2.2.2.2.2.2.2.2.2.2.2.2.2.2.2.2.2.2.1 x.1.2.1.2.2.2.2.2.2.2.2.2.2.2.2.2.2.2.2.2.2.2.2.2.2.2.2.2.2.2.2.1 x.1.2.1.2.2.2.2.2.2.2.2.2.2.2.2.2.2.2.2.2.2.2.2.2.2.2.2.2.2.2.2.2.1 x.1.2.1.2.2.2.2.2.2.2.2.2.2.2.2.2.2.2.2.2.2.2.2.2.2.2.2.2.2.2.2.2.2.1 x.1.2.1.2.2.2.2.2.2.2.2.2.2.2.2.2.2.2.2.2.2.2.2.2.2.2.2.2.2.2.2.2.2.2.1 x.1.2.1.2.2.2.2.2.2.2.2.2.2.2.2.2.2.2.2.2.2.2.2.2.2.2.2.2.2.2.2.2.2.2.2.1 x.1.2.1.2.2.2.2.2.2.2.2.2.2.2.2.2.2.2.2.2.2.2.2.2.2.2.2.2.2.2.2.2.2.2.2.2.1 x.1.2.1.2.2.2.2.2.2.2.2.2.2.2.2.2.2.2.2.2.2.2.2.2.2.2.2.2.2.2.2.2.2.2.2.2.2.1 x.1.2.1.2.2.2.2.2.2.2.2.2.2.2.2.2.2.2.2.2.2.2.2.2.2.2.2.2.2.2.2.2.2.2.2.2.2.2.1 x.1.2.1.2.2.2.2.2.2.2.2.2.2.2.2.2.2.2.2.2.2.2.2.2.2.2.2.2.2.2.2.2.2.2.2.2.2.2.2.1 x.1.2.1.2.2.2.2.2.2.2.2.2.2.2.2.2.2.2.2.2.2.2.2.2.2.2.2.2.2.2.2.2.2.2.2.2.2.2.2.2.1 x.1.2.1.2.2.2.2.2.2.2.2.2.2.2.2.2.2.2.2.2.2.2.2.2.2.2.2.2.2.2.2.2.2.2.2.2.2.2.2.2.2.1 x.1.2.1.2.2.2.2.2.2.2.2.2.2.2.2.2.2.2.2.2.2.2.2.2.2.2.2.2.2.2.2.2.2.2.2.2.2.2.2.2.2.2.1 x.1.2.1.2.2.2.2.2.2.2.2.2.2.2.2.2.2.2.2.2.2.2.2.2.2.2.2.2.2.2.2.2.2.2.2.2.2.2.2.2.2.2.2.1, Tryz.f42.results.toList⟩
theorem k99 : FnOK Tryz.prog G 42 e99 := fk cx tn J99 (lp := P99) Tryz.func42 (by kernel_rfl) (by kernel_rfl) rfl (nk' _ (by kernel_rfl) (ni' l99_0 nr')) fun x => by kernel_rfl
def I100 : Sp := ⟨[(0, oi64), (1, .agg c'25), (2, op 65536)], [(65536, c'3)], []⟩
def E100 : SL := [(.ret, ⟨[(5, ob)], [(65536, c'3)], [65536]⟩)]
noncomputable def e100 : Fe G := ⟨I100, E100, fun x => nd7' x.1.1 x.1.2.1.1 x.1.2.1.2.1 x.1.2.1.2.2.1 x.1.2.1.2.2.2.1 x.1.2.1.2.2.2.2.1 x.1.2.1.2.2.2.2.2.1 x.1.2.1.2.2.2.2.2.2.1 x.1.2.1.2.2.2.2.2.2.2.1 x.1.2.1.2.2.2.2.2.2.2.2.1 x.1.2.1.2.2.2.2.2.2.2.2.2.1 x.1.2.1.2.2.2.2.2.2.2.2.2.2.1 x.1.2.1.2.2.2.2.2.2.2.2.2.2.2.1 x.1.2.1.2.2.2.2.2.2.2.2.2.2.2.2.1 x.1.2.1.2.2.2.2.2.2.2.2.2.2.2.2.2.1 x.1.2.1.2.2.2.2.2.2.2.2.2.2.2.2.2.2.1 x.1.2.1.2.2.2.2.2.2.2.2.2.2.2.2.2.2.2.1 x.1.2.1.2.2.2.2.2.2.2.2.2.2.2.2.2.2.2.2.1 x.1.2.1.2.2.2.2.2.2.2.2.2.2.2.2.2.2.2.2.2.1 x.1.2.1.2.2.2.2.2.2.2.2.2.2.2.2.2.2.2.2.2.2.1 x.1.2.1.2.2.2.2.2.2.2.2.2.2.2.2.2.2.2.2.2.2.2.1 x.1.2.1.2.2.2.2.2.2.2.2.2.2.2.2.2.2.2.2.2.2.2.2.1 x.1.2.1.2.2.2.2.2.2.2.2.2.2.2.2.2.2.2.2.2.2.2.2.2.1 x.1.2.1.2.2.2.2.2.2.2.2.2.2.2.2.2.2.2.2.2.2.2.2.2.2.1 x.1.2.1.2.2.2.2.2.2.2.2.2.2.2.2.2.2.2.2.2.2.2.2.2.2.2.1 x.1.2.1.2.2.2.2.2.2.2.2.2.2.2.2.2.2.2.2.2.2.2.2.2.2.2.2.1 x.1.2.1.2.2.2.2.2.2.2.2.2.2.2.2.2.2.2.2.2.2.2.2.2.2.2.2.2.1 x.1.2.1.2.2.2.2.2.2.2.2.2.2.2.2.2.2.2.2.2.2.2.2.2.2.2.2.2.2.1 x.1.2.1.2.2.2.2.2.2.2.2.2.2.2.2.2.2.2.2.2.2.2.2.2.2.2.2.2.2.2.1 x.1.2.1.2.2.2.2.2.2.2.2.2.2.2.2.2.2.2.2.2.2.2.2.2.2.2.2.2.2.2.2.1 x.1.2.1.2.2.2.2.2.2.2.2.2.2.2.2.2.2.2.2.2.2.2.2.2.2.2.2.2.2.2.2.2.1 x.1.2.1.2.2.2.2.2.2.2.2.2.2.2.2.2.2.2.2.2.2.2.2.2.2.2.2.2.2.2.2.2.2.1 x.1.2.1.2.2.2.2.2.2.2.2.2.2.2.2.2.2.2.2.2.2.2.2.2.2.2.2.2.2.2.2.2.2.2.1 x.1.2.1.2.2.2.2.2.2.2.2.2.2.2.2.2.2.2.2.2.2.2.2.2.2.2.2.2.2.2.2.2.2.2.2.1 x.1.2.1.2.2.2.2.2.2.2.2.2.2.2.2.2.2.2.2.2.2.2.2.2.2.2.2.2.2.2.2.2.2.2.2.2.1 x.1.2.1.2.2.2.2.2.2.2.2.2.2.2.2.2.2.2.2.2.2.2.2.2.2.2.2.2.2.2.2.2.2.2.2.2.2.1 x.1.2.1.2.2.2.2.2.2.2.2.2.2.2.2.2.2.2.2.2.2.2.2.2.2.2.2.2.2.2.2.2.2.2.2.2.2.2.1 x.1.2.1.2.2.2.2.2.2.2.2.2.2.2.2.2.2.2.2.2.2.2.2.2.2.2.2.2.2.2.2.2.2.2.2.2.2.2.2.1 x.1.2.1.2.2.2.2.2.2.2.2.2.2.2.2.2.2.2.2.2.2.2.2.2.2.2.2.2.2.2.2.2.2.2.2.2.2.2.2.2.1 x.1.2.1.2.2.2.2.2.2.2.2.2.2.2.2.2.2.2.2.2.2.2.2.2.2.2.2.2.2.2.2.2.2.2.2.2.2.2.2.2.2.1 x.1.2.1.2.2.2.2.2.2.2.2.2.2.2.2.2.2.2.2.2.2.2.2.2.2.2.2.2.2.2.2.2.2.2.2.2.2.2.2.2.2.2.1 x.1.2.1.2.2.2.2.2.2.2.2.2.2.2.2.2.2.2.2.2.2.2.2.2.2.2.2.2.2.2.2.2.2.2.2.2.2.2.2.2.2.2.2.1 x.2.1.1 x.2.1.2.1 x.2.1.2.2.1 x.2.1.2.2.2.1 x.2.1.2.2.2.2.1 x.2.1.2.2.2.2.2.1 x.2.1.2.2.2.2.2.2.1 x.2.1.2.2.2.2.2.2.2.1, Tryz.f41.results.toList⟩
theorem k100 : FnOK Tryz.prog G 41 e100 := fk cx (tc k99 tn) (jl []) (lp := (pl [])) Tryz.func41 (by kernel_rfl) (by kernel_rfl) rfl (an0 (by kernel_rfl)) fun x => by kernel_rfl
def I101 : Sp := ⟨[(0, oro 78), (1, oi64), (2, .one (.clo 41 [] [(65536, 0)]))], [(65536, c'3)], []⟩
def E101 : SL := [(.ret, ⟨[(6, ob)], [(65536, c'3)], [65536]⟩)]
def n2b' : Sp := ⟨[(2, .one (.clo 41 [] [(65536, 0)])), (13, oro 78), (14, oi64), (15, oi64)], [(65536, c'3)], [65536]⟩
def n2h' : SL := [(.exit 0, ⟨[], [(65536, c'3)], [65536]⟩), (.ret, ⟨[(6, ob)], [(65536, c'3)], [65536]⟩)]
def J101 : Nat → Option SL := jl []
noncomputable def P101 : Nat → St G → M (Ex × St G) := pl [lpX n2b' n2h' n6']
theorem t101 : ∀ p ∈ [(41, e100)], FnOK Tryz.prog G p.1 p.2 := (tc k100 tn)
theorem n46' : LoopOK Tryz.prog G 26 (P101 0) (nj' (ng' Tryz.f40) 0) := lk cx t101 J101 1 n2b' n2h' (rfl : n6' = _) (by kernel_rfl) (an0 (by kernel_rfl)) fun x => by kernel_rfl
noncomputable def e101 : Fe G := ⟨I101, E101, fun x => n9' x.1.1 x.1.2.1 x.2.1.1 x.2.1.2.1 x.2.1.2.2.1 x.2.1.2.2.2.1 x.2.1.2.2.2.2.1 x.2.1.2.2.2.2.2.1 x.2.1.2.2.2.2.2.2.1 x.2.1.2.2.2.2.2.2.2.1, Tryz.f40.results.toList⟩
theorem k101 : FnOK Tryz.prog G 40 e101 := fk cx t101 J101 (lp := P101) Tryz.func40 (by kernel_rfl) (by kernel_rfl) rfl (nk' _ (by kernel_rfl) (ni' n46' nr')) fun x => by kernel_rfl
def I102 : Sp := ⟨[(0, oi64), (1, oi64), (2, oi64)], [], []⟩
def E102 : SL := [(.ret, ⟨[(6, ob)], [], []⟩)]
noncomputable def e102 : Fe G := ⟨I102, E102, fun x => ncx' x.1.1 x.1.2.1 x.1.2.2.1, Tryz.f80.results.toList⟩
theorem k102 : FnOK Tryz.prog G 80 e102 := fk cx tn (jl [(1048577, [(.normal, ⟨[(6, ob)], [], []⟩)])]) (lp := (pl [])) Tryz.func80 (by kernel_rfl) (by kernel_rfl) rfl (an0 (by kernel_rfl)) fun x => by kernel_rfl
def I103 : Sp := ⟨[(0, .agg c'27), (1, .agg c'27)], [], []⟩
def E103 : SL := [(.ret, ⟨[(4, oi64)], [], []⟩)]
noncomputable def e103 : Fe G := ⟨I103, E103, fun x => nha' x.1.1.1 x.1.1.2.1 x.1.1.2.2.1 x.1.2.1.1 x.1.2.1.2.1 x.1.2.1.2.2.1, Tryz.f82.results.toList⟩
theorem k103 : FnOK Tryz.prog G 82 e103 := fk cx (tc k16 (tc k17 tn)) (jl []) (lp := (pl [])) Tryz.func82 (by kernel_rfl) (by kernel_rfl) rfl (an0 (by kernel_rfl)) fun x => by kernel_rfl
def I104 : Sp := ⟨[(0, .agg c'3), (1, oi64), (2, .agg c'19)], [], []⟩
def E104 : SL := [(.ret, ⟨[(6, ob)], [], []⟩)]
def n1f' : Sp := ⟨[(1, oi64), (3, op 48), (5, op 80), (59, oro 137), (60, oi64), (61, oi64)], [(48, c'3), (80, c'19)], []⟩
def n2v' : SL := [(.exit 0, ⟨[], [], []⟩), (.ret, ⟨[(6, ob)], [], []⟩)]
def J104 : Nat → Option SL := jl [(1048577, [(.normal, ⟨[(1, oi64), (3, op 48), (5, op 80), (57, ob)], [(48, c'3), (80, c'19)], []⟩)]), (1048582, [(.normal, ⟨[(1, oi64), (3, op 48), (5, op 80), (59, oro 137), (60, oi64), (61, oi64), (99, ob)], [(48, c'3), (80, c'19)], []⟩)])]
noncomputable def P104 : Nat → St G → M (Ex × St G) := pl [lpX n1f' n2v' nf0']
theorem t104 : ∀ p ∈ [(53, e5), (80, e102), (81, e10), (82, e103)], FnOK Tryz.prog G p.1 p.2 := (tc k5 (tc k102 (tc k10 (tc k103 tn))))
theorem n49' : LoopOK Tryz.prog G 101 (P104 0) (nj' (ng' Tryz.f45) 0) := lk cx t104 J104 1 n1f' n2v' (rfl : nf0' = _) (by kernel_rfl) (an0 (by kernel_rfl)) fun x => by kernel_rfl
noncomputable def e104 : Fe G := ⟨I104, E104, fun x => ng5' x.1.1.1 x.1.1.2.1 x.1.1.2.2.1 x.1.1.2.2.2.1 x.1.1.2.2.2.2.1 x.1.1.2.2.2.2.2.1 x.1.1.2.2.2.2.2.2.1 x.1.1.2.2.2.2.2.2.2.1 x.1.2.1 x.1.2.2.1.1 x.1.2.2.1.2.1 x.1.2.2.1.2.2.1 x.1.2.2.1.2.2.2.1 x.1.2.2.1.2.2.2.2.1 x.1.2.2.1.2.2.2.2.2.1, Tryz.f45.results.toList⟩
theorem k104 : FnOK Tryz.prog G 45 e104 := fk cx t104 J104 (lp := P104) Tryz.func45 (by kernel_rfl) (by kernel_rfl) rfl (nk' _ (by kernel_rfl) (ni' n49' nr')) fun x => by kernel_rfl
def I105 : Sp := ⟨[(0, oi64), (1, .agg c'19), (2, op 65536)], [(65536, c'3)], []⟩
def E105 : SL := [(.ret, ⟨[(5, ob)], [(65536, c'3)], [65536]⟩)]
noncomputable def e105 : Fe G := ⟨I105, E105, fun x => neb' x.1.1 x.1.2.1.1 x.1.2.1.2.1 x.1.2.1.2.2.1 x.1.2.1.2.2.2.1 x.1.2.1.2.2.2.2.1 x.1.2.1.2.2.2.2.2.1 x.2.1.1 x.2.1.2.1 x.2.1.2.2.1 x.2.1.2.2.2.1 x.2.1.2.2.2.2.1 x.2.1.2.2.2.2.2.1 x.2.1.2.2.2.2.2.2.1 x.2.1.2.2.2.2.2.2.2.1, Tryz.f44.results.toList⟩
theorem k105 : FnOK Tryz.prog G 44 e105 := fk cx (tc k104 tn) (jl []) (lp := (pl [])) Tryz.func44 (by kernel_rfl) (by kernel_rfl) rfl (an0 (by kernel_rfl)) fun x => by kernel_rfl
def I106 : Sp := ⟨[(0, oro 62), (1, oi64), (2, .one (.clo 44 [] [(65536, 0)]))], [(65536, c'3)], []⟩
def E106 : SL := [(.ret, ⟨[(6, ob)], [(65536, c'3)], [65536]⟩)]
def n1h' : Sp := ⟨[(2, .one (.clo 44 [] [(65536, 0)])), (13, oro 62), (14, oi64), (15, oi64)], [(65536, c'3)], [65536]⟩
def n2p' : SL := [(.exit 0, ⟨[], [(65536, c'3)], [65536]⟩), (.ret, ⟨[(6, ob)], [(65536, c'3)], [65536]⟩)]
def J106 : Nat → Option SL := jl []
noncomputable def P106 : Nat → St G → M (Ex × St G) := pl [lpX n1h' n2p' nbd']
theorem t106 : ∀ p ∈ [(44, e105)], FnOK Tryz.prog G p.1 p.2 := (tc k105 tn)
theorem n4z' : LoopOK Tryz.prog G 26 (P106 0) (nj' (ng' Tryz.f43) 0) := lk cx t106 J106 1 n1h' n2p' (rfl : nbd' = _) (by kernel_rfl) (an0 (by kernel_rfl)) fun x => by kernel_rfl
noncomputable def e106 : Fe G := ⟨I106, E106, fun x => nbh' x.1.1 x.1.2.1 x.2.1.1 x.2.1.2.1 x.2.1.2.2.1 x.2.1.2.2.2.1 x.2.1.2.2.2.2.1 x.2.1.2.2.2.2.2.1 x.2.1.2.2.2.2.2.2.1 x.2.1.2.2.2.2.2.2.2.1, Tryz.f43.results.toList⟩
theorem k106 : FnOK Tryz.prog G 43 e106 := fk cx t106 J106 (lp := P106) Tryz.func43 (by kernel_rfl) (by kernel_rfl) rfl (nk' _ (by kernel_rfl) (ni' n4z' nr')) fun x => by kernel_rfl
def I107 : Sp := ⟨[(0, .agg c'28)], [], []⟩
def E107 : SL := [(.ret, ⟨[(2, ob)], [], []⟩)]
noncomputable def e107 : Fe G := ⟨I107, E107, fun x => ne0' x.1.1.1 x.1.1.2.1, Tryz.f83.results.toList⟩
theorem k107 : FnOK Tryz.prog G 83 e107 := fk cx tn (jl [(1048577, [(.normal, ⟨[(2, ob)], [], []⟩)])]) (lp := (pl [])) Tryz.func83 (by kernel_rfl) (by kernel_rfl) rfl (an0 (by kernel_rfl)) fun x => by kernel_rfl
def I108 : Sp := ⟨[(0, oi64)], [], []⟩
def E108 : SL := [(.ret, ⟨[(2, ob)], [], []⟩)]
noncomputable def e108 : Fe G := ⟨I108, E108, fun x => ne3' x.1.1, Tryz.f110.results.toList⟩
theorem k108 : FnOK Tryz.prog G 110 e108 := fk cx tn (jl [(1048577, [(.normal, ⟨[(2, ob)], [], []⟩)])]) (lp := (pl [])) Tryz.func110 (by kernel_rfl) (by kernel_rfl) rfl (an0 (by kernel_rfl)) fun x => by kernel_rfl
def I109 : Sp := ⟨[(0, .agg c'29)], [], []⟩
def E109 : SL := [(.ret, ⟨[(2, ob)], [], []⟩)]
noncomputable def e109 : Fe G := ⟨I109, E109, fun x => nih' x.1.1.1 x.1.1.2.1 x.1.1.2.2.1 x.1.1.2.2.2.1 x.1.1.2.2.2.2.1, Tryz.f84.results.toList⟩
theorem k109 : FnOK Tryz.prog G 84 e109 := fk cx (tc k108 tn) (jl [(1048579, [(.normal, ⟨[(2, ob)], [], []⟩)])]) (lp := (pl [])) Tryz.func84 (by kernel_rfl) (by kernel_rfl) rfl (an0 (by kernel_rfl)) fun x => by kernel_rfl
def I110 : Sp := ⟨[(0, oi64), (1, oi64), (2, oi64)], [], []⟩
def E110 : SL := [(.ret, ⟨[(6, oi64), (7, ob)], [], []⟩)]
noncomputable def e110 : Fe G := ⟨I110, E110, fun x => nky' x.1.1 x.1.2.1 x.1.2.2.1, Tryz.f111.results.toList⟩
theorem k110 : FnOK Tryz.prog G 111 e110 := fk cx tn (jl [(1048577, [(.normal, ⟨[(0, oi64), (1, oi64), (2, oi64), (14, ob)], [], []⟩)]), (1048580, [(.normal, ⟨[(6, oi64), (7, ob)], [], []⟩)])]) (lp := (pl [])) Tryz.func111 (by kernel_rfl) (by kernel_rfl) rfl (an0 (by kernel_rfl)) fun x => by kernel_rfl
def I111 : Sp := ⟨[(0, oi64), (1, .agg c'27)], [], []⟩
def E111 : SL := [(.ret, ⟨[(4, ob)], [], []⟩)]
noncomputable def e111 : Fe G := ⟨I111, E111, fun x => nhc' x.1.1 x.1.2.1.1 x.1.2.1.2.1 x.1.2.1.2.2.1, Tryz.f85.results.toList⟩
theorem k111 : FnOK Tryz.prog G 85 e111 := fk cx (tc k110 tn) (jl []) (lp := (pl [])) Tryz.func85 (by kernel_rfl) (by kernel_rfl) rfl (an0 (by kernel_rfl)) fun x => by kernel_rfl
def I112 : Sp := ⟨[(0, .agg c'3), (1, .agg c'30)], [], []⟩
def E112 : SL := [(.ret, ⟨[(4, ob)], [], []⟩)]
noncomputable def e112 : Fe G := ⟨I112, E112, fun x => nhe' x.1.1.1 x.1.1.2.1 x.1.1.2.2.1 x.1.1.2.2.2.1 x.1.1.2.2.2.2.1 x.1.1.2.2.2.2.2.1 x.1.1.2.2.2.2.2.2.1 x.1.1.2.2.2.2.2.2.2.1 x.1.2.1.1 x.1.2.1.2.1 x.1.2.1.2.2.1 x.1.2.1.2.2.2.1 x.1.2.1.2.2.2.2.1 x.1.2.1.2.2.2.2.2.1 x.1.2.1.2.2.2.2.2.2.1 x.1.2.1.2.2.2.2.2.2.2.1 x.1.2.1.2.2.2.2.2.2.2.2.1 x.1.2.1.2.2.2.2.2.2.2.2.2.1 x.1.2.1.2.2.2.2.2.2.2.2.2.2.1 x.1.2.1.2.2.2.2.2.2.2.2.2.2.2.1 x.1.2.1.2.2.2.2.2.2.2.2.2.2.2.2.1 x.1.2.1.2.2.2.2.2.2.2.2.2.2.2.2.2.1, Tryz.f48.results.toList⟩
theorem k112 : FnOK Tryz.prog G 48 e112 := fk cx (tc k5 (tc k107 (tc k109 (tc k111 tn)))) (jl [(1048577, [(.normal, ⟨[(2, op 32), (3, op 48), (16, ob)], [(32, c'3), (48, c'30)], []⟩)]), (1048579, [(.normal, ⟨[(2, op 32), (3, op 48), (46, ob)], [(32, c'3), (48, c'30)], []⟩)]), (1048581, [(.normal, ⟨[(4, ob)], [], []⟩)])]) (lp := (pl [])) Tryz.func48 (by kernel_rfl) (by kernel_rfl) rfl (an0 (by kernel_rfl)) fun x => by kernel_rfl
def I113 : Sp := ⟨[(0, oi64), (1, .agg c'30), (2, op 65536)], [(65536, c'3)], []⟩
def E113 : SL := [(.ret, ⟨[(5, ob)], [(65536, c'3)], [65536]⟩)]
noncomputable def e113 : Fe G := ⟨I113, E113, fun x => nd5' x.1.1 x.1.2.1.1 x.1.2.1.2.1 x.1.2.1.2.2.1 x.1.2.1.2.2.2.1 x.1.2.1.2.2.2.2.1 x.1.2.1.2.2.2.2.2.1 x.1.2.1.2.2.2.2.2.2.1 x.1.2.1.2.2.2.2.2.2.2.1 x.1.2.1.2.2.2.2.2.2.2.2.1 x.1.2.1.2.2.2.2.2.2.2.2.2.1 x.1.2.1.2.2.2.2.2.2.2.2.2.2.1 x.1.2.1.2.2.2.2.2.2.2.2.2.2.2.1 x.1.2.1.2.2.2.2.2.2.2.2.2.2.2.2.1 x.1.2.1.2.2.2.2.2.2.2.2.2.2.2.2.2.1 x.2.1.1 x.2.1.2.1 x.2.1.2.2.1 x.2.1.2.2.2.1 x.2.1.2.2.2.2.1 x.2.1.2.2.2.2.2.1 x.2.1.2.2.2.2.2.2.1 x.2.1.2.2.2.2.2.2.2.1, Tryz.f47.results.toList⟩
theorem k113 : FnOK Tryz.prog G 47 e113 := fk cx (tc k112 tn) (jl []) (lp := (pl [])) Tryz.func47 (by kernel_rfl) (by kernel_rfl) rfl (an0 (by kernel_rfl)) fun x => by kernel_rfl
def I114 : Sp := ⟨[(0, oro 71), (1, oi64), (2, .one (.clo 47 [] [(65536, 0)]))], [(65536, c'3)], []⟩
def E114 : SL := [(.ret, ⟨[(6, ob)], [(65536, c'3)], [65536]⟩)]
def n1p' : Sp := ⟨[(2, .one (.clo 47 [] [(65536, 0)])), (13, oro 71), (14, oi64), (15, oi64)], [(65536, c'3)], [65536]⟩
def n2f' : SL := [(.exit 0, ⟨[], [(65536, c'3)], [65536]⟩), (.ret, ⟨[(6, ob)], [(65536, c'3)], [65536]⟩)]
def J114 : Nat → Option SL := jl []
noncomputable def P114 : Nat → St G → M (Ex × St G) := pl [lpX n1p' n2f' nbf']
theorem t114 : ∀ p ∈ [(47, e113)], FnOK Tryz.prog G p.1 p.2 := (tc k113 tn)
theorem n44' : LoopOK Tryz.prog G 26 (P114 0) (nj' (ng' Tryz.f46) 0) := lk cx t114 J114 1 n1p' n2f' (rfl : nbf' = _) (by kernel_rfl) (an0 (by kernel_rfl)) fun x => by kernel_rfl
noncomputable def e114 : Fe G := ⟨I114, E114, fun x => nbg' x.1.1 x.1.2.1 x.2.1.1 x.2.1.2.1 x.2.1.2.2.1 x.2.1.2.2.2.1 x.2.1.2.2.2.2.1 x.2.1.2.2.2.2.2.1 x.2.1.2.2.2.2.2.2.1 x.2.1.2.2.2.2.2.2.2.1, Tryz.f46.results.toList⟩
theorem k114 : FnOK Tryz.prog G 46 e114 := fk cx t114 J114 (lp := P114) Tryz.func46 (by kernel_rfl) (by kernel_rfl) rfl (nk' _ (by kernel_rfl) (ni' n44' nr')) fun x => by kernel_rfl
def I115 : Sp := ⟨[(0, oi64), (1, .agg [.int .i64])], [], []⟩
def E115 : SL := [(.ret, ⟨[(4, ob)], [], []⟩)]
noncomputable def e115 : Fe G := ⟨I115, E115, fun x => ngg' x.1.1 x.1.2.1.1, Tryz.f50.results.toList⟩
theorem k115 : FnOK Tryz.prog G 50 e115 := fk cx tn (jl [(1048577, [(.normal, ⟨[(4, ob)], [], []⟩)])]) (lp := (pl [])) Tryz.func50 (by kernel_rfl) (by kernel_rfl) rfl (an0 (by kernel_rfl)) fun x => by kernel_rfl
def I116 : Sp := ⟨[(0, oro 80), (1, oi64), (2, .one (.clo 50 [] []))], [], []⟩
def E116 : SL := [(.ret, ⟨[(6, ob)], [], []⟩)]
def n17' : Sp := ⟨[(2, .one (.clo 50 [] [])), (13, oro 80), (14, oi64), (15, oi64)], [], []⟩
def n1v' : SL := [(.exit 0, ⟨[], [], []⟩), (.ret, ⟨[(6, ob)], [], []⟩)]
def J116 : Nat → Option SL := jl []
noncomputable def P116 : Nat → St G → M (Ex × St G) := pl [lpX n17' n1v' nbn']
theorem t116 : ∀ p ∈ [(50, e115)], FnOK Tryz.prog G p.1 p.2 := (tc k115 tn)
theorem n5i' : LoopOK Tryz.prog G 26 (P116 0) (nj' (ng' Tryz.f49) 0) := lk cx t116 J116 1 n17' n1v' (rfl : nbn' = _) (by kernel_rfl) (an0 (by kernel_rfl)) fun x => by kernel_rfl
noncomputable def e116 : Fe G := ⟨I116, E116, fun x => nbp' x.1.1 x.1.2.1, Tryz.f49.results.toList⟩
theorem k116 : FnOK Tryz.prog G 49 e116 := fk cx t116 J116 (lp := P116) Tryz.func49 (by kernel_rfl) (by kernel_rfl) rfl (nk' _ (by kernel_rfl) (ni' n5i' nr')) fun x => by kernel_rfl
def I117 : Sp := ⟨[(0, .agg c'3), (1, .agg c'20)], [], []⟩
def E117 : SL := [(.ret, ⟨[(4, ob)], [], []⟩)]
noncomputable def e117 : Fe G := ⟨I117, E117, fun x => nd3' x.1.1.1 x.1.1.2.1 x.1.1.2.2.1 x.1.1.2.2.2.1 x.1.1.2.2.2.2.1 x.1.1.2.2.2.2.2.1 x.1.1.2.2.2.2.2.2.1 x.1.1.2.2.2.2.2.2.2.1 x.1.2.1.1 x.1.2.1.2.1 x.1.2.1.2.2.1 x.1.2.1.2.2.2.1 x.1.2.1.2.2.2.2.1 x.1.2.1.2.2.2.2.2.1 x.1.2.1.2.2.2.2.2.2.1 x.1.2.1.2.2.2.2.2.2.2.1 x.1.2.1.2.2.2.2.2.2.2.2.1 x.1.2.1.2.2.2.2.2.2.2.2.2.1 x.1.2.1.2.2.2.2.2.2.2.2.2.2.1 x.1.2.1.2.2.2.2.2.2.2.2.2.2.2.1 x.1.2.1.2.2.2.2.2.2.2.2.2.2.2.2.1 x.1.2.1.2.2.2.2.2.2.2.2.2.2.2.2.2.1 x.1.2.1.2.2.2.2.2.2.2.2.2.2.2.2.2.2.1 x.1.2.1.2.2.2.2.2.2.2.2.2.2.2.2.2.2.2.1, Tryz.f14.results.toList⟩
theorem k117 : FnOK Tryz.prog G 14 e117 := fk cx (tc k45 (tc k25 (tc k98 (tc k101 (tc k106 (tc k114 (tc k116 tn))))))) (jl [(1048584, [(.normal, ⟨[(4, ob)], [], []⟩)])]) (lp := (pl [])) Tryz.func14 (by kernel_rfl) (by kernel_rfl) rfl (an0 (by kernel_rfl)) fun x => by kernel_rfl
def I118 : Sp := ⟨[(0, .agg c'3), (1, .agg c'5), (2, oi64)], [], []⟩
def E118 : SL := [(.ret, ⟨[(6, ob)], [], []⟩)]
noncomputable def e118 : Fe G := ⟨I118, E118, fun x => nm2' x.1.1.1 x.1.1.2.1 x.1.1.2.2.1 x.1.1.2.2.2.1 x.1.1.2.2.2.2.1 x.1.1.2.2.2.2.2.1 x.1.1.2.2.2.2.2.2.1 x.1.1.2.2.2.2.2.2.2.1 x.1.2.1.1 x.1.2.1.2.1 x.1.2.1.2.2.1 x.1.2.2.1, Tryz.f88.results.toList⟩
theorem k118 : FnOK Tryz.prog G 88 e118 := fk cx (tc k69 (tc k87 tn)) (jl [(1048577, [(.normal, ⟨[(6, ob)], [], []⟩)])]) (lp := (pl [])) Tryz.func88 (by kernel_rfl) (by kernel_rfl) rfl (an0 (by kernel_rfl)) fun x => by kernel_rfl
def I119 : Sp := ⟨[(0, .agg c'5)], [], []⟩
def E119 : SL := [(.ret, ⟨[(2, os)], [], []⟩)]
noncomputable def e119 : Fe G := ⟨I119, E119, fun x => njn' x.1.1.1 x.1.1.2.1 x.1.1.2.2.1, Tryz.f124.results.toList⟩
theorem k119 : FnOK Tryz.prog G 124 e119 := fk cx tn (jl []) (lp := (pl [])) Tryz.func124 (by kernel_rfl) (by kernel_rfl) rfl (an0 (by kernel_rfl)) fun x => by kernel_rfl
def I120 : Sp := ⟨[(0, .agg c'3), (1, os)], [], []⟩
def E120 : SL := [(.ret, ⟨[(4, op 64), (5, oi64)], [(64, c'6)], []⟩)]
noncomputable def e120 : Fe G := ⟨I120, E120, fun x => nke' x.1.1.1 x.1.1.2.1 x.1.1.2.2.1 x.1.1.2.2.2.1 x.1.1.2.2.2.2.1 x.1.1.2.2.2.2.2.1 x.1.1.2.2.2.2.2.2.1 x.1.1.2.2.2.2.2.2.2.1 x.1.2.1, Tryz.f146.results.toList⟩
theorem k120 : FnOK Tryz.prog G 146 e120 := fk cx (tc k69 (tc k83 (tc k76 tn))) (jl []) (lp := (pl [])) Tryz.func146 (by kernel_rfl) (by kernel_rfl) rfl (an0 (by kernel_rfl)) fun x => by kernel_rfl
def I121 : Sp := ⟨[(0, .agg c'3), (1, os)], [], []⟩
def E121 : SL := [(.ret, ⟨[(4, .one (.own 32768 92)), (5, oi64)], [], []⟩)]
def n12' : Sp := ⟨[(1, os), (2, op 32), (6, .one (.own 32768 92)), (7, oi64)], [(32, c'3)], []⟩
def n1r' : SL := [(.exit 0, ⟨[(6, .one (.own 32768 92)), (7, oi64)], [], []⟩)]
def J121 : Nat → Option SL := jl []
noncomputable def P121 : Nat → St G → M (Ex × St G) := pl [lpX n12' n1r' nkv']
theorem t121 : ∀ p ∈ [(146, e120)], FnOK Tryz.prog G p.1 p.2 := (tc k120 tn)
theorem n5k' : LoopOK Tryz.prog G 35 (P121 0) (nj' (ng' Tryz.f123) 0) := lk cx t121 J121 1 n12' n1r' (rfl : nkv' = _) (by kernel_rfl) (an0 (by kernel_rfl)) fun x => by kernel_rfl
noncomputable def e121 : Fe G := ⟨I121, E121, fun x => nme' x.1.1.1 x.1.1.2.1 x.1.1.2.2.1 x.1.1.2.2.2.1 x.1.1.2.2.2.2.1 x.1.1.2.2.2.2.2.1 x.1.1.2.2.2.2.2.2.1 x.1.1.2.2.2.2.2.2.2.1 x.1.2.1, Tryz.f123.results.toList⟩
theorem k121 : FnOK Tryz.prog G 123 e121 := fk cx t121 J121 (lp := P121) Tryz.func123 (by kernel_rfl) (by kernel_rfl) rfl (nk' _ (by kernel_rfl) (ni' n5k' nr')) fun x => by kernel_rfl
def I122 : Sp := ⟨[(0, .agg c'3), (1, .agg c'5)], [], []⟩
def E122 : SL := [(.ret, ⟨[(4, op 64)], [(64, c'4)], []⟩)]
def n1y' : Sp := ⟨[(2, op 32), (4, op 64), (5, op 80), (6, .one (.own 32768 92)), (8, oi64)], [(32, c'3), (64, c'9), (80, c'10)], []⟩
def n2i' : SL := [(.exit 0, ⟨[(4, op 64), (5, op 80)], [(64, c'4), (80, c'11)], []⟩)]
def J122 : Nat → Option SL := jl []
noncomputable def P122 : Nat → St G → M (Ex × St G) := pl [lpX n1y' n2i' nip']
theorem t122 : ∀ p ∈ [(23, e70), (124, e119), (123, e121), (25, e79)], FnOK Tryz.prog G p.1 p.2 := (tc k70 (tc k119 (tc k121 (tc k79 tn))))
theorem n5h' : LoopOK Tryz.prog G 35 (P122 0) (nj' (ng' Tryz.f89) 0) := lk cx t122 J122 1 n1y' n2i' (rfl : nip' = _) (by kernel_rfl) (an0 (by kernel_rfl)) fun x => by kernel_rfl
noncomputable def e122 : Fe G := ⟨I122, E122, fun x => nkn' x.1.1.1 x.1.1.2.1 x.1.1.2.2.1 x.1.1.2.2.2.1 x.1.1.2.2.2.2.1 x.1.1.2.2.2.2.2.1 x.1.1.2.2.2.2.2.2.1 x.1.1.2.2.2.2.2.2.2.1 x.1.2.1.1 x.1.2.1.2.1 x.1.2.1.2.2.1, Tryz.f89.results.toList⟩
theorem k122 : FnOK Tryz.prog G 89 e122 := fk cx t122 J122 (lp := P122) Tryz.func89 (by kernel_rfl) (by kernel_rfl) rfl (nk' _ (by kernel_rfl) (ni' n5h' nr')) fun x => by kernel_rfl
def I123 : Sp := ⟨[(0, oi64), (1, .agg c'5), (2, oi64), (3, oi64)], [], []⟩
def E123 : SL := [(.ret, ⟨[(8, oi64)], [], []⟩)]
noncomputable def e123 : Fe G := ⟨I123, E123, fun x => nht' x.1.1 x.1.2.1.1 x.1.2.1.2.1 x.1.2.1.2.2.1 x.1.2.2.1 x.1.2.2.2.1, Tryz.f147.results.toList⟩
theorem k123 : FnOK Tryz.prog G 147 e123 := fk cx (tc k87 tn) (jl [(1048579, [(.normal, ⟨[(22, ob)], [], []⟩)])]) (lp := (pl [])) Tryz.func147 (by kernel_rfl) (by kernel_rfl) rfl (an0 (by kernel_rfl)) fun x => by kernel_rfl
def I124 : Sp := ⟨[(0, oi64), (1, .agg c'5), (2, oi64), (3, oi64)], [], []⟩
def E124 : SL := [(.ret, ⟨[(8, op 128), (9, oi64), (10, oi64)], [(128, c'5)], []⟩)]
noncomputable def e124 : Fe G := ⟨I124, E124, fun x => nlc' x.1.1 x.1.2.1.1 x.1.2.1.2.1 x.1.2.1.2.2.1 x.1.2.2.1 x.1.2.2.2.1, Tryz.f125.results.toList⟩
theorem k124 : FnOK Tryz.prog G 125 e124 := fk cx (tc k123 tn) (jl []) (lp := (pl [])) Tryz.func125 (by kernel_rfl) (by kernel_rfl) rfl (an0 (by kernel_rfl)) fun x => by kernel_rfl
def I125 : Sp := ⟨[(0, oi64), (1, .agg c'5), (2, oi64), (3, os), (4, oi64)], [], []⟩
def E125 : SL := [(.ret, ⟨[(10, op 160), (11, oi64), (12, oi64)], [(160, c'5)], []⟩)]
def n1j' : Sp := ⟨[(2, oi64), (3, os), (4, oi64), (6, op 96), (10, op 160), (14, oi64)], [(96, c'5), (160, c'5)], []⟩
def n23' : SL := [(.exit 0, ⟨[(4, oi64), (6, op 96), (10, op 160)], [(96, c'5), (160, c'5)], []⟩), (.ret, ⟨[(10, op 160), (11, oi64), (12, oi64)], [(160, c'5)], []⟩)]
def J125 : Nat → Option SL := jl []
noncomputable def P125 : Nat → St G → M (Ex × St G) := pl [lpX n1j' n23' nhg']
theorem t125 : ∀ p ∈ [(147, e123)], FnOK Tryz.prog G p.1 p.2 := (tc k123 tn)
theorem n5q' : LoopOK Tryz.prog G 61 (P125 0) (nj' (ng' Tryz.f126) 0) := lk cx t125 J125 1 n1j' n23' (rfl : nhg' = _) (by kernel_rfl) (an0 (by kernel_rfl)) fun x => by kernel_rfl
noncomputable def e125 : Fe G := ⟨I125, E125, fun x => nlj' x.1.1 x.1.2.1.1 x.1.2.1.2.1 x.1.2.1.2.2.1 x.1.2.2.1 x.1.2.2.2.1 x.1.2.2.2.2.1, Tryz.f126.results.toList⟩
theorem k125 : FnOK Tryz.prog G 126 e125 := fk cx t125 J125 (lp := P125) Tryz.func126 (by kernel_rfl) (by kernel_rfl) rfl (nk' _ (by kernel_rfl) (ni' n5q' nr')) fun x => by kernel_rfl
def I126 : Sp := ⟨[(0, oi64), (1, .agg c'5), (2, oi64), (3, oi64)], [], []⟩
def E126 : SL := [(.ret, ⟨[(8, op 128), (9, oi64), (10, oi64)], [(128, c'5)], []⟩)]
noncomputable def e126 : Fe G := ⟨I126, E126, fun x => nj4' x.1.1 x.1.2.1.1 x.1.2.1.2.1 x.1.2.1.2.2.1 x.1.2.2.1 x.1.2.2.2.1, Tryz.f127.results.toList⟩
theorem k126 : FnOK Tryz.prog G 127 e126 := fk cx (tc k123 tn) (jl []) (lp := (pl [])) Tryz.func127 (by kernel_rfl) (by kernel_rfl) rfl (an0 (by kernel_rfl)) fun x => by kernel_rfl
def I127 : Sp := ⟨[(0, .agg c'3), (1, .agg c'5), (2, .agg c'8), (3, oi64)], [], []⟩
def E127 : SL := [(.ret, ⟨[(8, op 128), (9, oi64), (10, oi64)], [(128, c'5)], []⟩)]
noncomputable def e127 : Fe G := ⟨I127, E127, fun x => njh' x.1.1.1 x.1.1.2.1 x.1.1.2.2.1 x.1.1.2.2.2.1 x.1.1.2.2.2.2.1 x.1.1.2.2.2.2.2.1 x.1.1.2.2.2.2.2.2.1 x.1.1.2.2.2.2.2.2.2.1 x.1.2.1.1 x.1.2.1.2.1 x.1.2.1.2.2.1 x.1.2.2.1.1 x.1.2.2.1.2.1 x.1.2.2.1.2.2.1 x.1.2.2.1.2.2.2.1 x.1.2.2.2.1, Tryz.f90.results.toList⟩
theorem k127 : FnOK Tryz.prog G 90 e127 := fk cx (tc k118 (tc k74 (tc k124 (tc k82 (tc k85 (tc k125 (tc k126 tn))))))) (jl []) (lp := (pl [])) Tryz.func90 (by kernel_rfl) (by kernel_rfl) rfl (an0 (by kernel_rfl)) fun x => by kernel_rfl
def I128 : Sp := ⟨[(0, .agg c'3), (1, .agg c'5), (2, oi64)], [], []⟩
def E128 : SL := [(.ret, ⟨[(6, op 96), (7, op 112), (8, oi64), (9, oi64)], [(96, c'5), (112, c'4)], []⟩)]
noncomputable def e128 : Fe G := ⟨I128, E128, fun x => njj' x.1.1.1 x.1.1.2.1 x.1.1.2.2.1 x.1.1.2.2.2.1 x.1.1.2.2.2.2.1 x.1.1.2.2.2.2.2.1 x.1.1.2.2.2.2.2.2.1 x.1.1.2.2.2.2.2.2.2.1 x.1.2.1.1 x.1.2.1.2.1 x.1.2.1.2.2.1 x.1.2.2.1, Tryz.f52.results.toList⟩
theorem k128 : FnOK Tryz.prog G 52 e128 := fk cx (tc k118 (tc k122 (tc k127 tn))) (jl []) (lp := (pl [])) Tryz.func52 (by kernel_rfl) (by kernel_rfl) rfl (an0 (by kernel_rfl)) fun x => by kernel_rfl
def I129 : Sp := ⟨[(0, .agg c'3), (1, .agg c'5), (2, oi64)], [], []⟩
def E129 : SL := [(.ret, ⟨[(6, op 96), (7, oi64), (8, oi64)], [(96, c'23)], []⟩)]
noncomputable def e129 : Fe G := ⟨I129, E129, fun x => ng4' x.1.1.1 x.1.1.2.1 x.1.1.2.2.1 x.1.1.2.2.2.1 x.1.1.2.2.2.2.1 x.1.1.2.2.2.2.2.1 x.1.1.2.2.2.2.2.2.1 x.1.1.2.2.2.2.2.2.2.1 x.1.2.1.1 x.1.2.1.2.1 x.1.2.1.2.2.1 x.1.2.2.1, Tryz.f16.results.toList⟩
theorem k129 : FnOK Tryz.prog G 16 e129 := fk cx (tc k128 (tc k89 tn)) (jl [(2097156, [(.normal, ⟨[(3, op 48), (6, op 96), (9, op 144), (10, op 160), (11, oi64)], [(48, c'3), (96, c'17), (144, c'5), (160, c'8)], []⟩)])]) (lp := (pl [])) Tryz.func16 (by kernel_rfl) (by kernel_rfl) rfl (an0 (by kernel_rfl)) fun x => by kernel_rfl
def I130 : Sp := ⟨[(0, .agg c'3)], [], []⟩
def E130 : SL := [(.ret, ⟨[(2, op 32), (3, oi64)], [(32, c'23)], []⟩)]
noncomputable def e130 : Fe G := ⟨I130, E130, fun x => niy' x.1.1.1 x.1.1.2.1 x.1.1.2.2.1 x.1.1.2.2.2.1 x.1.1.2.2.2.2.1 x.1.1.2.2.2.2.2.1 x.1.1.2.2.2.2.2.2.1 x.1.1.2.2.2.2.2.2.2.1, Tryz.f18.results.toList⟩
theorem k130 : FnOK Tryz.prog G 18 e130 := fk cx (tc k129 tn) (jl []) (lp := (pl [])) Tryz.func18 (by kernel_rfl) (by kernel_rfl) rfl (an0 (by kernel_rfl)) fun x => by kernel_rfl
def I131 : Sp := ⟨[(0, .agg c'31), (1, oro 5), (2, .agg c'5)], [], []⟩
def E131 : SL := [(.ret, ⟨[(6, ob)], [], []⟩)]
def S131_0 : Sp := ⟨[(3, op 48), (7, op 112), (8, op 128), (10, op 160), (86, .one (.own 32768 26)), (87, oi64), (88, oi64)], [(48, c'31), (112, c'3), (128, c'8), (160, c'5)], []⟩
def nw5' : SL := [(.exit 0, ⟨[(7, op 112), (10, op 160)], [(112, c'3), (160, c'5)], []⟩), (.ret, ⟨[(6, ob)], [], []⟩)]
def S131_1 : Sp := ⟨[(3, op 48), (7, op 112), (8, op 128), (10, op 160), (12, op 192), (86, .one (.own 32768 26)), (87, oi64), (88, oi64), (128, .one (.own 32769 3)), (129, oi64), (130, oi64)], [(48, c'31), (112, c'3), (128, c'8), (160, c'5), (192, c'5)], []⟩
def nxl' : SL := [(.exit 2, ⟨[(3, op 48), (7, op 112), (8, op 128), (10, op 160), (86, .one (.own 32768 26)), (87, oi64), (88, oi64)], [(48, c'31), (112, c'3), (128, c'8), (160, c'5)], []⟩), (.ret, ⟨[(6, ob)], [], []⟩)]
def J131 : Nat → Option SL := jl [(1048588, [(.normal, ⟨[(3, op 48), (7, op 112), (8, op 128), (10, op 160), (12, op 192), (86, .one (.own 32768 26)), (87, oi64), (88, oi64), (124, ob)], [(48, c'31), (112, c'3), (128, c'8), (160, c'5), (192, c'5)], []⟩)]), (1048603, [(.normal, ⟨[(6, ob)], [], []⟩)])]
noncomputable def P131 : Nat → St G → M (Ex × St G) := pl [lpX S131_0 nw5' ndu', lpX S131_1 nxl' nc6']
theorem t131 : ∀ p ∈ [(6, e66), (7, e1), (8, e80), (10, e82), (9, e85), (11, e51), (12, e89), (13, e94), (14, e117), (15, e52), (16, e129), (17, e53), (18, e130)], FnOK Tryz.prog G p.1 p.2 := (tc k66 (tc k1 (tc k80 (tc k82 (tc k85 (tc k51 (tc k89 (tc k94 (tc k117 (tc k52 (tc k129 (tc k53 (tc k130 tn)))))))))))))
noncomputable def n4t' (_h_l26_sane : (Unit × Unit) → Option ((Bool × Unit) × Unit)) (s86 : List (Store)) (s87 s88 : Int) (s128 : List (Int)) (s129 s130 n_f0 n_f1 n_f2 b_Floors b_Debounce b_Room b_Park : Int) (b_Empty b_Full b_Over : Nat) (b_Cars : List (Car)) (m_Phases : List (Int)) (m_Flags m_Leaving : List (Bool)) (m_Entries : List (Entry)) (t_Halves_0 t_Halves_1 : ByteArray) (t_Select : Int) (x_Halves_0 x_Halves_1 : ByteArray) (x_Select : Int) : Option (Sum (T'73 × T'74) ((T'71 × T'72) ⊕ ((Bool × Unit) × Unit))) :=
 bif (decide (s130 < s129)) then
 bif (inB s130 (List.length s128)) then
 let z0 : Int := (List.getD s128 (Int.toNat s130) (0 : Int))
 (nct' b_Floors b_Debounce b_Room b_Park b_Empty b_Full b_Over b_Cars x_Halves_0 x_Halves_1 x_Select z0).bind fun y1 =>
 (ng4' b_Floors b_Debounce b_Room b_Park b_Empty b_Full b_Over b_Cars x_Halves_0 x_Halves_1 x_Select z0).bind fun y2 =>
 bif (y1.1.2.1 != y2.1.2.1) then
 some (Sum.inr (Sum.inr ((false, ()), ())))
 else
 bif (y1.1.2.2.1 != y2.1.2.2.1) then
 some (Sum.inr (Sum.inr ((false, ()), ())))
 else
 (nej' y1.2.1.1 y1.2.1.2.1 y1.2.1.2.2.1 y1.2.1.2.2.2.1 y1.2.1.2.2.2.2.1 y1.2.1.2.2.2.2.2.1 y1.2.1.2.2.2.2.2.2.1 y1.2.1.2.2.2.2.2.2.2.1 y1.2.1.2.2.2.2.2.2.2.2.1 y1.2.1.2.2.2.2.2.2.2.2.2.1 y1.2.1.2.2.2.2.2.2.2.2.2.2.1 y1.2.1.2.2.2.2.2.2.2.2.2.2.2.1 y1.2.1.2.2.2.2.2.2.2.2.2.2.2.2.1 y1.2.1.2.2.2.2.2.2.2.2.2.2.2.2.2.1 y1.2.1.2.2.2.2.2.2.2.2.2.2.2.2.2.2.1 y1.2.1.2.2.2.2.2.2.2.2.2.2.2.2.2.2.2.1 y2.2.1.1 y2.2.1.2.1 y2.2.1.2.2.1 y2.2.1.2.2.2.1 y2.2.1.2.2.2.2.1 y2.2.1.2.2.2.2.2.1 y2.2.1.2.2.2.2.2.2.1 y2.2.1.2.2.2.2.2.2.2.1 y2.2.1.2.2.2.2.2.2.2.2.1 y2.2.1.2.2.2.2.2.2.2.2.2.1 y2.2.1.2.2.2.2.2.2.2.2.2.2.1 y2.2.1.2.2.2.2.2.2.2.2.2.2.2.1 y2.2.1.2.2.2.2.2.2.2.2.2.2.2.2.1 y2.2.1.2.2.2.2.2.2.2.2.2.2.2.2.2.1 y2.2.1.2.2.2.2.2.2.2.2.2.2.2.2.2.2.1 y2.2.1.2.2.2.2.2.2.2.2.2.2.2.2.2.2.2.1).bind fun y3 =>
 bif (!y3.1.1) then
 some (Sum.inr (Sum.inr ((false, ()), ())))
 else
 some (Sum.inl (((), (), (), (), (), s86, s87, s88, s128, s129, (IntKind.i64.wrap (s130 + (1 : Int))), ()), ((n_f0, n_f1, n_f2, ()), (b_Floors, b_Debounce, b_Room, b_Park, b_Empty, b_Full, b_Over, b_Cars, ()), (m_Phases, m_Flags, m_Leaving, m_Entries, ()), (t_Halves_0, t_Halves_1, t_Select, ()), (x_Halves_0, x_Halves_1, x_Select, ()), ())))
 else
 none
 else
 some (Sum.inr (Sum.inl (((), (), (), (), s86, s87, s88, ()), ((n_f0, n_f1, n_f2, ()), (b_Floors, b_Debounce, b_Room, b_Park, b_Empty, b_Full, b_Over, b_Cars, ()), (m_Phases, m_Flags, m_Leaving, m_Entries, ()), (t_Halves_0, t_Halves_1, t_Select, ()), ()))))
theorem n5n' (h_l26_sane : (Unit × Unit) → Option ((Bool × Unit) × Unit)) (x : S131_1.T G) : rndI (cfP [(6, Fe.mk (G := G) I66 E66 h_l26_sane Tryz.f6.results.toList), (7, e1), (8, e80), (10, e82), (9, e85), (11, e51), (12, e89), (13, e94), (14, e117), (15, e52), (16, e129), (17, e53), (18, e130)]) P131 J131 207 2 (nj' (ng' Tryz.f3) 1) S131_1 nxl' x = n4t' h_l26_sane x.1.2.2.2.2.2.1 x.1.2.2.2.2.2.2.1 x.1.2.2.2.2.2.2.2.1 x.1.2.2.2.2.2.2.2.2.1 x.1.2.2.2.2.2.2.2.2.2.1 x.1.2.2.2.2.2.2.2.2.2.2.1 x.2.1.1 x.2.1.2.1 x.2.1.2.2.1 x.2.2.1.1 x.2.2.1.2.1 x.2.2.1.2.2.1 x.2.2.1.2.2.2.1 x.2.2.1.2.2.2.2.1 x.2.2.1.2.2.2.2.2.1 x.2.2.1.2.2.2.2.2.2.1 x.2.2.1.2.2.2.2.2.2.2.1 x.2.2.2.1.1 x.2.2.2.1.2.1 x.2.2.2.1.2.2.1 x.2.2.2.1.2.2.2.1 x.2.2.2.2.1.1 x.2.2.2.2.1.2.1 x.2.2.2.2.1.2.2.1 x.2.2.2.2.2.1.1 x.2.2.2.2.2.1.2.1 x.2.2.2.2.2.1.2.2.1 := by kernel_rfl
theorem n1u' : LoopOK Tryz.prog G 207 (P131 1) (nj' (ng' Tryz.f3) 1) := lk cx t131 J131 2 S131_1 nxl' (rfl : nc6' = _) (by kernel_rfl) (an0 (by kernel_rfl)) fun x => (n5n' (fun _ => nez' ) x).trans (by kernel_rfl)
noncomputable def n4c' (_h_l26_sane : (Unit × Unit) → Option ((Bool × Unit) × Unit)) (s86 : List (Store)) (s87 s88 n_f0 n_f1 n_f2 b_Floors b_Debounce b_Room b_Park : Int) (b_Empty b_Full b_Over : Nat) (b_Cars : List (Car)) (m_Phases : List (Int)) (m_Flags m_Leaving : List (Bool)) (m_Entries : List (Entry)) (t_Halves_0 t_Halves_1 : ByteArray) (t_Select : Int) : Option (Sum (T'71 × T'72) (((Unit × Unit × Unit) × (T'0 × T'24 × Unit)) ⊕ ((Bool × Unit) × Unit))) :=
 bif (decide (s88 < s87)) then
 bif (inB s88 (List.length s86)) then
 let z0 : Store := (List.getD s86 (Int.toNat s88) (Store.mk (ByteArray.mk (Array.mk [])) (ByteArray.mk (Array.mk [])) (0 : Int)))
 (ncp' b_Floors b_Debounce b_Room b_Park b_Empty b_Full b_Over b_Cars m_Phases m_Flags m_Leaving m_Entries z0.Halves_0 z0.Halves_1 z0.Select).bind fun y1 =>
 (nf6' b_Floors b_Debounce b_Room b_Park b_Empty b_Full b_Over b_Cars m_Phases m_Flags m_Leaving m_Entries z0.Halves_0 z0.Halves_1 z0.Select).bind fun y2 =>
 Option.bind (bif (y1.1.2.1 != y2.1.2.1) then
 some (((), (), (), (), (), s86, s87, s88, true, ()), ((n_f0, n_f1, n_f2, ()), (b_Floors, b_Debounce, b_Room, b_Park, b_Empty, b_Full, b_Over, b_Cars, ()), (m_Phases, m_Flags, m_Leaving, m_Entries, ()), (t_Halves_0, t_Halves_1, t_Select, ()), (z0.Halves_0, z0.Halves_1, z0.Select, ()), ()))
 else
 (nej' y1.2.1.1 y1.2.1.2.1 y1.2.1.2.2.1 y1.2.1.2.2.2.1 y1.2.1.2.2.2.2.1 y1.2.1.2.2.2.2.2.1 y1.2.1.2.2.2.2.2.2.1 y1.2.1.2.2.2.2.2.2.2.1 y1.2.1.2.2.2.2.2.2.2.2.1 y1.2.1.2.2.2.2.2.2.2.2.2.1 y1.2.1.2.2.2.2.2.2.2.2.2.2.1 y1.2.1.2.2.2.2.2.2.2.2.2.2.2.1 y1.2.1.2.2.2.2.2.2.2.2.2.2.2.2.1 y1.2.1.2.2.2.2.2.2.2.2.2.2.2.2.2.1 y1.2.1.2.2.2.2.2.2.2.2.2.2.2.2.2.2.1 y1.2.1.2.2.2.2.2.2.2.2.2.2.2.2.2.2.2.1 y2.2.1.1 y2.2.1.2.1 y2.2.1.2.2.1 y2.2.1.2.2.2.1 y2.2.1.2.2.2.2.1 y2.2.1.2.2.2.2.2.1 y2.2.1.2.2.2.2.2.2.1 y2.2.1.2.2.2.2.2.2.2.1 y2.2.1.2.2.2.2.2.2.2.2.1 y2.2.1.2.2.2.2.2.2.2.2.2.1 y2.2.1.2.2.2.2.2.2.2.2.2.2.1 y2.2.1.2.2.2.2.2.2.2.2.2.2.2.1 y2.2.1.2.2.2.2.2.2.2.2.2.2.2.2.1 y2.2.1.2.2.2.2.2.2.2.2.2.2.2.2.2.1 y2.2.1.2.2.2.2.2.2.2.2.2.2.2.2.2.2.1 y2.2.1.2.2.2.2.2.2.2.2.2.2.2.2.2.2.2.1).bind fun y3 =>
 bif (!y3.1.1) then
 some (((), (), (), (), (), s86, s87, s88, true, ()), ((n_f0, n_f1, n_f2, ()), (b_Floors, b_Debounce, b_Room, b_Park, b_Empty, b_Full, b_Over, b_Cars, ()), (m_Phases, m_Flags, m_Leaving, m_Entries, ()), (t_Halves_0, t_Halves_1, t_Select, ()), (z0.Halves_0, z0.Halves_1, z0.Select, ()), ()))
 else
 bif (y2.1.2.1 == (0 : Int)) then
 (nd3' b_Floors b_Debounce b_Room b_Park b_Empty b_Full b_Over b_Cars y1.2.1.1 y1.2.1.2.1 y1.2.1.2.2.1 y1.2.1.2.2.2.1 y1.2.1.2.2.2.2.1 y1.2.1.2.2.2.2.2.1 y1.2.1.2.2.2.2.2.2.1 y1.2.1.2.2.2.2.2.2.2.1 y1.2.1.2.2.2.2.2.2.2.2.1 y1.2.1.2.2.2.2.2.2.2.2.2.1 y1.2.1.2.2.2.2.2.2.2.2.2.2.1 y1.2.1.2.2.2.2.2.2.2.2.2.2.2.1 y1.2.1.2.2.2.2.2.2.2.2.2.2.2.2.1 y1.2.1.2.2.2.2.2.2.2.2.2.2.2.2.2.1 y1.2.1.2.2.2.2.2.2.2.2.2.2.2.2.2.2.1 y1.2.1.2.2.2.2.2.2.2.2.2.2.2.2.2.2.2.1).bind fun y4 =>
 some (((), (), (), (), (), s86, s87, s88, (!y4.1.1), ()), ((n_f0, n_f1, n_f2, ()), (b_Floors, b_Debounce, b_Room, b_Park, b_Empty, b_Full, b_Over, b_Cars, ()), (m_Phases, m_Flags, m_Leaving, m_Entries, ()), (t_Halves_0, t_Halves_1, t_Select, ()), (z0.Halves_0, z0.Halves_1, z0.Select, ()), ()))
 else
 some (((), (), (), (), (), s86, s87, s88, false, ()), ((n_f0, n_f1, n_f2, ()), (b_Floors, b_Debounce, b_Room, b_Park, b_Empty, b_Full, b_Over, b_Cars, ()), (m_Phases, m_Flags, m_Leaving, m_Entries, ()), (t_Halves_0, t_Halves_1, t_Select, ()), (z0.Halves_0, z0.Halves_1, z0.Select, ()), ()))) fun y5 =>
 bif y5.1.2.2.2.2.2.2.2.2.1 then
 some (Sum.inr (Sum.inr ((false, ()), ())))
 else
 let z1 : List (Int) := [(-1 : Int), (IntKind.i64.wrap y5.2.1.2.2.1), (5000 : Int)]
 (nc6' (((), (), (), (), (), y5.1.2.2.2.2.2.1, y5.1.2.2.2.2.2.2.1, y5.1.2.2.2.2.2.2.2.1, z1, ((List.length z1 : Nat) : Int), (0 : Int), ()), (y5.2.1, y5.2.2.1, y5.2.2.2.1, y5.2.2.2.2.1, y5.2.2.2.2.2.1, ()))).bind fun y6 =>
 (match y6 with
 | .inl y7 =>
 some (Sum.inl (((), (), (), (), y7.1.2.2.2.2.1, y7.1.2.2.2.2.2.1, (IntKind.i64.wrap (y7.1.2.2.2.2.2.2.1 + (1 : Int))), ()), (y7.2.1, y7.2.2.1, y7.2.2.2.1, y7.2.2.2.2.1, ())))
 | .inr y7 =>
 some (Sum.inr (Sum.inr ((y7.1.1, ()), ()))))
 else
 none
 else
 some (Sum.inr (Sum.inl (((), (), ()), ((b_Floors, b_Debounce, b_Room, b_Park, b_Empty, b_Full, b_Over, b_Cars, ()), (t_Halves_0, t_Halves_1, t_Select, ()), ()))))
theorem n5g' (h_l26_sane : (Unit × Unit) → Option ((Bool × Unit) × Unit)) (x : S131_0.T G) : rndI (cfP [(6, Fe.mk (G := G) I66 E66 h_l26_sane Tryz.f6.results.toList), (7, e1), (8, e80), (10, e82), (9, e85), (11, e51), (12, e89), (13, e94), (14, e117), (15, e52), (16, e129), (17, e53), (18, e130)]) P131 J131 207 1 (nj' (ng' Tryz.f3) 0) S131_0 nw5' x = n4c' h_l26_sane x.1.2.2.2.2.1 x.1.2.2.2.2.2.1 x.1.2.2.2.2.2.2.1 x.2.1.1 x.2.1.2.1 x.2.1.2.2.1 x.2.2.1.1 x.2.2.1.2.1 x.2.2.1.2.2.1 x.2.2.1.2.2.2.1 x.2.2.1.2.2.2.2.1 x.2.2.1.2.2.2.2.2.1 x.2.2.1.2.2.2.2.2.2.1 x.2.2.1.2.2.2.2.2.2.2.1 x.2.2.2.1.1 x.2.2.2.1.2.1 x.2.2.2.1.2.2.1 x.2.2.2.1.2.2.2.1 x.2.2.2.2.1.1 x.2.2.2.2.1.2.1 x.2.2.2.2.1.2.2.1 := by kernel_rfl
theorem n5b' : LoopOK Tryz.prog G 207 (P131 0) (nj' (ng' Tryz.f3) 0) := lk cx t131 J131 1 S131_0 nw5' (rfl : ndu' = _) (by kernel_rfl) (nk' _ (by kernel_rfl) (ni' n1u' nr')) fun x => (n5g' (fun _ => nez' ) x).trans (by kernel_rfl)
noncomputable def H131 (h_l26_sane : (Unit × Unit) → Option ((Bool × Unit) × Unit)) (n_f0 n_f1 n_f2 : Int) (l : List (Int)) (s_Halves_0 s_Halves_1 : ByteArray) (s_Select : Int) : Option ((Bool × Unit) × Unit) :=
 bif (decide ((500 : Int) < ((ByteArray.size s_Halves_0 : Nat) : Int))) then
 (h_l26_sane ((), ())).bind fun y1 =>
 some ((y1.1.1, ()), ())
 else
 bif (decide ((500 : Int) < ((ByteArray.size s_Halves_1 : Nat) : Int))) then
 (h_l26_sane ((), ())).bind fun y2 =>
 some ((y2.1.1, ()), ())
 else
 (nc5' n_f0 n_f1).bind fun y3 =>
 (nix' y3.2.1.1 y3.2.1.2.1 y3.2.1.2.2.1 y3.2.1.2.2.2.1 y3.2.1.2.2.2.2.1 y3.2.1.2.2.2.2.2.1 y3.2.1.2.2.2.2.2.2.1 y3.2.1.2.2.2.2.2.2.2.1 l).bind fun y4 =>
 (ne2' y3.2.1.1 y3.2.1.2.1 y3.2.1.2.2.1 y3.2.1.2.2.2.1 y3.2.1.2.2.2.2.1 y3.2.1.2.2.2.2.2.1 y3.2.1.2.2.2.2.2.2.1 y3.2.1.2.2.2.2.2.2.2.1 y4.2.1.1 y4.2.1.2.1 y4.2.1.2.2.1 y4.2.1.2.2.2.1).bind fun y5 =>
 (nhr' y3.2.1.1 y3.2.1.2.1 y3.2.1.2.2.1 y3.2.1.2.2.2.1 y3.2.1.2.2.2.2.1 y3.2.1.2.2.2.2.2.1 y3.2.1.2.2.2.2.2.2.1 y3.2.1.2.2.2.2.2.2.2.1 y5.1.1).bind fun y6 =>
 let z0 : Int := ((ByteArray.size s_Halves_0 : Nat) : Int)
 let z1 : Int := (bif (decide (y3.2.1.2.2.1 < z0)) then y3.2.1.2.2.1 else z0)
 bif ((decide ((0 : Int) ≤ z1)) && (decide (z1 ≤ (((ByteArray.size s_Halves_0) : Nat) : Int)))) then
 let z2 : ByteArray := (ByteArray.extract s_Halves_0 0 (Int.toNat z1))
 let z3 : Int := ((ByteArray.size y6.1.1 : Nat) : Int)
 let z4 : Int := (bif (decide (y3.2.1.2.2.1 < z3)) then y3.2.1.2.2.1 else z3)
 bif ((decide ((0 : Int) ≤ z4)) && (decide (z4 ≤ (((ByteArray.size y6.1.1) : Nat) : Int)))) then
 let z5 : ByteArray := (ByteArray.extract y6.1.1 0 (Int.toNat z4))
 let z6 : List (Store) := [(Store.mk s_Halves_0 s_Halves_1 s_Select), (Store.mk z2 z5 (1 : Int)), (Store.mk z5 (ByteArray.mk (Array.mk [])) (0 : Int))]
 (ndu' (((), (), (), (), z6, ((List.length z6 : Nat) : Int), (0 : Int), ()), ((n_f0, n_f1, n_f2, ()), y3.2.1, y4.2.1, (z2, z5, (1 : Int), ()), ()))).bind fun y7 =>
 (match y7 with
 | .inl y8 =>
 (nck' y8.2.1.1 y8.2.1.2.1 y8.2.1.2.2.1 y8.2.1.2.2.2.1 y8.2.1.2.2.2.2.1 y8.2.1.2.2.2.2.2.1 y8.2.1.2.2.2.2.2.2.1 y8.2.1.2.2.2.2.2.2.2.1).bind fun y9 =>
 (niy' y8.2.1.1 y8.2.1.2.1 y8.2.1.2.2.1 y8.2.1.2.2.2.1 y8.2.1.2.2.2.2.1 y8.2.1.2.2.2.2.2.1 y8.2.1.2.2.2.2.2.2.1 y8.2.1.2.2.2.2.2.2.2.1).bind fun y10 =>
 (nck' (0 : Int) (0 : Int) (0 : Int) (0 : Int) 0 0 0 []).bind fun y11 =>
 (ncp' y8.2.1.1 y8.2.1.2.1 y8.2.1.2.2.1 y8.2.1.2.2.2.1 y8.2.1.2.2.2.2.1 y8.2.1.2.2.2.2.2.1 y8.2.1.2.2.2.2.2.2.1 y8.2.1.2.2.2.2.2.2.2.1 [] [] [] [] y8.2.2.1.1 y8.2.2.1.2.1 y8.2.2.1.2.2.1).bind fun y12 =>
 Option.bind (bif (y9.1.2.1 == y10.1.2.1) then
 (nej' y9.2.1.1 y9.2.1.2.1 y9.2.1.2.2.1 y9.2.1.2.2.2.1 y9.2.1.2.2.2.2.1 y9.2.1.2.2.2.2.2.1 y9.2.1.2.2.2.2.2.2.1 y9.2.1.2.2.2.2.2.2.2.1 y9.2.1.2.2.2.2.2.2.2.2.1 y9.2.1.2.2.2.2.2.2.2.2.2.1 y9.2.1.2.2.2.2.2.2.2.2.2.2.1 y9.2.1.2.2.2.2.2.2.2.2.2.2.2.1 y9.2.1.2.2.2.2.2.2.2.2.2.2.2.2.1 y9.2.1.2.2.2.2.2.2.2.2.2.2.2.2.2.1 y9.2.1.2.2.2.2.2.2.2.2.2.2.2.2.2.2.1 y9.2.1.2.2.2.2.2.2.2.2.2.2.2.2.2.2.2.1 y10.2.1.1 y10.2.1.2.1 y10.2.1.2.2.1 y10.2.1.2.2.2.1 y10.2.1.2.2.2.2.1 y10.2.1.2.2.2.2.2.1 y10.2.1.2.2.2.2.2.2.1 y10.2.1.2.2.2.2.2.2.2.1 y10.2.1.2.2.2.2.2.2.2.2.1 y10.2.1.2.2.2.2.2.2.2.2.2.1 y10.2.1.2.2.2.2.2.2.2.2.2.2.1 y10.2.1.2.2.2.2.2.2.2.2.2.2.2.1 y10.2.1.2.2.2.2.2.2.2.2.2.2.2.2.1 y10.2.1.2.2.2.2.2.2.2.2.2.2.2.2.2.1 y10.2.1.2.2.2.2.2.2.2.2.2.2.2.2.2.2.1 y10.2.1.2.2.2.2.2.2.2.2.2.2.2.2.2.2.2.1).bind fun y13 =>
 bif y13.1.1 then
 bif (y11.1.2.1 == (1 : Int)) then
 bif (y12.1.2.1 == (1 : Int)) then
 (h_l26_sane ((), ())).bind fun y14 =>
 some ((y14.1.1, ()), ())
 else
 some ((false, ()), ())
 else
 some ((false, ()), ())
 else
 some ((false, ()), ())
 else
 some ((false, ()), ())) fun y15 =>
 some ((y15.1.1, ()), ())
 | .inr y8 =>
 some ((y8.1.1, ()), ()))
 else
 none
 else
 none
theorem q131 (h_l26_sane : (Unit × Unit) → Option ((Bool × Unit) × Unit)) (x : I131.T G) : endI (cfP [(6, Fe.mk (G := G) I66 E66 h_l26_sane Tryz.f6.results.toList), (7, e1), (8, e80), (10, e82), (9, e85), (11, e51), (12, e89), (13, e94), (14, e117), (15, e52), (16, e129), (17, e53), (18, e130)]) P131 J131 207 (ng' Tryz.f3) I131 E131 x = H131 h_l26_sane x.1.1.1 x.1.1.2.1 x.1.1.2.2.1 x.1.2.1 x.1.2.2.1.1 x.1.2.2.1.2.1 x.1.2.2.1.2.2.1 := by kernel_rfl
noncomputable def e131 : Fe G := ⟨I131, E131, fun x => F_l26_RestartBoots x.1.1.1 x.1.1.2.1 x.1.1.2.2.1 x.1.2.1 x.1.2.2.1.1 x.1.2.2.1.2.1 x.1.2.2.1.2.2.1, Tryz.f3.results.toList⟩
theorem k131 : FnOK Tryz.prog G 3 e131 := fk cx t131 J131 (lp := P131) Tryz.func3 (by kernel_rfl) (by kernel_rfl) rfl (nk' _ (by kernel_rfl) (ni' n5b' (ni' n1u' nr'))) fun x => (q131 (fun _ => nez' ) x).trans (by kernel_rfl)
end Go.Ovl
