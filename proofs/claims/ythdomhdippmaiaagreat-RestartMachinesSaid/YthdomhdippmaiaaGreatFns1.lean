/- The contracts of the program's functions: part 1. -/
import Derived.Test.YthdomhdippmaiaaGreatSig
import Derived.Test.YthdomhdippmaiaaGreatDefs2
import Derived.Test.YthdomhdippmaiaaGreatHand
namespace Go.Ovl
open Go Go.Ab Go.Proofs
set_option maxRecDepth 100000
def c'0 : List CSh := [.int .i64, .int .i64, .int .i64, .int .i64, .flt .f64, .flt .f64, .flt .f64, .own 32768 103]
def c'1 : List CSh := [.int .i64, .int .i64, .int .i64, .int .i64, .flt .f64, .flt .f64, .flt .f64, .own 32769 103]
def c'2 : List CSh := [.int .i64, .int .i64, .int .i64, .int .i64, .int .i64, .int .i64, .int .i64, .int .i64, .int .i64]
def c'3 : List CSh := [.int .i64, .int .i64, .int .i64, .int .i64, .flt .f64, .flt .f64, .flt .f64, .ro 103]
def c'4 : List CSh := [.own 32768 3, .own 32769 4, .own 32770 4, .own 32771 98]
def c'5 : List CSh := [.str, .str, .int .i64]
def c'6 : List CSh := [.int .i64, .int .i64, .int .i64, .int .i64, .int .i64]
def c'7 : List CSh := [.int .i64, .int .i64, .int .i64, .int .i64, .bool]
def c'8 : List CSh := [.ro 3, .ro 4, .ro 4, .ro 98]
def c'9 : List CSh := [.own 32769 3, .own 32770 4, .own 32771 4, .own 32772 98]
def c'10 : List CSh := [.own 32773 3, .own 32774 4, .own 32775 4, .own 32776 98]
def c'11 : List CSh := [.own 32772 3, .own 32773 4, .own 32774 4, .own 32775 98]
def c'12 : List CSh := [.np 65536 171, .own 32768 5]
def c'13 : List CSh := [.np 65536 171, .ro 5]
def c'14 : List CSh := [.np 176 171, .own 32769 5]
def c'15 : List CSh := [.np 176 171, .own 32768 5]
def c'16 : List CSh := [.int .i64, .int .i64, .int .i64, .own 32768 137, .int .i64, .bool]
def c'17 : List CSh := [.own 32768 3, .own 32769 4, .own 32770 4, .own 32771 98, .str, .str, .int .i64, .own 32772 78, .own 32773 62, .own 32774 71, .own 32775 80, .own 32776 3, .own 32777 82, .int .i64, .int .i64, .int .i64]
def c'18 : List CSh := [.own 32778 3, .own 32779 4, .own 32780 4, .own 32781 98, .str, .str, .int .i64, .own 32782 78, .own 32783 62, .own 32784 71, .own 32785 80, .own 32786 3, .own 32787 82, .int .i64, .int .i64, .int .i64]
def c'19 : List CSh := [.int .i64, .int .i64, .int .i64, .ro 137, .int .i64, .bool]
def c'20 : List CSh := [.ro 3, .ro 4, .ro 4, .ro 98, .str, .str, .int .i64, .ro 78, .ro 62, .ro 71, .ro 80, .ro 3, .ro 82, .int .i64, .int .i64, .int .i64]
def c'21 : List CSh := [.own 32768 3, .own 32769 4, .own 32770 4, .ro 98]
def c'22 : List CSh := [.own 32771 3, .own 32772 4, .own 32773 4, .own 32774 98]
def c'23 : List CSh := [.ro 3, .ro 4, .ro 4, .ro 98, .str, .str, .int .i64, .own 32768 78, .own 32769 62, .own 32770 71, .own 32771 80, .own 32772 3, .own 32773 82, .int .i64, .int .i64, .int .i64]
def c'24 : List CSh := [.ro 3, .ro 4, .ro 4, .ro 98, .str, .str, .int .i64, .own 32778 78, .own 32779 62, .own 32780 71, .own 32781 80, .own 32782 3, .own 32783 82, .int .i64, .int .i64, .int .i64]
def c'25 : List CSh := [.int .u32, .bool, .bool, .bool, .bool, .int .i64, .int .i64, .int .i64, .int .i64, .int .i64, .int .i64, .int .i64, .int .i64, .int .i64, .int .i64, .int .i64, .int .i64, .int .i64, .int .i64, .int .i64, .int .i64, .int .i64, .int .i64, .int .i64, .int .i64, .int .i64, .int .i64, .int .i64, .int .i64, .int .i64, .int .i64, .int .i64, .int .i64, .int .i64, .int .i64, .int .i64, .int .i64, .int .i64, .int .i64, .int .i64, .int .i64]
def c'26 : List CSh := [.int .i64, .int .i64, .int .i64, .int .i64, .int .i64, .int .i64, .int .i64, .int .i64, .int .i64, .int .i64, .int .i64, .int .i64, .int .i64, .int .i64, .int .i64, .int .i64, .int .i64, .int .i64, .int .i64, .int .i64, .int .i64, .int .i64, .int .i64, .int .i64, .int .i64, .int .i64, .int .i64, .int .i64, .int .i64, .int .i64, .int .i64, .int .i64, .int .i64, .int .i64, .int .i64, .int .i64]
def c'27 : List CSh := [.int .i64, .int .i64, .int .i64]
def c'28 : List CSh := [.int .i64, .int .i64]
def c'29 : List CSh := [.int .i64, .int .i64, .int .i64, .bool, .int .i64]
def c'30 : List CSh := [.int .i64, .int .i64, .int .i64, .int .i64, .int .i64, .bool, .int .i64, .int .i64, .int .i64, .int .i64, .int .u32, .int .i64, .int .i64, .bool]
def c'31 : List CSh := [.int .i64, .int .i64, .int .i64, .int .i64, .int .i64, .ro 137, .int .i64, .bool, .int .i64, .int .i64, .int .i64, .int .i64, .int .i64, .bool, .int .i64, .int .i64, .int .i64, .int .i64, .int .u32, .int .i64, .int .i64, .bool]
theorem cx : Ctx Tryz.prog G := ⟨sigOK, eqOK, hmix⟩
def I0 : Sp := ⟨[(0, oi64), (1, oi64)], [], []⟩
def E0 : SL := [(.ret, ⟨[(4, op 64)], [(64, c'0)], []⟩)]
def S0_0 : Sp := ⟨[(0, oi64), (1, oi64), (4, op 64), (5, op 80), (6, oi64)], [(64, c'0), (80, c'1)], []⟩
def X0_0 : SL := [(.exit 0, ⟨[(4, op 64), (5, op 80)], [(64, c'0), (80, c'1)], []⟩)]
def J0 : Nat → Option SL := jl []
noncomputable def P0 : Nat → St G → M (Ex × St G) := pl [lpX S0_0 X0_0 ngd']
theorem l0_0 : LoopOK Tryz.prog G 24 (P0 0) (nl' (nh' Tryz.f22) 0) := lk cx tn J0 1 S0_0 X0_0 (rfl : ngd' = _) (by kernel_rfl) (an0 (by kernel_rfl)) fun x => by kernel_rfl
noncomputable def e0 : Fe G := ⟨I0, E0, fun x => nkh' x.1.1 x.1.2.1, Tryz.f22.results.toList⟩
theorem k0 : FnOK Tryz.prog G 22 e0 := fk cx tn J0 (lp := P0) Tryz.func22 (by kernel_rfl) (by kernel_rfl) rfl (nk' _ (by kernel_rfl) (ni' l0_0 nr')) fun x => by kernel_rfl
def I1 : Sp := ⟨[(0, ou8), (1, ou8)], [], []⟩
def E1 : SL := [(.ret, ⟨[(4, op 64)], [(64, c'0)], []⟩)]
noncomputable def e1 : Fe G := ⟨I1, E1, fun x => nc3' x.1.1 x.1.2.1, Tryz.f7.results.toList⟩
theorem k1 : FnOK Tryz.prog G 7 e1 := fk cx (tc k0 tn) (jl []) (lp := (pl [])) Tryz.func7 (by kernel_rfl) (by kernel_rfl) rfl (an0 (by kernel_rfl)) fun x => by kernel_rfl
def I2 : Sp := ⟨[(0, oi64), (1, oi64), (2, oro 3)], [], []⟩
def E2 : SL := [(.ret, ⟨[(6, ob)], [], []⟩)]
def S2_0 : Sp := ⟨[(0, oi64), (1, oi64), (9, oro 3), (10, oi64), (11, oi64)], [], []⟩
def X2_0 : SL := [(.exit 0, ⟨[], [], []⟩), (.ret, ⟨[(6, ob)], [], []⟩)]
def J2 : Nat → Option SL := jl []
noncomputable def P2 : Nat → St G → M (Ex × St G) := pl [lpX S2_0 X2_0 nfc']
theorem l2_0 : LoopOK Tryz.prog G 24 (P2 0) (nl' (nh' Tryz.f91) 0) := lk cx tn J2 1 S2_0 X2_0 (rfl : nfc' = _) (by kernel_rfl) (an0 (by kernel_rfl)) fun x => by kernel_rfl
noncomputable def e2 : Fe G := ⟨I2, E2, fun x => nbg' x.1.1 x.1.2.1 x.1.2.2.1, Tryz.f91.results.toList⟩
theorem k2 : FnOK Tryz.prog G 91 e2 := fk cx tn J2 (lp := P2) Tryz.func91 (by kernel_rfl) (by kernel_rfl) rfl (nk' _ (by kernel_rfl) (ni' l2_0 nr')) fun x => by kernel_rfl
def I3 : Sp := ⟨[(0, .agg c'2), (1, oi64)], [], []⟩
def E3 : SL := [(.ret, ⟨[(4, ob)], [], []⟩)]
noncomputable def e3 : Fe G := ⟨I3, E3, fun x => ngv' x.1.1.1 x.1.1.2.1 x.1.1.2.2.1 x.1.1.2.2.2.1 x.1.1.2.2.2.2.1 x.1.1.2.2.2.2.2.1 x.1.1.2.2.2.2.2.2.1 x.1.1.2.2.2.2.2.2.2.1 x.1.1.2.2.2.2.2.2.2.2.1 x.1.2.1, Tryz.f92.results.toList⟩
theorem k3 : FnOK Tryz.prog G 92 e3 := fk cx (tc k2 tn) (jl [(1048577, [(.normal, ⟨[(4, ob)], [], []⟩)])]) (lp := (pl [])) Tryz.func92 (by kernel_rfl) (by kernel_rfl) rfl (an0 (by kernel_rfl)) fun x => by kernel_rfl
def I4 : Sp := ⟨[(0, .agg c'3)], [], []⟩
def E4 : SL := [(.ret, ⟨[(2, ob)], [], []⟩)]
noncomputable def e4 : Fe G := ⟨I4, E4, fun x => ng4' x.1.1.1 x.1.1.2.1 x.1.1.2.2.1 x.1.1.2.2.2.1 x.1.1.2.2.2.2.1 x.1.1.2.2.2.2.2.1 x.1.1.2.2.2.2.2.2.1 x.1.1.2.2.2.2.2.2.2.1, Tryz.f93.results.toList⟩
theorem k4 : FnOK Tryz.prog G 93 e4 := fk cx tn (jl [(1048577, [(.normal, ⟨[(2, ob)], [], []⟩)])]) (lp := (pl [])) Tryz.func93 (by kernel_rfl) (by kernel_rfl) rfl (an0 (by kernel_rfl)) fun x => by kernel_rfl
def I5 : Sp := ⟨[(0, .agg c'3)], [], []⟩
def E5 : SL := [(.ret, ⟨[(2, oi64)], [], []⟩)]
def S5_0 : Sp := ⟨[(1, op 16), (3, ob), (28, oro 103), (29, oi64), (30, oi64)], [(16, c'3)], []⟩
def X5_0 : SL := [(.exit 0, ⟨[(1, op 16), (3, ob)], [(16, c'3)], []⟩)]
def J5 : Nat → Option SL := jl [(1048581, [(.normal, ⟨[(1, op 16), (3, ob)], [(16, c'3)], []⟩)]), (1048585, [(.normal, ⟨[(1, op 16), (3, ob), (28, oro 103), (29, oi64), (30, oi64)], [(16, c'3)], []⟩)])]
noncomputable def P5 : Nat → St G → M (Ex × St G) := pl [lpX S5_0 X5_0 nfm']
theorem t5 : ∀ p ∈ [(91, e2), (92, e3), (93, e4)], FnOK Tryz.prog G p.1 p.2 := (tc k2 (tc k3 (tc k4 tn)))
theorem l5_0 : LoopOK Tryz.prog G 60 (P5 0) (nl' (nh' Tryz.f53) 0) := lk cx t5 J5 1 S5_0 X5_0 (rfl : nfm' = _) (by kernel_rfl) (an0 (by kernel_rfl)) fun x => by kernel_rfl
noncomputable def e5 : Fe G := ⟨I5, E5, fun x => nca' x.1.1.1 x.1.1.2.1 x.1.1.2.2.1 x.1.1.2.2.2.1 x.1.1.2.2.2.2.1 x.1.1.2.2.2.2.2.1 x.1.1.2.2.2.2.2.2.1 x.1.1.2.2.2.2.2.2.2.1, Tryz.f53.results.toList⟩
theorem k5 : FnOK Tryz.prog G 53 e5 := fk cx t5 J5 (lp := P5) Tryz.func53 (by kernel_rfl) (by kernel_rfl) rfl (nk' _ (by kernel_rfl) (ni' l5_0 nr')) fun x => by kernel_rfl
def I6 : Sp := ⟨[(0, .agg c'3)], [], []⟩
def E6 : SL := [(.ret, ⟨[(2, op 32)], [(32, c'4)], []⟩)]
noncomputable def e6 : Fe G := ⟨I6, E6, fun x => njl' x.1.1.1 x.1.1.2.1 x.1.1.2.2.1 x.1.1.2.2.2.1 x.1.1.2.2.2.2.1 x.1.1.2.2.2.2.2.1 x.1.1.2.2.2.2.2.2.1 x.1.1.2.2.2.2.2.2.2.1, Tryz.f112.results.toList⟩
theorem k6 : FnOK Tryz.prog G 112 e6 := fk cx (tc k5 tn) (jl []) (lp := (pl [])) Tryz.func112 (by kernel_rfl) (by kernel_rfl) rfl (an0 (by kernel_rfl)) fun x => by kernel_rfl
def I7 : Sp := ⟨[(0, .agg c'5)], [], []⟩
def E7 : SL := [(.ret, ⟨[(2, os)], [], []⟩)]
noncomputable def e7 : Fe G := ⟨I7, E7, fun x => nh2' x.1.1.1 x.1.1.2.1 x.1.1.2.2.1, Tryz.f114.results.toList⟩
theorem k7 : FnOK Tryz.prog G 114 e7 := fk cx tn (jl []) (lp := (pl [])) Tryz.func114 (by kernel_rfl) (by kernel_rfl) rfl (an0 (by kernel_rfl)) fun x => by kernel_rfl
def I8 : Sp := ⟨[(0, os)], [], []⟩
def E8 : SL := [(.ret, ⟨[(2, ou8)], [], []⟩)]
def S8_0 : Sp := ⟨[(0, os), (3, ou8), (7, oi64), (8, oi64)], [], []⟩
def X8_0 : SL := [(.exit 0, ⟨[(3, ou8)], [], []⟩)]
def S8_1 : Sp := ⟨[(0, os), (3, ou8), (7, oi64), (8, oi64), (16, oi64)], [], []⟩
def X8_1 : SL := [(.exit 2, ⟨[(0, os), (3, ou8), (7, oi64), (8, oi64)], [], []⟩)]
def J8 : Nat → Option SL := jl []
noncomputable def P8 : Nat → St G → M (Ex × St G) := pl [lpX S8_0 X8_0 nkk', lpX S8_1 X8_1 nkj']
theorem l8_1 : LoopOK Tryz.prog G 28 (P8 1) (nl' (nh' Tryz.f140) 1) := lk cx tn J8 2 S8_1 X8_1 (rfl : nkj' = _) (by kernel_rfl) (an0 (by kernel_rfl)) fun x => by kernel_rfl
theorem l8_0 : LoopOK Tryz.prog G 28 (P8 0) (nl' (nh' Tryz.f140) 0) := lk cx tn J8 1 S8_0 X8_0 (rfl : nkk' = _) (by kernel_rfl) (nk' _ (by kernel_rfl) (ni' l8_1 nr')) fun x => by kernel_rfl
noncomputable def e8 : Fe G := ⟨I8, E8, fun x => njw' x.1.1, Tryz.f140.results.toList⟩
theorem k8 : FnOK Tryz.prog G 140 e8 := fk cx tn J8 (lp := P8) Tryz.func140 (by kernel_rfl) (by kernel_rfl) rfl (nk' _ (by kernel_rfl) (ni' l8_0 (ni' l8_1 nr'))) fun x => by kernel_rfl
def I9 : Sp := ⟨[(0, oi64), (1, oi64), (2, oi64)], [], []⟩
def E9 : SL := [(.ret, ⟨[(6, ob)], [], []⟩)]
noncomputable def e9 : Fe G := ⟨I9, E9, fun x => nf7' x.1.1 x.1.2.1 x.1.2.2.1, Tryz.f107.results.toList⟩
theorem k9 : FnOK Tryz.prog G 107 e9 := fk cx (tc k2 tn) (jl [(1048577, [(.normal, ⟨[(6, ob)], [], []⟩)])]) (lp := (pl [])) Tryz.func107 (by kernel_rfl) (by kernel_rfl) rfl (an0 (by kernel_rfl)) fun x => by kernel_rfl
def I10 : Sp := ⟨[(0, .agg c'3), (1, oi64), (2, oi64)], [], []⟩
def E10 : SL := [(.ret, ⟨[(6, ob)], [], []⟩)]
noncomputable def e10 : Fe G := ⟨I10, E10, fun x => ndz' x.1.1.1 x.1.1.2.1 x.1.1.2.2.1 x.1.1.2.2.2.1 x.1.1.2.2.2.2.1 x.1.1.2.2.2.2.2.1 x.1.1.2.2.2.2.2.2.1 x.1.1.2.2.2.2.2.2.2.1 x.1.2.1 x.1.2.2.1, Tryz.f81.results.toList⟩
theorem k10 : FnOK Tryz.prog G 81 e10 := fk cx (tc k5 (tc k9 tn)) (jl [(1048577, [(.normal, ⟨[(6, ob)], [], []⟩)])]) (lp := (pl [])) Tryz.func81 (by kernel_rfl) (by kernel_rfl) rfl (an0 (by kernel_rfl)) fun x => by kernel_rfl
def I11 : Sp := ⟨[(0, oi64), (1, oi64), (2, oi64)], [], []⟩
def E11 : SL := [(.ret, ⟨[(6, ob)], [], []⟩)]
noncomputable def e11 : Fe G := ⟨I11, E11, fun x => nco' x.1.1 x.1.2.1 x.1.2.2.1, Tryz.f151.results.toList⟩
theorem k11 : FnOK Tryz.prog G 151 e11 := fk cx tn (jl [(1048577, [(.normal, ⟨[(6, ob)], [], []⟩)])]) (lp := (pl [])) Tryz.func151 (by kernel_rfl) (by kernel_rfl) rfl (an0 (by kernel_rfl)) fun x => by kernel_rfl
def I12 : Sp := ⟨[(0, .agg c'3), (1, .agg c'6)], [], []⟩
def E12 : SL := [(.ret, ⟨[(4, ob)], [], []⟩)]
noncomputable def e12 : Fe G := ⟨I12, E12, fun x => ngj' x.1.1.1 x.1.1.2.1 x.1.1.2.2.1 x.1.1.2.2.2.1 x.1.1.2.2.2.2.1 x.1.1.2.2.2.2.2.1 x.1.1.2.2.2.2.2.2.1 x.1.1.2.2.2.2.2.2.2.1 x.1.2.1.1 x.1.2.1.2.1 x.1.2.1.2.2.1 x.1.2.1.2.2.2.1 x.1.2.1.2.2.2.2.1, Tryz.f139.results.toList⟩
theorem k12 : FnOK Tryz.prog G 139 e12 := fk cx (tc k5 (tc k10 (tc k11 tn))) (jl [(1048580, [(.normal, ⟨[(2, op 32), (3, op 48), (5, ob), (6, ob)], [(32, c'3), (48, c'6)], []⟩)]), (1048584, [(.normal, ⟨[(4, ob)], [], []⟩)]), (1048586, [(.normal, ⟨[(4, ob)], [], []⟩)]), (1048588, [(.normal, ⟨[(4, ob)], [], []⟩)]), (1048590, [(.normal, ⟨[(4, ob)], [], []⟩)]), (1048593, [(.normal, ⟨[(4, ob)], [], []⟩)])]) (lp := (pl [])) Tryz.func139 (by kernel_rfl) (by kernel_rfl) rfl (an0 (by kernel_rfl)) fun x => by kernel_rfl
def I13 : Sp := ⟨[(0, .agg c'3), (1, os)], [], []⟩
def E13 : SL := [(.ret, ⟨[(4, op 64), (5, oi64)], [(64, c'6)], []⟩)]
noncomputable def e13 : Fe G := ⟨I13, E13, fun x => nh1' x.1.1.1 x.1.1.2.1 x.1.1.2.2.1 x.1.1.2.2.2.1 x.1.1.2.2.2.2.1 x.1.1.2.2.2.2.2.1 x.1.1.2.2.2.2.2.2.1 x.1.1.2.2.2.2.2.2.2.1 x.1.2.1, Tryz.f132.results.toList⟩
theorem k13 : FnOK Tryz.prog G 132 e13 := fk cx (tc k5 (tc k8 (tc k12 tn))) (jl []) (lp := (pl [])) Tryz.func132 (by kernel_rfl) (by kernel_rfl) rfl (an0 (by kernel_rfl)) fun x => by kernel_rfl
def I14 : Sp := ⟨[(0, .agg c'3), (1, os)], [], []⟩
def E14 : SL := [(.ret, ⟨[(4, .one (.own 32768 92)), (5, oi64)], [], []⟩)]
def S14_0 : Sp := ⟨[(1, os), (2, op 32), (6, .one (.own 32768 92)), (7, oi64)], [(32, c'3)], []⟩
def X14_0 : SL := [(.exit 0, ⟨[(6, .one (.own 32768 92)), (7, oi64)], [], []⟩)]
def J14 : Nat → Option SL := jl []
noncomputable def P14 : Nat → St G → M (Ex × St G) := pl [lpX S14_0 X14_0 nh6']
theorem t14 : ∀ p ∈ [(132, e13)], FnOK Tryz.prog G p.1 p.2 := (tc k13 tn)
theorem l14_0 : LoopOK Tryz.prog G 35 (P14 0) (nl' (nh' Tryz.f113) 0) := lk cx t14 J14 1 S14_0 X14_0 (rfl : nh6' = _) (by kernel_rfl) (an0 (by kernel_rfl)) fun x => by kernel_rfl
noncomputable def e14 : Fe G := ⟨I14, E14, fun x => njb' x.1.1.1 x.1.1.2.1 x.1.1.2.2.1 x.1.1.2.2.2.1 x.1.1.2.2.2.2.1 x.1.1.2.2.2.2.2.1 x.1.1.2.2.2.2.2.2.1 x.1.1.2.2.2.2.2.2.2.1 x.1.2.1, Tryz.f113.results.toList⟩
theorem k14 : FnOK Tryz.prog G 113 e14 := fk cx t14 J14 (lp := P14) Tryz.func113 (by kernel_rfl) (by kernel_rfl) rfl (nk' _ (by kernel_rfl) (ni' l14_0 nr')) fun x => by kernel_rfl
def I15 : Sp := ⟨[(0, oi64)], [], []⟩
def E15 : SL := [(.ret, ⟨[(2, ob)], [], []⟩)]
noncomputable def e15 : Fe G := ⟨I15, E15, fun x => nhv' x.1.1, Tryz.f131.results.toList⟩
theorem k15 : FnOK Tryz.prog G 131 e15 := fk cx tn (jl []) (lp := (pl [])) Tryz.func131 (by kernel_rfl) (by kernel_rfl) rfl (an0 (by kernel_rfl)) fun x => by kernel_rfl
def I16 : Sp := ⟨[(0, oi64), (1, oi64)], [], []⟩
def E16 : SL := [(.ret, ⟨[(4, oi64)], [], []⟩)]
noncomputable def e16 : Fe G := ⟨I16, E16, fun x => nc5' x.1.1 x.1.2.1, Tryz.f109.results.toList⟩
theorem k16 : FnOK Tryz.prog G 109 e16 := fk cx (tc k15 tn) (jl []) (lp := (pl [])) Tryz.func109 (by kernel_rfl) (by kernel_rfl) rfl (an0 (by kernel_rfl)) fun x => by kernel_rfl
def I17 : Sp := ⟨[(0, oro 3)], [], []⟩
def E17 : SL := [(.ret, ⟨[(2, oi64)], [], []⟩)]
def S17_0 : Sp := ⟨[(3, oi64), (6, oro 3), (7, oi64), (8, oi64)], [], []⟩
def X17_0 : SL := [(.exit 0, ⟨[(3, oi64)], [], []⟩), (.ret, ⟨[(2, oi64)], [], []⟩)]
def J17 : Nat → Option SL := jl []
noncomputable def P17 : Nat → St G → M (Ex × St G) := pl [lpX S17_0 X17_0 nih']
theorem l17_0 : LoopOK Tryz.prog G 18 (P17 0) (nl' (nh' Tryz.f108) 0) := lk cx tn J17 1 S17_0 X17_0 (rfl : nih' = _) (by kernel_rfl) (an0 (by kernel_rfl)) fun x => by kernel_rfl
noncomputable def e17 : Fe G := ⟨I17, E17, fun x => nie' x.1.1, Tryz.f108.results.toList⟩
theorem k17 : FnOK Tryz.prog G 108 e17 := fk cx tn J17 (lp := P17) Tryz.func108 (by kernel_rfl) (by kernel_rfl) rfl (nk' _ (by kernel_rfl) (ni' l17_0 nr')) fun x => by kernel_rfl
def I18 : Sp := ⟨[(0, .agg c'7), (1, .agg c'7)], [], []⟩
def E18 : SL := [(.ret, ⟨[(4, oi64)], [], []⟩)]
noncomputable def e18 : Fe G := ⟨I18, E18, fun x => nfk' x.1.1.1 x.1.1.2.1 x.1.1.2.2.1 x.1.1.2.2.2.1 x.1.1.2.2.2.2.1 x.1.2.1.1 x.1.2.1.2.1 x.1.2.1.2.2.1 x.1.2.1.2.2.2.1 x.1.2.1.2.2.2.2.1, Tryz.f105.results.toList⟩
theorem k18 : FnOK Tryz.prog G 105 e18 := fk cx (tc k16 (tc k17 tn)) (jl []) (lp := (pl [])) Tryz.func105 (by kernel_rfl) (by kernel_rfl) rfl (an0 (by kernel_rfl)) fun x => by kernel_rfl
def I19 : Sp := ⟨[(0, oro 98), (1, .agg c'7), (2, .one (.clo 105 [] []))], [], []⟩
def E19 : SL := [(.ret, ⟨[(6, oi64), (7, ob)], [], []⟩)]
def S19_0 : Sp := ⟨[(0, oro 98), (2, .one (.clo 105 [] [])), (4, op 64), (8, oi64), (9, oi64), (10, oi64)], [(64, c'7)], []⟩
def X19_0 : SL := [(.exit 0, ⟨[(0, oro 98), (2, .one (.clo 105 [] [])), (4, op 64), (8, oi64), (9, oi64)], [(64, c'7)], []⟩)]
def J19 : Nat → Option SL := jl [(1048584, [(.normal, ⟨[(6, oi64), (7, ob)], [], []⟩)])]
noncomputable def P19 : Nat → St G → M (Ex × St G) := pl [lpX S19_0 X19_0 nw']
theorem t19 : ∀ p ∈ [(105, e18)], FnOK Tryz.prog G p.1 p.2 := (tc k18 tn)
theorem l19_0 : LoopOK Tryz.prog G 49 (P19 0) (nl' (nh' Tryz.f148) 0) := lk cx t19 J19 1 S19_0 X19_0 (rfl : nw' = _) (by kernel_rfl) (an0 (by kernel_rfl)) fun x => by kernel_rfl
noncomputable def e19 : Fe G := ⟨I19, E19, fun x => nba' x.1.1 x.1.2.1.1 x.1.2.1.2.1 x.1.2.1.2.2.1 x.1.2.1.2.2.2.1 x.1.2.1.2.2.2.2.1, Tryz.f148.results.toList⟩
theorem k19 : FnOK Tryz.prog G 148 e19 := fk cx t19 J19 (lp := P19) Tryz.func148 (by kernel_rfl) (by kernel_rfl) rfl (nk' _ (by kernel_rfl) (ni' l19_0 nr')) fun x => by kernel_rfl
def I20 : Sp := ⟨[(0, .agg c'8), (1, oi64), (2, oi64)], [], []⟩
def E20 : SL := [(.ret, ⟨[(6, oi64), (7, ob)], [], []⟩)]
noncomputable def e20 : Fe G := ⟨I20, E20, fun x => nly' x.1.1.1 x.1.1.2.1 x.1.1.2.2.1 x.1.1.2.2.2.1 x.1.2.1 x.1.2.2.1, Tryz.f133.results.toList⟩
theorem k20 : FnOK Tryz.prog G 133 e20 := fk cx (tc k19 tn) (jl []) (lp := (pl [])) Tryz.func133 (by kernel_rfl) (by kernel_rfl) rfl (an0 (by kernel_rfl)) fun x => by kernel_rfl
def I21 : Sp := ⟨[(0, .one (.own 32768 98)), (1, oi64), (2, .one (.own 32769 98))], [], []⟩
def E21 : SL := [(.ret, ⟨[(6, .one (.own 32768 98))], [], []⟩)]
noncomputable def e21 : Fe G := ⟨I21, E21, fun x => ncr' x.1.1 x.1.2.1 x.1.2.2.1, Tryz.f134.results.toList⟩
theorem s21 : insFe G 6 98 = e21 := by kernel_rfl
theorem k21 : FnOK Tryz.prog G 134 e21 := s21 ▸ n36' (r := 6) (t := 98) sigOK ⟨_, Tryz.func134, by kernel_rfl, by kernel_rfl⟩ (by intro h; cases h) (fun _ => rfl) (nrp')
def I22 : Sp := ⟨[(0, .one (.own 32768 98)), (1, oi64), (2, oi64)], [], []⟩
def E22 : SL := [(.ret, ⟨[(6, .one (.own 32768 98))], [], []⟩)]
noncomputable def e22 : Fe G := ⟨I22, E22, fun x => ncs' x.1.1 x.1.2.1 x.1.2.2.1, Tryz.f135.results.toList⟩
theorem s22 : delFe G 6 98 = e22 := by kernel_rfl
theorem k22 : FnOK Tryz.prog G 135 e22 := s22 ▸ n4i' (r := 6) (t := 98) sigOK ⟨_, Tryz.func135, by kernel_rfl, by kernel_rfl⟩ (by intro h; cases h) (fun _ => rfl) (nrj')
def I23 : Sp := ⟨[(0, op 65536), (1, .agg c'6)], [(65536, c'4)], []⟩
def E23 : SL := [(.normal, ⟨[], [(65536, c'4)], [65536]⟩)]
noncomputable def e23 : Fe G := ⟨I23, E23, fun x => njz' x.1.2.1.1 x.1.2.1.2.1 x.1.2.1.2.2.1 x.1.2.1.2.2.2.1 x.1.2.1.2.2.2.2.1 x.2.1.1 x.2.1.2.1 x.2.1.2.2.1 x.2.1.2.2.2.1, Tryz.f115.results.toList⟩
theorem k23 : FnOK Tryz.prog G 115 e23 := fk cx (tc k20 (tc k21 (tc k22 tn))) (jl []) (lp := (pl [])) Tryz.func115 (by kernel_rfl) (by kernel_rfl) rfl (an0 (by kernel_rfl)) fun x => by kernel_rfl
def I24 : Sp := ⟨[(0, .agg c'3), (1, .agg c'5)], [], []⟩
def E24 : SL := [(.ret, ⟨[(4, op 64)], [(64, c'4)], []⟩)]
def S24_0 : Sp := ⟨[(4, op 64), (5, op 80), (19, .one (.own 32768 92)), (20, oi64), (21, oi64)], [(64, c'9), (80, c'10)], []⟩
def X24_0 : SL := [(.exit 0, ⟨[(4, op 64), (5, op 80)], [(64, c'4), (80, c'11)], []⟩)]
def J24 : Nat → Option SL := jl []
noncomputable def P24 : Nat → St G → M (Ex × St G) := pl [lpX S24_0 X24_0 nii']
theorem t24 : ∀ p ∈ [(112, e6), (114, e7), (113, e14), (115, e23)], FnOK Tryz.prog G p.1 p.2 := (tc k6 (tc k7 (tc k14 (tc k23 tn))))
theorem l24_0 : LoopOK Tryz.prog G 29 (P24 0) (nl' (nh' Tryz.f86) 0) := lk cx t24 J24 1 S24_0 X24_0 (rfl : nii' = _) (by kernel_rfl) (an0 (by kernel_rfl)) fun x => by kernel_rfl
noncomputable def e24 : Fe G := ⟨I24, E24, fun x => nj1' x.1.1.1 x.1.1.2.1 x.1.1.2.2.1 x.1.1.2.2.2.1 x.1.1.2.2.2.2.1 x.1.1.2.2.2.2.2.1 x.1.1.2.2.2.2.2.2.1 x.1.1.2.2.2.2.2.2.2.1 x.1.2.1.1 x.1.2.1.2.1 x.1.2.1.2.2.1, Tryz.f86.results.toList⟩
theorem k24 : FnOK Tryz.prog G 86 e24 := fk cx t24 J24 (lp := P24) Tryz.func86 (by kernel_rfl) (by kernel_rfl) rfl (nk' _ (by kernel_rfl) (ni' l24_0 nr')) fun x => by kernel_rfl
def I25 : Sp := ⟨[(0, oi64), (1, .agg c'5)], [], []⟩
def E25 : SL := [(.ret, ⟨[(4, ob)], [], []⟩)]
noncomputable def e25 : Fe G := ⟨I25, E25, fun x => nc6' x.1.1 x.1.2.1.1 x.1.2.1.2.1 x.1.2.1.2.2.1, Tryz.f30.results.toList⟩
theorem k25 : FnOK Tryz.prog G 30 e25 := fk cx tn (jl [(1048577, [(.normal, ⟨[(4, ob)], [], []⟩)])]) (lp := (pl [])) Tryz.func30 (by kernel_rfl) (by kernel_rfl) rfl (an0 (by kernel_rfl)) fun x => by kernel_rfl
def I26 : Sp := ⟨[(0, .agg c'3), (1, .agg c'7)], [], []⟩
def E26 : SL := [(.ret, ⟨[(4, ob)], [], []⟩)]
noncomputable def e26 : Fe G := ⟨I26, E26, fun x => njg' x.1.1.1 x.1.1.2.1 x.1.1.2.2.1 x.1.1.2.2.2.1 x.1.1.2.2.2.2.1 x.1.1.2.2.2.2.2.1 x.1.1.2.2.2.2.2.2.1 x.1.1.2.2.2.2.2.2.2.1 x.1.2.1.1 x.1.2.1.2.1 x.1.2.1.2.2.1 x.1.2.1.2.2.2.1 x.1.2.1.2.2.2.2.1, Tryz.f104.results.toList⟩
theorem k26 : FnOK Tryz.prog G 104 e26 := fk cx (tc k10 tn) (jl [(1048577, [(.normal, ⟨[(4, ob)], [], []⟩)])]) (lp := (pl [])) Tryz.func104 (by kernel_rfl) (by kernel_rfl) rfl (an0 (by kernel_rfl)) fun x => by kernel_rfl
def I27 : Sp := ⟨[(0, .agg c'3), (1, .agg c'8)], [], []⟩
def E27 : SL := [(.ret, ⟨[(4, ob)], [], []⟩)]
def S27_0 : Sp := ⟨[(2, op 32), (3, op 48), (38, oro 3), (39, oi64), (40, oi64)], [(32, c'3), (48, c'8)], []⟩
def X27_0 : SL := [(.exit 0, ⟨[(2, op 32), (3, op 48)], [(32, c'3), (48, c'8)], []⟩), (.ret, ⟨[(4, ob)], [], []⟩)]
def S27_1 : Sp := ⟨[(2, op 32), (3, op 48), (52, oro 98), (53, oi64), (54, oi64)], [(32, c'3), (48, c'8)], []⟩
def X27_1 : SL := [(.exit 2, ⟨[], [], []⟩), (.ret, ⟨[(4, ob)], [], []⟩)]
def J27 : Nat → Option SL := jl [(1048589, [(.normal, ⟨[(2, op 32), (3, op 48), (52, oro 98), (53, oi64), (54, oi64), (77, ob)], [(32, c'3), (48, c'8)], []⟩)])]
noncomputable def P27 : Nat → St G → M (Ex × St G) := pl [lpX S27_0 X27_0 nh4', lpX S27_1 X27_1 nh5']
theorem t27 : ∀ p ∈ [(53, e5), (104, e26), (105, e18)], FnOK Tryz.prog G p.1 p.2 := (tc k5 (tc k26 (tc k18 tn)))
theorem l27_1 : LoopOK Tryz.prog G 79 (P27 1) (nl' (nh' Tryz.f74) 1) := lk cx t27 J27 2 S27_1 X27_1 (rfl : nh5' = _) (by kernel_rfl) (an0 (by kernel_rfl)) fun x => by kernel_rfl
theorem l27_0 : LoopOK Tryz.prog G 79 (P27 0) (nl' (nh' Tryz.f74) 0) := lk cx t27 J27 1 S27_0 X27_0 (rfl : nh4' = _) (by kernel_rfl) (an0 (by kernel_rfl)) fun x => by kernel_rfl
noncomputable def e27 : Fe G := ⟨I27, E27, fun x => nfl' x.1.1.1 x.1.1.2.1 x.1.1.2.2.1 x.1.1.2.2.2.1 x.1.1.2.2.2.2.1 x.1.1.2.2.2.2.2.1 x.1.1.2.2.2.2.2.2.1 x.1.1.2.2.2.2.2.2.2.1 x.1.2.1.1 x.1.2.1.2.1 x.1.2.1.2.2.1 x.1.2.1.2.2.2.1, Tryz.f74.results.toList⟩
theorem k27 : FnOK Tryz.prog G 74 e27 := fk cx t27 J27 (lp := P27) Tryz.func74 (by kernel_rfl) (by kernel_rfl) rfl (nk' _ (by kernel_rfl) (ni' l27_0 (ni' l27_1 nr'))) fun x => by kernel_rfl
def I28 : Sp := ⟨[(0, oi64), (1, oi64), (2, op 65536), (3, op 65537)], [(65536, [.own 32768 92]), (65537, [.int .i64])], []⟩
def E28 : SL := [(.normal, ⟨[], [(65536, [.own 32768 92]), (65537, [.int .i64])], [65536, 65537]⟩)]
noncomputable def e28 : Fe G := ⟨I28, E28, fun x => ne4' x.1.1 x.1.2.1 x.2.1.1 x.2.2.1.1, Tryz.f136.results.toList⟩
theorem k28 : FnOK Tryz.prog G 136 e28 := fk cx tn (jl []) (lp := (pl [])) Tryz.func136 (by kernel_rfl) (by kernel_rfl) rfl (an0 (by kernel_rfl)) fun x => by kernel_rfl
def I29 : Sp := ⟨[(0, ob)], [], []⟩
def E29 : SL := [(.ret, ⟨[(2, oi64)], [], []⟩)]
noncomputable def e29 : Fe G := ⟨I29, E29, fun x => ngm' x.1.1, Tryz.f137.results.toList⟩
theorem k29 : FnOK Tryz.prog G 137 e29 := fk cx tn (jl []) (lp := (pl [])) Tryz.func137 (by kernel_rfl) (by kernel_rfl) rfl (an0 (by kernel_rfl)) fun x => by kernel_rfl
def I30 : Sp := ⟨[(0, oi64), (1, oi64), (2, oi64), (3, op 65536), (4, op 65537)], [(65536, [.own 32768 92]), (65537, c'7)], []⟩
def E30 : SL := [(.normal, ⟨[], [(65536, [.own 32768 92]), (65537, c'7)], [65536, 65537]⟩)]
noncomputable def e30 : Fe G := ⟨I30, E30, fun x => ne7' x.1.1 x.1.2.1 x.1.2.2.1 x.2.1.1 x.2.2.1.1 x.2.2.1.2.1 x.2.2.1.2.2.1 x.2.2.1.2.2.2.1 x.2.2.1.2.2.2.2.1, Tryz.f138.results.toList⟩
theorem k30 : FnOK Tryz.prog G 138 e30 := fk cx tn (jl []) (lp := (pl [])) Tryz.func138 (by kernel_rfl) (by kernel_rfl) rfl (an0 (by kernel_rfl)) fun x => by kernel_rfl
def I31 : Sp := ⟨[(0, .agg c'3), (1, .agg c'8)], [], []⟩
def E31 : SL := [(.ret, ⟨[(4, .one (.own 32768 92))], [], []⟩)]
def S31_0 : Sp := ⟨[(3, op 48), (5, op 80), (17, oi64), (18, oi64)], [(48, c'8), (80, [.own 32768 92])], []⟩
def X31_0 : SL := [(.exit 0, ⟨[(3, op 48), (5, op 80)], [(48, c'8), (80, [.own 32768 92])], []⟩)]
def S31_1 : Sp := ⟨[(5, op 80), (47, oro 98), (48, oi64), (49, oi64)], [(80, [.own 32768 92])], []⟩
def X31_1 : SL := [(.exit 2, ⟨[(5, op 80)], [(80, [.own 32768 92])], []⟩)]
def J31 : Nat → Option SL := jl []
noncomputable def P31 : Nat → St G → M (Ex × St G) := pl [lpX S31_0 X31_0 ng0', lpX S31_1 X31_1 ng2']
theorem t31 : ∀ p ∈ [(74, e27), (136, e28), (137, e29), (138, e30)], FnOK Tryz.prog G p.1 p.2 := (tc k27 (tc k28 (tc k29 (tc k30 tn))))
theorem l31_1 : LoopOK Tryz.prog G 69 (P31 1) (nl' (nh' Tryz.f116) 1) := lk cx t31 J31 2 S31_1 X31_1 (rfl : ng2' = _) (by kernel_rfl) (an0 (by kernel_rfl)) fun x => by kernel_rfl
theorem l31_0 : LoopOK Tryz.prog G 69 (P31 0) (nl' (nh' Tryz.f116) 0) := lk cx t31 J31 1 S31_0 X31_0 (rfl : ng0' = _) (by kernel_rfl) (an0 (by kernel_rfl)) fun x => by kernel_rfl
noncomputable def e31 : Fe G := ⟨I31, E31, fun x => nin' x.1.1.1 x.1.1.2.1 x.1.1.2.2.1 x.1.1.2.2.2.1 x.1.1.2.2.2.2.1 x.1.1.2.2.2.2.2.1 x.1.1.2.2.2.2.2.2.1 x.1.1.2.2.2.2.2.2.2.1 x.1.2.1.1 x.1.2.1.2.1 x.1.2.1.2.2.1 x.1.2.1.2.2.2.1, Tryz.f116.results.toList⟩
theorem k31 : FnOK Tryz.prog G 116 e31 := fk cx t31 J31 (lp := P31) Tryz.func116 (by kernel_rfl) (by kernel_rfl) rfl (nk' _ (by kernel_rfl) (ni' l31_0 (ni' l31_1 nr'))) fun x => by kernel_rfl
def I32 : Sp := ⟨[(0, .agg c'3), (1, .agg c'6)], [], []⟩
def E32 : SL := [(.ret, ⟨[(4, os), (5, oi64)], [], []⟩)]
noncomputable def e32 : Fe G := ⟨I32, E32, fun x => nht' x.1.1.1 x.1.1.2.1 x.1.1.2.2.1 x.1.1.2.2.2.1 x.1.1.2.2.2.2.1 x.1.1.2.2.2.2.2.1 x.1.1.2.2.2.2.2.2.1 x.1.1.2.2.2.2.2.2.2.1 x.1.2.1.1 x.1.2.1.2.1 x.1.2.1.2.2.1 x.1.2.1.2.2.2.1 x.1.2.1.2.2.2.2.1, Tryz.f117.results.toList⟩
theorem k32 : FnOK Tryz.prog G 117 e32 := fk cx (tc k12 (tc k8 tn)) (jl []) (lp := (pl [])) Tryz.func117 (by kernel_rfl) (by kernel_rfl) rfl (an0 (by kernel_rfl)) fun x => by kernel_rfl
def I33 : Sp := ⟨[(0, op 65536), (1, os)], [(65536, c'12)], []⟩
def E33 : SL := [(.ret, ⟨[(4, oi64), (5, .one (.nili))], [(65536, c'12)], [65536]⟩)]
noncomputable def e33 : Fe G := ⟨I33, E33, fun x => ncz' x.1.2.1 x.2.1.2.1, Tryz.f118.results.toList⟩
theorem s33 : wsFe G 4 5 171 5 (fun b => (b.toNat : Int)) = e33 := by kernel_rfl
theorem k33 : FnOK Tryz.prog G 118 e33 := s33 ▸ n48' (tb := 171) (te := 5) sigOK ⟨_, Tryz.func118, by kernel_rfl, by kernel_rfl⟩ (by intro h; cases h) (fun _ => rfl) (by kernel_rfl) (r0 := 4) (r1 := 5) (by decide) (ofB := fun b => (b.toNat : Int)) (fun _ => rfl) (fun b w a0 v ha hb n xs ho hne s h => nyt' b w a0 v ha hb n xs ho hne s h)
def I34 : Sp := ⟨[(0, oi64), (1, .agg c'5), (2, oi64), (3, oi64)], [], []⟩
def E34 : SL := [(.ret, ⟨[(8, oi64)], [], []⟩)]
noncomputable def e34 : Fe G := ⟨I34, E34, fun x => nfd' x.1.1 x.1.2.1.1 x.1.2.1.2.1 x.1.2.1.2.2.1 x.1.2.2.1 x.1.2.2.2.1, Tryz.f144.results.toList⟩
theorem k34 : FnOK Tryz.prog G 144 e34 := fk cx (tc k25 tn) (jl [(1048579, [(.normal, ⟨[(3, oi64), (14, ob)], [], []⟩)])]) (lp := (pl [])) Tryz.func144 (by kernel_rfl) (by kernel_rfl) rfl (an0 (by kernel_rfl)) fun x => by kernel_rfl
def I35 : Sp := ⟨[(0, op 65536), (1, op 65537)], [(65536, c'5), (65537, [.int .i64])], []⟩
def E35 : SL := [(.normal, ⟨[], [(65536, c'5), (65537, [.int .i64])], [65536, 65537]⟩)]
noncomputable def e35 : Fe G := ⟨I35, E35, fun x => nj4' x.2.1.1 x.2.1.2.1 x.2.1.2.2.1 x.2.2.1.1, Tryz.f143.results.toList⟩
theorem k35 : FnOK Tryz.prog G 143 e35 := fk cx tn (jl []) (lp := (pl [])) Tryz.func143 (by kernel_rfl) (by kernel_rfl) rfl (an0 (by kernel_rfl)) fun x => by kernel_rfl
def I36 : Sp := ⟨[(0, oi64), (1, .agg c'5), (2, oi64), (3, oi64), (4, .one (.clo 143 [] [(65536, 0)]))], [(65536, [.int .i64])], []⟩
def E36 : SL := [(.ret, ⟨[(10, op 160), (11, oi64), (12, oi64)], [(160, c'5), (65536, [.int .i64])], [65536]⟩)]
noncomputable def e36 : Fe G := ⟨I36, E36, fun x => ner' x.1.1 x.1.2.1.1 x.1.2.1.2.1 x.1.2.1.2.2.1 x.1.2.2.1 x.1.2.2.2.1 x.2.1.1, Tryz.f142.results.toList⟩
theorem k36 : FnOK Tryz.prog G 142 e36 := fk cx (tc k34 (tc k35 tn)) (jl []) (lp := (pl [])) Tryz.func142 (by kernel_rfl) (by kernel_rfl) rfl (an0 (by kernel_rfl)) fun x => by kernel_rfl
def I37 : Sp := ⟨[(0, oi64), (1, .agg c'5), (2, oi64), (3, oi64)], [], []⟩
def E37 : SL := [(.ret, ⟨[(8, op 128), (9, oi64), (10, oi64)], [(128, c'5)], []⟩)]
noncomputable def e37 : Fe G := ⟨I37, E37, fun x => njc' x.1.1 x.1.2.1.1 x.1.2.1.2.1 x.1.2.1.2.2.1 x.1.2.2.1 x.1.2.2.2.1, Tryz.f119.results.toList⟩
theorem k37 : FnOK Tryz.prog G 119 e37 := fk cx (tc k36 tn) (jl []) (lp := (pl [])) Tryz.func119 (by kernel_rfl) (by kernel_rfl) rfl (an0 (by kernel_rfl)) fun x => by kernel_rfl
def I38 : Sp := ⟨[(0, op 65536)], [(65536, c'12)], []⟩
def E38 : SL := [(.ret, ⟨[(2, os)], [(65536, c'13)], [65536]⟩)]
noncomputable def e38 : Fe G := ⟨I38, E38, fun x => nds' x.2.1.2.1, Tryz.f121.results.toList⟩
theorem s38 : stFe G 2 171 5 = e38 := by kernel_rfl
theorem k38 : FnOK Tryz.prog G 121 e38 := s38 ▸ n3t' (tb := 171) (te := 5) sigOK ⟨_, Tryz.func121, by kernel_rfl, by kernel_rfl⟩ (by intro h; cases h) (by kernel_rfl) (r0 := 2) (fun _ => rfl) (fun b w a0 g0 cap cur l h0 hb hg hn hc h63 hx => nym' b w a0 g0 cap cur l h0 hb hg hn hc h63 hx)
def I39 : Sp := ⟨[(0, oi64), (1, .agg c'5), (2, oi64), (3, os), (4, oi64)], [], []⟩
def E39 : SL := [(.ret, ⟨[(10, op 160), (11, oi64), (12, oi64)], [(160, c'5)], []⟩)]
noncomputable def e39 : Fe G := ⟨I39, E39, fun x => njf' x.1.1 x.1.2.1.1 x.1.2.1.2.1 x.1.2.1.2.2.1 x.1.2.2.1 x.1.2.2.2.1 x.1.2.2.2.2.1, Tryz.f120.results.toList⟩
theorem k39 : FnOK Tryz.prog G 120 e39 := fk cx (tc k34 tn) (jl []) (lp := (pl [])) Tryz.func120 (by kernel_rfl) (by kernel_rfl) rfl (an0 (by kernel_rfl)) fun x => by kernel_rfl
def I40 : Sp := ⟨[(0, op 65536), (1, op 65537)], [(65536, c'5), (65537, [.int .i64])], []⟩
def E40 : SL := [(.normal, ⟨[], [(65536, c'5), (65537, [.int .i64])], [65536, 65537]⟩)]
noncomputable def e40 : Fe G := ⟨I40, E40, fun x => njq' x.2.1.1 x.2.1.2.1 x.2.1.2.2.1 x.2.2.1.1, Tryz.f145.results.toList⟩
theorem k40 : FnOK Tryz.prog G 145 e40 := fk cx tn (jl []) (lp := (pl [])) Tryz.func145 (by kernel_rfl) (by kernel_rfl) rfl (an0 (by kernel_rfl)) fun x => by kernel_rfl
def I41 : Sp := ⟨[(0, oi64), (1, .agg c'5), (2, oi64), (3, oi64), (4, .one (.clo 145 [] [(65536, 0)]))], [(65536, [.int .i64])], []⟩
def E41 : SL := [(.ret, ⟨[(10, op 160), (11, oi64), (12, oi64)], [(160, c'5), (65536, [.int .i64])], [65536]⟩)]
noncomputable def e41 : Fe G := ⟨I41, E41, fun x => neg' x.1.1 x.1.2.1.1 x.1.2.1.2.1 x.1.2.1.2.2.1 x.1.2.2.1 x.1.2.2.2.1 x.2.1.1, Tryz.f142.results.toList⟩
theorem k41 : FnOK Tryz.prog G 142 e41 := fk cx (tc k34 (tc k40 tn)) (jl []) (lp := (pl [])) Tryz.func142 (by kernel_rfl) (by kernel_rfl) rfl (an0 (by kernel_rfl)) fun x => by kernel_rfl
def I42 : Sp := ⟨[(0, oi64), (1, .agg c'5), (2, oi64), (3, oi64)], [], []⟩
def E42 : SL := [(.ret, ⟨[(8, op 128), (9, oi64), (10, oi64)], [(128, c'5)], []⟩)]
noncomputable def e42 : Fe G := ⟨I42, E42, fun x => nio' x.1.1 x.1.2.1.1 x.1.2.1.2.1 x.1.2.1.2.2.1 x.1.2.2.1 x.1.2.2.2.1, Tryz.f122.results.toList⟩
theorem k42 : FnOK Tryz.prog G 122 e42 := fk cx (tc k41 tn) (jl []) (lp := (pl [])) Tryz.func122 (by kernel_rfl) (by kernel_rfl) rfl (an0 (by kernel_rfl)) fun x => by kernel_rfl
def I43 : Sp := ⟨[(0, .agg c'3), (1, .agg c'5), (2, .agg c'8), (3, oi64)], [], []⟩
def E43 : SL := [(.ret, ⟨[(8, op 128), (9, oi64), (10, oi64)], [(128, c'5)], []⟩)]
def S43_0 : Sp := ⟨[(3, oi64), (4, op 64), (5, op 80), (8, op 128), (11, op 176), (36, .one (.own 32768 92)), (37, oi64), (38, oi64)], [(64, c'3), (80, c'5), (128, c'5), (176, c'14)], []⟩
def X43_0 : SL := [(.exit 0, ⟨[(3, oi64), (4, op 64), (5, op 80), (8, op 128), (11, op 176)], [(64, c'3), (80, c'5), (128, c'5), (176, c'15)], []⟩)]
def J43 : Nat → Option SL := jl [(15, [(.normal, ⟨[(3, oi64), (4, op 64), (5, op 80), (8, op 128), (16, oi64), (17, oi64)], [(64, c'3), (80, c'5), (128, c'5)], []⟩)])]
noncomputable def P43 : Nat → St G → M (Ex × St G) := pl [lpX S43_0 X43_0 nhw']
theorem t43 : ∀ p ∈ [(30, e25), (74, e27), (116, e31), (117, e32), (118, e33), (119, e37), (121, e38), (120, e39), (122, e42)], FnOK Tryz.prog G p.1 p.2 := (tc k25 (tc k27 (tc k31 (tc k32 (tc k33 (tc k37 (tc k38 (tc k39 (tc k42 tn)))))))))
theorem l43_0 : LoopOK Tryz.prog G 92 (P43 0) (nl' (nh' Tryz.f87) 0) := lk cx t43 J43 1 S43_0 X43_0 (rfl : nhw' = _) (by kernel_rfl) (an0 (by kernel_rfl)) fun x => by kernel_rfl
noncomputable def e43 : Fe G := ⟨I43, E43, fun x => ni9' x.1.1.1 x.1.1.2.1 x.1.1.2.2.1 x.1.1.2.2.2.1 x.1.1.2.2.2.2.1 x.1.1.2.2.2.2.2.1 x.1.1.2.2.2.2.2.2.1 x.1.1.2.2.2.2.2.2.2.1 x.1.2.1.1 x.1.2.1.2.1 x.1.2.1.2.2.1 x.1.2.2.1.1 x.1.2.2.1.2.1 x.1.2.2.1.2.2.1 x.1.2.2.1.2.2.2.1 x.1.2.2.2.1, Tryz.f87.results.toList⟩
theorem k43 : FnOK Tryz.prog G 87 e43 := fk cx t43 J43 (lp := P43) Tryz.func87 (by kernel_rfl) (by kernel_rfl) rfl (nk' _ (by kernel_rfl) (ni' l43_0 nr')) fun x => by kernel_rfl
def I44 : Sp := ⟨[(0, .agg c'3), (1, .agg c'5), (2, oi64)], [], []⟩
def E44 : SL := [(.ret, ⟨[(6, op 96), (7, op 112), (8, oi64), (9, oi64)], [(96, c'5), (112, c'4)], []⟩)]
noncomputable def e44 : Fe G := ⟨I44, E44, fun x => nja' x.1.1.1 x.1.1.2.1 x.1.1.2.2.1 x.1.1.2.2.2.1 x.1.1.2.2.2.2.1 x.1.1.2.2.2.2.2.1 x.1.1.2.2.2.2.2.2.1 x.1.1.2.2.2.2.2.2.2.1 x.1.2.1.1 x.1.2.1.2.1 x.1.2.1.2.2.1 x.1.2.2.1, Tryz.f51.results.toList⟩
theorem k44 : FnOK Tryz.prog G 51 e44 := fk cx (tc k24 (tc k43 tn)) (jl []) (lp := (pl [])) Tryz.func51 (by kernel_rfl) (by kernel_rfl) rfl (an0 (by kernel_rfl)) fun x => by kernel_rfl
def I45 : Sp := ⟨[(0, .agg c'3), (1, .agg c'8)], [], []⟩
def E45 : SL := [(.ret, ⟨[(4, ob)], [], []⟩)]
noncomputable def e45 : Fe G := ⟨I45, E45, fun x => ney' x.1.1.1 x.1.1.2.1 x.1.1.2.2.1 x.1.1.2.2.2.1 x.1.1.2.2.2.2.1 x.1.1.2.2.2.2.2.1 x.1.1.2.2.2.2.2.2.1 x.1.1.2.2.2.2.2.2.2.1 x.1.2.1.1 x.1.2.1.2.1 x.1.2.1.2.2.1 x.1.2.1.2.2.2.1, Tryz.f29.results.toList⟩
theorem k45 : FnOK Tryz.prog G 29 e45 := fk cx (tc k27 tn) (jl [(1048577, [(.normal, ⟨[(4, ob)], [], []⟩)])]) (lp := (pl [])) Tryz.func29 (by kernel_rfl) (by kernel_rfl) rfl (an0 (by kernel_rfl)) fun x => by kernel_rfl
def I46 : Sp := ⟨[(0, oro 3)], [], []⟩
def E46 : SL := [(.ret, ⟨[(2, .one (.own 32768 3))], [], []⟩)]
noncomputable def e46 : Fe G := ⟨I46, E46, fun x => nex' x.1.1, Tryz.f75.results.toList⟩
theorem s46 : cloFe G 2 3 = e46 := by kernel_rfl
theorem k46 : FnOK Tryz.prog G 75 e46 := s46 ▸ nuf' (r := 2) (t := 3) sigOK ⟨_, Tryz.func75, by kernel_rfl, by kernel_rfl⟩ (tS := 33) (size := 1) (bytes := Tryz.t3.bytes) (by kernel_rfl) (by kernel_rfl) (Nat.le_of_ble_eq_true (by kernel_rfl)) (fun w a n c news => nys' _ rfl (by kernel_rfl) w a n c news) (n0g')
def I47 : Sp := ⟨[(0, oro 4)], [], []⟩
def E47 : SL := [(.ret, ⟨[(2, .one (.own 32768 4))], [], []⟩)]
noncomputable def e47 : Fe G := ⟨I47, E47, fun x => nc9' x.1.1, Tryz.f76.results.toList⟩
theorem s47 : cloFe G 2 4 = e47 := by kernel_rfl
theorem k47 : FnOK Tryz.prog G 76 e47 := s47 ▸ nuf' (r := 2) (t := 4) sigOK ⟨_, Tryz.func76, by kernel_rfl, by kernel_rfl⟩ (tS := 34) (size := 1) (bytes := Tryz.t4.bytes) (by kernel_rfl) (by kernel_rfl) (Nat.le_of_ble_eq_true (by kernel_rfl)) (fun w a n c news => nyx' _ rfl (by kernel_rfl) w a n c news) (n0b')
def I48 : Sp := ⟨[(0, oro 98)], [], []⟩
def E48 : SL := [(.ret, ⟨[(2, .one (.own 32768 98))], [], []⟩)]
noncomputable def e48 : Fe G := ⟨I48, E48, fun x => ncv' x.1.1, Tryz.f77.results.toList⟩
theorem s48 : cloFe G 2 98 = e48 := by kernel_rfl
theorem k48 : FnOK Tryz.prog G 77 e48 := s48 ▸ nuf' (r := 2) (t := 98) sigOK ⟨_, Tryz.func77, by kernel_rfl, by kernel_rfl⟩ (tS := 35) (size := 5) (bytes := Tryz.t98.bytes) (by kernel_rfl) (by kernel_rfl) (Nat.le_of_ble_eq_true (by kernel_rfl)) (fun w a n c news => nyz' _ rfl (by kernel_rfl) w a n c news) (n0a')
def I49 : Sp := ⟨[(0, .agg c'8)], [], []⟩
def E49 : SL := [(.ret, ⟨[(2, op 32)], [(32, c'4)], []⟩)]
noncomputable def e49 : Fe G := ⟨I49, E49, fun x => ne9' x.1.1.1 x.1.1.2.1 x.1.1.2.2.1 x.1.1.2.2.2.1, Tryz.f31.results.toList⟩
theorem k49 : FnOK Tryz.prog G 31 e49 := fk cx (tc k46 (tc k47 (tc k48 tn))) (jl []) (lp := (pl [])) Tryz.func31 (by kernel_rfl) (by kernel_rfl) rfl (an0 (by kernel_rfl)) fun x => by kernel_rfl
def I50 : Sp := ⟨[], [], []⟩
def E50 : SL := [(.ret, ⟨[(0, op 0)], [(0, c'16)], []⟩)]
noncomputable def e50 : Fe G := ⟨I50, E50, fun _ => nf9', Tryz.f32.results.toList⟩
theorem k50 : FnOK Tryz.prog G 32 e50 := fk cx tn (jl []) (lp := (pl [])) Tryz.func32 (by kernel_rfl) (by kernel_rfl) rfl (an0 (by kernel_rfl)) fun x => by kernel_rfl
def I51 : Sp := ⟨[(0, .agg c'3), (1, .agg c'8), (2, .agg c'5)], [], []⟩
def E51 : SL := [(.ret, ⟨[(6, op 96), (7, oi64)], [(96, c'17)], []⟩)]
def S51_0 : Sp := ⟨[(3, op 48), (4, op 64), (6, op 96), (9, op 144), (42, oi64), (43, oi64)], [(48, c'3), (64, c'8), (96, c'17), (144, c'18)], []⟩
def X51_0 : SL := [(.exit 0, ⟨[(3, op 48), (4, op 64), (6, op 96), (9, op 144)], [(48, c'3), (64, c'8), (96, c'17), (144, c'18)], []⟩)]
def S51_1 : Sp := ⟨[(3, op 48), (6, op 96), (9, op 144), (53, oro 98), (54, oi64), (55, oi64)], [(48, c'3), (96, c'17), (144, c'18)], []⟩
def X51_1 : SL := [(.exit 2, ⟨[(6, op 96), (9, op 144)], [(96, c'17), (144, c'18)], []⟩)]
def J51 : Nat → Option SL := jl [(16, [(.normal, ⟨[(3, op 48), (6, op 96), (9, op 144), (12, oi64), (53, oro 98), (54, oi64), (55, oi64)], [(48, c'3), (96, c'17), (144, c'18)], []⟩)])]
noncomputable def P51 : Nat → St G → M (Ex × St G) := pl [lpX S51_0 X51_0 nev', lpX S51_1 X51_1 neu']
theorem t51 : ∀ p ∈ [(29, e45), (30, e25), (31, e49), (32, e50)], FnOK Tryz.prog G p.1 p.2 := (tc k45 (tc k25 (tc k49 (tc k50 tn))))
noncomputable def n5w' (_h_belief_New : (Unit × Unit) → Option ((Unit × Unit) × (T'29 × Unit))) (s53 : List (Entry)) (s54 s55 b_Floors b_Debounce b_Room b_Park : Int) (b_Empty b_Full b_Over : Nat) (b_Cars : List (Car)) (b6_Image_Phases : List (Int)) (b6_Image_Flags b6_Image_Leaving : List (Bool)) (b6_Image_Entries : List (Entry)) (b6_Store_Halves_0 b6_Store_Halves_1 : ByteArray) (b6_Store_Select : Int) (b6_Contacts : List (Debounced)) (b6_Beliefs : List (Belief)) (b6_Cars : List (NewCar)) (b6_Loads : List (Loaded)) (b6_Expect : List (Int)) (b6_Lit : List (Calls)) (b6_Tick b6_Faults b6_Refused : Int) (out_Image_Phases : List (Int)) (out_Image_Flags out_Image_Leaving : List (Bool)) (out_Image_Entries : List (Entry)) (out_Store_Halves_0 out_Store_Halves_1 : ByteArray) (out_Store_Select : Int) (out_Contacts : List (Debounced)) (out_Beliefs : List (Belief)) (out_Cars : List (NewCar)) (out_Loads : List (Loaded)) (out_Expect : List (Int)) (out_Lit : List (Calls)) (out_Tick out_Faults out_Refused : Int) : Option (Sum (T'34 × T'35) ((Unit × Unit × Unit) × (T'30 × T'30 × Unit))) :=
 bif (decide (s55 < s54)) then
 bif (inB s55 (List.length s53)) then
 let z0 : Entry := (List.getD s53 (Int.toNat s55) (Entry.mk (0 : Int) (0 : Int) (0 : Int) (0 : Int) false))
 Option.bind (bif (decide ((0 : Int) ≤ z0.Car)) then
 bif (inB z0.Car (List.length b_Cars)) then
 some (((), (), (), (List.getD b_Cars (Int.toNat z0.Car) (Car.mk (0 : Int) (0 : Int) (0 : Int) (0 : Int) (0 : Int) (0 : Int) (0 : Int) (0 : Int) (0 : Int))).Deadline, s53, s54, s55, ()), ((b_Floors, b_Debounce, b_Room, b_Park, b_Empty, b_Full, b_Over, b_Cars, ()), (b6_Image_Phases, b6_Image_Flags, b6_Image_Leaving, b6_Image_Entries, b6_Store_Halves_0, b6_Store_Halves_1, b6_Store_Select, b6_Contacts, b6_Beliefs, b6_Cars, b6_Loads, b6_Expect, b6_Lit, b6_Tick, b6_Faults, b6_Refused, ()), (out_Image_Phases, out_Image_Flags, out_Image_Leaving, out_Image_Entries, out_Store_Halves_0, out_Store_Halves_1, out_Store_Select, out_Contacts, out_Beliefs, out_Cars, out_Loads, out_Expect, out_Lit, out_Tick, out_Faults, out_Refused, ()), ()))
 else
 none
 else
 some (((), (), (), (0 : Int), s53, s54, s55, ()), ((b_Floors, b_Debounce, b_Room, b_Park, b_Empty, b_Full, b_Over, b_Cars, ()), (b6_Image_Phases, b6_Image_Flags, b6_Image_Leaving, b6_Image_Entries, b6_Store_Halves_0, b6_Store_Halves_1, b6_Store_Select, b6_Contacts, b6_Beliefs, b6_Cars, b6_Loads, b6_Expect, b6_Lit, b6_Tick, b6_Faults, b6_Refused, ()), (out_Image_Phases, out_Image_Flags, out_Image_Leaving, out_Image_Entries, out_Store_Halves_0, out_Store_Halves_1, out_Store_Select, out_Contacts, out_Beliefs, out_Cars, out_Loads, out_Expect, out_Lit, out_Tick, out_Faults, out_Refused, ()), ()))) fun y1 =>
 let z1 : List (Int) := [y1.1.2.2.2.1]
 bif (Nat.ble ((List.length y1.2.2.2.1.2.2.2.2.2.2.2.2.2.2.2.1) + (List.length z1)) 2147483648) then
 some (Sum.inl (((), (), (), y1.1.2.2.2.2.1, y1.1.2.2.2.2.2.1, (IntKind.i64.wrap (y1.1.2.2.2.2.2.2.1 + (1 : Int))), ()), (y1.2.1, y1.2.2.1, (y1.2.2.2.1.1, y1.2.2.2.1.2.1, y1.2.2.2.1.2.2.1, y1.2.2.2.1.2.2.2.1, y1.2.2.2.1.2.2.2.2.1, y1.2.2.2.1.2.2.2.2.2.1, y1.2.2.2.1.2.2.2.2.2.2.1, y1.2.2.2.1.2.2.2.2.2.2.2.1, y1.2.2.2.1.2.2.2.2.2.2.2.2.1, y1.2.2.2.1.2.2.2.2.2.2.2.2.2.1, y1.2.2.2.1.2.2.2.2.2.2.2.2.2.2.1, (y1.2.2.2.1.2.2.2.2.2.2.2.2.2.2.2.1 ++ z1), y1.2.2.2.1.2.2.2.2.2.2.2.2.2.2.2.2.1, y1.2.2.2.1.2.2.2.2.2.2.2.2.2.2.2.2.2.1, y1.2.2.2.1.2.2.2.2.2.2.2.2.2.2.2.2.2.2.1, y1.2.2.2.1.2.2.2.2.2.2.2.2.2.2.2.2.2.2.2.1, ()), ())))
 else
 none
 else
 none
 else
 some (Sum.inr (((), (), ()), ((b6_Image_Phases, b6_Image_Flags, b6_Image_Leaving, b6_Image_Entries, b6_Store_Halves_0, b6_Store_Halves_1, b6_Store_Select, b6_Contacts, b6_Beliefs, b6_Cars, b6_Loads, b6_Expect, b6_Lit, b6_Tick, b6_Faults, b6_Refused, ()), (out_Image_Phases, out_Image_Flags, out_Image_Leaving, out_Image_Entries, out_Store_Halves_0, out_Store_Halves_1, out_Store_Select, out_Contacts, out_Beliefs, out_Cars, out_Loads, out_Expect, out_Lit, out_Tick, out_Faults, out_Refused, ()), ())))
theorem g51_1 (h_belief_New : (Unit × Unit) → Option ((Unit × Unit) × (T'29 × Unit))) (x : S51_1.T G) : rndI (cfP [(29, e45), (30, e25), (31, e49), (32, Fe.mk (G := G) I50 E50 h_belief_New Tryz.f32.results.toList)]) P51 J51 77 2 (nl' (nh' Tryz.f11) 1) S51_1 X51_1 x = n5w' h_belief_New x.1.2.2.2.1 x.1.2.2.2.2.1 x.1.2.2.2.2.2.1 x.2.1.1 x.2.1.2.1 x.2.1.2.2.1 x.2.1.2.2.2.1 x.2.1.2.2.2.2.1 x.2.1.2.2.2.2.2.1 x.2.1.2.2.2.2.2.2.1 x.2.1.2.2.2.2.2.2.2.1 x.2.2.1.1 x.2.2.1.2.1 x.2.2.1.2.2.1 x.2.2.1.2.2.2.1 x.2.2.1.2.2.2.2.1 x.2.2.1.2.2.2.2.2.1 x.2.2.1.2.2.2.2.2.2.1 x.2.2.1.2.2.2.2.2.2.2.1 x.2.2.1.2.2.2.2.2.2.2.2.1 x.2.2.1.2.2.2.2.2.2.2.2.2.1 x.2.2.1.2.2.2.2.2.2.2.2.2.2.1 x.2.2.1.2.2.2.2.2.2.2.2.2.2.2.1 x.2.2.1.2.2.2.2.2.2.2.2.2.2.2.2.1 x.2.2.1.2.2.2.2.2.2.2.2.2.2.2.2.2.1 x.2.2.1.2.2.2.2.2.2.2.2.2.2.2.2.2.2.1 x.2.2.1.2.2.2.2.2.2.2.2.2.2.2.2.2.2.2.1 x.2.2.2.1.1 x.2.2.2.1.2.1 x.2.2.2.1.2.2.1 x.2.2.2.1.2.2.2.1 x.2.2.2.1.2.2.2.2.1 x.2.2.2.1.2.2.2.2.2.1 x.2.2.2.1.2.2.2.2.2.2.1 x.2.2.2.1.2.2.2.2.2.2.2.1 x.2.2.2.1.2.2.2.2.2.2.2.2.1 x.2.2.2.1.2.2.2.2.2.2.2.2.2.1 x.2.2.2.1.2.2.2.2.2.2.2.2.2.2.1 x.2.2.2.1.2.2.2.2.2.2.2.2.2.2.2.1 x.2.2.2.1.2.2.2.2.2.2.2.2.2.2.2.2.1 x.2.2.2.1.2.2.2.2.2.2.2.2.2.2.2.2.2.1 x.2.2.2.1.2.2.2.2.2.2.2.2.2.2.2.2.2.2.1 x.2.2.2.1.2.2.2.2.2.2.2.2.2.2.2.2.2.2.2.1 := by kernel_rfl
theorem l51_1 : LoopOK Tryz.prog G 77 (P51 1) (nl' (nh' Tryz.f11) 1) := lk cx t51 J51 2 S51_1 X51_1 (rfl : neu' = _) (by kernel_rfl) (an0 (by kernel_rfl)) fun x => (g51_1 (fun _ => nf9' ) x).trans (by kernel_rfl)
noncomputable def n5t' (h_belief_New : (Unit × Unit) → Option ((Unit × Unit) × (T'29 × Unit))) (s42 s43 b_Floors b_Debounce b_Room b_Park : Int) (b_Empty b_Full b_Over : Nat) (b_Cars : List (Car)) (m_Phases : List (Int)) (m_Flags m_Leaving : List (Bool)) (m_Entries : List (Entry)) (b6_Image_Phases : List (Int)) (b6_Image_Flags b6_Image_Leaving : List (Bool)) (b6_Image_Entries : List (Entry)) (b6_Store_Halves_0 b6_Store_Halves_1 : ByteArray) (b6_Store_Select : Int) (b6_Contacts : List (Debounced)) (b6_Beliefs : List (Belief)) (b6_Cars : List (NewCar)) (b6_Loads : List (Loaded)) (b6_Expect : List (Int)) (b6_Lit : List (Calls)) (b6_Tick b6_Faults b6_Refused : Int) (out_Image_Phases : List (Int)) (out_Image_Flags out_Image_Leaving : List (Bool)) (out_Image_Entries : List (Entry)) (out_Store_Halves_0 out_Store_Halves_1 : ByteArray) (out_Store_Select : Int) (out_Contacts : List (Debounced)) (out_Beliefs : List (Belief)) (out_Cars : List (NewCar)) (out_Loads : List (Loaded)) (out_Expect : List (Int)) (out_Lit : List (Calls)) (out_Tick out_Faults out_Refused : Int) : Option (Sum (T'31 × T'32) (T'33 × T'32)) :=
 bif (decide (s43 < s42)) then
 (h_belief_New ((), ())).bind fun y1 =>
 let z0 : List (Belief) := [(Belief.mk y1.2.1.1 y1.2.1.2.1 y1.2.1.2.2.1 y1.2.1.2.2.2.1 y1.2.1.2.2.2.2.1 y1.2.1.2.2.2.2.2.1)]
 bif (Nat.ble ((List.length out_Beliefs) + (List.length z0)) 2147483648) then
 some (Sum.inl (((), (), (), (), s42, (IntKind.i64.wrap (s43 + (1 : Int))), ()), ((b_Floors, b_Debounce, b_Room, b_Park, b_Empty, b_Full, b_Over, b_Cars, ()), (m_Phases, m_Flags, m_Leaving, m_Entries, ()), (b6_Image_Phases, b6_Image_Flags, b6_Image_Leaving, b6_Image_Entries, b6_Store_Halves_0, b6_Store_Halves_1, b6_Store_Select, b6_Contacts, b6_Beliefs, b6_Cars, b6_Loads, b6_Expect, b6_Lit, b6_Tick, b6_Faults, b6_Refused, ()), (out_Image_Phases, out_Image_Flags, out_Image_Leaving, out_Image_Entries, out_Store_Halves_0, out_Store_Halves_1, out_Store_Select, out_Contacts, (out_Beliefs ++ z0), out_Cars, out_Loads, out_Expect, out_Lit, out_Tick, out_Faults, out_Refused, ()), ())))
 else
 none
 else
 some (Sum.inr (((), (), (), (), ()), ((b_Floors, b_Debounce, b_Room, b_Park, b_Empty, b_Full, b_Over, b_Cars, ()), (m_Phases, m_Flags, m_Leaving, m_Entries, ()), (b6_Image_Phases, b6_Image_Flags, b6_Image_Leaving, b6_Image_Entries, b6_Store_Halves_0, b6_Store_Halves_1, b6_Store_Select, b6_Contacts, b6_Beliefs, b6_Cars, b6_Loads, b6_Expect, b6_Lit, b6_Tick, b6_Faults, b6_Refused, ()), (out_Image_Phases, out_Image_Flags, out_Image_Leaving, out_Image_Entries, out_Store_Halves_0, out_Store_Halves_1, out_Store_Select, out_Contacts, out_Beliefs, out_Cars, out_Loads, out_Expect, out_Lit, out_Tick, out_Faults, out_Refused, ()), ())))
theorem g51_0 (h_belief_New : (Unit × Unit) → Option ((Unit × Unit) × (T'29 × Unit))) (x : S51_0.T G) : rndI (cfP [(29, e45), (30, e25), (31, e49), (32, Fe.mk (G := G) I50 E50 h_belief_New Tryz.f32.results.toList)]) P51 J51 77 1 (nl' (nh' Tryz.f11) 0) S51_0 X51_0 x = n5t' h_belief_New x.1.2.2.2.2.1 x.1.2.2.2.2.2.1 x.2.1.1 x.2.1.2.1 x.2.1.2.2.1 x.2.1.2.2.2.1 x.2.1.2.2.2.2.1 x.2.1.2.2.2.2.2.1 x.2.1.2.2.2.2.2.2.1 x.2.1.2.2.2.2.2.2.2.1 x.2.2.1.1 x.2.2.1.2.1 x.2.2.1.2.2.1 x.2.2.1.2.2.2.1 x.2.2.2.1.1 x.2.2.2.1.2.1 x.2.2.2.1.2.2.1 x.2.2.2.1.2.2.2.1 x.2.2.2.1.2.2.2.2.1 x.2.2.2.1.2.2.2.2.2.1 x.2.2.2.1.2.2.2.2.2.2.1 x.2.2.2.1.2.2.2.2.2.2.2.1 x.2.2.2.1.2.2.2.2.2.2.2.2.1 x.2.2.2.1.2.2.2.2.2.2.2.2.2.1 x.2.2.2.1.2.2.2.2.2.2.2.2.2.2.1 x.2.2.2.1.2.2.2.2.2.2.2.2.2.2.2.1 x.2.2.2.1.2.2.2.2.2.2.2.2.2.2.2.2.1 x.2.2.2.1.2.2.2.2.2.2.2.2.2.2.2.2.2.1 x.2.2.2.1.2.2.2.2.2.2.2.2.2.2.2.2.2.2.1 x.2.2.2.1.2.2.2.2.2.2.2.2.2.2.2.2.2.2.2.1 x.2.2.2.2.1.1 x.2.2.2.2.1.2.1 x.2.2.2.2.1.2.2.1 x.2.2.2.2.1.2.2.2.1 x.2.2.2.2.1.2.2.2.2.1 x.2.2.2.2.1.2.2.2.2.2.1 x.2.2.2.2.1.2.2.2.2.2.2.1 x.2.2.2.2.1.2.2.2.2.2.2.2.1 x.2.2.2.2.1.2.2.2.2.2.2.2.2.1 x.2.2.2.2.1.2.2.2.2.2.2.2.2.2.1 x.2.2.2.2.1.2.2.2.2.2.2.2.2.2.2.1 x.2.2.2.2.1.2.2.2.2.2.2.2.2.2.2.2.1 x.2.2.2.2.1.2.2.2.2.2.2.2.2.2.2.2.2.1 x.2.2.2.2.1.2.2.2.2.2.2.2.2.2.2.2.2.2.1 x.2.2.2.2.1.2.2.2.2.2.2.2.2.2.2.2.2.2.2.1 x.2.2.2.2.1.2.2.2.2.2.2.2.2.2.2.2.2.2.2.2.1 := by kernel_rfl
theorem l51_0 : LoopOK Tryz.prog G 77 (P51 0) (nl' (nh' Tryz.f11) 0) := lk cx t51 J51 1 S51_0 X51_0 (rfl : nev' = _) (by kernel_rfl) (an0 (by kernel_rfl)) fun x => (g51_0 (fun _ => nf9' ) x).trans (by kernel_rfl)
noncomputable def H51 (_h_belief_New : (Unit × Unit) → Option ((Unit × Unit) × (T'29 × Unit))) (b_Floors b_Debounce b_Room b_Park : Int) (b_Empty b_Full b_Over : Nat) (b_Cars : List (Car)) (m_Phases : List (Int)) (m_Flags m_Leaving : List (Bool)) (m_Entries : List (Entry)) (s_Halves_0 s_Halves_1 : ByteArray) (s_Select : Int) : Option ((Unit × Int × Unit) × (T'30 × Unit)) :=
 (ney' b_Floors b_Debounce b_Room b_Park b_Empty b_Full b_Over b_Cars m_Phases m_Flags m_Leaving m_Entries).bind fun y1 =>
 bif (!y1.1.1) then
 some (((), (1 : Int), ()), ((([] : List (Int)), ([] : List (Bool)), ([] : List (Bool)), ([] : List (Entry)), (ByteArray.mk (Array.mk [])), (ByteArray.mk (Array.mk [])), (0 : Int), ([] : List (Debounced)), ([] : List (Belief)), ([] : List (NewCar)), ([] : List (Loaded)), ([] : List (Int)), ([] : List (Calls)), (0 : Int), (0 : Int), (0 : Int), ()), ()))
 else
 (nc6' b_Room s_Halves_0 s_Halves_1 s_Select).bind fun y2 =>
 bif (!y2.1.1) then
 some (((), (1 : Int), ()), ((([] : List (Int)), ([] : List (Bool)), ([] : List (Bool)), ([] : List (Entry)), (ByteArray.mk (Array.mk [])), (ByteArray.mk (Array.mk [])), (0 : Int), ([] : List (Debounced)), ([] : List (Belief)), ([] : List (NewCar)), ([] : List (Loaded)), ([] : List (Int)), ([] : List (Calls)), (0 : Int), (0 : Int), (0 : Int), ()), ()))
 else
 let z0 : Int := ((List.length b_Cars : Nat) : Int)
 (ne9' m_Phases m_Flags m_Leaving m_Entries).bind fun y3 =>
 bif (((decide ((0 : Int) ≤ z0)) && (decide (z0 ≤ z0))) && (decide (z0 ≤ (2147483648 : Int)))) then
 bif (((decide ((0 : Int) ≤ z0)) && (decide (z0 ≤ z0))) && (decide (z0 ≤ (2147483648 : Int)))) then
 bif (((decide ((0 : Int) ≤ z0)) && (decide (z0 ≤ z0))) && (decide (z0 ≤ (2147483648 : Int)))) then
 bif (((decide ((0 : Int) ≤ z0)) && (decide (z0 ≤ z0))) && (decide (z0 ≤ (2147483648 : Int)))) then
 (nev' (((), (), (), (), ((List.length b_Cars : Nat) : Int), (0 : Int), ()), ((b_Floors, b_Debounce, b_Room, b_Park, b_Empty, b_Full, b_Over, b_Cars, ()), (m_Phases, m_Flags, m_Leaving, m_Entries, ()), (([] : List (Int)), ([] : List (Bool)), ([] : List (Bool)), ([] : List (Entry)), (ByteArray.mk (Array.mk [])), (ByteArray.mk (Array.mk [])), (0 : Int), ([] : List (Debounced)), ([] : List (Belief)), ([] : List (NewCar)), ([] : List (Loaded)), ([] : List (Int)), ([] : List (Calls)), (0 : Int), (0 : Int), (0 : Int), ()), (y3.2.1.1, y3.2.1.2.1, y3.2.1.2.2.1, y3.2.1.2.2.2.1, s_Halves_0, s_Halves_1, s_Select, (List.replicate (Int.toNat z0) (Debounced.mk (0 : Int) false false false false (0 : Int) (0 : Int) (0 : Int) (0 : Int) (0 : Int) (0 : Int) (0 : Int) (0 : Int) (0 : Int) (0 : Int) (0 : Int) (0 : Int) (0 : Int) (0 : Int) (0 : Int) (0 : Int) (0 : Int) (0 : Int) (0 : Int) (0 : Int) (0 : Int) (0 : Int) (0 : Int) (0 : Int) (0 : Int) (0 : Int) (0 : Int) (0 : Int) (0 : Int) (0 : Int) (0 : Int) (0 : Int) (0 : Int) (0 : Int) (0 : Int) (0 : Int))), ([] : List (Belief)), (List.replicate (Int.toNat z0) (NewCar.mk (0 : Int) (0 : Int) (0 : Int) (0 : Int) (0 : Int) false (0 : Int) (0 : Int) (0 : Int) (0 : Int) (0 : Int) (0 : Int) (0 : Int) false)), (List.replicate (Int.toNat z0) (Loaded.mk (0 : Int))), ([] : List (Int)), (List.replicate (Int.toNat z0) (Calls.mk (0 : Int) (0 : Int))), (0 : Int), (0 : Int), (0 : Int), ()), ()))).bind fun y4 =>
 (neu' (((), (), (), y4.2.2.1.2.2.2.1, ((List.length y4.2.2.1.2.2.2.1 : Nat) : Int), (0 : Int), ()), (y4.2.1, y4.2.2.2.1, y4.2.2.2.2.1, ()))).bind fun y5 =>
 some (((), (0 : Int), ()), (y5.2.2.1, ()))
 else
 none
 else
 none
 else
 none
 else
 none
theorem q51 (h_belief_New : (Unit × Unit) → Option ((Unit × Unit) × (T'29 × Unit))) (x : I51.T G) : endI (cfP [(29, e45), (30, e25), (31, e49), (32, Fe.mk (G := G) I50 E50 h_belief_New Tryz.f32.results.toList)]) P51 J51 77 (nh' Tryz.f11) I51 E51 x = H51 h_belief_New x.1.1.1 x.1.1.2.1 x.1.1.2.2.1 x.1.1.2.2.2.1 x.1.1.2.2.2.2.1 x.1.1.2.2.2.2.2.1 x.1.1.2.2.2.2.2.2.1 x.1.1.2.2.2.2.2.2.2.1 x.1.2.1.1 x.1.2.1.2.1 x.1.2.1.2.2.1 x.1.2.1.2.2.2.1 x.1.2.2.1.1 x.1.2.2.1.2.1 x.1.2.2.1.2.2.1 := by kernel_rfl
noncomputable def e51 : Fe G := ⟨I51, E51, fun x => nhy' x.1.1.1 x.1.1.2.1 x.1.1.2.2.1 x.1.1.2.2.2.1 x.1.1.2.2.2.2.1 x.1.1.2.2.2.2.2.1 x.1.1.2.2.2.2.2.2.1 x.1.1.2.2.2.2.2.2.2.1 x.1.2.1.1 x.1.2.1.2.1 x.1.2.1.2.2.1 x.1.2.1.2.2.2.1 x.1.2.2.1.1 x.1.2.2.1.2.1 x.1.2.2.1.2.2.1, Tryz.f11.results.toList⟩
theorem k51 : FnOK Tryz.prog G 11 e51 := fk cx t51 J51 (lp := P51) Tryz.func11 (by kernel_rfl) (by kernel_rfl) rfl (nk' _ (by kernel_rfl) (ni' l51_0 (ni' l51_1 nr'))) fun x => (q51 (fun _ => nf9' ) x).trans (by kernel_rfl)
def I52 : Sp := ⟨[(0, .agg c'3), (1, .agg c'5), (2, oi64)], [], []⟩
def E52 : SL := [(.ret, ⟨[(6, op 96), (7, oi64), (8, oi64)], [(96, c'17)], []⟩)]
noncomputable def e52 : Fe G := ⟨I52, E52, fun x => ndj' x.1.1.1 x.1.1.2.1 x.1.1.2.2.1 x.1.1.2.2.2.1 x.1.1.2.2.2.2.1 x.1.1.2.2.2.2.2.1 x.1.1.2.2.2.2.2.2.1 x.1.1.2.2.2.2.2.2.2.1 x.1.2.1.1 x.1.2.1.2.1 x.1.2.1.2.2.1 x.1.2.2.1, Tryz.f15.results.toList⟩
theorem k52 : FnOK Tryz.prog G 15 e52 := fk cx (tc k44 (tc k51 tn)) (jl [(2097156, [(.normal, ⟨[(3, op 48), (4, op 64), (6, op 96), (9, op 144), (10, oi64)], [(48, c'3), (64, c'5), (96, c'17), (144, c'8)], []⟩)])]) (lp := (pl [])) Tryz.func15 (by kernel_rfl) (by kernel_rfl) rfl (an0 (by kernel_rfl)) fun x => by kernel_rfl
def I53 : Sp := ⟨[(0, .agg c'3)], [], []⟩
def E53 : SL := [(.ret, ⟨[(2, op 32), (3, oi64)], [(32, c'17)], []⟩)]
noncomputable def e53 : Fe G := ⟨I53, E53, fun x => nfu' x.1.1.1 x.1.1.2.1 x.1.1.2.2.1 x.1.1.2.2.2.1 x.1.1.2.2.2.2.1 x.1.1.2.2.2.2.2.1 x.1.1.2.2.2.2.2.2.1 x.1.1.2.2.2.2.2.2.2.1, Tryz.f17.results.toList⟩
theorem k53 : FnOK Tryz.prog G 17 e53 := fk cx (tc k5 (tc k52 tn)) (jl []) (lp := (pl [])) Tryz.func17 (by kernel_rfl) (by kernel_rfl) rfl (an0 (by kernel_rfl)) fun x => by kernel_rfl
def I54 : Sp := ⟨[(0, oro 78), (1, oro 78)], [], []⟩
def E54 : SL := [(.ret, ⟨[(4, ob)], [], []⟩)]
def S54_0 : Sp := ⟨[(0, oro 78), (1, oro 78), (12, oi64), (13, oi64)], [], []⟩
def X54_0 : SL := [(.exit 0, ⟨[], [], []⟩), (.ret, ⟨[(4, ob)], [], []⟩)]
def J54 : Nat → Option SL := jl []
noncomputable def P54 : Nat → St G → M (Ex × St G) := pl [lpX S54_0 X54_0 nbq']
theorem l54_0 : LoopOK Tryz.prog G 26 (P54 0) (nl' (nh' Tryz.f60) 0) := lk cx tn J54 1 S54_0 X54_0 (rfl : nbq' = _) (by kernel_rfl) (an0 (by kernel_rfl)) fun x => by kernel_rfl
noncomputable def e54 : Fe G := ⟨I54, E54, fun x => nbs' x.1.1 x.1.2.1, Tryz.f60.results.toList⟩
theorem k54 : FnOK Tryz.prog G 60 e54 := fk cx tn J54 (lp := P54) Tryz.func60 (by kernel_rfl) (by kernel_rfl) rfl (nk' _ (by kernel_rfl) (ni' l54_0 nr')) fun x => by kernel_rfl
def I55 : Sp := ⟨[(0, oro 137), (1, oro 137)], [], []⟩
def E55 : SL := [(.ret, ⟨[(4, ob)], [], []⟩)]
def S55_0 : Sp := ⟨[(0, oro 137), (1, oro 137), (12, oi64), (13, oi64)], [], []⟩
def X55_0 : SL := [(.exit 0, ⟨[], [], []⟩), (.ret, ⟨[(4, ob)], [], []⟩)]
def J55 : Nat → Option SL := jl []
noncomputable def P55 : Nat → St G → M (Ex × St G) := pl [lpX S55_0 X55_0 nce']
theorem l55_0 : LoopOK Tryz.prog G 26 (P55 0) (nl' (nh' Tryz.f100) 0) := lk cx tn J55 1 S55_0 X55_0 (rfl : nce' = _) (by kernel_rfl) (an0 (by kernel_rfl)) fun x => by kernel_rfl
noncomputable def e55 : Fe G := ⟨I55, E55, fun x => nck' x.1.1 x.1.2.1, Tryz.f100.results.toList⟩
theorem k55 : FnOK Tryz.prog G 100 e55 := fk cx tn J55 (lp := P55) Tryz.func100 (by kernel_rfl) (by kernel_rfl) rfl (nk' _ (by kernel_rfl) (ni' l55_0 nr')) fun x => by kernel_rfl
def I56 : Sp := ⟨[(0, .agg c'19), (1, .agg c'19)], [], []⟩
def E56 : SL := [(.ret, ⟨[(4, ob)], [], []⟩)]
noncomputable def e56 : Fe G := ⟨I56, E56, fun x => njd' x.1.1.1 x.1.1.2.1 x.1.1.2.2.1 x.1.1.2.2.2.1 x.1.1.2.2.2.2.1 x.1.1.2.2.2.2.2.1 x.1.2.1.1 x.1.2.1.2.1 x.1.2.1.2.2.1 x.1.2.1.2.2.2.1 x.1.2.1.2.2.2.2.1 x.1.2.1.2.2.2.2.2.1, Tryz.f62.results.toList⟩
theorem k56 : FnOK Tryz.prog G 62 e56 := fk cx (tc k55 tn) (jl [(1048577, [(.normal, ⟨[(4, ob)], [], []⟩)])]) (lp := (pl [])) Tryz.func62 (by kernel_rfl) (by kernel_rfl) rfl (an0 (by kernel_rfl)) fun x => by kernel_rfl
def I57 : Sp := ⟨[(0, oro 62), (1, oro 62), (2, .one (.clo 62 [] []))], [], []⟩
def E57 : SL := [(.ret, ⟨[(6, ob)], [], []⟩)]
def S57_0 : Sp := ⟨[(1, oro 62), (2, .one (.clo 62 [] [])), (15, oro 62), (16, oi64), (17, oi64)], [], []⟩
def X57_0 : SL := [(.exit 0, ⟨[], [], []⟩), (.ret, ⟨[(6, ob)], [], []⟩)]
def J57 : Nat → Option SL := jl []
noncomputable def P57 : Nat → St G → M (Ex × St G) := pl [lpX S57_0 X57_0 no']
theorem t57 : ∀ p ∈ [(62, e56)], FnOK Tryz.prog G p.1 p.2 := (tc k56 tn)
theorem l57_0 : LoopOK Tryz.prog G 32 (P57 0) (nl' (nh' Tryz.f61) 0) := lk cx t57 J57 1 S57_0 X57_0 (rfl : no' = _) (by kernel_rfl) (an0 (by kernel_rfl)) fun x => by kernel_rfl
noncomputable def e57 : Fe G := ⟨I57, E57, fun x => np' x.1.1 x.1.2.1, Tryz.f61.results.toList⟩
theorem k57 : FnOK Tryz.prog G 61 e57 := fk cx t57 J57 (lp := P57) Tryz.func61 (by kernel_rfl) (by kernel_rfl) rfl (nk' _ (by kernel_rfl) (ni' l57_0 nr')) fun x => by kernel_rfl
def I58 : Sp := ⟨[(0, oro 71), (1, oro 71)], [], []⟩
def E58 : SL := [(.ret, ⟨[(4, ob)], [], []⟩)]
def S58_0 : Sp := ⟨[(0, oro 71), (1, oro 71), (12, oi64), (13, oi64)], [], []⟩
def X58_0 : SL := [(.exit 0, ⟨[], [], []⟩), (.ret, ⟨[(4, ob)], [], []⟩)]
def J58 : Nat → Option SL := jl []
noncomputable def P58 : Nat → St G → M (Ex × St G) := pl [lpX S58_0 X58_0 nbz']
theorem l58_0 : LoopOK Tryz.prog G 26 (P58 0) (nl' (nh' Tryz.f63) 0) := lk cx tn J58 1 S58_0 X58_0 (rfl : nbz' = _) (by kernel_rfl) (an0 (by kernel_rfl)) fun x => by kernel_rfl
noncomputable def e58 : Fe G := ⟨I58, E58, fun x => nb6' x.1.1 x.1.2.1, Tryz.f63.results.toList⟩
theorem k58 : FnOK Tryz.prog G 63 e58 := fk cx tn J58 (lp := P58) Tryz.func63 (by kernel_rfl) (by kernel_rfl) rfl (nk' _ (by kernel_rfl) (ni' l58_0 nr')) fun x => by kernel_rfl
def I59 : Sp := ⟨[(0, oro 80), (1, oro 80)], [], []⟩
def E59 : SL := [(.ret, ⟨[(4, ob)], [], []⟩)]
def S59_0 : Sp := ⟨[(0, oro 80), (1, oro 80), (12, oi64), (13, oi64)], [], []⟩
def X59_0 : SL := [(.exit 0, ⟨[], [], []⟩), (.ret, ⟨[(4, ob)], [], []⟩)]
def J59 : Nat → Option SL := jl []
noncomputable def P59 : Nat → St G → M (Ex × St G) := pl [lpX S59_0 X59_0 nby']
theorem l59_0 : LoopOK Tryz.prog G 26 (P59 0) (nl' (nh' Tryz.f64) 0) := lk cx tn J59 1 S59_0 X59_0 (rfl : nby' = _) (by kernel_rfl) (an0 (by kernel_rfl)) fun x => by kernel_rfl
noncomputable def e59 : Fe G := ⟨I59, E59, fun x => nb8' x.1.1 x.1.2.1, Tryz.f64.results.toList⟩
theorem k59 : FnOK Tryz.prog G 64 e59 := fk cx tn J59 (lp := P59) Tryz.func64 (by kernel_rfl) (by kernel_rfl) rfl (nk' _ (by kernel_rfl) (ni' l59_0 nr')) fun x => by kernel_rfl
def I60 : Sp := ⟨[(0, oro 82), (1, oro 82)], [], []⟩
def E60 : SL := [(.ret, ⟨[(4, ob)], [], []⟩)]
def S60_0 : Sp := ⟨[(0, oro 82), (1, oro 82), (12, oi64), (13, oi64)], [], []⟩
def X60_0 : SL := [(.exit 0, ⟨[], [], []⟩), (.ret, ⟨[(4, ob)], [], []⟩)]
def J60 : Nat → Option SL := jl []
noncomputable def P60 : Nat → St G → M (Ex × St G) := pl [lpX S60_0 X60_0 nb9']
theorem l60_0 : LoopOK Tryz.prog G 26 (P60 0) (nl' (nh' Tryz.f65) 0) := lk cx tn J60 1 S60_0 X60_0 (rfl : nb9' = _) (by kernel_rfl) (an0 (by kernel_rfl)) fun x => by kernel_rfl
noncomputable def e60 : Fe G := ⟨I60, E60, fun x => ncf' x.1.1 x.1.2.1, Tryz.f65.results.toList⟩
theorem k60 : FnOK Tryz.prog G 65 e60 := fk cx tn J60 (lp := P60) Tryz.func65 (by kernel_rfl) (by kernel_rfl) rfl (nk' _ (by kernel_rfl) (ni' l60_0 nr')) fun x => by kernel_rfl
def I61 : Sp := ⟨[(0, oro 3), (1, oro 3)], [], []⟩
def E61 : SL := [(.ret, ⟨[(4, ob)], [], []⟩)]
def S61_0 : Sp := ⟨[(0, oro 3), (1, oro 3), (12, oi64), (13, oi64)], [], []⟩
def X61_0 : SL := [(.exit 0, ⟨[], [], []⟩), (.ret, ⟨[(4, ob)], [], []⟩)]
def J61 : Nat → Option SL := jl []
noncomputable def P61 : Nat → St G → M (Ex × St G) := pl [lpX S61_0 X61_0 nda']
theorem l61_0 : LoopOK Tryz.prog G 26 (P61 0) (nl' (nh' Tryz.f67) 0) := lk cx tn J61 1 S61_0 X61_0 (rfl : nda' = _) (by kernel_rfl) (an0 (by kernel_rfl)) fun x => by kernel_rfl
noncomputable def e61 : Fe G := ⟨I61, E61, fun x => ncu' x.1.1 x.1.2.1, Tryz.f67.results.toList⟩
theorem k61 : FnOK Tryz.prog G 67 e61 := fk cx tn J61 (lp := P61) Tryz.func67 (by kernel_rfl) (by kernel_rfl) rfl (nk' _ (by kernel_rfl) (ni' l61_0 nr')) fun x => by kernel_rfl
def I62 : Sp := ⟨[(0, oro 4), (1, oro 4)], [], []⟩
def E62 : SL := [(.ret, ⟨[(4, ob)], [], []⟩)]
def S62_0 : Sp := ⟨[(0, oro 4), (1, oro 4), (12, oi64), (13, oi64)], [], []⟩
def X62_0 : SL := [(.exit 0, ⟨[], [], []⟩), (.ret, ⟨[(4, ob)], [], []⟩)]
def J62 : Nat → Option SL := jl []
noncomputable def P62 : Nat → St G → M (Ex × St G) := pl [lpX S62_0 X62_0 nc0']
theorem l62_0 : LoopOK Tryz.prog G 26 (P62 0) (nl' (nh' Tryz.f101) 0) := lk cx tn J62 1 S62_0 X62_0 (rfl : nc0' = _) (by kernel_rfl) (an0 (by kernel_rfl)) fun x => by kernel_rfl
noncomputable def e62 : Fe G := ⟨I62, E62, fun x => ncp' x.1.1 x.1.2.1, Tryz.f101.results.toList⟩
theorem k62 : FnOK Tryz.prog G 101 e62 := fk cx tn J62 (lp := P62) Tryz.func101 (by kernel_rfl) (by kernel_rfl) rfl (nk' _ (by kernel_rfl) (ni' l62_0 nr')) fun x => by kernel_rfl
def I63 : Sp := ⟨[(0, oro 98), (1, oro 98)], [], []⟩
def E63 : SL := [(.ret, ⟨[(4, ob)], [], []⟩)]
def S63_0 : Sp := ⟨[(0, oro 98), (1, oro 98), (12, oi64), (13, oi64)], [], []⟩
def X63_0 : SL := [(.exit 0, ⟨[], [], []⟩), (.ret, ⟨[(4, ob)], [], []⟩)]
def J63 : Nat → Option SL := jl []
noncomputable def P63 : Nat → St G → M (Ex × St G) := pl [lpX S63_0 X63_0 nb7']
theorem l63_0 : LoopOK Tryz.prog G 26 (P63 0) (nl' (nh' Tryz.f102) 0) := lk cx tn J63 1 S63_0 X63_0 (rfl : nb7' = _) (by kernel_rfl) (an0 (by kernel_rfl)) fun x => by kernel_rfl
noncomputable def e63 : Fe G := ⟨I63, E63, fun x => ncd' x.1.1 x.1.2.1, Tryz.f102.results.toList⟩
theorem k63 : FnOK Tryz.prog G 102 e63 := fk cx tn J63 (lp := P63) Tryz.func102 (by kernel_rfl) (by kernel_rfl) rfl (nk' _ (by kernel_rfl) (ni' l63_0 nr')) fun x => by kernel_rfl
def I64 : Sp := ⟨[(0, .agg c'8), (1, .agg c'8)], [], []⟩
def E64 : SL := [(.ret, ⟨[(4, ob)], [], []⟩)]
noncomputable def e64 : Fe G := ⟨I64, E64, fun x => nl2' x.1.1.1 x.1.1.2.1 x.1.1.2.2.1 x.1.1.2.2.2.1 x.1.2.1.1 x.1.2.1.2.1 x.1.2.1.2.2.1 x.1.2.1.2.2.2.1, Tryz.f66.results.toList⟩
theorem k64 : FnOK Tryz.prog G 66 e64 := fk cx (tc k61 (tc k62 (tc k63 tn))) (jl [(1048577, [(.normal, ⟨[(4, ob)], [], []⟩)])]) (lp := (pl [])) Tryz.func66 (by kernel_rfl) (by kernel_rfl) rfl (an0 (by kernel_rfl)) fun x => by kernel_rfl
def I65 : Sp := ⟨[(0, .agg c'20), (1, .agg c'20)], [], []⟩
def E65 : SL := [(.ret, ⟨[(4, ob)], [], []⟩)]
noncomputable def e65 : Fe G := ⟨I65, E65, fun x => ncn' x.1.1.1 x.1.1.2.1 x.1.1.2.2.1 x.1.1.2.2.2.1 x.1.1.2.2.2.2.1 x.1.1.2.2.2.2.2.1 x.1.1.2.2.2.2.2.2.1 x.1.1.2.2.2.2.2.2.2.1 x.1.1.2.2.2.2.2.2.2.2.1 x.1.1.2.2.2.2.2.2.2.2.2.1 x.1.1.2.2.2.2.2.2.2.2.2.2.1 x.1.1.2.2.2.2.2.2.2.2.2.2.2.1 x.1.1.2.2.2.2.2.2.2.2.2.2.2.2.1 x.1.1.2.2.2.2.2.2.2.2.2.2.2.2.2.1 x.1.1.2.2.2.2.2.2.2.2.2.2.2.2.2.2.1 x.1.1.2.2.2.2.2.2.2.2.2.2.2.2.2.2.2.1 x.1.2.1.1 x.1.2.1.2.1 x.1.2.1.2.2.1 x.1.2.1.2.2.2.1 x.1.2.1.2.2.2.2.1 x.1.2.1.2.2.2.2.2.1 x.1.2.1.2.2.2.2.2.2.1 x.1.2.1.2.2.2.2.2.2.2.1 x.1.2.1.2.2.2.2.2.2.2.2.1 x.1.2.1.2.2.2.2.2.2.2.2.2.1 x.1.2.1.2.2.2.2.2.2.2.2.2.2.1 x.1.2.1.2.2.2.2.2.2.2.2.2.2.2.1 x.1.2.1.2.2.2.2.2.2.2.2.2.2.2.2.1 x.1.2.1.2.2.2.2.2.2.2.2.2.2.2.2.2.1 x.1.2.1.2.2.2.2.2.2.2.2.2.2.2.2.2.2.1 x.1.2.1.2.2.2.2.2.2.2.2.2.2.2.2.2.2.2.1, Tryz.f20.results.toList⟩
theorem k65 : FnOK Tryz.prog G 20 e65 := fk cx (tc k54 (tc k57 (tc k58 (tc k59 (tc k60 (tc k64 (tc k61 tn))))))) (jl [(1048577, [(.normal, ⟨[(2, op 32), (3, op 48), (5, ob)], [(32, c'20), (48, c'20)], []⟩)]), (1048578, [(.normal, ⟨[(4, ob)], [], []⟩)])]) (lp := (pl [])) Tryz.func20 (by kernel_rfl) (by kernel_rfl) rfl (an0 (by kernel_rfl)) fun x => by kernel_rfl
def I66 : Sp := ⟨[], [], []⟩
def E66 : SL := [(.ret, ⟨[(0, ob)], [], []⟩)]
noncomputable def H66 (h_l10_Building : ((Int × Int × Unit) × Unit) → Option ((Unit × Unit) × (T'0 × Unit))) (h_restart_Start : ((T'0 × Unit) × Unit) → Option ((Unit × Int × Unit) × (T'30 × Unit))) (h_restart_Boot : ((T'0 × T'24 × Int × Unit) × Unit) → Option ((Unit × Int × Int × Unit) × (T'30 × Unit))) (h_restart_Same : ((T'30 × T'30 × Unit) × Unit) → Option ((Bool × Unit) × Unit))  : Option ((Bool × Unit) × Unit) :=
 (h_l10_Building (((9 : Int), (90 : Int), ()), ())).bind fun y1 =>
 Option.bind (some (((), ()), (y1.2.1, ()))) fun y2 =>
 (h_restart_Start ((y2.2.1, ()), ())).bind fun y3 =>
 (h_restart_Boot ((y2.2.1, (y3.2.1.2.2.2.2.1, y3.2.1.2.2.2.2.2.1, y3.2.1.2.2.2.2.2.2.1, ()), (100 : Int), ()), ())).bind fun y4 =>
 (h_restart_Boot ((y2.2.1, (y3.2.1.2.2.2.2.1, y3.2.1.2.2.2.2.2.1, y3.2.1.2.2.2.2.2.2.1, ()), (0 : Int), ()), ())).bind fun y5 =>
 Option.bind (bif (y3.1.2.1 == (0 : Int)) then
 bif (((List.length y3.2.1.2.2.2.2.2.2.2.2.1 : Nat) : Int) == (2 : Int)) then
 bif (inB (1 : Int) (List.length y3.2.1.2.2.2.2.2.2.2.2.1)) then
 bif ((List.getD y3.2.1.2.2.2.2.2.2.2.2.1 (Int.toNat (1 : Int)) (Belief.mk (0 : Int) (0 : Int) (0 : Int) [] (0 : Int) false)).Floor == (-1 : Int)) then
 bif (((List.length y3.2.1.1 : Nat) : Int) == (2 : Int)) then
 bif (y4.1.2.2.1 == (0 : Int)) then
 bif (y4.1.2.1 == (62 : Int)) then
 (h_restart_Same ((y4.2.1, y4.2.1, ()), ())).bind fun y6 =>
 bif y6.1.1 then
 some (((y5.1.2.2.1 == (8 : Int)), ()), ())
 else
 some ((false, ()), ())
 else
 some ((false, ()), ())
 else
 some ((false, ()), ())
 else
 some ((false, ()), ())
 else
 some ((false, ()), ())
 else
 none
 else
 some ((false, ()), ())
 else
 some ((false, ()), ())) fun y7 =>
 some ((y7.1.1, ()), ())
theorem q66 (h_l10_Building : ((Int × Int × Unit) × Unit) → Option ((Unit × Unit) × (T'0 × Unit))) (h_restart_Start : ((T'0 × Unit) × Unit) → Option ((Unit × Int × Unit) × (T'30 × Unit))) (h_restart_Boot : ((T'0 × T'24 × Int × Unit) × Unit) → Option ((Unit × Int × Int × Unit) × (T'30 × Unit))) (h_restart_Same : ((T'30 × T'30 × Unit) × Unit) → Option ((Bool × Unit) × Unit)) (x : I66.T G) : endI (cfP [(7, Fe.mk (G := G) I1 E1 h_l10_Building Tryz.f7.results.toList), (17, Fe.mk (G := G) I53 E53 h_restart_Start Tryz.f17.results.toList), (15, Fe.mk (G := G) I52 E52 h_restart_Boot Tryz.f15.results.toList), (20, Fe.mk (G := G) I65 E65 h_restart_Same Tryz.f20.results.toList)]) (pl []) (jl [(1048581, [(.normal, ⟨[(0, ob)], [], []⟩)]), (2097154, [(.normal, ⟨[(1, op 16)], [(16, c'3)], []⟩)])]) 72 (nh' Tryz.f6) I66 E66 x = H66 h_l10_Building h_restart_Start h_restart_Boot h_restart_Same  := by kernel_rfl
noncomputable def e66 : Fe G := ⟨I66, E66, fun _ => ng3', Tryz.f6.results.toList⟩
theorem k66 : FnOK Tryz.prog G 6 e66 := fk cx (tc k1 (tc k53 (tc k52 (tc k65 tn)))) (jl [(1048581, [(.normal, ⟨[(0, ob)], [], []⟩)]), (2097154, [(.normal, ⟨[(1, op 16)], [(16, c'3)], []⟩)])]) (lp := (pl [])) Tryz.func6 (by kernel_rfl) (by kernel_rfl) rfl (an0 (by kernel_rfl)) fun x => (q66 (fun x => nc3' x.1.1 x.1.2.1) (fun x => nfu' x.1.1.1 x.1.1.2.1 x.1.1.2.2.1 x.1.1.2.2.2.1 x.1.1.2.2.2.2.1 x.1.1.2.2.2.2.2.1 x.1.1.2.2.2.2.2.2.1 x.1.1.2.2.2.2.2.2.2.1) (fun x => ndj' x.1.1.1 x.1.1.2.1 x.1.1.2.2.1 x.1.1.2.2.2.1 x.1.1.2.2.2.2.1 x.1.1.2.2.2.2.2.1 x.1.1.2.2.2.2.2.2.1 x.1.1.2.2.2.2.2.2.2.1 x.1.2.1.1 x.1.2.1.2.1 x.1.2.1.2.2.1 x.1.2.2.1) (fun x => ncn' x.1.1.1 x.1.1.2.1 x.1.1.2.2.1 x.1.1.2.2.2.1 x.1.1.2.2.2.2.1 x.1.1.2.2.2.2.2.1 x.1.1.2.2.2.2.2.2.1 x.1.1.2.2.2.2.2.2.2.1 x.1.1.2.2.2.2.2.2.2.2.1 x.1.1.2.2.2.2.2.2.2.2.2.1 x.1.1.2.2.2.2.2.2.2.2.2.2.1 x.1.1.2.2.2.2.2.2.2.2.2.2.2.1 x.1.1.2.2.2.2.2.2.2.2.2.2.2.2.1 x.1.1.2.2.2.2.2.2.2.2.2.2.2.2.2.1 x.1.1.2.2.2.2.2.2.2.2.2.2.2.2.2.2.1 x.1.1.2.2.2.2.2.2.2.2.2.2.2.2.2.2.2.1 x.1.2.1.1 x.1.2.1.2.1 x.1.2.1.2.2.1 x.1.2.1.2.2.2.1 x.1.2.1.2.2.2.2.1 x.1.2.1.2.2.2.2.2.1 x.1.2.1.2.2.2.2.2.2.1 x.1.2.1.2.2.2.2.2.2.2.1 x.1.2.1.2.2.2.2.2.2.2.2.1 x.1.2.1.2.2.2.2.2.2.2.2.2.1 x.1.2.1.2.2.2.2.2.2.2.2.2.2.1 x.1.2.1.2.2.2.2.2.2.2.2.2.2.2.1 x.1.2.1.2.2.2.2.2.2.2.2.2.2.2.2.1 x.1.2.1.2.2.2.2.2.2.2.2.2.2.2.2.2.1 x.1.2.1.2.2.2.2.2.2.2.2.2.2.2.2.2.2.1 x.1.2.1.2.2.2.2.2.2.2.2.2.2.2.2.2.2.2.1) x).trans (by kernel_rfl)
def I67 : Sp := ⟨[(0, oi64), (1, oi64), (2, oi64)], [], []⟩
def E67 : SL := [(.ret, ⟨[(6, ob)], [], []⟩)]
noncomputable def e67 : Fe G := ⟨I67, E67, fun x => nd5' x.1.1 x.1.2.1 x.1.2.2.1, Tryz.f94.results.toList⟩
theorem k67 : FnOK Tryz.prog G 94 e67 := fk cx tn (jl [(1048577, [(.normal, ⟨[(6, ob)], [], []⟩)])]) (lp := (pl [])) Tryz.func94 (by kernel_rfl) (by kernel_rfl) rfl (an0 (by kernel_rfl)) fun x => by kernel_rfl
def I68 : Sp := ⟨[(0, .agg c'3), (1, .agg c'2)], [], []⟩
def E68 : SL := [(.ret, ⟨[(4, ob)], [], []⟩)]
def S68_0 : Sp := ⟨[(2, op 32), (3, op 48), (5, .one (.own 32768 3)), (6, oi64)], [(32, c'3), (48, c'2)], []⟩
def X68_0 : SL := [(.exit 0, ⟨[(2, op 32), (3, op 48)], [(32, c'3), (48, c'2)], []⟩), (.ret, ⟨[(4, ob)], [], []⟩)]
def J68 : Nat → Option SL := jl [(1048585, [(.normal, ⟨[(4, ob)], [], []⟩)])]
noncomputable def P68 : Nat → St G → M (Ex × St G) := pl [lpX S68_0 X68_0 nje']
theorem t68 : ∀ p ∈ [(94, e67)], FnOK Tryz.prog G p.1 p.2 := (tc k67 tn)
theorem l68_0 : LoopOK Tryz.prog G 56 (P68 0) (nl' (nh' Tryz.f95) 0) := lk cx t68 J68 1 S68_0 X68_0 (rfl : nje' = _) (by kernel_rfl) (an0 (by kernel_rfl)) fun x => by kernel_rfl
noncomputable def e68 : Fe G := ⟨I68, E68, fun x => nk6' x.1.1.1 x.1.1.2.1 x.1.1.2.2.1 x.1.1.2.2.2.1 x.1.1.2.2.2.2.1 x.1.1.2.2.2.2.2.1 x.1.1.2.2.2.2.2.2.1 x.1.1.2.2.2.2.2.2.2.1 x.1.2.1.1 x.1.2.1.2.1 x.1.2.1.2.2.1 x.1.2.1.2.2.2.1 x.1.2.1.2.2.2.2.1 x.1.2.1.2.2.2.2.2.1 x.1.2.1.2.2.2.2.2.2.1 x.1.2.1.2.2.2.2.2.2.2.1 x.1.2.1.2.2.2.2.2.2.2.2.1, Tryz.f95.results.toList⟩
theorem k68 : FnOK Tryz.prog G 95 e68 := fk cx t68 J68 (lp := P68) Tryz.func95 (by kernel_rfl) (by kernel_rfl) rfl (nk' _ (by kernel_rfl) (ni' l68_0 nr')) fun x => by kernel_rfl
def I69 : Sp := ⟨[(0, .agg c'3)], [], []⟩
def E69 : SL := [(.ret, ⟨[(2, oi64)], [], []⟩)]
def S69_0 : Sp := ⟨[(1, op 16), (3, ob), (4, oi64)], [(16, c'3)], []⟩
def X69_0 : SL := [(.exit 0, ⟨[(1, op 16), (3, ob)], [(16, c'3)], []⟩)]
def J69 : Nat → Option SL := jl [(1048581, [(.normal, ⟨[(1, op 16), (3, ob)], [(16, c'3)], []⟩)]), (1048585, [(.normal, ⟨[(1, op 16), (3, ob), (4, oi64)], [(16, c'3)], []⟩)])]
noncomputable def P69 : Nat → St G → M (Ex × St G) := pl [lpX S69_0 X69_0 ni4']
theorem t69 : ∀ p ∈ [(94, e67), (95, e68)], FnOK Tryz.prog G p.1 p.2 := (tc k67 (tc k68 tn))
theorem l69_0 : LoopOK Tryz.prog G 73 (P69 0) (nl' (nh' Tryz.f54) 0) := lk cx t69 J69 1 S69_0 X69_0 (rfl : ni4' = _) (by kernel_rfl) (an0 (by kernel_rfl)) fun x => by kernel_rfl
noncomputable def e69 : Fe G := ⟨I69, E69, fun x => nc2' x.1.1.1 x.1.1.2.1 x.1.1.2.2.1 x.1.1.2.2.2.1 x.1.1.2.2.2.2.1 x.1.1.2.2.2.2.2.1 x.1.1.2.2.2.2.2.2.1 x.1.1.2.2.2.2.2.2.2.1, Tryz.f54.results.toList⟩
theorem k69 : FnOK Tryz.prog G 54 e69 := fk cx t69 J69 (lp := P69) Tryz.func54 (by kernel_rfl) (by kernel_rfl) rfl (nk' _ (by kernel_rfl) (ni' l69_0 nr')) fun x => by kernel_rfl
def I70 : Sp := ⟨[(0, .agg c'3)], [], []⟩
def E70 : SL := [(.ret, ⟨[(2, op 32)], [(32, c'4)], []⟩)]
noncomputable def e70 : Fe G := ⟨I70, E70, fun x => nha' x.1.1.1 x.1.1.2.1 x.1.1.2.2.1 x.1.1.2.2.2.1 x.1.1.2.2.2.2.1 x.1.1.2.2.2.2.2.1 x.1.1.2.2.2.2.2.2.1 x.1.1.2.2.2.2.2.2.2.1, Tryz.f23.results.toList⟩
theorem k70 : FnOK Tryz.prog G 23 e70 := fk cx (tc k69 tn) (jl []) (lp := (pl [])) Tryz.func23 (by kernel_rfl) (by kernel_rfl) rfl (an0 (by kernel_rfl)) fun x => by kernel_rfl
def I71 : Sp := ⟨[(0, .agg c'3), (1, oro 5), (2, oi64)], [], []⟩
def E71 : SL := [(.ret, ⟨[(6, .one (.own 32768 92))], [], []⟩)]
def S71_0 : Sp := ⟨[(1, oro 5), (2, oi64), (7, .one (.own 32768 92)), (8, oi64), (9, oi64), (10, oi64)], [], []⟩
def X71_0 : SL := [(.exit 0, ⟨[(7, .one (.own 32768 92))], [], []⟩)]
def J71 : Nat → Option SL := jl [(18, [(.normal, ⟨[(1, oro 5), (2, oi64), (7, .one (.own 32768 92)), (8, oi64), (9, oi64), (10, oi64), (11, oi64), (13, op 208)], [(208, c'6)], []⟩)]), (20, [(.normal, ⟨[(1, oro 5), (2, oi64), (7, .one (.own 32768 92)), (8, oi64), (9, oi64), (10, oi64), (11, oi64), (13, op 208)], [(208, c'6)], []⟩)])]
noncomputable def P71 : Nat → St G → M (Ex × St G) := pl [lpX S71_0 X71_0 nhs']
theorem l71_0 : LoopOK Tryz.prog G 112 (P71 0) (nl' (nh' Tryz.f24) 0) := lk cx tn J71 1 S71_0 X71_0 (rfl : nhs' = _) (by kernel_rfl) (an0 (by kernel_rfl)) fun x => by kernel_rfl
noncomputable def e71 : Fe G := ⟨I71, E71, fun x => njk' x.1.1.1 x.1.1.2.1 x.1.1.2.2.1 x.1.1.2.2.2.1 x.1.1.2.2.2.2.1 x.1.1.2.2.2.2.2.1 x.1.1.2.2.2.2.2.2.1 x.1.1.2.2.2.2.2.2.2.1 x.1.2.1 x.1.2.2.1, Tryz.f24.results.toList⟩
theorem k71 : FnOK Tryz.prog G 24 e71 := fk cx tn J71 (lp := P71) Tryz.func24 (by kernel_rfl) (by kernel_rfl) rfl (nk' _ (by kernel_rfl) (ni' l71_0 nr')) fun x => by kernel_rfl
def I72 : Sp := ⟨[(0, .agg c'3), (1, oi64), (2, oi64)], [], []⟩
def E72 : SL := [(.ret, ⟨[(6, ob)], [], []⟩)]
noncomputable def e72 : Fe G := ⟨I72, E72, fun x => nge' x.1.1.1 x.1.1.2.1 x.1.1.2.2.1 x.1.1.2.2.2.1 x.1.1.2.2.2.2.1 x.1.1.2.2.2.2.2.1 x.1.1.2.2.2.2.2.2.1 x.1.1.2.2.2.2.2.2.2.1 x.1.2.1 x.1.2.2.1, Tryz.f72.results.toList⟩
theorem k72 : FnOK Tryz.prog G 72 e72 := fk cx (tc k69 (tc k67 tn)) (jl [(1048579, [(.normal, ⟨[(6, ob)], [], []⟩)])]) (lp := (pl [])) Tryz.func72 (by kernel_rfl) (by kernel_rfl) rfl (an0 (by kernel_rfl)) fun x => by kernel_rfl
def I73 : Sp := ⟨[(0, .agg c'7), (1, .agg c'7)], [], []⟩
def E73 : SL := [(.ret, ⟨[(4, ob)], [], []⟩)]
noncomputable def e73 : Fe G := ⟨I73, E73, fun x => nj8' x.1.1.1 x.1.1.2.1 x.1.1.2.2.1 x.1.1.2.2.2.1 x.1.1.2.2.2.2.1 x.1.2.1.1 x.1.2.1.2.1 x.1.2.1.2.2.1 x.1.2.1.2.2.2.1 x.1.2.1.2.2.2.2.1, Tryz.f73.results.toList⟩
theorem k73 : FnOK Tryz.prog G 73 e73 := fk cx tn (jl [(1048577, [(.normal, ⟨[(4, ob)], [], []⟩)])]) (lp := (pl [])) Tryz.func73 (by kernel_rfl) (by kernel_rfl) rfl (an0 (by kernel_rfl)) fun x => by kernel_rfl
def I74 : Sp := ⟨[(0, .agg c'3), (1, .agg c'8)], [], []⟩
def E74 : SL := [(.ret, ⟨[(4, ob)], [], []⟩)]
def S74_0 : Sp := ⟨[(2, op 32), (3, op 48), (5, oi64), (6, oi64)], [(32, c'3), (48, c'8)], []⟩
def X74_0 : SL := [(.exit 0, ⟨[(2, op 32), (3, op 48), (5, oi64)], [(32, c'3), (48, c'8)], []⟩), (.ret, ⟨[(4, ob)], [], []⟩)]
def S74_1 : Sp := ⟨[(2, op 32), (3, op 48), (5, oi64), (7, oi64)], [(32, c'3), (48, c'8)], []⟩
def X74_1 : SL := [(.exit 2, ⟨[], [], []⟩), (.ret, ⟨[(4, ob)], [], []⟩)]
def J74 : Nat → Option SL := jl [(1048589, [(.normal, ⟨[(2, op 32), (3, op 48), (5, oi64), (7, oi64), (109, ob)], [(32, c'3), (48, c'8)], []⟩)])]
noncomputable def P74 : Nat → St G → M (Ex × St G) := pl [lpX S74_0 X74_0 nhu', lpX S74_1 X74_1 nh7']
theorem t74 : ∀ p ∈ [(54, e69), (72, e72), (73, e73)], FnOK Tryz.prog G p.1 p.2 := (tc k69 (tc k72 (tc k73 tn)))
theorem l74_1 : LoopOK Tryz.prog G 110 (P74 1) (nl' (nh' Tryz.f27) 1) := lk cx t74 J74 2 S74_1 X74_1 (rfl : nh7' = _) (by kernel_rfl) (an0 (by kernel_rfl)) fun x => by kernel_rfl
theorem l74_0 : LoopOK Tryz.prog G 110 (P74 0) (nl' (nh' Tryz.f27) 0) := lk cx t74 J74 1 S74_0 X74_0 (rfl : nhu' = _) (by kernel_rfl) (an0 (by kernel_rfl)) fun x => by kernel_rfl
noncomputable def e74 : Fe G := ⟨I74, E74, fun x => neq' x.1.1.1 x.1.1.2.1 x.1.1.2.2.1 x.1.1.2.2.2.1 x.1.1.2.2.2.2.1 x.1.1.2.2.2.2.2.1 x.1.1.2.2.2.2.2.2.1 x.1.1.2.2.2.2.2.2.2.1 x.1.2.1.1 x.1.2.1.2.1 x.1.2.1.2.2.1 x.1.2.1.2.2.2.1, Tryz.f27.results.toList⟩
theorem k74 : FnOK Tryz.prog G 27 e74 := fk cx t74 J74 (lp := P74) Tryz.func27 (by kernel_rfl) (by kernel_rfl) rfl (nk' _ (by kernel_rfl) (ni' l74_0 (ni' l74_1 nr'))) fun x => by kernel_rfl
def I75 : Sp := ⟨[(0, oi64), (1, oi64), (2, oi64)], [], []⟩
def E75 : SL := [(.ret, ⟨[(6, ob)], [], []⟩)]
noncomputable def e75 : Fe G := ⟨I75, E75, fun x => nf1' x.1.1 x.1.2.1 x.1.2.2.1, Tryz.f103.results.toList⟩
theorem k75 : FnOK Tryz.prog G 103 e75 := fk cx tn (jl [(1048577, [(.normal, ⟨[(6, ob)], [], []⟩)])]) (lp := (pl [])) Tryz.func103 (by kernel_rfl) (by kernel_rfl) rfl (an0 (by kernel_rfl)) fun x => by kernel_rfl
def I76 : Sp := ⟨[(0, .agg c'3), (1, .agg c'6)], [], []⟩
def E76 : SL := [(.ret, ⟨[(4, ob)], [], []⟩)]
noncomputable def e76 : Fe G := ⟨I76, E76, fun x => nhp' x.1.1.1 x.1.1.2.1 x.1.1.2.2.1 x.1.1.2.2.2.1 x.1.1.2.2.2.2.1 x.1.1.2.2.2.2.2.1 x.1.1.2.2.2.2.2.2.1 x.1.1.2.2.2.2.2.2.2.1 x.1.2.1.1 x.1.2.1.2.1 x.1.2.1.2.2.1 x.1.2.1.2.2.2.1 x.1.2.1.2.2.2.2.1, Tryz.f68.results.toList⟩
theorem k76 : FnOK Tryz.prog G 68 e76 := fk cx (tc k69 (tc k72 (tc k75 tn))) (jl [(1048580, [(.normal, ⟨[(2, op 32), (3, op 48), (5, ob), (6, ob)], [(32, c'3), (48, c'6)], []⟩)]), (1048584, [(.normal, ⟨[(4, ob)], [], []⟩)]), (1048586, [(.normal, ⟨[(4, ob)], [], []⟩)]), (1048588, [(.normal, ⟨[(4, ob)], [], []⟩)]), (1048591, [(.normal, ⟨[(4, ob)], [], []⟩)]), (1048593, [(.normal, ⟨[(4, ob)], [], []⟩)])]) (lp := (pl [])) Tryz.func68 (by kernel_rfl) (by kernel_rfl) rfl (an0 (by kernel_rfl)) fun x => by kernel_rfl
def I77 : Sp := ⟨[(0, .agg c'8), (1, oi64), (2, oi64)], [], []⟩
def E77 : SL := [(.ret, ⟨[(6, oi64)], [], []⟩)]
def S77_0 : Sp := ⟨[(1, oi64), (2, oi64), (3, op 48), (7, oi64)], [(48, c'8)], []⟩
def X77_0 : SL := [(.exit 0, ⟨[], [], []⟩), (.ret, ⟨[(6, oi64)], [], []⟩)]
def J77 : Nat → Option SL := jl [(1048580, [(.normal, ⟨[(1, oi64), (2, oi64), (3, op 48), (7, oi64), (32, ob)], [(48, c'8)], []⟩)])]
noncomputable def P77 : Nat → St G → M (Ex × St G) := pl [lpX S77_0 X77_0 nj5']
theorem l77_0 : LoopOK Tryz.prog G 34 (P77 0) (nl' (nh' Tryz.f69) 0) := lk cx tn J77 1 S77_0 X77_0 (rfl : nj5' = _) (by kernel_rfl) (an0 (by kernel_rfl)) fun x => by kernel_rfl
noncomputable def e77 : Fe G := ⟨I77, E77, fun x => nl4' x.1.1.1 x.1.1.2.1 x.1.1.2.2.1 x.1.1.2.2.2.1 x.1.2.1 x.1.2.2.1, Tryz.f69.results.toList⟩
theorem k77 : FnOK Tryz.prog G 69 e77 := fk cx tn J77 (lp := P77) Tryz.func69 (by kernel_rfl) (by kernel_rfl) rfl (nk' _ (by kernel_rfl) (ni' l77_0 nr')) fun x => by kernel_rfl
def I78 : Sp := ⟨[(0, oro 98), (1, .agg c'7)], [], []⟩
def E78 : SL := [(.ret, ⟨[(4, .one (.own 32768 98))], [], []⟩)]
def S78_0 : Sp := ⟨[(0, oro 98), (3, op 48), (5, .one (.own 32768 98)), (6, ob), (7, oi64)], [(48, c'7)], []⟩
def X78_0 : SL := [(.exit 0, ⟨[(3, op 48), (5, .one (.own 32768 98)), (6, ob)], [(48, c'7)], []⟩)]
def J78 : Nat → Option SL := jl [(10, [(.normal, ⟨[(0, oro 98), (3, op 48), (5, .one (.own 32768 98)), (6, ob), (7, oi64)], [(48, c'7)], []⟩)]), (1048582, [(.normal, ⟨[(0, oro 98), (3, op 48), (5, .one (.own 32768 98)), (6, ob), (7, oi64), (23, ob)], [(48, c'7)], []⟩)])]
noncomputable def P78 : Nat → St G → M (Ex × St G) := pl [lpX S78_0 X78_0 nhx']
theorem t78 : ∀ p ∈ [(73, e73)], FnOK Tryz.prog G p.1 p.2 := (tc k73 tn)
theorem l78_0 : LoopOK Tryz.prog G 42 (P78 0) (nl' (nh' Tryz.f70) 0) := lk cx t78 J78 1 S78_0 X78_0 (rfl : nhx' = _) (by kernel_rfl) (an0 (by kernel_rfl)) fun x => by kernel_rfl
noncomputable def e78 : Fe G := ⟨I78, E78, fun x => nji' x.1.1 x.1.2.1.1 x.1.2.1.2.1 x.1.2.1.2.2.1 x.1.2.1.2.2.2.1 x.1.2.1.2.2.2.2.1, Tryz.f70.results.toList⟩
theorem k78 : FnOK Tryz.prog G 70 e78 := fk cx t78 J78 (lp := P78) Tryz.func70 (by kernel_rfl) (by kernel_rfl) rfl (nk' _ (by kernel_rfl) (ni' l78_0 nr')) fun x => by kernel_rfl
def I79 : Sp := ⟨[(0, .agg c'3), (1, .agg c'8), (2, .agg c'6)], [], []⟩
def E79 : SL := [(.ret, ⟨[(6, op 96), (7, oi64)], [(96, c'4)], []⟩)]
noncomputable def e79 : Fe G := ⟨I79, E79, fun x => niv' x.1.1.1 x.1.1.2.1 x.1.1.2.2.1 x.1.1.2.2.2.1 x.1.1.2.2.2.2.1 x.1.1.2.2.2.2.2.1 x.1.1.2.2.2.2.2.2.1 x.1.1.2.2.2.2.2.2.2.1 x.1.2.1.1 x.1.2.1.2.1 x.1.2.1.2.2.1 x.1.2.1.2.2.2.1 x.1.2.2.1.1 x.1.2.2.1.2.1 x.1.2.2.1.2.2.1 x.1.2.2.1.2.2.2.1 x.1.2.2.1.2.2.2.2.1, Tryz.f25.results.toList⟩
theorem k79 : FnOK Tryz.prog G 25 e79 := fk cx (tc k74 (tc k76 (tc k77 (tc k78 tn)))) (jl [(1048588, [(.normal, ⟨[(4, op 64), (5, op 80), (6, op 96), (8, oi64), (77, ob)], [(64, c'4), (80, c'6), (96, c'11)], []⟩)]), (2097168, [(.normal, ⟨[(4, op 64), (6, op 96), (8, oi64)], [(64, c'21), (96, c'22)], []⟩)])]) (lp := (pl [])) Tryz.func25 (by kernel_rfl) (by kernel_rfl) rfl (an0 (by kernel_rfl)) fun x => by kernel_rfl
def I80 : Sp := ⟨[(0, .agg c'3), (1, oro 5)], [], []⟩
def E80 : SL := [(.ret, ⟨[(4, op 64)], [(64, c'4)], []⟩)]
def S80_0 : Sp := ⟨[(2, op 32), (4, op 64), (5, op 80), (6, .one (.own 32768 92)), (7, oi64)], [(32, c'3), (64, c'9), (80, c'10)], []⟩
def X80_0 : SL := [(.exit 0, ⟨[(4, op 64), (5, op 80)], [(64, c'4), (80, c'11)], []⟩)]
def J80 : Nat → Option SL := jl []
noncomputable def P80 : Nat → St G → M (Ex × St G) := pl [lpX S80_0 X80_0 ni6']
theorem t80 : ∀ p ∈ [(23, e70), (24, e71), (25, e79)], FnOK Tryz.prog G p.1 p.2 := (tc k70 (tc k71 (tc k79 tn)))
theorem l80_0 : LoopOK Tryz.prog G 30 (P80 0) (nl' (nh' Tryz.f8) 0) := lk cx t80 J80 1 S80_0 X80_0 (rfl : ni6' = _) (by kernel_rfl) (an0 (by kernel_rfl)) fun x => by kernel_rfl
noncomputable def e80 : Fe G := ⟨I80, E80, fun x => niy' x.1.1.1 x.1.1.2.1 x.1.1.2.2.1 x.1.1.2.2.2.1 x.1.1.2.2.2.2.1 x.1.1.2.2.2.2.2.1 x.1.1.2.2.2.2.2.2.1 x.1.1.2.2.2.2.2.2.2.1 x.1.2.1, Tryz.f8.results.toList⟩
theorem k80 : FnOK Tryz.prog G 8 e80 := fk cx t80 J80 (lp := P80) Tryz.func8 (by kernel_rfl) (by kernel_rfl) rfl (nk' _ (by kernel_rfl) (ni' l80_0 nr')) fun x => by kernel_rfl
def I81 : Sp := ⟨[(0, .agg c'3), (1, .agg c'8)], [], []⟩
def E81 : SL := [(.ret, ⟨[(4, ob)], [], []⟩)]
noncomputable def e81 : Fe G := ⟨I81, E81, fun x => nip' x.1.1.1 x.1.1.2.1 x.1.1.2.2.1 x.1.1.2.2.2.1 x.1.1.2.2.2.2.1 x.1.1.2.2.2.2.2.1 x.1.1.2.2.2.2.2.2.1 x.1.1.2.2.2.2.2.2.2.1 x.1.2.1.1 x.1.2.1.2.1 x.1.2.1.2.2.1 x.1.2.1.2.2.2.1, Tryz.f33.results.toList⟩
theorem k81 : FnOK Tryz.prog G 33 e81 := fk cx (tc k74 tn) (jl [(1048577, [(.normal, ⟨[(4, ob)], [], []⟩)])]) (lp := (pl [])) Tryz.func33 (by kernel_rfl) (by kernel_rfl) rfl (an0 (by kernel_rfl)) fun x => by kernel_rfl
def I82 : Sp := ⟨[(0, oi64), (1, .agg c'5)], [], []⟩
def E82 : SL := [(.ret, ⟨[(4, ob)], [], []⟩)]
noncomputable def e82 : Fe G := ⟨I82, E82, fun x => nep' x.1.1 x.1.2.1.1 x.1.2.1.2.1 x.1.2.1.2.2.1, Tryz.f34.results.toList⟩
theorem k82 : FnOK Tryz.prog G 34 e82 := fk cx tn (jl [(1048577, [(.normal, ⟨[(4, ob)], [], []⟩)])]) (lp := (pl [])) Tryz.func34 (by kernel_rfl) (by kernel_rfl) rfl (an0 (by kernel_rfl)) fun x => by kernel_rfl
def I83 : Sp := ⟨[], [], []⟩
def E83 : SL := [(.ret, ⟨[(0, op 0)], [(0, c'16)], []⟩)]
noncomputable def e83 : Fe G := ⟨I83, E83, fun _ => njr', Tryz.f35.results.toList⟩
theorem k83 : FnOK Tryz.prog G 35 e83 := fk cx tn (jl []) (lp := (pl [])) Tryz.func35 (by kernel_rfl) (by kernel_rfl) rfl (an0 (by kernel_rfl)) fun x => by kernel_rfl
def I84 : Sp := ⟨[(0, .agg c'3), (1, .agg c'8), (2, .agg c'5)], [], []⟩
def E84 : SL := [(.ret, ⟨[(6, op 96), (7, oi64)], [(96, c'23)], []⟩)]
def S84_0 : Sp := ⟨[(3, op 48), (4, op 64), (6, op 96), (8, oi64), (9, op 144), (10, oi64)], [(48, c'3), (64, c'8), (96, c'17), (144, c'24)], []⟩
def X84_0 : SL := [(.exit 0, ⟨[(3, op 48), (4, op 64), (6, op 96), (9, op 144)], [(48, c'3), (64, c'8), (96, c'17), (144, c'24)], []⟩)]
def S84_1 : Sp := ⟨[(3, op 48), (4, op 64), (6, op 96), (9, op 144), (11, oi64)], [(48, c'3), (64, c'8), (96, c'17), (144, c'24)], []⟩
def X84_1 : SL := [(.exit 2, ⟨[(6, op 96), (9, op 144)], [(96, c'17), (144, c'24)], []⟩)]
def J84 : Nat → Option SL := jl [(17, [(.normal, ⟨[(3, op 48), (4, op 64), (6, op 96), (9, op 144), (11, oi64), (12, oi64)], [(48, c'3), (64, c'8), (96, c'17), (144, c'24)], []⟩)])]
noncomputable def P84 : Nat → St G → M (Ex × St G) := pl [lpX S84_0 X84_0 nhd', lpX S84_1 X84_1 ng9']
theorem t84 : ∀ p ∈ [(33, e81), (34, e82), (35, e83)], FnOK Tryz.prog G p.1 p.2 := (tc k81 (tc k82 (tc k83 tn)))
noncomputable def n62' (_h_r19_New : (Unit × Unit) → Option ((Unit × Unit) × (T'29 × Unit))) (i b_Floors b_Debounce b_Room b_Park : Int) (b_Empty b_Full b_Over : Nat) (b_Cars : List (Car)) (m_Phases : List (Int)) (m_Flags m_Leaving : List (Bool)) (m_Entries : List (Entry)) (b6_Image_Phases : List (Int)) (b6_Image_Flags b6_Image_Leaving : List (Bool)) (b6_Image_Entries : List (Entry)) (b6_Store_Halves_0 b6_Store_Halves_1 : ByteArray) (b6_Store_Select : Int) (b6_Contacts : List (Debounced)) (b6_Beliefs : List (Belief)) (b6_Cars : List (NewCar)) (b6_Loads : List (Loaded)) (b6_Expect : List (Int)) (b6_Lit : List (Calls)) (b6_Tick b6_Faults b6_Refused : Int) (out_Image_Phases : List (Int)) (out_Image_Flags out_Image_Leaving : List (Bool)) (out_Image_Entries : List (Entry)) (out_Store_Halves_0 out_Store_Halves_1 : ByteArray) (out_Store_Select : Int) (out_Contacts : List (Debounced)) (out_Beliefs : List (Belief)) (out_Cars : List (NewCar)) (out_Loads : List (Loaded)) (out_Expect : List (Int)) (out_Lit : List (Calls)) (out_Tick out_Faults out_Refused : Int) : Option (Sum (T'55 × T'32) ((Unit × Unit × Unit) × (T'30 × T'30 × Unit))) :=
 bif (decide (i < ((List.length m_Entries : Nat) : Int))) then
 Option.bind (bif (inB i (List.length m_Entries)) then
 let z0 : Entry := (List.getD m_Entries (Int.toNat i) (Entry.mk (0 : Int) (0 : Int) (0 : Int) (0 : Int) false))
 bif (decide ((0 : Int) ≤ z0.Car)) then
 bif (inB z0.Car (List.length b_Cars)) then
 some (((), (), (), (), i, (List.getD b_Cars (Int.toNat z0.Car) (Car.mk (0 : Int) (0 : Int) (0 : Int) (0 : Int) (0 : Int) (0 : Int) (0 : Int) (0 : Int) (0 : Int))).Deadline, ()), ((b_Floors, b_Debounce, b_Room, b_Park, b_Empty, b_Full, b_Over, b_Cars, ()), (m_Phases, m_Flags, m_Leaving, m_Entries, ()), (b6_Image_Phases, b6_Image_Flags, b6_Image_Leaving, b6_Image_Entries, b6_Store_Halves_0, b6_Store_Halves_1, b6_Store_Select, b6_Contacts, b6_Beliefs, b6_Cars, b6_Loads, b6_Expect, b6_Lit, b6_Tick, b6_Faults, b6_Refused, ()), (out_Image_Phases, out_Image_Flags, out_Image_Leaving, out_Image_Entries, out_Store_Halves_0, out_Store_Halves_1, out_Store_Select, out_Contacts, out_Beliefs, out_Cars, out_Loads, out_Expect, out_Lit, out_Tick, out_Faults, out_Refused, ()), ()))
 else
 none
 else
 some (((), (), (), (), i, (0 : Int), ()), ((b_Floors, b_Debounce, b_Room, b_Park, b_Empty, b_Full, b_Over, b_Cars, ()), (m_Phases, m_Flags, m_Leaving, m_Entries, ()), (b6_Image_Phases, b6_Image_Flags, b6_Image_Leaving, b6_Image_Entries, b6_Store_Halves_0, b6_Store_Halves_1, b6_Store_Select, b6_Contacts, b6_Beliefs, b6_Cars, b6_Loads, b6_Expect, b6_Lit, b6_Tick, b6_Faults, b6_Refused, ()), (out_Image_Phases, out_Image_Flags, out_Image_Leaving, out_Image_Entries, out_Store_Halves_0, out_Store_Halves_1, out_Store_Select, out_Contacts, out_Beliefs, out_Cars, out_Loads, out_Expect, out_Lit, out_Tick, out_Faults, out_Refused, ()), ()))
 else
 none) fun y1 =>
 let z1 : List (Int) := [y1.1.2.2.2.2.2.1]
 bif (Nat.ble ((List.length y1.2.2.2.2.1.2.2.2.2.2.2.2.2.2.2.2.1) + (List.length z1)) 2147483648) then
 some (Sum.inl (((), (), (), (), (IntKind.i64.wrap (y1.1.2.2.2.2.1 + (1 : Int))), ()), (y1.2.1, y1.2.2.1, y1.2.2.2.1, (y1.2.2.2.2.1.1, y1.2.2.2.2.1.2.1, y1.2.2.2.2.1.2.2.1, y1.2.2.2.2.1.2.2.2.1, y1.2.2.2.2.1.2.2.2.2.1, y1.2.2.2.2.1.2.2.2.2.2.1, y1.2.2.2.2.1.2.2.2.2.2.2.1, y1.2.2.2.2.1.2.2.2.2.2.2.2.1, y1.2.2.2.2.1.2.2.2.2.2.2.2.2.1, y1.2.2.2.2.1.2.2.2.2.2.2.2.2.2.1, y1.2.2.2.2.1.2.2.2.2.2.2.2.2.2.2.1, (y1.2.2.2.2.1.2.2.2.2.2.2.2.2.2.2.2.1 ++ z1), y1.2.2.2.2.1.2.2.2.2.2.2.2.2.2.2.2.2.1, y1.2.2.2.2.1.2.2.2.2.2.2.2.2.2.2.2.2.2.1, y1.2.2.2.2.1.2.2.2.2.2.2.2.2.2.2.2.2.2.2.1, y1.2.2.2.2.1.2.2.2.2.2.2.2.2.2.2.2.2.2.2.2.1, ()), ())))
 else
 none
 else
 some (Sum.inr (((), (), ()), ((b6_Image_Phases, b6_Image_Flags, b6_Image_Leaving, b6_Image_Entries, b6_Store_Halves_0, b6_Store_Halves_1, b6_Store_Select, b6_Contacts, b6_Beliefs, b6_Cars, b6_Loads, b6_Expect, b6_Lit, b6_Tick, b6_Faults, b6_Refused, ()), (out_Image_Phases, out_Image_Flags, out_Image_Leaving, out_Image_Entries, out_Store_Halves_0, out_Store_Halves_1, out_Store_Select, out_Contacts, out_Beliefs, out_Cars, out_Loads, out_Expect, out_Lit, out_Tick, out_Faults, out_Refused, ()), ())))
theorem g84_1 (h_r19_New : (Unit × Unit) → Option ((Unit × Unit) × (T'29 × Unit))) (x : S84_1.T G) : rndI (cfP [(33, e81), (34, e82), (35, Fe.mk (G := G) I83 E83 h_r19_New Tryz.f35.results.toList)]) P84 J84 79 2 (nl' (nh' Tryz.f12) 1) S84_1 X84_1 x = n62' h_r19_New x.1.2.2.2.2.1 x.2.1.1 x.2.1.2.1 x.2.1.2.2.1 x.2.1.2.2.2.1 x.2.1.2.2.2.2.1 x.2.1.2.2.2.2.2.1 x.2.1.2.2.2.2.2.2.1 x.2.1.2.2.2.2.2.2.2.1 x.2.2.1.1 x.2.2.1.2.1 x.2.2.1.2.2.1 x.2.2.1.2.2.2.1 x.2.2.2.1.1 x.2.2.2.1.2.1 x.2.2.2.1.2.2.1 x.2.2.2.1.2.2.2.1 x.2.2.2.1.2.2.2.2.1 x.2.2.2.1.2.2.2.2.2.1 x.2.2.2.1.2.2.2.2.2.2.1 x.2.2.2.1.2.2.2.2.2.2.2.1 x.2.2.2.1.2.2.2.2.2.2.2.2.1 x.2.2.2.1.2.2.2.2.2.2.2.2.2.1 x.2.2.2.1.2.2.2.2.2.2.2.2.2.2.1 x.2.2.2.1.2.2.2.2.2.2.2.2.2.2.2.1 x.2.2.2.1.2.2.2.2.2.2.2.2.2.2.2.2.1 x.2.2.2.1.2.2.2.2.2.2.2.2.2.2.2.2.2.1 x.2.2.2.1.2.2.2.2.2.2.2.2.2.2.2.2.2.2.1 x.2.2.2.1.2.2.2.2.2.2.2.2.2.2.2.2.2.2.2.1 x.2.2.2.2.1.1 x.2.2.2.2.1.2.1 x.2.2.2.2.1.2.2.1 x.2.2.2.2.1.2.2.2.1 x.2.2.2.2.1.2.2.2.2.1 x.2.2.2.2.1.2.2.2.2.2.1 x.2.2.2.2.1.2.2.2.2.2.2.1 x.2.2.2.2.1.2.2.2.2.2.2.2.1 x.2.2.2.2.1.2.2.2.2.2.2.2.2.1 x.2.2.2.2.1.2.2.2.2.2.2.2.2.2.1 x.2.2.2.2.1.2.2.2.2.2.2.2.2.2.2.1 x.2.2.2.2.1.2.2.2.2.2.2.2.2.2.2.2.1 x.2.2.2.2.1.2.2.2.2.2.2.2.2.2.2.2.2.1 x.2.2.2.2.1.2.2.2.2.2.2.2.2.2.2.2.2.2.1 x.2.2.2.2.1.2.2.2.2.2.2.2.2.2.2.2.2.2.2.1 x.2.2.2.2.1.2.2.2.2.2.2.2.2.2.2.2.2.2.2.2.1 := by kernel_rfl
theorem l84_1 : LoopOK Tryz.prog G 79 (P84 1) (nl' (nh' Tryz.f12) 1) := lk cx t84 J84 2 S84_1 X84_1 (rfl : ng9' = _) (by kernel_rfl) (an0 (by kernel_rfl)) fun x => (g84_1 (fun _ => njr' ) x).trans (by kernel_rfl)
noncomputable def n5s' (h_r19_New : (Unit × Unit) → Option ((Unit × Unit) × (T'29 × Unit))) (n i b_Floors b_Debounce b_Room b_Park : Int) (b_Empty b_Full b_Over : Nat) (b_Cars : List (Car)) (m_Phases : List (Int)) (m_Flags m_Leaving : List (Bool)) (m_Entries : List (Entry)) (b6_Image_Phases : List (Int)) (b6_Image_Flags b6_Image_Leaving : List (Bool)) (b6_Image_Entries : List (Entry)) (b6_Store_Halves_0 b6_Store_Halves_1 : ByteArray) (b6_Store_Select : Int) (b6_Contacts : List (Debounced)) (b6_Beliefs : List (Belief)) (b6_Cars : List (NewCar)) (b6_Loads : List (Loaded)) (b6_Expect : List (Int)) (b6_Lit : List (Calls)) (b6_Tick b6_Faults b6_Refused : Int) (out_Image_Phases : List (Int)) (out_Image_Flags out_Image_Leaving : List (Bool)) (out_Image_Entries : List (Entry)) (out_Store_Halves_0 out_Store_Halves_1 : ByteArray) (out_Store_Select : Int) (out_Contacts : List (Debounced)) (out_Beliefs : List (Belief)) (out_Cars : List (NewCar)) (out_Loads : List (Loaded)) (out_Expect : List (Int)) (out_Lit : List (Calls)) (out_Tick out_Faults out_Refused : Int) : Option (Sum (T'54 × T'32) (T'33 × T'32)) :=
 bif (decide (i < n)) then
 (h_r19_New ((), ())).bind fun y1 =>
 let z0 : List (Belief) := [(Belief.mk y1.2.1.1 y1.2.1.2.1 y1.2.1.2.2.1 y1.2.1.2.2.2.1 y1.2.1.2.2.2.2.1 y1.2.1.2.2.2.2.2.1)]
 bif (Nat.ble ((List.length out_Beliefs) + (List.length z0)) 2147483648) then
 some (Sum.inl (((), (), (), n, (), (IntKind.i64.wrap (i + (1 : Int))), ()), ((b_Floors, b_Debounce, b_Room, b_Park, b_Empty, b_Full, b_Over, b_Cars, ()), (m_Phases, m_Flags, m_Leaving, m_Entries, ()), (b6_Image_Phases, b6_Image_Flags, b6_Image_Leaving, b6_Image_Entries, b6_Store_Halves_0, b6_Store_Halves_1, b6_Store_Select, b6_Contacts, b6_Beliefs, b6_Cars, b6_Loads, b6_Expect, b6_Lit, b6_Tick, b6_Faults, b6_Refused, ()), (out_Image_Phases, out_Image_Flags, out_Image_Leaving, out_Image_Entries, out_Store_Halves_0, out_Store_Halves_1, out_Store_Select, out_Contacts, (out_Beliefs ++ z0), out_Cars, out_Loads, out_Expect, out_Lit, out_Tick, out_Faults, out_Refused, ()), ())))
 else
 none
 else
 some (Sum.inr (((), (), (), (), ()), ((b_Floors, b_Debounce, b_Room, b_Park, b_Empty, b_Full, b_Over, b_Cars, ()), (m_Phases, m_Flags, m_Leaving, m_Entries, ()), (b6_Image_Phases, b6_Image_Flags, b6_Image_Leaving, b6_Image_Entries, b6_Store_Halves_0, b6_Store_Halves_1, b6_Store_Select, b6_Contacts, b6_Beliefs, b6_Cars, b6_Loads, b6_Expect, b6_Lit, b6_Tick, b6_Faults, b6_Refused, ()), (out_Image_Phases, out_Image_Flags, out_Image_Leaving, out_Image_Entries, out_Store_Halves_0, out_Store_Halves_1, out_Store_Select, out_Contacts, out_Beliefs, out_Cars, out_Loads, out_Expect, out_Lit, out_Tick, out_Faults, out_Refused, ()), ())))
theorem g84_0 (h_r19_New : (Unit × Unit) → Option ((Unit × Unit) × (T'29 × Unit))) (x : S84_0.T G) : rndI (cfP [(33, e81), (34, e82), (35, Fe.mk (G := G) I83 E83 h_r19_New Tryz.f35.results.toList)]) P84 J84 79 1 (nl' (nh' Tryz.f12) 0) S84_0 X84_0 x = n5s' h_r19_New x.1.2.2.2.1 x.1.2.2.2.2.2.1 x.2.1.1 x.2.1.2.1 x.2.1.2.2.1 x.2.1.2.2.2.1 x.2.1.2.2.2.2.1 x.2.1.2.2.2.2.2.1 x.2.1.2.2.2.2.2.2.1 x.2.1.2.2.2.2.2.2.2.1 x.2.2.1.1 x.2.2.1.2.1 x.2.2.1.2.2.1 x.2.2.1.2.2.2.1 x.2.2.2.1.1 x.2.2.2.1.2.1 x.2.2.2.1.2.2.1 x.2.2.2.1.2.2.2.1 x.2.2.2.1.2.2.2.2.1 x.2.2.2.1.2.2.2.2.2.1 x.2.2.2.1.2.2.2.2.2.2.1 x.2.2.2.1.2.2.2.2.2.2.2.1 x.2.2.2.1.2.2.2.2.2.2.2.2.1 x.2.2.2.1.2.2.2.2.2.2.2.2.2.1 x.2.2.2.1.2.2.2.2.2.2.2.2.2.2.1 x.2.2.2.1.2.2.2.2.2.2.2.2.2.2.2.1 x.2.2.2.1.2.2.2.2.2.2.2.2.2.2.2.2.1 x.2.2.2.1.2.2.2.2.2.2.2.2.2.2.2.2.2.1 x.2.2.2.1.2.2.2.2.2.2.2.2.2.2.2.2.2.2.1 x.2.2.2.1.2.2.2.2.2.2.2.2.2.2.2.2.2.2.2.1 x.2.2.2.2.1.1 x.2.2.2.2.1.2.1 x.2.2.2.2.1.2.2.1 x.2.2.2.2.1.2.2.2.1 x.2.2.2.2.1.2.2.2.2.1 x.2.2.2.2.1.2.2.2.2.2.1 x.2.2.2.2.1.2.2.2.2.2.2.1 x.2.2.2.2.1.2.2.2.2.2.2.2.1 x.2.2.2.2.1.2.2.2.2.2.2.2.2.1 x.2.2.2.2.1.2.2.2.2.2.2.2.2.2.1 x.2.2.2.2.1.2.2.2.2.2.2.2.2.2.2.1 x.2.2.2.2.1.2.2.2.2.2.2.2.2.2.2.2.1 x.2.2.2.2.1.2.2.2.2.2.2.2.2.2.2.2.2.1 x.2.2.2.2.1.2.2.2.2.2.2.2.2.2.2.2.2.2.1 x.2.2.2.2.1.2.2.2.2.2.2.2.2.2.2.2.2.2.2.1 x.2.2.2.2.1.2.2.2.2.2.2.2.2.2.2.2.2.2.2.2.1 := by kernel_rfl
theorem l84_0 : LoopOK Tryz.prog G 79 (P84 0) (nl' (nh' Tryz.f12) 0) := lk cx t84 J84 1 S84_0 X84_0 (rfl : nhd' = _) (by kernel_rfl) (an0 (by kernel_rfl)) fun x => (g84_0 (fun _ => njr' ) x).trans (by kernel_rfl)
noncomputable def H84 (_h_r19_New : (Unit × Unit) → Option ((Unit × Unit) × (T'29 × Unit))) (b_Floors b_Debounce b_Room b_Park : Int) (b_Empty b_Full b_Over : Nat) (b_Cars : List (Car)) (m_Phases : List (Int)) (m_Flags m_Leaving : List (Bool)) (m_Entries : List (Entry)) (s_Halves_0 s_Halves_1 : ByteArray) (s_Select : Int) : Option ((Unit × Int × Unit) × (T'30 × Unit)) :=
 (nip' b_Floors b_Debounce b_Room b_Park b_Empty b_Full b_Over b_Cars m_Phases m_Flags m_Leaving m_Entries).bind fun y1 =>
 bif (!y1.1.1) then
 some (((), (1 : Int), ()), ((([] : List (Int)), ([] : List (Bool)), ([] : List (Bool)), ([] : List (Entry)), (ByteArray.mk (Array.mk [])), (ByteArray.mk (Array.mk [])), (0 : Int), ([] : List (Debounced)), ([] : List (Belief)), ([] : List (NewCar)), ([] : List (Loaded)), ([] : List (Int)), ([] : List (Calls)), (0 : Int), (0 : Int), (0 : Int), ()), ()))
 else
 (nep' b_Room s_Halves_0 s_Halves_1 s_Select).bind fun y2 =>
 bif (!y2.1.1) then
 some (((), (1 : Int), ()), ((([] : List (Int)), ([] : List (Bool)), ([] : List (Bool)), ([] : List (Entry)), (ByteArray.mk (Array.mk [])), (ByteArray.mk (Array.mk [])), (0 : Int), ([] : List (Debounced)), ([] : List (Belief)), ([] : List (NewCar)), ([] : List (Loaded)), ([] : List (Int)), ([] : List (Calls)), (0 : Int), (0 : Int), (0 : Int), ()), ()))
 else
 let z0 : Int := ((List.length b_Cars : Nat) : Int)
 bif (((decide ((0 : Int) ≤ z0)) && (decide (z0 ≤ z0))) && (decide (z0 ≤ (2147483648 : Int)))) then
 bif (((decide ((0 : Int) ≤ z0)) && (decide (z0 ≤ z0))) && (decide (z0 ≤ (2147483648 : Int)))) then
 bif (((decide ((0 : Int) ≤ z0)) && (decide (z0 ≤ z0))) && (decide (z0 ≤ (2147483648 : Int)))) then
 bif (((decide ((0 : Int) ≤ z0)) && (decide (z0 ≤ z0))) && (decide (z0 ≤ (2147483648 : Int)))) then
 (nhd' (((), (), (), z0, (), (0 : Int), ()), ((b_Floors, b_Debounce, b_Room, b_Park, b_Empty, b_Full, b_Over, b_Cars, ()), (m_Phases, m_Flags, m_Leaving, m_Entries, ()), (([] : List (Int)), ([] : List (Bool)), ([] : List (Bool)), ([] : List (Entry)), (ByteArray.mk (Array.mk [])), (ByteArray.mk (Array.mk [])), (0 : Int), ([] : List (Debounced)), ([] : List (Belief)), ([] : List (NewCar)), ([] : List (Loaded)), ([] : List (Int)), ([] : List (Calls)), (0 : Int), (0 : Int), (0 : Int), ()), (m_Phases, m_Flags, m_Leaving, m_Entries, s_Halves_0, s_Halves_1, s_Select, (List.replicate (Int.toNat z0) (Debounced.mk (0 : Int) false false false false (0 : Int) (0 : Int) (0 : Int) (0 : Int) (0 : Int) (0 : Int) (0 : Int) (0 : Int) (0 : Int) (0 : Int) (0 : Int) (0 : Int) (0 : Int) (0 : Int) (0 : Int) (0 : Int) (0 : Int) (0 : Int) (0 : Int) (0 : Int) (0 : Int) (0 : Int) (0 : Int) (0 : Int) (0 : Int) (0 : Int) (0 : Int) (0 : Int) (0 : Int) (0 : Int) (0 : Int) (0 : Int) (0 : Int) (0 : Int) (0 : Int) (0 : Int))), ([] : List (Belief)), (List.replicate (Int.toNat z0) (NewCar.mk (0 : Int) (0 : Int) (0 : Int) (0 : Int) (0 : Int) false (0 : Int) (0 : Int) (0 : Int) (0 : Int) (0 : Int) (0 : Int) (0 : Int) false)), (List.replicate (Int.toNat z0) (Loaded.mk (0 : Int))), ([] : List (Int)), (List.replicate (Int.toNat z0) (Calls.mk (0 : Int) (0 : Int))), (0 : Int), (0 : Int), (0 : Int), ()), ()))).bind fun y3 =>
 (ng9' (((), (), (), (), (0 : Int), ()), (y3.2.1, y3.2.2.1, y3.2.2.2.1, y3.2.2.2.2.1, ()))).bind fun y4 =>
 some (((), (0 : Int), ()), (y4.2.2.1, ()))
 else
 none
 else
 none
 else
 none
 else
 none
theorem q84 (h_r19_New : (Unit × Unit) → Option ((Unit × Unit) × (T'29 × Unit))) (x : I84.T G) : endI (cfP [(33, e81), (34, e82), (35, Fe.mk (G := G) I83 E83 h_r19_New Tryz.f35.results.toList)]) P84 J84 79 (nh' Tryz.f12) I84 E84 x = H84 h_r19_New x.1.1.1 x.1.1.2.1 x.1.1.2.2.1 x.1.1.2.2.2.1 x.1.1.2.2.2.2.1 x.1.1.2.2.2.2.2.1 x.1.1.2.2.2.2.2.2.1 x.1.1.2.2.2.2.2.2.2.1 x.1.2.1.1 x.1.2.1.2.1 x.1.2.1.2.2.1 x.1.2.1.2.2.2.1 x.1.2.2.1.1 x.1.2.2.1.2.1 x.1.2.2.1.2.2.1 := by kernel_rfl
noncomputable def e84 : Fe G := ⟨I84, E84, fun x => nf3' x.1.1.1 x.1.1.2.1 x.1.1.2.2.1 x.1.1.2.2.2.1 x.1.1.2.2.2.2.1 x.1.1.2.2.2.2.2.1 x.1.1.2.2.2.2.2.2.1 x.1.1.2.2.2.2.2.2.2.1 x.1.2.1.1 x.1.2.1.2.1 x.1.2.1.2.2.1 x.1.2.1.2.2.2.1 x.1.2.2.1.1 x.1.2.2.1.2.1 x.1.2.2.1.2.2.1, Tryz.f12.results.toList⟩
theorem k84 : FnOK Tryz.prog G 12 e84 := fk cx t84 J84 (lp := P84) Tryz.func12 (by kernel_rfl) (by kernel_rfl) rfl (nk' _ (by kernel_rfl) (ni' l84_0 (ni' l84_1 nr'))) fun x => (q84 (fun _ => njr' ) x).trans (by kernel_rfl)
def I85 : Sp := ⟨[(0, oi64)], [], []⟩
def E85 : SL := [(.ret, ⟨[(2, ob)], [], []⟩)]
noncomputable def e85 : Fe G := ⟨I85, E85, fun x => nft' x.1.1, Tryz.f79.results.toList⟩
theorem k85 : FnOK Tryz.prog G 79 e85 := fk cx tn (jl [(1048577, [(.normal, ⟨[(2, ob)], [], []⟩)])]) (lp := (pl [])) Tryz.func79 (by kernel_rfl) (by kernel_rfl) rfl (an0 (by kernel_rfl)) fun x => by kernel_rfl
def I86 : Sp := ⟨[(0, oro 3), (1, .one (.clo 79 [] []))], [], []⟩
def E86 : SL := [(.ret, ⟨[(4, oi64)], [], []⟩)]
def S86_0 : Sp := ⟨[(0, oro 3), (1, .one (.clo 79 [] [])), (7, oi64), (8, oi64)], [], []⟩
def X86_0 : SL := [(.exit 0, ⟨[], [], []⟩), (.ret, ⟨[(4, oi64)], [], []⟩)]
def J86 : Nat → Option SL := jl []
noncomputable def P86 : Nat → St G → M (Ex × St G) := pl [lpX S86_0 X86_0 nbo']
theorem t86 : ∀ p ∈ [(79, e85)], FnOK Tryz.prog G p.1 p.2 := (tc k85 tn)
theorem l86_0 : LoopOK Tryz.prog G 19 (P86 0) (nl' (nh' Tryz.f106) 0) := lk cx t86 J86 1 S86_0 X86_0 (rfl : nbo' = _) (by kernel_rfl) (an0 (by kernel_rfl)) fun x => by kernel_rfl
noncomputable def e86 : Fe G := ⟨I86, E86, fun x => ncg' x.1.1, Tryz.f106.results.toList⟩
theorem k86 : FnOK Tryz.prog G 106 e86 := fk cx t86 J86 (lp := P86) Tryz.func106 (by kernel_rfl) (by kernel_rfl) rfl (nk' _ (by kernel_rfl) (ni' l86_0 nr')) fun x => by kernel_rfl
def I87 : Sp := ⟨[(0, oro 3), (1, .one (.clo 79 [] []))], [], []⟩
def E87 : SL := [(.ret, ⟨[(4, ob)], [], []⟩)]
noncomputable def e87 : Fe G := ⟨I87, E87, fun x => nb5' x.1.1, Tryz.f78.results.toList⟩
theorem k87 : FnOK Tryz.prog G 78 e87 := fk cx (tc k86 tn) (jl []) (lp := (pl [])) Tryz.func78 (by kernel_rfl) (by kernel_rfl) rfl (an0 (by kernel_rfl)) fun x => by kernel_rfl
def I88 : Sp := ⟨[(0, oro 3)], [], []⟩
def E88 : SL := [(.ret, ⟨[(2, ob)], [], []⟩)]
noncomputable def e88 : Fe G := ⟨I88, E88, fun x => ne5' x.1.1, Tryz.f39.results.toList⟩
theorem k88 : FnOK Tryz.prog G 39 e88 := fk cx (tc k87 tn) (jl []) (lp := (pl [])) Tryz.func39 (by kernel_rfl) (by kernel_rfl) rfl (an0 (by kernel_rfl)) fun x => by kernel_rfl
def I89 : Sp := ⟨[(0, oi64), (1, .agg c'25)], [], []⟩
def E89 : SL := [(.ret, ⟨[(4, ob)], [], []⟩)]
def S89_0 : Sp := ⟨[(0, oi64), (14, .agg c'26), (15, oi64)], [], []⟩
def X89_0 : SL := [(.exit 0, ⟨[], [], []⟩), (.ret, ⟨[(4, ob)], [], []⟩)]
def J89 : Nat → Option SL := jl []
noncomputable def P89 : Nat → St G → M (Ex × St G) := pl [lpX S89_0 X89_0 nfb']
theorem l89_0 : LoopOK Tryz.prog G 26 (P89 0) (nl' (nh' Tryz.f42) 0) := lk cx tn J89 1 S89_0 X89_0 (rfl : nfb' = _) (by kernel_rfl) (an0 (by kernel_rfl)) fun x => by kernel_rfl
noncomputable def e89 : Fe G := ⟨I89, E89, fun x => nf6' x.1.1 x.1.2.1.1 x.1.2.1.2.1 x.1.2.1.2.2.1 x.1.2.1.2.2.2.1 x.1.2.1.2.2.2.2.1 x.1.2.1.2.2.2.2.2.1 x.1.2.1.2.2.2.2.2.2.1 x.1.2.1.2.2.2.2.2.2.2.1 x.1.2.1.2.2.2.2.2.2.2.2.1 x.1.2.1.2.2.2.2.2.2.2.2.2.1 x.1.2.1.2.2.2.2.2.2.2.2.2.2.1 x.1.2.1.2.2.2.2.2.2.2.2.2.2.2.1 x.1.2.1.2.2.2.2.2.2.2.2.2.2.2.2.1 x.1.2.1.2.2.2.2.2.2.2.2.2.2.2.2.2.1 x.1.2.1.2.2.2.2.2.2.2.2.2.2.2.2.2.2.1 x.1.2.1.2.2.2.2.2.2.2.2.2.2.2.2.2.2.2.1 x.1.2.1.2.2.2.2.2.2.2.2.2.2.2.2.2.2.2.2.1 x.1.2.1.2.2.2.2.2.2.2.2.2.2.2.2.2.2.2.2.2.1 x.1.2.1.2.2.2.2.2.2.2.2.2.2.2.2.2.2.2.2.2.2.1 x.1.2.1.2.2.2.2.2.2.2.2.2.2.2.2.2.2.2.2.2.2.2.1 x.1.2.1.2.2.2.2.2.2.2.2.2.2.2.2.2.2.2.2.2.2.2.2.1 x.1.2.1.2.2.2.2.2.2.2.2.2.2.2.2.2.2.2.2.2.2.2.2.2.1 x.1.2.1.2.2.2.2.2.2.2.2.2.2.2.2.2.2.2.2.2.2.2.2.2.2.1 x.1.2.1.2.2.2.2.2.2.2.2.2.2.2.2.2.2.2.2.2.2.2.2.2.2.2.1 x.1.2.1.2.2.2.2.2.2.2.2.2.2.2.2.2.2.2.2.2.2.2.2.2.2.2.2.1 x.1.2.1.2.2.2.2.2.2.2.2.2.2.2.2.2.2.2.2.2.2.2.2.2.2.2.2.2.1 x.1.2.1.2.2.2.2.2.2.2.2.2.2.2.2.2.2.2.2.2.2.2.2.2.2.2.2.2.2.1 x.1.2.1.2.2.2.2.2.2.2.2.2.2.2.2.2.2.2.2.2.2.2.2.2.2.2.2.2.2.2.1 x.1.2.1.2.2.2.2.2.2.2.2.2.2.2.2.2.2.2.2.2.2.2.2.2.2.2.2.2.2.2.2.1 x.1.2.1.2.2.2.2.2.2.2.2.2.2.2.2.2.2.2.2.2.2.2.2.2.2.2.2.2.2.2.2.2.1 x.1.2.1.2.2.2.2.2.2.2.2.2.2.2.2.2.2.2.2.2.2.2.2.2.2.2.2.2.2.2.2.2.2.1 x.1.2.1.2.2.2.2.2.2.2.2.2.2.2.2.2.2.2.2.2.2.2.2.2.2.2.2.2.2.2.2.2.2.2.1 x.1.2.1.2.2.2.2.2.2.2.2.2.2.2.2.2.2.2.2.2.2.2.2.2.2.2.2.2.2.2.2.2.2.2.2.1 x.1.2.1.2.2.2.2.2.2.2.2.2.2.2.2.2.2.2.2.2.2.2.2.2.2.2.2.2.2.2.2.2.2.2.2.2.1 x.1.2.1.2.2.2.2.2.2.2.2.2.2.2.2.2.2.2.2.2.2.2.2.2.2.2.2.2.2.2.2.2.2.2.2.2.2.1 x.1.2.1.2.2.2.2.2.2.2.2.2.2.2.2.2.2.2.2.2.2.2.2.2.2.2.2.2.2.2.2.2.2.2.2.2.2.2.1 x.1.2.1.2.2.2.2.2.2.2.2.2.2.2.2.2.2.2.2.2.2.2.2.2.2.2.2.2.2.2.2.2.2.2.2.2.2.2.2.1 x.1.2.1.2.2.2.2.2.2.2.2.2.2.2.2.2.2.2.2.2.2.2.2.2.2.2.2.2.2.2.2.2.2.2.2.2.2.2.2.2.1 x.1.2.1.2.2.2.2.2.2.2.2.2.2.2.2.2.2.2.2.2.2.2.2.2.2.2.2.2.2.2.2.2.2.2.2.2.2.2.2.2.2.1 x.1.2.1.2.2.2.2.2.2.2.2.2.2.2.2.2.2.2.2.2.2.2.2.2.2.2.2.2.2.2.2.2.2.2.2.2.2.2.2.2.2.2.1 x.1.2.1.2.2.2.2.2.2.2.2.2.2.2.2.2.2.2.2.2.2.2.2.2.2.2.2.2.2.2.2.2.2.2.2.2.2.2.2.2.2.2.2.1, Tryz.f42.results.toList⟩
theorem k89 : FnOK Tryz.prog G 42 e89 := fk cx tn J89 (lp := P89) Tryz.func42 (by kernel_rfl) (by kernel_rfl) rfl (nk' _ (by kernel_rfl) (ni' l89_0 nr')) fun x => by kernel_rfl
def I90 : Sp := ⟨[(0, oi64), (1, .agg c'25), (2, op 65536)], [(65536, c'3)], []⟩
def E90 : SL := [(.ret, ⟨[(5, ob)], [(65536, c'3)], [65536]⟩)]
noncomputable def e90 : Fe G := ⟨I90, E90, fun x => nd9' x.1.1 x.1.2.1.1 x.1.2.1.2.1 x.1.2.1.2.2.1 x.1.2.1.2.2.2.1 x.1.2.1.2.2.2.2.1 x.1.2.1.2.2.2.2.2.1 x.1.2.1.2.2.2.2.2.2.1 x.1.2.1.2.2.2.2.2.2.2.1 x.1.2.1.2.2.2.2.2.2.2.2.1 x.1.2.1.2.2.2.2.2.2.2.2.2.1 x.1.2.1.2.2.2.2.2.2.2.2.2.2.1 x.1.2.1.2.2.2.2.2.2.2.2.2.2.2.1 x.1.2.1.2.2.2.2.2.2.2.2.2.2.2.2.1 x.1.2.1.2.2.2.2.2.2.2.2.2.2.2.2.2.1 x.1.2.1.2.2.2.2.2.2.2.2.2.2.2.2.2.2.1 x.1.2.1.2.2.2.2.2.2.2.2.2.2.2.2.2.2.2.1 x.1.2.1.2.2.2.2.2.2.2.2.2.2.2.2.2.2.2.2.1 x.1.2.1.2.2.2.2.2.2.2.2.2.2.2.2.2.2.2.2.2.1 x.1.2.1.2.2.2.2.2.2.2.2.2.2.2.2.2.2.2.2.2.2.1 x.1.2.1.2.2.2.2.2.2.2.2.2.2.2.2.2.2.2.2.2.2.2.1 x.1.2.1.2.2.2.2.2.2.2.2.2.2.2.2.2.2.2.2.2.2.2.2.1 x.1.2.1.2.2.2.2.2.2.2.2.2.2.2.2.2.2.2.2.2.2.2.2.2.1 x.1.2.1.2.2.2.2.2.2.2.2.2.2.2.2.2.2.2.2.2.2.2.2.2.2.1 x.1.2.1.2.2.2.2.2.2.2.2.2.2.2.2.2.2.2.2.2.2.2.2.2.2.2.1 x.1.2.1.2.2.2.2.2.2.2.2.2.2.2.2.2.2.2.2.2.2.2.2.2.2.2.2.1 x.1.2.1.2.2.2.2.2.2.2.2.2.2.2.2.2.2.2.2.2.2.2.2.2.2.2.2.2.1 x.1.2.1.2.2.2.2.2.2.2.2.2.2.2.2.2.2.2.2.2.2.2.2.2.2.2.2.2.2.1 x.1.2.1.2.2.2.2.2.2.2.2.2.2.2.2.2.2.2.2.2.2.2.2.2.2.2.2.2.2.2.1 x.1.2.1.2.2.2.2.2.2.2.2.2.2.2.2.2.2.2.2.2.2.2.2.2.2.2.2.2.2.2.2.1 x.1.2.1.2.2.2.2.2.2.2.2.2.2.2.2.2.2.2.2.2.2.2.2.2.2.2.2.2.2.2.2.2.1 x.1.2.1.2.2.2.2.2.2.2.2.2.2.2.2.2.2.2.2.2.2.2.2.2.2.2.2.2.2.2.2.2.2.1 x.1.2.1.2.2.2.2.2.2.2.2.2.2.2.2.2.2.2.2.2.2.2.2.2.2.2.2.2.2.2.2.2.2.2.1 x.1.2.1.2.2.2.2.2.2.2.2.2.2.2.2.2.2.2.2.2.2.2.2.2.2.2.2.2.2.2.2.2.2.2.2.1 x.1.2.1.2.2.2.2.2.2.2.2.2.2.2.2.2.2.2.2.2.2.2.2.2.2.2.2.2.2.2.2.2.2.2.2.2.1 x.1.2.1.2.2.2.2.2.2.2.2.2.2.2.2.2.2.2.2.2.2.2.2.2.2.2.2.2.2.2.2.2.2.2.2.2.2.1 x.1.2.1.2.2.2.2.2.2.2.2.2.2.2.2.2.2.2.2.2.2.2.2.2.2.2.2.2.2.2.2.2.2.2.2.2.2.2.1 x.1.2.1.2.2.2.2.2.2.2.2.2.2.2.2.2.2.2.2.2.2.2.2.2.2.2.2.2.2.2.2.2.2.2.2.2.2.2.2.1 x.1.2.1.2.2.2.2.2.2.2.2.2.2.2.2.2.2.2.2.2.2.2.2.2.2.2.2.2.2.2.2.2.2.2.2.2.2.2.2.2.1 x.1.2.1.2.2.2.2.2.2.2.2.2.2.2.2.2.2.2.2.2.2.2.2.2.2.2.2.2.2.2.2.2.2.2.2.2.2.2.2.2.2.1 x.1.2.1.2.2.2.2.2.2.2.2.2.2.2.2.2.2.2.2.2.2.2.2.2.2.2.2.2.2.2.2.2.2.2.2.2.2.2.2.2.2.2.1 x.1.2.1.2.2.2.2.2.2.2.2.2.2.2.2.2.2.2.2.2.2.2.2.2.2.2.2.2.2.2.2.2.2.2.2.2.2.2.2.2.2.2.2.1 x.2.1.1 x.2.1.2.1 x.2.1.2.2.1 x.2.1.2.2.2.1 x.2.1.2.2.2.2.1 x.2.1.2.2.2.2.2.1 x.2.1.2.2.2.2.2.2.1 x.2.1.2.2.2.2.2.2.2.1, Tryz.f41.results.toList⟩
theorem k90 : FnOK Tryz.prog G 41 e90 := fk cx (tc k89 tn) (jl []) (lp := (pl [])) Tryz.func41 (by kernel_rfl) (by kernel_rfl) rfl (an0 (by kernel_rfl)) fun x => by kernel_rfl
def I91 : Sp := ⟨[(0, oro 78), (1, oi64), (2, .one (.clo 41 [] [(65536, 0)]))], [(65536, c'3)], []⟩
def E91 : SL := [(.ret, ⟨[(6, ob)], [(65536, c'3)], [65536]⟩)]
def S91_0 : Sp := ⟨[(2, .one (.clo 41 [] [(65536, 0)])), (13, oro 78), (14, oi64), (15, oi64)], [(65536, c'3)], [65536]⟩
def X91_0 : SL := [(.exit 0, ⟨[], [(65536, c'3)], [65536]⟩), (.ret, ⟨[(6, ob)], [(65536, c'3)], [65536]⟩)]
def J91 : Nat → Option SL := jl []
noncomputable def P91 : Nat → St G → M (Ex × St G) := pl [lpX S91_0 X91_0 n9']
theorem t91 : ∀ p ∈ [(41, e90)], FnOK Tryz.prog G p.1 p.2 := (tc k90 tn)
theorem l91_0 : LoopOK Tryz.prog G 26 (P91 0) (nl' (nh' Tryz.f40) 0) := lk cx t91 J91 1 S91_0 X91_0 (rfl : n9' = _) (by kernel_rfl) (an0 (by kernel_rfl)) fun x => by kernel_rfl
noncomputable def e91 : Fe G := ⟨I91, E91, fun x => nbc' x.1.1 x.1.2.1 x.2.1.1 x.2.1.2.1 x.2.1.2.2.1 x.2.1.2.2.2.1 x.2.1.2.2.2.2.1 x.2.1.2.2.2.2.2.1 x.2.1.2.2.2.2.2.2.1 x.2.1.2.2.2.2.2.2.2.1, Tryz.f40.results.toList⟩
theorem k91 : FnOK Tryz.prog G 40 e91 := fk cx t91 J91 (lp := P91) Tryz.func40 (by kernel_rfl) (by kernel_rfl) rfl (nk' _ (by kernel_rfl) (ni' l91_0 nr')) fun x => by kernel_rfl
def I92 : Sp := ⟨[(0, oi64), (1, oi64), (2, oi64)], [], []⟩
def E92 : SL := [(.ret, ⟨[(6, ob)], [], []⟩)]
noncomputable def e92 : Fe G := ⟨I92, E92, fun x => nct' x.1.1 x.1.2.1 x.1.2.2.1, Tryz.f80.results.toList⟩
theorem k92 : FnOK Tryz.prog G 80 e92 := fk cx tn (jl [(1048577, [(.normal, ⟨[(6, ob)], [], []⟩)])]) (lp := (pl [])) Tryz.func80 (by kernel_rfl) (by kernel_rfl) rfl (an0 (by kernel_rfl)) fun x => by kernel_rfl
def I93 : Sp := ⟨[(0, .agg c'27), (1, .agg c'27)], [], []⟩
def E93 : SL := [(.ret, ⟨[(4, oi64)], [], []⟩)]
noncomputable def e93 : Fe G := ⟨I93, E93, fun x => ngx' x.1.1.1 x.1.1.2.1 x.1.1.2.2.1 x.1.2.1.1 x.1.2.1.2.1 x.1.2.1.2.2.1, Tryz.f82.results.toList⟩
theorem k93 : FnOK Tryz.prog G 82 e93 := fk cx (tc k16 (tc k17 tn)) (jl []) (lp := (pl [])) Tryz.func82 (by kernel_rfl) (by kernel_rfl) rfl (an0 (by kernel_rfl)) fun x => by kernel_rfl
def I94 : Sp := ⟨[(0, .agg c'3), (1, oi64), (2, .agg c'19)], [], []⟩
def E94 : SL := [(.ret, ⟨[(6, ob)], [], []⟩)]
def S94_0 : Sp := ⟨[(1, oi64), (3, op 48), (5, op 80), (59, oro 137), (60, oi64), (61, oi64)], [(48, c'3), (80, c'19)], []⟩
def X94_0 : SL := [(.exit 0, ⟨[], [], []⟩), (.ret, ⟨[(6, ob)], [], []⟩)]
def J94 : Nat → Option SL := jl [(1048577, [(.normal, ⟨[(1, oi64), (3, op 48), (5, op 80), (57, ob)], [(48, c'3), (80, c'19)], []⟩)]), (1048582, [(.normal, ⟨[(1, oi64), (3, op 48), (5, op 80), (59, oro 137), (60, oi64), (61, oi64), (99, ob)], [(48, c'3), (80, c'19)], []⟩)])]
noncomputable def P94 : Nat → St G → M (Ex × St G) := pl [lpX S94_0 X94_0 nfq']
theorem t94 : ∀ p ∈ [(53, e5), (80, e92), (81, e10), (82, e93)], FnOK Tryz.prog G p.1 p.2 := (tc k5 (tc k92 (tc k10 (tc k93 tn))))
theorem l94_0 : LoopOK Tryz.prog G 101 (P94 0) (nl' (nh' Tryz.f45) 0) := lk cx t94 J94 1 S94_0 X94_0 (rfl : nfq' = _) (by kernel_rfl) (an0 (by kernel_rfl)) fun x => by kernel_rfl
noncomputable def e94 : Fe G := ⟨I94, E94, fun x => ng1' x.1.1.1 x.1.1.2.1 x.1.1.2.2.1 x.1.1.2.2.2.1 x.1.1.2.2.2.2.1 x.1.1.2.2.2.2.2.1 x.1.1.2.2.2.2.2.2.1 x.1.1.2.2.2.2.2.2.2.1 x.1.2.1 x.1.2.2.1.1 x.1.2.2.1.2.1 x.1.2.2.1.2.2.1 x.1.2.2.1.2.2.2.1 x.1.2.2.1.2.2.2.2.1 x.1.2.2.1.2.2.2.2.2.1, Tryz.f45.results.toList⟩
theorem k94 : FnOK Tryz.prog G 45 e94 := fk cx t94 J94 (lp := P94) Tryz.func45 (by kernel_rfl) (by kernel_rfl) rfl (nk' _ (by kernel_rfl) (ni' l94_0 nr')) fun x => by kernel_rfl
def I95 : Sp := ⟨[(0, oi64), (1, .agg c'19), (2, op 65536)], [(65536, c'3)], []⟩
def E95 : SL := [(.ret, ⟨[(5, ob)], [(65536, c'3)], [65536]⟩)]
noncomputable def e95 : Fe G := ⟨I95, E95, fun x => nd7' x.1.1 x.1.2.1.1 x.1.2.1.2.1 x.1.2.1.2.2.1 x.1.2.1.2.2.2.1 x.1.2.1.2.2.2.2.1 x.1.2.1.2.2.2.2.2.1 x.2.1.1 x.2.1.2.1 x.2.1.2.2.1 x.2.1.2.2.2.1 x.2.1.2.2.2.2.1 x.2.1.2.2.2.2.2.1 x.2.1.2.2.2.2.2.2.1 x.2.1.2.2.2.2.2.2.2.1, Tryz.f44.results.toList⟩
theorem k95 : FnOK Tryz.prog G 44 e95 := fk cx (tc k94 tn) (jl []) (lp := (pl [])) Tryz.func44 (by kernel_rfl) (by kernel_rfl) rfl (an0 (by kernel_rfl)) fun x => by kernel_rfl
def I96 : Sp := ⟨[(0, oro 62), (1, oi64), (2, .one (.clo 44 [] [(65536, 0)]))], [(65536, c'3)], []⟩
def E96 : SL := [(.ret, ⟨[(6, ob)], [(65536, c'3)], [65536]⟩)]
def S96_0 : Sp := ⟨[(2, .one (.clo 44 [] [(65536, 0)])), (13, oro 62), (14, oi64), (15, oi64)], [(65536, c'3)], [65536]⟩
def X96_0 : SL := [(.exit 0, ⟨[], [(65536, c'3)], [65536]⟩), (.ret, ⟨[(6, ob)], [(65536, c'3)], [65536]⟩)]
def J96 : Nat → Option SL := jl []
noncomputable def P96 : Nat → St G → M (Ex × St G) := pl [lpX S96_0 X96_0 nbh']
theorem t96 : ∀ p ∈ [(44, e95)], FnOK Tryz.prog G p.1 p.2 := (tc k95 tn)
theorem l96_0 : LoopOK Tryz.prog G 26 (P96 0) (nl' (nh' Tryz.f43) 0) := lk cx t96 J96 1 S96_0 X96_0 (rfl : nbh' = _) (by kernel_rfl) (an0 (by kernel_rfl)) fun x => by kernel_rfl
noncomputable def e96 : Fe G := ⟨I96, E96, fun x => nbl' x.1.1 x.1.2.1 x.2.1.1 x.2.1.2.1 x.2.1.2.2.1 x.2.1.2.2.2.1 x.2.1.2.2.2.2.1 x.2.1.2.2.2.2.2.1 x.2.1.2.2.2.2.2.2.1 x.2.1.2.2.2.2.2.2.2.1, Tryz.f43.results.toList⟩
theorem k96 : FnOK Tryz.prog G 43 e96 := fk cx t96 J96 (lp := P96) Tryz.func43 (by kernel_rfl) (by kernel_rfl) rfl (nk' _ (by kernel_rfl) (ni' l96_0 nr')) fun x => by kernel_rfl
def I97 : Sp := ⟨[(0, .agg c'28)], [], []⟩
def E97 : SL := [(.ret, ⟨[(2, ob)], [], []⟩)]
noncomputable def e97 : Fe G := ⟨I97, E97, fun x => new' x.1.1.1 x.1.1.2.1, Tryz.f83.results.toList⟩
theorem k97 : FnOK Tryz.prog G 83 e97 := fk cx tn (jl [(1048577, [(.normal, ⟨[(2, ob)], [], []⟩)])]) (lp := (pl [])) Tryz.func83 (by kernel_rfl) (by kernel_rfl) rfl (an0 (by kernel_rfl)) fun x => by kernel_rfl
def I98 : Sp := ⟨[(0, oi64)], [], []⟩
def E98 : SL := [(.ret, ⟨[(2, ob)], [], []⟩)]
noncomputable def e98 : Fe G := ⟨I98, E98, fun x => ne1' x.1.1, Tryz.f110.results.toList⟩
theorem k98 : FnOK Tryz.prog G 110 e98 := fk cx tn (jl [(1048577, [(.normal, ⟨[(2, ob)], [], []⟩)])]) (lp := (pl [])) Tryz.func110 (by kernel_rfl) (by kernel_rfl) rfl (an0 (by kernel_rfl)) fun x => by kernel_rfl
def I99 : Sp := ⟨[(0, .agg c'29)], [], []⟩
def E99 : SL := [(.ret, ⟨[(2, ob)], [], []⟩)]
noncomputable def e99 : Fe G := ⟨I99, E99, fun x => nis' x.1.1.1 x.1.1.2.1 x.1.1.2.2.1 x.1.1.2.2.2.1 x.1.1.2.2.2.2.1, Tryz.f84.results.toList⟩
theorem k99 : FnOK Tryz.prog G 84 e99 := fk cx (tc k98 tn) (jl [(1048579, [(.normal, ⟨[(2, ob)], [], []⟩)])]) (lp := (pl [])) Tryz.func84 (by kernel_rfl) (by kernel_rfl) rfl (an0 (by kernel_rfl)) fun x => by kernel_rfl
def I100 : Sp := ⟨[(0, oi64), (1, oi64), (2, oi64)], [], []⟩
def E100 : SL := [(.ret, ⟨[(6, oi64), (7, ob)], [], []⟩)]
noncomputable def e100 : Fe G := ⟨I100, E100, fun x => nj3' x.1.1 x.1.2.1 x.1.2.2.1, Tryz.f111.results.toList⟩
theorem k100 : FnOK Tryz.prog G 111 e100 := fk cx tn (jl [(1048577, [(.normal, ⟨[(0, oi64), (1, oi64), (2, oi64), (14, ob)], [], []⟩)]), (1048580, [(.normal, ⟨[(6, oi64), (7, ob)], [], []⟩)])]) (lp := (pl [])) Tryz.func111 (by kernel_rfl) (by kernel_rfl) rfl (an0 (by kernel_rfl)) fun x => by kernel_rfl
def I101 : Sp := ⟨[(0, oi64), (1, .agg c'27)], [], []⟩
def E101 : SL := [(.ret, ⟨[(4, ob)], [], []⟩)]
noncomputable def e101 : Fe G := ⟨I101, E101, fun x => ngw' x.1.1 x.1.2.1.1 x.1.2.1.2.1 x.1.2.1.2.2.1, Tryz.f85.results.toList⟩
theorem k101 : FnOK Tryz.prog G 85 e101 := fk cx (tc k100 tn) (jl []) (lp := (pl [])) Tryz.func85 (by kernel_rfl) (by kernel_rfl) rfl (an0 (by kernel_rfl)) fun x => by kernel_rfl
def I102 : Sp := ⟨[(0, .agg c'3), (1, .agg c'30)], [], []⟩
def E102 : SL := [(.ret, ⟨[(4, ob)], [], []⟩)]
noncomputable def e102 : Fe G := ⟨I102, E102, fun x => ng5' x.1.1.1 x.1.1.2.1 x.1.1.2.2.1 x.1.1.2.2.2.1 x.1.1.2.2.2.2.1 x.1.1.2.2.2.2.2.1 x.1.1.2.2.2.2.2.2.1 x.1.1.2.2.2.2.2.2.2.1 x.1.2.1.1 x.1.2.1.2.1 x.1.2.1.2.2.1 x.1.2.1.2.2.2.1 x.1.2.1.2.2.2.2.1 x.1.2.1.2.2.2.2.2.1 x.1.2.1.2.2.2.2.2.2.1 x.1.2.1.2.2.2.2.2.2.2.1 x.1.2.1.2.2.2.2.2.2.2.2.1 x.1.2.1.2.2.2.2.2.2.2.2.2.1 x.1.2.1.2.2.2.2.2.2.2.2.2.2.1 x.1.2.1.2.2.2.2.2.2.2.2.2.2.2.1 x.1.2.1.2.2.2.2.2.2.2.2.2.2.2.2.1 x.1.2.1.2.2.2.2.2.2.2.2.2.2.2.2.2.1, Tryz.f48.results.toList⟩
theorem k102 : FnOK Tryz.prog G 48 e102 := fk cx (tc k5 (tc k97 (tc k99 (tc k101 tn)))) (jl [(1048577, [(.normal, ⟨[(2, op 32), (3, op 48), (16, ob)], [(32, c'3), (48, c'30)], []⟩)]), (1048579, [(.normal, ⟨[(2, op 32), (3, op 48), (46, ob)], [(32, c'3), (48, c'30)], []⟩)]), (1048581, [(.normal, ⟨[(4, ob)], [], []⟩)])]) (lp := (pl [])) Tryz.func48 (by kernel_rfl) (by kernel_rfl) rfl (an0 (by kernel_rfl)) fun x => by kernel_rfl
def I103 : Sp := ⟨[(0, oi64), (1, .agg c'30), (2, op 65536)], [(65536, c'3)], []⟩
def E103 : SL := [(.ret, ⟨[(5, ob)], [(65536, c'3)], [65536]⟩)]
noncomputable def e103 : Fe G := ⟨I103, E103, fun x => nd8' x.1.1 x.1.2.1.1 x.1.2.1.2.1 x.1.2.1.2.2.1 x.1.2.1.2.2.2.1 x.1.2.1.2.2.2.2.1 x.1.2.1.2.2.2.2.2.1 x.1.2.1.2.2.2.2.2.2.1 x.1.2.1.2.2.2.2.2.2.2.1 x.1.2.1.2.2.2.2.2.2.2.2.1 x.1.2.1.2.2.2.2.2.2.2.2.2.1 x.1.2.1.2.2.2.2.2.2.2.2.2.2.1 x.1.2.1.2.2.2.2.2.2.2.2.2.2.2.1 x.1.2.1.2.2.2.2.2.2.2.2.2.2.2.2.1 x.1.2.1.2.2.2.2.2.2.2.2.2.2.2.2.2.1 x.2.1.1 x.2.1.2.1 x.2.1.2.2.1 x.2.1.2.2.2.1 x.2.1.2.2.2.2.1 x.2.1.2.2.2.2.2.1 x.2.1.2.2.2.2.2.2.1 x.2.1.2.2.2.2.2.2.2.1, Tryz.f47.results.toList⟩
theorem k103 : FnOK Tryz.prog G 47 e103 := fk cx (tc k102 tn) (jl []) (lp := (pl [])) Tryz.func47 (by kernel_rfl) (by kernel_rfl) rfl (an0 (by kernel_rfl)) fun x => by kernel_rfl
def I104 : Sp := ⟨[(0, oro 71), (1, oi64), (2, .one (.clo 47 [] [(65536, 0)]))], [(65536, c'3)], []⟩
def E104 : SL := [(.ret, ⟨[(6, ob)], [(65536, c'3)], [65536]⟩)]
def n1h' : Sp := ⟨[(2, .one (.clo 47 [] [(65536, 0)])), (13, oro 71), (14, oi64), (15, oi64)], [(65536, c'3)], [65536]⟩
def n2f' : SL := [(.exit 0, ⟨[], [(65536, c'3)], [65536]⟩), (.ret, ⟨[(6, ob)], [(65536, c'3)], [65536]⟩)]
def J104 : Nat → Option SL := jl []
noncomputable def P104 : Nat → St G → M (Ex × St G) := pl [lpX n1h' n2f' nbi']
theorem t104 : ∀ p ∈ [(47, e103)], FnOK Tryz.prog G p.1 p.2 := (tc k103 tn)
theorem n5q' : LoopOK Tryz.prog G 26 (P104 0) (nl' (nh' Tryz.f46) 0) := lk cx t104 J104 1 n1h' n2f' (rfl : nbi' = _) (by kernel_rfl) (an0 (by kernel_rfl)) fun x => by kernel_rfl
noncomputable def e104 : Fe G := ⟨I104, E104, fun x => nbk' x.1.1 x.1.2.1 x.2.1.1 x.2.1.2.1 x.2.1.2.2.1 x.2.1.2.2.2.1 x.2.1.2.2.2.2.1 x.2.1.2.2.2.2.2.1 x.2.1.2.2.2.2.2.2.1 x.2.1.2.2.2.2.2.2.2.1, Tryz.f46.results.toList⟩
theorem k104 : FnOK Tryz.prog G 46 e104 := fk cx t104 J104 (lp := P104) Tryz.func46 (by kernel_rfl) (by kernel_rfl) rfl (nk' _ (by kernel_rfl) (ni' n5q' nr')) fun x => by kernel_rfl
def I105 : Sp := ⟨[(0, oi64), (1, .agg [.int .i64])], [], []⟩
def E105 : SL := [(.ret, ⟨[(4, ob)], [], []⟩)]
noncomputable def e105 : Fe G := ⟨I105, E105, fun x => nf8' x.1.1 x.1.2.1.1, Tryz.f50.results.toList⟩
theorem k105 : FnOK Tryz.prog G 50 e105 := fk cx tn (jl [(1048577, [(.normal, ⟨[(4, ob)], [], []⟩)])]) (lp := (pl [])) Tryz.func50 (by kernel_rfl) (by kernel_rfl) rfl (an0 (by kernel_rfl)) fun x => by kernel_rfl
def I106 : Sp := ⟨[(0, oro 80), (1, oi64), (2, .one (.clo 50 [] []))], [], []⟩
def E106 : SL := [(.ret, ⟨[(6, ob)], [], []⟩)]
def n25' : Sp := ⟨[(2, .one (.clo 50 [] [])), (13, oro 80), (14, oi64), (15, oi64)], [], []⟩
def n2p' : SL := [(.exit 0, ⟨[], [], []⟩), (.ret, ⟨[(6, ob)], [], []⟩)]
def J106 : Nat → Option SL := jl []
noncomputable def P106 : Nat → St G → M (Ex × St G) := pl [lpX n25' n2p' nbp']
theorem t106 : ∀ p ∈ [(50, e105)], FnOK Tryz.prog G p.1 p.2 := (tc k105 tn)
theorem n58' : LoopOK Tryz.prog G 26 (P106 0) (nl' (nh' Tryz.f49) 0) := lk cx t106 J106 1 n25' n2p' (rfl : nbp' = _) (by kernel_rfl) (an0 (by kernel_rfl)) fun x => by kernel_rfl
noncomputable def e106 : Fe G := ⟨I106, E106, fun x => nbt' x.1.1 x.1.2.1, Tryz.f49.results.toList⟩
theorem k106 : FnOK Tryz.prog G 49 e106 := fk cx t106 J106 (lp := P106) Tryz.func49 (by kernel_rfl) (by kernel_rfl) rfl (nk' _ (by kernel_rfl) (ni' n58' nr')) fun x => by kernel_rfl
def I107 : Sp := ⟨[(0, .agg c'3), (1, .agg c'20)], [], []⟩
def E107 : SL := [(.ret, ⟨[(4, ob)], [], []⟩)]
noncomputable def e107 : Fe G := ⟨I107, E107, fun x => nbr' x.1.1.1 x.1.1.2.1 x.1.1.2.2.1 x.1.1.2.2.2.1 x.1.1.2.2.2.2.1 x.1.1.2.2.2.2.2.1 x.1.1.2.2.2.2.2.2.1 x.1.1.2.2.2.2.2.2.2.1 x.1.2.1.1 x.1.2.1.2.1 x.1.2.1.2.2.1 x.1.2.1.2.2.2.1 x.1.2.1.2.2.2.2.1 x.1.2.1.2.2.2.2.2.1 x.1.2.1.2.2.2.2.2.2.1 x.1.2.1.2.2.2.2.2.2.2.1 x.1.2.1.2.2.2.2.2.2.2.2.1 x.1.2.1.2.2.2.2.2.2.2.2.2.1 x.1.2.1.2.2.2.2.2.2.2.2.2.2.1 x.1.2.1.2.2.2.2.2.2.2.2.2.2.2.1 x.1.2.1.2.2.2.2.2.2.2.2.2.2.2.2.1 x.1.2.1.2.2.2.2.2.2.2.2.2.2.2.2.2.1 x.1.2.1.2.2.2.2.2.2.2.2.2.2.2.2.2.2.1 x.1.2.1.2.2.2.2.2.2.2.2.2.2.2.2.2.2.2.1, Tryz.f14.results.toList⟩
theorem k107 : FnOK Tryz.prog G 14 e107 := fk cx (tc k45 (tc k25 (tc k88 (tc k91 (tc k96 (tc k104 (tc k106 tn))))))) (jl [(1048584, [(.normal, ⟨[(4, ob)], [], []⟩)])]) (lp := (pl [])) Tryz.func14 (by kernel_rfl) (by kernel_rfl) rfl (an0 (by kernel_rfl)) fun x => by kernel_rfl
def I108 : Sp := ⟨[(0, .agg c'8), (1, oro 3)], [], []⟩
def E108 : SL := [(.ret, ⟨[(4, ob)], [], []⟩)]
def n3h' : Sp := ⟨[(1, oro 3), (2, op 32), (5, oi64)], [(32, c'8)], []⟩
def n1g' : SL := [(.exit 0, ⟨[(1, oro 3), (2, op 32)], [(32, c'8)], []⟩), (.ret, ⟨[(4, ob)], [], []⟩)]
def J108 : Nat → Option SL := jl []
noncomputable def P108 : Nat → St G → M (Ex × St G) := pl [lpX n3h' n1g' ng6']
theorem n57' : LoopOK Tryz.prog G 30 (P108 0) (nl' (nh' Tryz.f55) 0) := lk cx tn J108 1 n3h' n1g' (rfl : ng6' = _) (by kernel_rfl) (an0 (by kernel_rfl)) fun x => by kernel_rfl
noncomputable def e108 : Fe G := ⟨I108, E108, fun x => niu' x.1.1.1 x.1.1.2.1 x.1.1.2.2.1 x.1.1.2.2.2.1 x.1.2.1, Tryz.f55.results.toList⟩
theorem k108 : FnOK Tryz.prog G 55 e108 := fk cx tn J108 (lp := P108) Tryz.func55 (by kernel_rfl) (by kernel_rfl) rfl (nk' _ (by kernel_rfl) (ni' n57' nr')) fun x => by kernel_rfl
def I109 : Sp := ⟨[(0, oi64)], [], []⟩
def E109 : SL := [(.ret, ⟨[(2, ob)], [], []⟩)]
noncomputable def e109 : Fe G := ⟨I109, E109, fun x => nhi' x.1.1, Tryz.f56.results.toList⟩
theorem k109 : FnOK Tryz.prog G 56 e109 := fk cx tn (jl [(1048577, [(.normal, ⟨[(2, ob)], [], []⟩)])]) (lp := (pl [])) Tryz.func56 (by kernel_rfl) (by kernel_rfl) rfl (an0 (by kernel_rfl)) fun x => by kernel_rfl
def I110 : Sp := ⟨[(0, oi64), (1, .agg c'25)], [], []⟩
def E110 : SL := [(.ret, ⟨[(4, ob)], [], []⟩)]
def n2m' : Sp := ⟨[(0, oi64), (3, op 48), (5, oi64)], [(48, c'25)], []⟩
def n28' : SL := [(.exit 0, ⟨[], [], []⟩), (.ret, ⟨[(4, ob)], [], []⟩)]
def J110 : Nat → Option SL := jl []
noncomputable def P110 : Nat → St G → M (Ex × St G) := pl [lpX n2m' n28' nh0']
theorem n50' : LoopOK Tryz.prog G 29 (P110 0) (nl' (nh' Tryz.f57) 0) := lk cx tn J110 1 n2m' n28' (rfl : nh0' = _) (by kernel_rfl) (an0 (by kernel_rfl)) fun x => by kernel_rfl
noncomputable def e110 : Fe G := ⟨I110, E110, fun x => ni7' x.1.1 x.1.2.1.1 x.1.2.1.2.1 x.1.2.1.2.2.1 x.1.2.1.2.2.2.1 x.1.2.1.2.2.2.2.1 x.1.2.1.2.2.2.2.2.1 x.1.2.1.2.2.2.2.2.2.1 x.1.2.1.2.2.2.2.2.2.2.1 x.1.2.1.2.2.2.2.2.2.2.2.1 x.1.2.1.2.2.2.2.2.2.2.2.2.1 x.1.2.1.2.2.2.2.2.2.2.2.2.2.1 x.1.2.1.2.2.2.2.2.2.2.2.2.2.2.1 x.1.2.1.2.2.2.2.2.2.2.2.2.2.2.2.1 x.1.2.1.2.2.2.2.2.2.2.2.2.2.2.2.2.1 x.1.2.1.2.2.2.2.2.2.2.2.2.2.2.2.2.2.1 x.1.2.1.2.2.2.2.2.2.2.2.2.2.2.2.2.2.2.1 x.1.2.1.2.2.2.2.2.2.2.2.2.2.2.2.2.2.2.2.1 x.1.2.1.2.2.2.2.2.2.2.2.2.2.2.2.2.2.2.2.2.1 x.1.2.1.2.2.2.2.2.2.2.2.2.2.2.2.2.2.2.2.2.2.1 x.1.2.1.2.2.2.2.2.2.2.2.2.2.2.2.2.2.2.2.2.2.2.1 x.1.2.1.2.2.2.2.2.2.2.2.2.2.2.2.2.2.2.2.2.2.2.2.1 x.1.2.1.2.2.2.2.2.2.2.2.2.2.2.2.2.2.2.2.2.2.2.2.2.1 x.1.2.1.2.2.2.2.2.2.2.2.2.2.2.2.2.2.2.2.2.2.2.2.2.2.1 x.1.2.1.2.2.2.2.2.2.2.2.2.2.2.2.2.2.2.2.2.2.2.2.2.2.2.1 x.1.2.1.2.2.2.2.2.2.2.2.2.2.2.2.2.2.2.2.2.2.2.2.2.2.2.2.1 x.1.2.1.2.2.2.2.2.2.2.2.2.2.2.2.2.2.2.2.2.2.2.2.2.2.2.2.2.1 x.1.2.1.2.2.2.2.2.2.2.2.2.2.2.2.2.2.2.2.2.2.2.2.2.2.2.2.2.2.1 x.1.2.1.2.2.2.2.2.2.2.2.2.2.2.2.2.2.2.2.2.2.2.2.2.2.2.2.2.2.2.1 x.1.2.1.2.2.2.2.2.2.2.2.2.2.2.2.2.2.2.2.2.2.2.2.2.2.2.2.2.2.2.2.1 x.1.2.1.2.2.2.2.2.2.2.2.2.2.2.2.2.2.2.2.2.2.2.2.2.2.2.2.2.2.2.2.2.1 x.1.2.1.2.2.2.2.2.2.2.2.2.2.2.2.2.2.2.2.2.2.2.2.2.2.2.2.2.2.2.2.2.2.1 x.1.2.1.2.2.2.2.2.2.2.2.2.2.2.2.2.2.2.2.2.2.2.2.2.2.2.2.2.2.2.2.2.2.2.1 x.1.2.1.2.2.2.2.2.2.2.2.2.2.2.2.2.2.2.2.2.2.2.2.2.2.2.2.2.2.2.2.2.2.2.2.1 x.1.2.1.2.2.2.2.2.2.2.2.2.2.2.2.2.2.2.2.2.2.2.2.2.2.2.2.2.2.2.2.2.2.2.2.2.1 x.1.2.1.2.2.2.2.2.2.2.2.2.2.2.2.2.2.2.2.2.2.2.2.2.2.2.2.2.2.2.2.2.2.2.2.2.2.1 x.1.2.1.2.2.2.2.2.2.2.2.2.2.2.2.2.2.2.2.2.2.2.2.2.2.2.2.2.2.2.2.2.2.2.2.2.2.2.1 x.1.2.1.2.2.2.2.2.2.2.2.2.2.2.2.2.2.2.2.2.2.2.2.2.2.2.2.2.2.2.2.2.2.2.2.2.2.2.2.1 x.1.2.1.2.2.2.2.2.2.2.2.2.2.2.2.2.2.2.2.2.2.2.2.2.2.2.2.2.2.2.2.2.2.2.2.2.2.2.2.2.1 x.1.2.1.2.2.2.2.2.2.2.2.2.2.2.2.2.2.2.2.2.2.2.2.2.2.2.2.2.2.2.2.2.2.2.2.2.2.2.2.2.2.1 x.1.2.1.2.2.2.2.2.2.2.2.2.2.2.2.2.2.2.2.2.2.2.2.2.2.2.2.2.2.2.2.2.2.2.2.2.2.2.2.2.2.2.1 x.1.2.1.2.2.2.2.2.2.2.2.2.2.2.2.2.2.2.2.2.2.2.2.2.2.2.2.2.2.2.2.2.2.2.2.2.2.2.2.2.2.2.2.1, Tryz.f57.results.toList⟩
theorem k110 : FnOK Tryz.prog G 57 e110 := fk cx tn J110 (lp := P110) Tryz.func57 (by kernel_rfl) (by kernel_rfl) rfl (nk' _ (by kernel_rfl) (ni' n50' nr')) fun x => by kernel_rfl
def I111 : Sp := ⟨[(0, oi64), (1, oi64), (2, oi64)], [], []⟩
def E111 : SL := [(.ret, ⟨[(6, ob)], [], []⟩)]
noncomputable def e111 : Fe G := ⟨I111, E111, fun x => ngy' x.1.1 x.1.2.1 x.1.2.2.1, Tryz.f96.results.toList⟩
theorem k111 : FnOK Tryz.prog G 96 e111 := fk cx tn (jl [(1048577, [(.normal, ⟨[(6, ob)], [], []⟩)])]) (lp := (pl [])) Tryz.func96 (by kernel_rfl) (by kernel_rfl) rfl (an0 (by kernel_rfl)) fun x => by kernel_rfl
def I112 : Sp := ⟨[(0, .agg c'3), (1, oi64), (2, .agg c'19)], [], []⟩
def E112 : SL := [(.ret, ⟨[(6, ob)], [], []⟩)]
def n21' : Sp := ⟨[(1, oi64), (3, op 48), (5, op 80), (7, oi64)], [(48, c'3), (80, c'19)], []⟩
def n3d' : SL := [(.exit 0, ⟨[], [], []⟩), (.ret, ⟨[(6, ob)], [], []⟩)]
def J112 : Nat → Option SL := jl [(1048577, [(.normal, ⟨[(1, oi64), (3, op 48), (5, op 80), (57, ob)], [(48, c'3), (80, c'19)], []⟩)]), (1048585, [(.normal, ⟨[(1, oi64), (3, op 48), (5, op 80), (7, oi64), (115, ob)], [(48, c'3), (80, c'19)], []⟩)])]
noncomputable def P112 : Nat → St G → M (Ex × St G) := pl [lpX n21' n3d' nh3']
theorem t112 : ∀ p ∈ [(54, e69), (96, e111), (72, e72)], FnOK Tryz.prog G p.1 p.2 := (tc k69 (tc k111 (tc k72 tn)))
theorem n63' : LoopOK Tryz.prog G 116 (P112 0) (nl' (nh' Tryz.f58) 0) := lk cx t112 J112 1 n21' n3d' (rfl : nh3' = _) (by kernel_rfl) (an0 (by kernel_rfl)) fun x => by kernel_rfl
noncomputable def e112 : Fe G := ⟨I112, E112, fun x => njh' x.1.1.1 x.1.1.2.1 x.1.1.2.2.1 x.1.1.2.2.2.1 x.1.1.2.2.2.2.1 x.1.1.2.2.2.2.2.1 x.1.1.2.2.2.2.2.2.1 x.1.1.2.2.2.2.2.2.2.1 x.1.2.1 x.1.2.2.1.1 x.1.2.2.1.2.1 x.1.2.2.1.2.2.1 x.1.2.2.1.2.2.2.1 x.1.2.2.1.2.2.2.2.1 x.1.2.2.1.2.2.2.2.2.1, Tryz.f58.results.toList⟩
theorem k112 : FnOK Tryz.prog G 58 e112 := fk cx t112 J112 (lp := P112) Tryz.func58 (by kernel_rfl) (by kernel_rfl) rfl (nk' _ (by kernel_rfl) (ni' n63' nr')) fun x => by kernel_rfl
def I113 : Sp := ⟨[(0, .agg c'28)], [], []⟩
def E113 : SL := [(.ret, ⟨[(2, ob)], [], []⟩)]
noncomputable def e113 : Fe G := ⟨I113, E113, fun x => ni2' x.1.1.1 x.1.1.2.1, Tryz.f97.results.toList⟩
theorem k113 : FnOK Tryz.prog G 97 e113 := fk cx tn (jl [(1048577, [(.normal, ⟨[(2, ob)], [], []⟩)])]) (lp := (pl [])) Tryz.func97 (by kernel_rfl) (by kernel_rfl) rfl (an0 (by kernel_rfl)) fun x => by kernel_rfl
def I114 : Sp := ⟨[(0, oi64)], [], []⟩
def E114 : SL := [(.ret, ⟨[(2, ob)], [], []⟩)]
noncomputable def e114 : Fe G := ⟨I114, E114, fun x => nkv' x.1.1, Tryz.f128.results.toList⟩
theorem k114 : FnOK Tryz.prog G 128 e114 := fk cx tn (jl [(1048577, [(.normal, ⟨[(2, ob)], [], []⟩)])]) (lp := (pl [])) Tryz.func128 (by kernel_rfl) (by kernel_rfl) rfl (an0 (by kernel_rfl)) fun x => by kernel_rfl
def I115 : Sp := ⟨[(0, .agg c'29)], [], []⟩
def E115 : SL := [(.ret, ⟨[(2, ob)], [], []⟩)]
noncomputable def e115 : Fe G := ⟨I115, E115, fun x => ni8' x.1.1.1 x.1.1.2.1 x.1.1.2.2.1 x.1.1.2.2.2.1 x.1.1.2.2.2.2.1, Tryz.f98.results.toList⟩
theorem k115 : FnOK Tryz.prog G 98 e115 := fk cx (tc k114 tn) (jl [(1048579, [(.normal, ⟨[(2, ob)], [], []⟩)])]) (lp := (pl [])) Tryz.func98 (by kernel_rfl) (by kernel_rfl) rfl (an0 (by kernel_rfl)) fun x => by kernel_rfl
def I116 : Sp := ⟨[(0, oi64), (1, oi64)], [], []⟩
def E116 : SL := [(.ret, ⟨[(4, ob)], [], []⟩)]
noncomputable def e116 : Fe G := ⟨I116, E116, fun x => nfy' x.1.1 x.1.2.1, Tryz.f129.results.toList⟩
theorem k116 : FnOK Tryz.prog G 129 e116 := fk cx tn (jl [(1048577, [(.normal, ⟨[(4, ob)], [], []⟩)])]) (lp := (pl [])) Tryz.func129 (by kernel_rfl) (by kernel_rfl) rfl (an0 (by kernel_rfl)) fun x => by kernel_rfl
def I117 : Sp := ⟨[(0, .agg c'27)], [], []⟩
def E117 : SL := [(.ret, ⟨[(2, oi64)], [], []⟩)]
noncomputable def e117 : Fe G := ⟨I117, E117, fun x => nib' x.1.1.1 x.1.1.2.1 x.1.1.2.2.1, Tryz.f130.results.toList⟩
theorem k117 : FnOK Tryz.prog G 130 e117 := fk cx tn (jl []) (lp := (pl [])) Tryz.func130 (by kernel_rfl) (by kernel_rfl) rfl (an0 (by kernel_rfl)) fun x => by kernel_rfl
def I118 : Sp := ⟨[(0, oi64), (1, .agg c'27)], [], []⟩
def E118 : SL := [(.ret, ⟨[(4, ob)], [], []⟩)]
noncomputable def e118 : Fe G := ⟨I118, E118, fun x => ni3' x.1.1 x.1.2.1.1 x.1.2.1.2.1 x.1.2.1.2.2.1, Tryz.f99.results.toList⟩
theorem k118 : FnOK Tryz.prog G 99 e118 := fk cx (tc k116 (tc k117 tn)) (jl [(1048584, [(.normal, ⟨[(4, ob)], [], []⟩)])]) (lp := (pl [])) Tryz.func99 (by kernel_rfl) (by kernel_rfl) rfl (an0 (by kernel_rfl)) fun x => by kernel_rfl
def I119 : Sp := ⟨[(0, .agg c'3), (1, .agg c'30)], [], []⟩
def E119 : SL := [(.ret, ⟨[(4, ob)], [], []⟩)]
noncomputable def e119 : Fe G := ⟨I119, E119, fun x => njj' x.1.1.1 x.1.1.2.1 x.1.1.2.2.1 x.1.1.2.2.2.1 x.1.1.2.2.2.2.1 x.1.1.2.2.2.2.2.1 x.1.1.2.2.2.2.2.2.1 x.1.1.2.2.2.2.2.2.2.1 x.1.2.1.1 x.1.2.1.2.1 x.1.2.1.2.2.1 x.1.2.1.2.2.2.1 x.1.2.1.2.2.2.2.1 x.1.2.1.2.2.2.2.2.1 x.1.2.1.2.2.2.2.2.2.1 x.1.2.1.2.2.2.2.2.2.2.1 x.1.2.1.2.2.2.2.2.2.2.2.1 x.1.2.1.2.2.2.2.2.2.2.2.2.1 x.1.2.1.2.2.2.2.2.2.2.2.2.2.1 x.1.2.1.2.2.2.2.2.2.2.2.2.2.2.1 x.1.2.1.2.2.2.2.2.2.2.2.2.2.2.2.1 x.1.2.1.2.2.2.2.2.2.2.2.2.2.2.2.2.1, Tryz.f59.results.toList⟩
theorem k119 : FnOK Tryz.prog G 59 e119 := fk cx (tc k69 (tc k113 (tc k115 (tc k118 tn)))) (jl [(1048581, [(.normal, ⟨[(2, op 32), (3, op 48), (42, ob)], [(32, c'3), (48, c'30)], []⟩)]), (1048583, [(.normal, ⟨[(4, ob)], [], []⟩)])]) (lp := (pl [])) Tryz.func59 (by kernel_rfl) (by kernel_rfl) rfl (an0 (by kernel_rfl)) fun x => by kernel_rfl
def I120 : Sp := ⟨[(0, .agg c'3), (1, .agg c'20)], [], []⟩
def E120 : SL := [(.ret, ⟨[(4, ob)], [], []⟩)]
def n2x' : Sp := ⟨[(2, op 32), (3, op 48), (5, oi64), (6, oi64)], [(32, c'3), (48, c'20)], []⟩
def n3j' : SL := [(.exit 0, ⟨[], [], []⟩), (.ret, ⟨[(4, ob)], [], []⟩)]
def J120 : Nat → Option SL := jl []
noncomputable def P120 : Nat → St G → M (Ex × St G) := pl [lpX n2x' n3j' nf4']
theorem t120 : ∀ p ∈ [(54, e69), (33, e81), (34, e82), (55, e108), (56, e109), (57, e110), (58, e112), (59, e119)], FnOK Tryz.prog G p.1 p.2 := (tc k69 (tc k81 (tc k82 (tc k108 (tc k109 (tc k110 (tc k112 (tc k119 tn))))))))
theorem n6r' : LoopOK Tryz.prog G 142 (P120 0) (nl' (nh' Tryz.f19) 0) := lk cx t120 J120 1 n2x' n3j' (rfl : nf4' = _) (by kernel_rfl) (an0 (by kernel_rfl)) fun x => by kernel_rfl
noncomputable def e120 : Fe G := ⟨I120, E120, fun x => neo' x.1.1.1 x.1.1.2.1 x.1.1.2.2.1 x.1.1.2.2.2.1 x.1.1.2.2.2.2.1 x.1.1.2.2.2.2.2.1 x.1.1.2.2.2.2.2.2.1 x.1.1.2.2.2.2.2.2.2.1 x.1.2.1.1 x.1.2.1.2.1 x.1.2.1.2.2.1 x.1.2.1.2.2.2.1 x.1.2.1.2.2.2.2.1 x.1.2.1.2.2.2.2.2.1 x.1.2.1.2.2.2.2.2.2.1 x.1.2.1.2.2.2.2.2.2.2.1 x.1.2.1.2.2.2.2.2.2.2.2.1 x.1.2.1.2.2.2.2.2.2.2.2.2.1 x.1.2.1.2.2.2.2.2.2.2.2.2.2.1 x.1.2.1.2.2.2.2.2.2.2.2.2.2.2.1 x.1.2.1.2.2.2.2.2.2.2.2.2.2.2.2.1 x.1.2.1.2.2.2.2.2.2.2.2.2.2.2.2.2.1 x.1.2.1.2.2.2.2.2.2.2.2.2.2.2.2.2.2.1 x.1.2.1.2.2.2.2.2.2.2.2.2.2.2.2.2.2.2.1, Tryz.f19.results.toList⟩
theorem k120 : FnOK Tryz.prog G 19 e120 := fk cx t120 J120 (lp := P120) Tryz.func19 (by kernel_rfl) (by kernel_rfl) rfl (nk' _ (by kernel_rfl) (ni' n6r' nr')) fun x => by kernel_rfl
def I121 : Sp := ⟨[(0, .agg c'8), (1, .agg c'8)], [], []⟩
def E121 : SL := [(.ret, ⟨[(4, ob)], [], []⟩)]
def n1b' : Sp := ⟨[(2, op 32), (3, op 48), (5, oi64)], [(32, c'8), (48, c'8)], []⟩
def n08' : SL := [(.exit 0, ⟨[(2, op 32), (3, op 48)], [(32, c'8), (48, c'8)], []⟩), (.ret, ⟨[(4, ob)], [], []⟩)]
def n1t' : Sp := ⟨[(2, op 32), (3, op 48), (6, oi64)], [(32, c'8), (48, c'8)], []⟩
def n0t' : SL := [(.exit 2, ⟨[(2, op 32), (3, op 48)], [(32, c'8), (48, c'8)], []⟩), (.ret, ⟨[(4, ob)], [], []⟩)]
def n3o' : Sp := ⟨[(2, op 32), (3, op 48), (7, oi64)], [(32, c'8), (48, c'8)], []⟩
def n3k' : SL := [(.exit 4, ⟨[(2, op 32), (3, op 48)], [(32, c'8), (48, c'8)], []⟩), (.ret, ⟨[(4, ob)], [], []⟩)]
def n3c' : Sp := ⟨[(2, op 32), (3, op 48), (8, oi64)], [(32, c'8), (48, c'8)], []⟩
def n1k' : SL := [(.exit 6, ⟨[], [], []⟩), (.ret, ⟨[(4, ob)], [], []⟩)]
def J121 : Nat → Option SL := jl []
noncomputable def P121 : Nat → St G → M (Ex × St G) := pl [lpX n1b' n08' nkc', lpX n1t' n0t' nj7', lpX n3o' n3k' nke', lpX n3c' n1k' nj6']
theorem n6z' : LoopOK Tryz.prog G 115 (P121 3) (nl' (nh' Tryz.f21) 3) := lk cx tn J121 4 n3c' n1k' (rfl : nj6' = _) (by kernel_rfl) (an0 (by kernel_rfl)) fun x => by kernel_rfl
theorem n54' : LoopOK Tryz.prog G 115 (P121 2) (nl' (nh' Tryz.f21) 2) := lk cx tn J121 3 n3o' n3k' (rfl : nke' = _) (by kernel_rfl) (an0 (by kernel_rfl)) fun x => by kernel_rfl
theorem n5r' : LoopOK Tryz.prog G 115 (P121 1) (nl' (nh' Tryz.f21) 1) := lk cx tn J121 2 n1t' n0t' (rfl : nj7' = _) (by kernel_rfl) (an0 (by kernel_rfl)) fun x => by kernel_rfl
theorem n6w' : LoopOK Tryz.prog G 115 (P121 0) (nl' (nh' Tryz.f21) 0) := lk cx tn J121 1 n1b' n08' (rfl : nkc' = _) (by kernel_rfl) (an0 (by kernel_rfl)) fun x => by kernel_rfl
noncomputable def e121 : Fe G := ⟨I121, E121, fun x => nl5' x.1.1.1 x.1.1.2.1 x.1.1.2.2.1 x.1.1.2.2.2.1 x.1.2.1.1 x.1.2.1.2.1 x.1.2.1.2.2.1 x.1.2.1.2.2.2.1, Tryz.f21.results.toList⟩
theorem k121 : FnOK Tryz.prog G 21 e121 := fk cx tn J121 (lp := P121) Tryz.func21 (by kernel_rfl) (by kernel_rfl) rfl (nk' _ (by kernel_rfl) (ni' n6w' (ni' n5r' (ni' n54' (ni' n6z' nr'))))) fun x => by kernel_rfl
def I122 : Sp := ⟨[(0, oro 82), (1, oro 82)], [], []⟩
def E122 : SL := [(.ret, ⟨[(4, ob)], [], []⟩)]
def n23' : Sp := ⟨[(0, oro 82), (1, oro 82), (5, oi64)], [], []⟩
def n2v' : SL := [(.exit 0, ⟨[], [], []⟩), (.ret, ⟨[(4, ob)], [], []⟩)]
def J122 : Nat → Option SL := jl []
noncomputable def P122 : Nat → St G → M (Ex × St G) := pl [lpX n23' n2v' nf5']
theorem n55' : LoopOK Tryz.prog G 26 (P122 0) (nl' (nh' Tryz.f36) 0) := lk cx tn J122 1 n23' n2v' (rfl : nf5' = _) (by kernel_rfl) (an0 (by kernel_rfl)) fun x => by kernel_rfl
noncomputable def e122 : Fe G := ⟨I122, E122, fun x => nhz' x.1.1 x.1.2.1, Tryz.f36.results.toList⟩
theorem k122 : FnOK Tryz.prog G 36 e122 := fk cx tn J122 (lp := P122) Tryz.func36 (by kernel_rfl) (by kernel_rfl) rfl (nk' _ (by kernel_rfl) (ni' n55' nr')) fun x => by kernel_rfl
def I123 : Sp := ⟨[(0, oro 3), (1, oro 3)], [], []⟩
def E123 : SL := [(.ret, ⟨[(4, ob)], [], []⟩)]
def n0z' : Sp := ⟨[(0, oro 3), (1, oro 3), (5, oi64)], [], []⟩
def n13' : SL := [(.exit 0, ⟨[], [], []⟩), (.ret, ⟨[(4, ob)], [], []⟩)]
def J123 : Nat → Option SL := jl []
noncomputable def P123 : Nat → St G → M (Ex × St G) := pl [lpX n0z' n13' ngz']
theorem n6d' : LoopOK Tryz.prog G 26 (P123 0) (nl' (nh' Tryz.f37) 0) := lk cx tn J123 1 n0z' n13' (rfl : ngz' = _) (by kernel_rfl) (an0 (by kernel_rfl)) fun x => by kernel_rfl
noncomputable def e123 : Fe G := ⟨I123, E123, fun x => nir' x.1.1 x.1.2.1, Tryz.f37.results.toList⟩
theorem k123 : FnOK Tryz.prog G 37 e123 := fk cx tn J123 (lp := P123) Tryz.func37 (by kernel_rfl) (by kernel_rfl) rfl (nk' _ (by kernel_rfl) (ni' n6d' nr')) fun x => by kernel_rfl
def I124 : Sp := ⟨[(0, .agg c'19), (1, .agg c'19)], [], []⟩
def E124 : SL := [(.ret, ⟨[(4, ob)], [], []⟩)]
def n2s' : Sp := ⟨[(2, op 32), (3, op 48), (5, oi64)], [(32, c'19), (48, c'19)], []⟩
def n24' : SL := [(.exit 0, ⟨[], [], []⟩), (.ret, ⟨[(4, ob)], [], []⟩)]
def J124 : Nat → Option SL := jl []
noncomputable def P124 : Nat → St G → M (Ex × St G) := pl [lpX n2s' n24' nkp']
theorem n6o' : LoopOK Tryz.prog G 66 (P124 0) (nl' (nh' Tryz.f38) 0) := lk cx tn J124 1 n2s' n24' (rfl : nkp' = _) (by kernel_rfl) (an0 (by kernel_rfl)) fun x => by kernel_rfl
noncomputable def e124 : Fe G := ⟨I124, E124, fun x => nl7' x.1.1.1 x.1.1.2.1 x.1.1.2.2.1 x.1.1.2.2.2.1 x.1.1.2.2.2.2.1 x.1.1.2.2.2.2.2.1 x.1.2.1.1 x.1.2.1.2.1 x.1.2.1.2.2.1 x.1.2.1.2.2.2.1 x.1.2.1.2.2.2.2.1 x.1.2.1.2.2.2.2.2.1, Tryz.f38.results.toList⟩
theorem k124 : FnOK Tryz.prog G 38 e124 := fk cx tn J124 (lp := P124) Tryz.func38 (by kernel_rfl) (by kernel_rfl) rfl (nk' _ (by kernel_rfl) (ni' n6o' nr')) fun x => by kernel_rfl
def I125 : Sp := ⟨[(0, .agg c'20), (1, .agg c'20)], [], []⟩
def E125 : SL := [(.ret, ⟨[(4, ob)], [], []⟩)]
def n1i' : Sp := ⟨[(2, op 32), (3, op 48), (5, oi64)], [(32, c'20), (48, c'20)], []⟩
def n29' : SL := [(.exit 0, ⟨[(2, op 32), (3, op 48)], [(32, c'20), (48, c'20)], []⟩), (.ret, ⟨[(4, ob)], [], []⟩)]
def n3b' : Sp := ⟨[(2, op 32), (3, op 48), (6, oi64)], [(32, c'20), (48, c'20)], []⟩
def n1l' : SL := [(.exit 2, ⟨[(2, op 32), (3, op 48)], [(32, c'20), (48, c'20)], []⟩), (.ret, ⟨[(4, ob)], [], []⟩)]
def n18' : Sp := ⟨[(2, op 32), (3, op 48), (7, oi64)], [(32, c'20), (48, c'20)], []⟩
def n2c' : SL := [(.exit 4, ⟨[(2, op 32), (3, op 48)], [(32, c'20), (48, c'20)], []⟩), (.ret, ⟨[(4, ob)], [], []⟩)]
def n02' : Sp := ⟨[(2, op 32), (3, op 48), (8, oi64)], [(32, c'20), (48, c'20)], []⟩
def n11' : SL := [(.exit 6, ⟨[], [], []⟩), (.ret, ⟨[(4, ob)], [], []⟩)]
def J125 : Nat → Option SL := jl []
noncomputable def P125 : Nat → St G → M (Ex × St G) := pl [lpX n1i' n29' nkd', lpX n3b' n1l' nki', lpX n18' n2c' nkg', lpX n02' n11' nj0']
theorem t125 : ∀ p ∈ [(21, e121), (36, e122), (37, e123), (38, e124)], FnOK Tryz.prog G p.1 p.2 := (tc k121 (tc k122 (tc k123 (tc k124 tn))))
theorem n5u' : LoopOK Tryz.prog G 168 (P125 3) (nl' (nh' Tryz.f13) 3) := lk cx t125 J125 4 n02' n11' (rfl : nj0' = _) (by kernel_rfl) (an0 (by kernel_rfl)) fun x => by kernel_rfl
theorem n6e' : LoopOK Tryz.prog G 168 (P125 2) (nl' (nh' Tryz.f13) 2) := lk cx t125 J125 3 n18' n2c' (rfl : nkg' = _) (by kernel_rfl) (an0 (by kernel_rfl)) fun x => by kernel_rfl
theorem n6b' : LoopOK Tryz.prog G 168 (P125 1) (nl' (nh' Tryz.f13) 1) := lk cx t125 J125 2 n3b' n1l' (rfl : nki' = _) (by kernel_rfl) (an0 (by kernel_rfl)) fun x => by kernel_rfl
theorem n6y' : LoopOK Tryz.prog G 168 (P125 0) (nl' (nh' Tryz.f13) 0) := lk cx t125 J125 1 n1i' n29' (rfl : nkd' = _) (by kernel_rfl) (an0 (by kernel_rfl)) fun x => by kernel_rfl
noncomputable def e125 : Fe G := ⟨I125, E125, fun x => nit' x.1.1.1 x.1.1.2.1 x.1.1.2.2.1 x.1.1.2.2.2.1 x.1.1.2.2.2.2.1 x.1.1.2.2.2.2.2.1 x.1.1.2.2.2.2.2.2.1 x.1.1.2.2.2.2.2.2.2.1 x.1.1.2.2.2.2.2.2.2.2.1 x.1.1.2.2.2.2.2.2.2.2.2.1 x.1.1.2.2.2.2.2.2.2.2.2.2.1 x.1.1.2.2.2.2.2.2.2.2.2.2.2.1 x.1.1.2.2.2.2.2.2.2.2.2.2.2.2.1 x.1.1.2.2.2.2.2.2.2.2.2.2.2.2.2.1 x.1.1.2.2.2.2.2.2.2.2.2.2.2.2.2.2.1 x.1.1.2.2.2.2.2.2.2.2.2.2.2.2.2.2.2.1 x.1.2.1.1 x.1.2.1.2.1 x.1.2.1.2.2.1 x.1.2.1.2.2.2.1 x.1.2.1.2.2.2.2.1 x.1.2.1.2.2.2.2.2.1 x.1.2.1.2.2.2.2.2.2.1 x.1.2.1.2.2.2.2.2.2.2.1 x.1.2.1.2.2.2.2.2.2.2.2.1 x.1.2.1.2.2.2.2.2.2.2.2.2.1 x.1.2.1.2.2.2.2.2.2.2.2.2.2.1 x.1.2.1.2.2.2.2.2.2.2.2.2.2.2.1 x.1.2.1.2.2.2.2.2.2.2.2.2.2.2.2.1 x.1.2.1.2.2.2.2.2.2.2.2.2.2.2.2.2.1 x.1.2.1.2.2.2.2.2.2.2.2.2.2.2.2.2.2.1 x.1.2.1.2.2.2.2.2.2.2.2.2.2.2.2.2.2.2.1, Tryz.f13.results.toList⟩
theorem k125 : FnOK Tryz.prog G 13 e125 := fk cx t125 J125 (lp := P125) Tryz.func13 (by kernel_rfl) (by kernel_rfl) rfl (nk' _ (by kernel_rfl) (ni' n6y' (ni' n6b' (ni' n6e' (ni' n5u' nr'))))) fun x => by kernel_rfl
def I126 : Sp := ⟨[(0, .agg [.int .u8, .int .u8]), (1, oro 5), (2, .agg c'31)], [], []⟩
def E126 : SL := [(.ret, ⟨[(6, ob)], [], []⟩)]
def S126_0 : Sp := ⟨[(5, op 80), (7, op 112), (8, op 128), (10, oi64)], [(80, c'31), (112, c'3), (128, c'20)], []⟩
def nwq' : SL := [(.exit 0, ⟨[(7, op 112), (8, op 128)], [(112, c'3), (128, c'20)], []⟩), (.ret, ⟨[(6, ob)], [], []⟩)]
def J126 : Nat → Option SL := jl [(44, [(.normal, ⟨[(5, op 80), (7, op 112), (8, op 128), (10, oi64), (11, op 176)], [(80, c'31), (112, c'3), (128, c'20), (176, c'20)], []⟩)]), (1048621, [(.normal, ⟨[(6, ob)], [], []⟩)]), (2097156, [(.normal, ⟨[(1, oro 5), (5, op 80), (7, op 112)], [(80, c'31), (112, c'3)], []⟩)])]
noncomputable def P126 : Nat → St G → M (Ex × St G) := pl [lpX S126_0 nwq' nc4']
theorem t126 : ∀ p ∈ [(6, e66), (7, e1), (8, e80), (12, e84), (14, e107), (19, e120), (20, e65), (13, e125)], FnOK Tryz.prog G p.1 p.2 := (tc k66 (tc k1 (tc k80 (tc k84 (tc k107 (tc k120 (tc k65 (tc k125 tn))))))))
noncomputable def n42' (_h_l26_sane : (Unit × Unit) → Option ((Bool × Unit) × Unit)) (what x_What x_Value x_Belief_Floor x_Belief_Dir x_Belief_Door : Int) (x_Belief_Duties : List (Duty)) (x_Belief_Still : Int) (x_Belief_Late : Bool) (x_Car_Sweep_Dir x_Car_Sweep_Opened x_Car_Door_Stage x_Car_Door_Time x_Car_Door_Since : Int) (x_Car_Door_Nudge : Bool) (x_Car_Door_Cycles x_Car_Motion_Command x_Car_Motion_Time x_Car_Motion_Floor x_Car_Calls x_Car_Shown x_Car_Idle : Int) (x_Car_Fault : Bool) (b_Floors b_Debounce b_Room b_Park : Int) (b_Empty b_Full b_Over : Nat) (b_Cars : List (Car)) (m_Image_Phases : List (Int)) (m_Image_Flags m_Image_Leaving : List (Bool)) (m_Image_Entries : List (Entry)) (m_Store_Halves_0 m_Store_Halves_1 : ByteArray) (m_Store_Select : Int) (m_Contacts : List (Debounced)) (m_Beliefs : List (Belief)) (m_Cars : List (NewCar)) (m_Loads : List (Loaded)) (m_Expect : List (Int)) (m_Lit : List (Calls)) (m_Tick m_Faults m_Refused : Int) : Option (Sum (T'69 × T'71) (((Unit × Unit × Unit) × (T'0 × T'30 × Unit)) ⊕ ((Bool × Unit) × Unit))) :=
 bif (decide (what < (16 : Int))) then
 let z0 : Int := (Int.tmod x_Value (50 : Int))
 Option.bind (bif (what == (1 : Int)) then
 some (((), (), (), what, (), ()), ((x_What, x_Value, x_Belief_Floor, x_Belief_Dir, x_Belief_Door, x_Belief_Duties, x_Belief_Still, x_Belief_Late, x_Car_Sweep_Dir, x_Car_Sweep_Opened, x_Car_Door_Stage, x_Car_Door_Time, x_Car_Door_Since, x_Car_Door_Nudge, x_Car_Door_Cycles, x_Car_Motion_Command, x_Car_Motion_Time, x_Car_Motion_Floor, x_Car_Calls, x_Car_Shown, x_Car_Idle, x_Car_Fault, ()), (b_Floors, b_Debounce, b_Room, b_Park, b_Empty, b_Full, b_Over, b_Cars, ()), (m_Image_Phases, m_Image_Flags, m_Image_Leaving, m_Image_Entries, m_Store_Halves_0, m_Store_Halves_1, m_Store_Select, m_Contacts, m_Beliefs, m_Cars, m_Loads, m_Expect, m_Lit, m_Tick, m_Faults, m_Refused, ()), (m_Image_Phases, ([] : List (Bool)), m_Image_Leaving, m_Image_Entries, m_Store_Halves_0, m_Store_Halves_1, m_Store_Select, m_Contacts, m_Beliefs, m_Cars, m_Loads, m_Expect, m_Lit, m_Tick, m_Faults, m_Refused, ()), ()))
 else
 bif (what == (2 : Int)) then
 some (((), (), (), what, (), ()), ((x_What, x_Value, x_Belief_Floor, x_Belief_Dir, x_Belief_Door, x_Belief_Duties, x_Belief_Still, x_Belief_Late, x_Car_Sweep_Dir, x_Car_Sweep_Opened, x_Car_Door_Stage, x_Car_Door_Time, x_Car_Door_Since, x_Car_Door_Nudge, x_Car_Door_Cycles, x_Car_Motion_Command, x_Car_Motion_Time, x_Car_Motion_Floor, x_Car_Calls, x_Car_Shown, x_Car_Idle, x_Car_Fault, ()), (b_Floors, b_Debounce, b_Room, b_Park, b_Empty, b_Full, b_Over, b_Cars, ()), (m_Image_Phases, m_Image_Flags, m_Image_Leaving, m_Image_Entries, m_Store_Halves_0, m_Store_Halves_1, m_Store_Select, m_Contacts, m_Beliefs, m_Cars, m_Loads, m_Expect, m_Lit, m_Tick, m_Faults, m_Refused, ()), (m_Image_Phases, m_Image_Flags, m_Image_Leaving, m_Image_Entries, m_Store_Halves_0, m_Store_Halves_1, z0, m_Contacts, m_Beliefs, m_Cars, m_Loads, m_Expect, m_Lit, m_Tick, m_Faults, m_Refused, ()), ()))
 else
 bif (what == (3 : Int)) then
 let z1 : Int := ((List.length b_Cars : Nat) : Int)
 bif (((decide ((0 : Int) ≤ z1)) && (decide (z1 ≤ z1))) && (decide (z1 ≤ (2147483648 : Int)))) then
 let z2 : List (Debounced) := (List.replicate (Int.toNat z1) (Debounced.mk (0 : Int) false false false false (0 : Int) (0 : Int) (0 : Int) (0 : Int) (0 : Int) (0 : Int) (0 : Int) (0 : Int) (0 : Int) (0 : Int) (0 : Int) (0 : Int) (0 : Int) (0 : Int) (0 : Int) (0 : Int) (0 : Int) (0 : Int) (0 : Int) (0 : Int) (0 : Int) (0 : Int) (0 : Int) (0 : Int) (0 : Int) (0 : Int) (0 : Int) (0 : Int) (0 : Int) (0 : Int) (0 : Int) (0 : Int) (0 : Int) (0 : Int) (0 : Int) (0 : Int)))
 bif (inB (0 : Int) (List.length z2)) then
 let z3 : Nat := (Int.toNat (0 : Int))
 let z4 : Debounced := (List.getD z2 z3 (Debounced.mk (0 : Int) false false false false (0 : Int) (0 : Int) (0 : Int) (0 : Int) (0 : Int) (0 : Int) (0 : Int) (0 : Int) (0 : Int) (0 : Int) (0 : Int) (0 : Int) (0 : Int) (0 : Int) (0 : Int) (0 : Int) (0 : Int) (0 : Int) (0 : Int) (0 : Int) (0 : Int) (0 : Int) (0 : Int) (0 : Int) (0 : Int) (0 : Int) (0 : Int) (0 : Int) (0 : Int) (0 : Int) (0 : Int) (0 : Int) (0 : Int) (0 : Int) (0 : Int) (0 : Int)))
 some (((), (), (), what, (), ()), ((x_What, x_Value, x_Belief_Floor, x_Belief_Dir, x_Belief_Door, x_Belief_Duties, x_Belief_Still, x_Belief_Late, x_Car_Sweep_Dir, x_Car_Sweep_Opened, x_Car_Door_Stage, x_Car_Door_Time, x_Car_Door_Since, x_Car_Door_Nudge, x_Car_Door_Cycles, x_Car_Motion_Command, x_Car_Motion_Time, x_Car_Motion_Floor, x_Car_Calls, x_Car_Shown, x_Car_Idle, x_Car_Fault, ()), (b_Floors, b_Debounce, b_Room, b_Park, b_Empty, b_Full, b_Over, b_Cars, ()), (m_Image_Phases, m_Image_Flags, m_Image_Leaving, m_Image_Entries, m_Store_Halves_0, m_Store_Halves_1, m_Store_Select, m_Contacts, m_Beliefs, m_Cars, m_Loads, m_Expect, m_Lit, m_Tick, m_Faults, m_Refused, ()), (m_Image_Phases, m_Image_Flags, m_Image_Leaving, m_Image_Entries, m_Store_Halves_0, m_Store_Halves_1, m_Store_Select, (List.set z2 z3 (Debounced.mk z4.Contacts_Floors z4.Contacts_Up z4.Contacts_Down z4.Contacts_Open z4.Contacts_Closed z4.Count_0 z4.Count_1 z4.Count_2 z4.Count_3 z4.Count_4 z4.Count_5 z4.Count_6 (Int.tmod z0 (3 : Int)) z4.Count_8 z4.Count_9 z4.Count_10 z4.Count_11 z4.Count_12 z4.Count_13 z4.Count_14 z4.Count_15 z4.Count_16 z4.Count_17 z4.Count_18 z4.Count_19 z4.Count_20 z4.Count_21 z4.Count_22 z4.Count_23 z4.Count_24 z4.Count_25 z4.Count_26 z4.Count_27 z4.Count_28 z4.Count_29 z4.Count_30 z4.Count_31 z4.Count_32 z4.Count_33 z4.Count_34 z4.Count_35)), m_Beliefs, m_Cars, m_Loads, m_Expect, m_Lit, m_Tick, m_Faults, m_Refused, ()), ()))
 else
 none
 else
 none
 else
 bif (what == (4 : Int)) then
 let z5 : List (Belief) := [(Belief.mk x_Belief_Floor x_Belief_Dir x_Belief_Door x_Belief_Duties x_Belief_Still x_Belief_Late)]
 bif (decide ((1 : Int) ≤ (((List.length m_Beliefs) : Nat) : Int))) then
 let z6 : List (Belief) := (List.drop 1 (List.take (List.length m_Beliefs) m_Beliefs))
 bif (Nat.ble ((List.length z5) + (List.length z6)) 2147483648) then
 some (((), (), (), what, (), ()), ((x_What, x_Value, x_Belief_Floor, x_Belief_Dir, x_Belief_Door, x_Belief_Duties, x_Belief_Still, x_Belief_Late, x_Car_Sweep_Dir, x_Car_Sweep_Opened, x_Car_Door_Stage, x_Car_Door_Time, x_Car_Door_Since, x_Car_Door_Nudge, x_Car_Door_Cycles, x_Car_Motion_Command, x_Car_Motion_Time, x_Car_Motion_Floor, x_Car_Calls, x_Car_Shown, x_Car_Idle, x_Car_Fault, ()), (b_Floors, b_Debounce, b_Room, b_Park, b_Empty, b_Full, b_Over, b_Cars, ()), (m_Image_Phases, m_Image_Flags, m_Image_Leaving, m_Image_Entries, m_Store_Halves_0, m_Store_Halves_1, m_Store_Select, m_Contacts, m_Beliefs, m_Cars, m_Loads, m_Expect, m_Lit, m_Tick, m_Faults, m_Refused, ()), (m_Image_Phases, m_Image_Flags, m_Image_Leaving, m_Image_Entries, m_Store_Halves_0, m_Store_Halves_1, m_Store_Select, m_Contacts, (z5 ++ z6), m_Cars, m_Loads, m_Expect, m_Lit, m_Tick, m_Faults, m_Refused, ()), ()))
 else
 none
 else
 none
 else
 bif (what == (5 : Int)) then
 let z7 : List (NewCar) := [(NewCar.mk x_Car_Sweep_Dir x_Car_Sweep_Opened x_Car_Door_Stage x_Car_Door_Time x_Car_Door_Since x_Car_Door_Nudge x_Car_Door_Cycles x_Car_Motion_Command x_Car_Motion_Time x_Car_Motion_Floor x_Car_Calls x_Car_Shown x_Car_Idle x_Car_Fault)]
 bif (decide ((1 : Int) ≤ (((List.length m_Cars) : Nat) : Int))) then
 let z8 : List (NewCar) := (List.drop 1 (List.take (List.length m_Cars) m_Cars))
 bif (Nat.ble ((List.length z7) + (List.length z8)) 2147483648) then
 some (((), (), (), what, (), ()), ((x_What, x_Value, x_Belief_Floor, x_Belief_Dir, x_Belief_Door, x_Belief_Duties, x_Belief_Still, x_Belief_Late, x_Car_Sweep_Dir, x_Car_Sweep_Opened, x_Car_Door_Stage, x_Car_Door_Time, x_Car_Door_Since, x_Car_Door_Nudge, x_Car_Door_Cycles, x_Car_Motion_Command, x_Car_Motion_Time, x_Car_Motion_Floor, x_Car_Calls, x_Car_Shown, x_Car_Idle, x_Car_Fault, ()), (b_Floors, b_Debounce, b_Room, b_Park, b_Empty, b_Full, b_Over, b_Cars, ()), (m_Image_Phases, m_Image_Flags, m_Image_Leaving, m_Image_Entries, m_Store_Halves_0, m_Store_Halves_1, m_Store_Select, m_Contacts, m_Beliefs, m_Cars, m_Loads, m_Expect, m_Lit, m_Tick, m_Faults, m_Refused, ()), (m_Image_Phases, m_Image_Flags, m_Image_Leaving, m_Image_Entries, m_Store_Halves_0, m_Store_Halves_1, m_Store_Select, m_Contacts, m_Beliefs, (z7 ++ z8), m_Loads, m_Expect, m_Lit, m_Tick, m_Faults, m_Refused, ()), ()))
 else
 none
 else
 none
 else
 bif (what == (6 : Int)) then
 let z9 : List (Loaded) := [(Loaded.mk (Int.tmod z0 (7 : Int)))]
 bif (decide ((1 : Int) ≤ (((List.length m_Loads) : Nat) : Int))) then
 let z10 : List (Loaded) := (List.drop 1 (List.take (List.length m_Loads) m_Loads))
 bif (Nat.ble ((List.length z9) + (List.length z10)) 2147483648) then
 some (((), (), (), what, (), ()), ((x_What, x_Value, x_Belief_Floor, x_Belief_Dir, x_Belief_Door, x_Belief_Duties, x_Belief_Still, x_Belief_Late, x_Car_Sweep_Dir, x_Car_Sweep_Opened, x_Car_Door_Stage, x_Car_Door_Time, x_Car_Door_Since, x_Car_Door_Nudge, x_Car_Door_Cycles, x_Car_Motion_Command, x_Car_Motion_Time, x_Car_Motion_Floor, x_Car_Calls, x_Car_Shown, x_Car_Idle, x_Car_Fault, ()), (b_Floors, b_Debounce, b_Room, b_Park, b_Empty, b_Full, b_Over, b_Cars, ()), (m_Image_Phases, m_Image_Flags, m_Image_Leaving, m_Image_Entries, m_Store_Halves_0, m_Store_Halves_1, m_Store_Select, m_Contacts, m_Beliefs, m_Cars, m_Loads, m_Expect, m_Lit, m_Tick, m_Faults, m_Refused, ()), (m_Image_Phases, m_Image_Flags, m_Image_Leaving, m_Image_Entries, m_Store_Halves_0, m_Store_Halves_1, m_Store_Select, m_Contacts, m_Beliefs, m_Cars, (z9 ++ z10), m_Expect, m_Lit, m_Tick, m_Faults, m_Refused, ()), ()))
 else
 none
 else
 none
 else
 bif (what == (7 : Int)) then
 let z11 : List (Int) := [z0]
 bif (Nat.ble ((List.length z11) + (List.length m_Expect)) 2147483648) then
 some (((), (), (), what, (), ()), ((x_What, x_Value, x_Belief_Floor, x_Belief_Dir, x_Belief_Door, x_Belief_Duties, x_Belief_Still, x_Belief_Late, x_Car_Sweep_Dir, x_Car_Sweep_Opened, x_Car_Door_Stage, x_Car_Door_Time, x_Car_Door_Since, x_Car_Door_Nudge, x_Car_Door_Cycles, x_Car_Motion_Command, x_Car_Motion_Time, x_Car_Motion_Floor, x_Car_Calls, x_Car_Shown, x_Car_Idle, x_Car_Fault, ()), (b_Floors, b_Debounce, b_Room, b_Park, b_Empty, b_Full, b_Over, b_Cars, ()), (m_Image_Phases, m_Image_Flags, m_Image_Leaving, m_Image_Entries, m_Store_Halves_0, m_Store_Halves_1, m_Store_Select, m_Contacts, m_Beliefs, m_Cars, m_Loads, m_Expect, m_Lit, m_Tick, m_Faults, m_Refused, ()), (m_Image_Phases, m_Image_Flags, m_Image_Leaving, m_Image_Entries, m_Store_Halves_0, m_Store_Halves_1, m_Store_Select, m_Contacts, m_Beliefs, m_Cars, m_Loads, (z11 ++ m_Expect), m_Lit, m_Tick, m_Faults, m_Refused, ()), ()))
 else
 none
 else
 bif (what == (8 : Int)) then
 let z12 : List (Calls) := [(Calls.mk (IntKind.u32.wrap z0) (0 : Int))]
 bif (decide ((1 : Int) ≤ (((List.length m_Lit) : Nat) : Int))) then
 let z13 : List (Calls) := (List.drop 1 (List.take (List.length m_Lit) m_Lit))
 bif (Nat.ble ((List.length z12) + (List.length z13)) 2147483648) then
 some (((), (), (), what, (), ()), ((x_What, x_Value, x_Belief_Floor, x_Belief_Dir, x_Belief_Door, x_Belief_Duties, x_Belief_Still, x_Belief_Late, x_Car_Sweep_Dir, x_Car_Sweep_Opened, x_Car_Door_Stage, x_Car_Door_Time, x_Car_Door_Since, x_Car_Door_Nudge, x_Car_Door_Cycles, x_Car_Motion_Command, x_Car_Motion_Time, x_Car_Motion_Floor, x_Car_Calls, x_Car_Shown, x_Car_Idle, x_Car_Fault, ()), (b_Floors, b_Debounce, b_Room, b_Park, b_Empty, b_Full, b_Over, b_Cars, ()), (m_Image_Phases, m_Image_Flags, m_Image_Leaving, m_Image_Entries, m_Store_Halves_0, m_Store_Halves_1, m_Store_Select, m_Contacts, m_Beliefs, m_Cars, m_Loads, m_Expect, m_Lit, m_Tick, m_Faults, m_Refused, ()), (m_Image_Phases, m_Image_Flags, m_Image_Leaving, m_Image_Entries, m_Store_Halves_0, m_Store_Halves_1, m_Store_Select, m_Contacts, m_Beliefs, m_Cars, m_Loads, m_Expect, (z12 ++ z13), m_Tick, m_Faults, m_Refused, ()), ()))
 else
 none
 else
 none
 else
 bif (what == (9 : Int)) then
 some (((), (), (), what, (), ()), ((x_What, x_Value, x_Belief_Floor, x_Belief_Dir, x_Belief_Door, x_Belief_Duties, x_Belief_Still, x_Belief_Late, x_Car_Sweep_Dir, x_Car_Sweep_Opened, x_Car_Door_Stage, x_Car_Door_Time, x_Car_Door_Since, x_Car_Door_Nudge, x_Car_Door_Cycles, x_Car_Motion_Command, x_Car_Motion_Time, x_Car_Motion_Floor, x_Car_Calls, x_Car_Shown, x_Car_Idle, x_Car_Fault, ()), (b_Floors, b_Debounce, b_Room, b_Park, b_Empty, b_Full, b_Over, b_Cars, ()), (m_Image_Phases, m_Image_Flags, m_Image_Leaving, m_Image_Entries, m_Store_Halves_0, m_Store_Halves_1, m_Store_Select, m_Contacts, m_Beliefs, m_Cars, m_Loads, m_Expect, m_Lit, m_Tick, m_Faults, m_Refused, ()), (m_Image_Phases, m_Image_Flags, m_Image_Leaving, m_Image_Entries, m_Store_Halves_0, m_Store_Halves_1, m_Store_Select, m_Contacts, m_Beliefs, m_Cars, m_Loads, m_Expect, m_Lit, z0, m_Faults, m_Refused, ()), ()))
 else
 bif (what == (10 : Int)) then
 some (((), (), (), what, (), ()), ((x_What, x_Value, x_Belief_Floor, x_Belief_Dir, x_Belief_Door, x_Belief_Duties, x_Belief_Still, x_Belief_Late, x_Car_Sweep_Dir, x_Car_Sweep_Opened, x_Car_Door_Stage, x_Car_Door_Time, x_Car_Door_Since, x_Car_Door_Nudge, x_Car_Door_Cycles, x_Car_Motion_Command, x_Car_Motion_Time, x_Car_Motion_Floor, x_Car_Calls, x_Car_Shown, x_Car_Idle, x_Car_Fault, ()), (b_Floors, b_Debounce, b_Room, b_Park, b_Empty, b_Full, b_Over, b_Cars, ()), (m_Image_Phases, m_Image_Flags, m_Image_Leaving, m_Image_Entries, m_Store_Halves_0, m_Store_Halves_1, m_Store_Select, m_Contacts, m_Beliefs, m_Cars, m_Loads, m_Expect, m_Lit, m_Tick, m_Faults, m_Refused, ()), (m_Image_Phases, m_Image_Flags, m_Image_Leaving, m_Image_Entries, m_Store_Halves_0, m_Store_Halves_1, m_Store_Select, m_Contacts, m_Beliefs, m_Cars, m_Loads, m_Expect, m_Lit, m_Tick, x_Value, m_Refused, ()), ()))
 else
 bif (what == (11 : Int)) then
 some (((), (), (), what, (), ()), ((x_What, x_Value, x_Belief_Floor, x_Belief_Dir, x_Belief_Door, x_Belief_Duties, x_Belief_Still, x_Belief_Late, x_Car_Sweep_Dir, x_Car_Sweep_Opened, x_Car_Door_Stage, x_Car_Door_Time, x_Car_Door_Since, x_Car_Door_Nudge, x_Car_Door_Cycles, x_Car_Motion_Command, x_Car_Motion_Time, x_Car_Motion_Floor, x_Car_Calls, x_Car_Shown, x_Car_Idle, x_Car_Fault, ()), (b_Floors, b_Debounce, b_Room, b_Park, b_Empty, b_Full, b_Over, b_Cars, ()), (m_Image_Phases, m_Image_Flags, m_Image_Leaving, m_Image_Entries, m_Store_Halves_0, m_Store_Halves_1, m_Store_Select, m_Contacts, m_Beliefs, m_Cars, m_Loads, m_Expect, m_Lit, m_Tick, m_Faults, m_Refused, ()), (m_Image_Phases, m_Image_Flags, m_Image_Leaving, m_Image_Entries, m_Store_Halves_0, m_Store_Halves_1, m_Store_Select, m_Contacts, m_Beliefs, m_Cars, m_Loads, m_Expect, m_Lit, m_Tick, m_Faults, x_Value, ()), ()))
 else
 bif (what == (12 : Int)) then
 bif (decide ((1 : Int) ≤ (((List.length m_Lit) : Nat) : Int))) then
 some (((), (), (), what, (), ()), ((x_What, x_Value, x_Belief_Floor, x_Belief_Dir, x_Belief_Door, x_Belief_Duties, x_Belief_Still, x_Belief_Late, x_Car_Sweep_Dir, x_Car_Sweep_Opened, x_Car_Door_Stage, x_Car_Door_Time, x_Car_Door_Since, x_Car_Door_Nudge, x_Car_Door_Cycles, x_Car_Motion_Command, x_Car_Motion_Time, x_Car_Motion_Floor, x_Car_Calls, x_Car_Shown, x_Car_Idle, x_Car_Fault, ()), (b_Floors, b_Debounce, b_Room, b_Park, b_Empty, b_Full, b_Over, b_Cars, ()), (m_Image_Phases, m_Image_Flags, m_Image_Leaving, m_Image_Entries, m_Store_Halves_0, m_Store_Halves_1, m_Store_Select, m_Contacts, m_Beliefs, m_Cars, m_Loads, m_Expect, m_Lit, m_Tick, m_Faults, m_Refused, ()), (m_Image_Phases, m_Image_Flags, m_Image_Leaving, m_Image_Entries, m_Store_Halves_0, m_Store_Halves_1, m_Store_Select, m_Contacts, m_Beliefs, m_Cars, m_Loads, m_Expect, (List.drop 1 (List.take (List.length m_Lit) m_Lit)), m_Tick, m_Faults, m_Refused, ()), ()))
 else
 none
 else
 bif (what == (13 : Int)) then
 let z14 : List (Belief) := [(Belief.mk (Int.tmod z0 (9 : Int)) (0 : Int) (0 : Int) [] z0 false)]
 bif (decide ((1 : Int) ≤ (((List.length m_Beliefs) : Nat) : Int))) then
 let z15 : List (Belief) := (List.drop 1 (List.take (List.length m_Beliefs) m_Beliefs))
 bif (Nat.ble ((List.length z14) + (List.length z15)) 2147483648) then
 some (((), (), (), what, (), ()), ((x_What, x_Value, x_Belief_Floor, x_Belief_Dir, x_Belief_Door, x_Belief_Duties, x_Belief_Still, x_Belief_Late, x_Car_Sweep_Dir, x_Car_Sweep_Opened, x_Car_Door_Stage, x_Car_Door_Time, x_Car_Door_Since, x_Car_Door_Nudge, x_Car_Door_Cycles, x_Car_Motion_Command, x_Car_Motion_Time, x_Car_Motion_Floor, x_Car_Calls, x_Car_Shown, x_Car_Idle, x_Car_Fault, ()), (b_Floors, b_Debounce, b_Room, b_Park, b_Empty, b_Full, b_Over, b_Cars, ()), (m_Image_Phases, m_Image_Flags, m_Image_Leaving, m_Image_Entries, m_Store_Halves_0, m_Store_Halves_1, m_Store_Select, m_Contacts, m_Beliefs, m_Cars, m_Loads, m_Expect, m_Lit, m_Tick, m_Faults, m_Refused, ()), (m_Image_Phases, m_Image_Flags, m_Image_Leaving, m_Image_Entries, m_Store_Halves_0, m_Store_Halves_1, m_Store_Select, m_Contacts, (z14 ++ z15), m_Cars, m_Loads, m_Expect, m_Lit, m_Tick, m_Faults, m_Refused, ()), ()))
 else
 none
 else
 none
 else
 bif (what == (14 : Int)) then
 let z16 : List (NewCar) := [(NewCar.mk (0 : Int) (0 : Int) (0 : Int) (0 : Int) (0 : Int) false (0 : Int) (0 : Int) (0 : Int) (0 : Int) (0 : Int) (Int.tmod z0 (4 : Int)) z0 false)]
 bif (decide ((1 : Int) ≤ (((List.length m_Cars) : Nat) : Int))) then
 let z17 : List (NewCar) := (List.drop 1 (List.take (List.length m_Cars) m_Cars))
 bif (Nat.ble ((List.length z16) + (List.length z17)) 2147483648) then
 some (((), (), (), what, (), ()), ((x_What, x_Value, x_Belief_Floor, x_Belief_Dir, x_Belief_Door, x_Belief_Duties, x_Belief_Still, x_Belief_Late, x_Car_Sweep_Dir, x_Car_Sweep_Opened, x_Car_Door_Stage, x_Car_Door_Time, x_Car_Door_Since, x_Car_Door_Nudge, x_Car_Door_Cycles, x_Car_Motion_Command, x_Car_Motion_Time, x_Car_Motion_Floor, x_Car_Calls, x_Car_Shown, x_Car_Idle, x_Car_Fault, ()), (b_Floors, b_Debounce, b_Room, b_Park, b_Empty, b_Full, b_Over, b_Cars, ()), (m_Image_Phases, m_Image_Flags, m_Image_Leaving, m_Image_Entries, m_Store_Halves_0, m_Store_Halves_1, m_Store_Select, m_Contacts, m_Beliefs, m_Cars, m_Loads, m_Expect, m_Lit, m_Tick, m_Faults, m_Refused, ()), (m_Image_Phases, m_Image_Flags, m_Image_Leaving, m_Image_Entries, m_Store_Halves_0, m_Store_Halves_1, m_Store_Select, m_Contacts, m_Beliefs, (z16 ++ z17), m_Loads, m_Expect, m_Lit, m_Tick, m_Faults, m_Refused, ()), ()))
 else
 none
 else
 none
 else
 bif (what == (15 : Int)) then
 bif (Nat.ble ((List.length ([] : List (Int))) + (List.length m_Expect)) 2147483648) then
 let z18 : List (Int) := (([] : List (Int)) ++ m_Expect)
 bif (decide ((0 : Int) < ((List.length z18 : Nat) : Int))) then
 bif (inB (0 : Int) (List.length z18)) then
 some (((), (), (), what, (), ()), ((x_What, x_Value, x_Belief_Floor, x_Belief_Dir, x_Belief_Door, x_Belief_Duties, x_Belief_Still, x_Belief_Late, x_Car_Sweep_Dir, x_Car_Sweep_Opened, x_Car_Door_Stage, x_Car_Door_Time, x_Car_Door_Since, x_Car_Door_Nudge, x_Car_Door_Cycles, x_Car_Motion_Command, x_Car_Motion_Time, x_Car_Motion_Floor, x_Car_Calls, x_Car_Shown, x_Car_Idle, x_Car_Fault, ()), (b_Floors, b_Debounce, b_Room, b_Park, b_Empty, b_Full, b_Over, b_Cars, ()), (m_Image_Phases, m_Image_Flags, m_Image_Leaving, m_Image_Entries, m_Store_Halves_0, m_Store_Halves_1, m_Store_Select, m_Contacts, m_Beliefs, m_Cars, m_Loads, m_Expect, m_Lit, m_Tick, m_Faults, m_Refused, ()), (m_Image_Phases, m_Image_Flags, m_Image_Leaving, m_Image_Entries, m_Store_Halves_0, m_Store_Halves_1, m_Store_Select, m_Contacts, m_Beliefs, m_Cars, m_Loads, (List.set z18 (Int.toNat (0 : Int)) x_Value), m_Lit, m_Tick, m_Faults, m_Refused, ()), ()))
 else
 none
 else
 some (((), (), (), what, (), ()), ((x_What, x_Value, x_Belief_Floor, x_Belief_Dir, x_Belief_Door, x_Belief_Duties, x_Belief_Still, x_Belief_Late, x_Car_Sweep_Dir, x_Car_Sweep_Opened, x_Car_Door_Stage, x_Car_Door_Time, x_Car_Door_Since, x_Car_Door_Nudge, x_Car_Door_Cycles, x_Car_Motion_Command, x_Car_Motion_Time, x_Car_Motion_Floor, x_Car_Calls, x_Car_Shown, x_Car_Idle, x_Car_Fault, ()), (b_Floors, b_Debounce, b_Room, b_Park, b_Empty, b_Full, b_Over, b_Cars, ()), (m_Image_Phases, m_Image_Flags, m_Image_Leaving, m_Image_Entries, m_Store_Halves_0, m_Store_Halves_1, m_Store_Select, m_Contacts, m_Beliefs, m_Cars, m_Loads, m_Expect, m_Lit, m_Tick, m_Faults, m_Refused, ()), (m_Image_Phases, m_Image_Flags, m_Image_Leaving, m_Image_Entries, m_Store_Halves_0, m_Store_Halves_1, m_Store_Select, m_Contacts, m_Beliefs, m_Cars, m_Loads, z18, m_Lit, m_Tick, m_Faults, m_Refused, ()), ()))
 else
 none
 else
 some (((), (), (), what, (), ()), ((x_What, x_Value, x_Belief_Floor, x_Belief_Dir, x_Belief_Door, x_Belief_Duties, x_Belief_Still, x_Belief_Late, x_Car_Sweep_Dir, x_Car_Sweep_Opened, x_Car_Door_Stage, x_Car_Door_Time, x_Car_Door_Since, x_Car_Door_Nudge, x_Car_Door_Cycles, x_Car_Motion_Command, x_Car_Motion_Time, x_Car_Motion_Floor, x_Car_Calls, x_Car_Shown, x_Car_Idle, x_Car_Fault, ()), (b_Floors, b_Debounce, b_Room, b_Park, b_Empty, b_Full, b_Over, b_Cars, ()), (m_Image_Phases, m_Image_Flags, m_Image_Leaving, m_Image_Entries, m_Store_Halves_0, m_Store_Halves_1, m_Store_Select, m_Contacts, m_Beliefs, m_Cars, m_Loads, m_Expect, m_Lit, m_Tick, m_Faults, m_Refused, ()), (m_Image_Phases, m_Image_Flags, m_Image_Leaving, m_Image_Entries, m_Store_Halves_0, m_Store_Halves_1, m_Store_Select, m_Contacts, m_Beliefs, m_Cars, m_Loads, m_Expect, m_Lit, m_Tick, m_Faults, m_Refused, ()), ()))) fun y1 =>
 (nbr' y1.2.2.1.1 y1.2.2.1.2.1 y1.2.2.1.2.2.1 y1.2.2.1.2.2.2.1 y1.2.2.1.2.2.2.2.1 y1.2.2.1.2.2.2.2.2.1 y1.2.2.1.2.2.2.2.2.2.1 y1.2.2.1.2.2.2.2.2.2.2.1 y1.2.2.2.2.1.1 y1.2.2.2.2.1.2.1 y1.2.2.2.2.1.2.2.1 y1.2.2.2.2.1.2.2.2.1 y1.2.2.2.2.1.2.2.2.2.1 y1.2.2.2.2.1.2.2.2.2.2.1 y1.2.2.2.2.1.2.2.2.2.2.2.1 y1.2.2.2.2.1.2.2.2.2.2.2.2.1 y1.2.2.2.2.1.2.2.2.2.2.2.2.2.1 y1.2.2.2.2.1.2.2.2.2.2.2.2.2.2.1 y1.2.2.2.2.1.2.2.2.2.2.2.2.2.2.2.1 y1.2.2.2.2.1.2.2.2.2.2.2.2.2.2.2.2.1 y1.2.2.2.2.1.2.2.2.2.2.2.2.2.2.2.2.2.1 y1.2.2.2.2.1.2.2.2.2.2.2.2.2.2.2.2.2.2.1 y1.2.2.2.2.1.2.2.2.2.2.2.2.2.2.2.2.2.2.2.1 y1.2.2.2.2.1.2.2.2.2.2.2.2.2.2.2.2.2.2.2.2.1).bind fun y2 =>
 (neo' y1.2.2.1.1 y1.2.2.1.2.1 y1.2.2.1.2.2.1 y1.2.2.1.2.2.2.1 y1.2.2.1.2.2.2.2.1 y1.2.2.1.2.2.2.2.2.1 y1.2.2.1.2.2.2.2.2.2.1 y1.2.2.1.2.2.2.2.2.2.2.1 y1.2.2.2.2.1.1 y1.2.2.2.2.1.2.1 y1.2.2.2.2.1.2.2.1 y1.2.2.2.2.1.2.2.2.1 y1.2.2.2.2.1.2.2.2.2.1 y1.2.2.2.2.1.2.2.2.2.2.1 y1.2.2.2.2.1.2.2.2.2.2.2.1 y1.2.2.2.2.1.2.2.2.2.2.2.2.1 y1.2.2.2.2.1.2.2.2.2.2.2.2.2.1 y1.2.2.2.2.1.2.2.2.2.2.2.2.2.2.1 y1.2.2.2.2.1.2.2.2.2.2.2.2.2.2.2.1 y1.2.2.2.2.1.2.2.2.2.2.2.2.2.2.2.2.1 y1.2.2.2.2.1.2.2.2.2.2.2.2.2.2.2.2.2.1 y1.2.2.2.2.1.2.2.2.2.2.2.2.2.2.2.2.2.2.1 y1.2.2.2.2.1.2.2.2.2.2.2.2.2.2.2.2.2.2.2.1 y1.2.2.2.2.1.2.2.2.2.2.2.2.2.2.2.2.2.2.2.2.1).bind fun y3 =>
 bif (!(y2.1.1 == y3.1.1)) then
 some (Sum.inr (Sum.inr ((false, ()), ())))
 else
 (ncn' y1.2.2.2.1.1 y1.2.2.2.1.2.1 y1.2.2.2.1.2.2.1 y1.2.2.2.1.2.2.2.1 y1.2.2.2.1.2.2.2.2.1 y1.2.2.2.1.2.2.2.2.2.1 y1.2.2.2.1.2.2.2.2.2.2.1 y1.2.2.2.1.2.2.2.2.2.2.2.1 y1.2.2.2.1.2.2.2.2.2.2.2.2.1 y1.2.2.2.1.2.2.2.2.2.2.2.2.2.1 y1.2.2.2.1.2.2.2.2.2.2.2.2.2.2.1 y1.2.2.2.1.2.2.2.2.2.2.2.2.2.2.2.1 y1.2.2.2.1.2.2.2.2.2.2.2.2.2.2.2.2.1 y1.2.2.2.1.2.2.2.2.2.2.2.2.2.2.2.2.2.1 y1.2.2.2.1.2.2.2.2.2.2.2.2.2.2.2.2.2.2.1 y1.2.2.2.1.2.2.2.2.2.2.2.2.2.2.2.2.2.2.2.1 y1.2.2.2.2.1.1 y1.2.2.2.2.1.2.1 y1.2.2.2.2.1.2.2.1 y1.2.2.2.2.1.2.2.2.1 y1.2.2.2.2.1.2.2.2.2.1 y1.2.2.2.2.1.2.2.2.2.2.1 y1.2.2.2.2.1.2.2.2.2.2.2.1 y1.2.2.2.2.1.2.2.2.2.2.2.2.1 y1.2.2.2.2.1.2.2.2.2.2.2.2.2.1 y1.2.2.2.2.1.2.2.2.2.2.2.2.2.2.1 y1.2.2.2.2.1.2.2.2.2.2.2.2.2.2.2.1 y1.2.2.2.2.1.2.2.2.2.2.2.2.2.2.2.2.1 y1.2.2.2.2.1.2.2.2.2.2.2.2.2.2.2.2.2.1 y1.2.2.2.2.1.2.2.2.2.2.2.2.2.2.2.2.2.2.1 y1.2.2.2.2.1.2.2.2.2.2.2.2.2.2.2.2.2.2.2.1 y1.2.2.2.2.1.2.2.2.2.2.2.2.2.2.2.2.2.2.2.2.1).bind fun y4 =>
 (nit' y1.2.2.2.1.1 y1.2.2.2.1.2.1 y1.2.2.2.1.2.2.1 y1.2.2.2.1.2.2.2.1 y1.2.2.2.1.2.2.2.2.1 y1.2.2.2.1.2.2.2.2.2.1 y1.2.2.2.1.2.2.2.2.2.2.1 y1.2.2.2.1.2.2.2.2.2.2.2.1 y1.2.2.2.1.2.2.2.2.2.2.2.2.1 y1.2.2.2.1.2.2.2.2.2.2.2.2.2.1 y1.2.2.2.1.2.2.2.2.2.2.2.2.2.2.1 y1.2.2.2.1.2.2.2.2.2.2.2.2.2.2.2.1 y1.2.2.2.1.2.2.2.2.2.2.2.2.2.2.2.2.1 y1.2.2.2.1.2.2.2.2.2.2.2.2.2.2.2.2.2.1 y1.2.2.2.1.2.2.2.2.2.2.2.2.2.2.2.2.2.2.1 y1.2.2.2.1.2.2.2.2.2.2.2.2.2.2.2.2.2.2.2.1 y1.2.2.2.2.1.1 y1.2.2.2.2.1.2.1 y1.2.2.2.2.1.2.2.1 y1.2.2.2.2.1.2.2.2.1 y1.2.2.2.2.1.2.2.2.2.1 y1.2.2.2.2.1.2.2.2.2.2.1 y1.2.2.2.2.1.2.2.2.2.2.2.1 y1.2.2.2.2.1.2.2.2.2.2.2.2.1 y1.2.2.2.2.1.2.2.2.2.2.2.2.2.1 y1.2.2.2.2.1.2.2.2.2.2.2.2.2.2.1 y1.2.2.2.2.1.2.2.2.2.2.2.2.2.2.2.1 y1.2.2.2.2.1.2.2.2.2.2.2.2.2.2.2.2.1 y1.2.2.2.2.1.2.2.2.2.2.2.2.2.2.2.2.2.1 y1.2.2.2.2.1.2.2.2.2.2.2.2.2.2.2.2.2.2.1 y1.2.2.2.2.1.2.2.2.2.2.2.2.2.2.2.2.2.2.2.1 y1.2.2.2.2.1.2.2.2.2.2.2.2.2.2.2.2.2.2.2.2.1).bind fun y5 =>
 bif (!(y4.1.1 == y5.1.1)) then
 some (Sum.inr (Sum.inr ((false, ()), ())))
 else
 (ncn' y1.2.2.2.2.1.1 y1.2.2.2.2.1.2.1 y1.2.2.2.2.1.2.2.1 y1.2.2.2.2.1.2.2.2.1 y1.2.2.2.2.1.2.2.2.2.1 y1.2.2.2.2.1.2.2.2.2.2.1 y1.2.2.2.2.1.2.2.2.2.2.2.1 y1.2.2.2.2.1.2.2.2.2.2.2.2.1 y1.2.2.2.2.1.2.2.2.2.2.2.2.2.1 y1.2.2.2.2.1.2.2.2.2.2.2.2.2.2.1 y1.2.2.2.2.1.2.2.2.2.2.2.2.2.2.2.1 y1.2.2.2.2.1.2.2.2.2.2.2.2.2.2.2.2.1 y1.2.2.2.2.1.2.2.2.2.2.2.2.2.2.2.2.2.1 y1.2.2.2.2.1.2.2.2.2.2.2.2.2.2.2.2.2.2.1 y1.2.2.2.2.1.2.2.2.2.2.2.2.2.2.2.2.2.2.2.1 y1.2.2.2.2.1.2.2.2.2.2.2.2.2.2.2.2.2.2.2.2.1 y1.2.2.2.2.1.1 y1.2.2.2.2.1.2.1 y1.2.2.2.2.1.2.2.1 y1.2.2.2.2.1.2.2.2.1 y1.2.2.2.2.1.2.2.2.2.1 y1.2.2.2.2.1.2.2.2.2.2.1 y1.2.2.2.2.1.2.2.2.2.2.2.1 y1.2.2.2.2.1.2.2.2.2.2.2.2.1 y1.2.2.2.2.1.2.2.2.2.2.2.2.2.1 y1.2.2.2.2.1.2.2.2.2.2.2.2.2.2.1 y1.2.2.2.2.1.2.2.2.2.2.2.2.2.2.2.1 y1.2.2.2.2.1.2.2.2.2.2.2.2.2.2.2.2.1 y1.2.2.2.2.1.2.2.2.2.2.2.2.2.2.2.2.2.1 y1.2.2.2.2.1.2.2.2.2.2.2.2.2.2.2.2.2.2.1 y1.2.2.2.2.1.2.2.2.2.2.2.2.2.2.2.2.2.2.2.1 y1.2.2.2.2.1.2.2.2.2.2.2.2.2.2.2.2.2.2.2.2.1).bind fun y6 =>
 bif (!y6.1.1) then
 some (Sum.inr (Sum.inr ((false, ()), ())))
 else
 some (Sum.inl (((), (), (), (IntKind.i64.wrap (y1.1.2.2.2.1 + (1 : Int))), ()), (y1.2.1, y1.2.2.1, y1.2.2.2.1, ())))
 else
 some (Sum.inr (Sum.inl (((), (), ()), ((b_Floors, b_Debounce, b_Room, b_Park, b_Empty, b_Full, b_Over, b_Cars, ()), (m_Image_Phases, m_Image_Flags, m_Image_Leaving, m_Image_Entries, m_Store_Halves_0, m_Store_Halves_1, m_Store_Select, m_Contacts, m_Beliefs, m_Cars, m_Loads, m_Expect, m_Lit, m_Tick, m_Faults, m_Refused, ()), ()))))
theorem n59' (h_l26_sane : (Unit × Unit) → Option ((Bool × Unit) × Unit)) (x : S126_0.T G) : rndI (cfP [(6, Fe.mk (G := G) I66 E66 h_l26_sane Tryz.f6.results.toList), (7, e1), (8, e80), (12, e84), (14, e107), (19, e120), (20, e65), (13, e125)]) P126 J126 206 1 (nl' (nh' Tryz.f4) 0) S126_0 nwq' x = n42' h_l26_sane x.1.2.2.2.1 x.2.1.1 x.2.1.2.1 x.2.1.2.2.1 x.2.1.2.2.2.1 x.2.1.2.2.2.2.1 x.2.1.2.2.2.2.2.1 x.2.1.2.2.2.2.2.2.1 x.2.1.2.2.2.2.2.2.2.1 x.2.1.2.2.2.2.2.2.2.2.1 x.2.1.2.2.2.2.2.2.2.2.2.1 x.2.1.2.2.2.2.2.2.2.2.2.2.1 x.2.1.2.2.2.2.2.2.2.2.2.2.2.1 x.2.1.2.2.2.2.2.2.2.2.2.2.2.2.1 x.2.1.2.2.2.2.2.2.2.2.2.2.2.2.2.1 x.2.1.2.2.2.2.2.2.2.2.2.2.2.2.2.2.1 x.2.1.2.2.2.2.2.2.2.2.2.2.2.2.2.2.2.1 x.2.1.2.2.2.2.2.2.2.2.2.2.2.2.2.2.2.2.1 x.2.1.2.2.2.2.2.2.2.2.2.2.2.2.2.2.2.2.2.1 x.2.1.2.2.2.2.2.2.2.2.2.2.2.2.2.2.2.2.2.2.1 x.2.1.2.2.2.2.2.2.2.2.2.2.2.2.2.2.2.2.2.2.2.1 x.2.1.2.2.2.2.2.2.2.2.2.2.2.2.2.2.2.2.2.2.2.2.1 x.2.1.2.2.2.2.2.2.2.2.2.2.2.2.2.2.2.2.2.2.2.2.2.1 x.2.2.1.1 x.2.2.1.2.1 x.2.2.1.2.2.1 x.2.2.1.2.2.2.1 x.2.2.1.2.2.2.2.1 x.2.2.1.2.2.2.2.2.1 x.2.2.1.2.2.2.2.2.2.1 x.2.2.1.2.2.2.2.2.2.2.1 x.2.2.2.1.1 x.2.2.2.1.2.1 x.2.2.2.1.2.2.1 x.2.2.2.1.2.2.2.1 x.2.2.2.1.2.2.2.2.1 x.2.2.2.1.2.2.2.2.2.1 x.2.2.2.1.2.2.2.2.2.2.1 x.2.2.2.1.2.2.2.2.2.2.2.1 x.2.2.2.1.2.2.2.2.2.2.2.2.1 x.2.2.2.1.2.2.2.2.2.2.2.2.2.1 x.2.2.2.1.2.2.2.2.2.2.2.2.2.2.1 x.2.2.2.1.2.2.2.2.2.2.2.2.2.2.2.1 x.2.2.2.1.2.2.2.2.2.2.2.2.2.2.2.2.1 x.2.2.2.1.2.2.2.2.2.2.2.2.2.2.2.2.2.1 x.2.2.2.1.2.2.2.2.2.2.2.2.2.2.2.2.2.2.1 x.2.2.2.1.2.2.2.2.2.2.2.2.2.2.2.2.2.2.2.1 := by kernel_rfl
theorem n6f' : LoopOK Tryz.prog G 206 (P126 0) (nl' (nh' Tryz.f4) 0) := lk cx t126 J126 1 S126_0 nwq' (rfl : nc4' = _) (by kernel_rfl) (an0 (by kernel_rfl)) fun x => (n59' (fun _ => ng3' ) x).trans (by kernel_rfl)
noncomputable def H126 (h_l26_sane : (Unit × Unit) → Option ((Bool × Unit) × Unit)) (n_f0 n_f1 : Int) (l : List (Int)) (x_What x_Value x_Belief_Floor x_Belief_Dir x_Belief_Door : Int) (x_Belief_Duties : List (Duty)) (x_Belief_Still : Int) (x_Belief_Late : Bool) (x_Car_Sweep_Dir x_Car_Sweep_Opened x_Car_Door_Stage x_Car_Door_Time x_Car_Door_Since : Int) (x_Car_Door_Nudge : Bool) (x_Car_Door_Cycles x_Car_Motion_Command x_Car_Motion_Time x_Car_Motion_Floor x_Car_Calls x_Car_Shown x_Car_Idle : Int) (x_Car_Fault : Bool) : Option ((Bool × Unit) × Unit) :=
 bif (decide ((50 : Int) < ((List.length x_Belief_Duties : Nat) : Int))) then
 (h_l26_sane ((), ())).bind fun y1 =>
 some ((y1.1.1, ()), ())
 else
 (nc3' n_f0 (250 : Int)).bind fun y2 =>
 Option.bind (some ((l, (), (), ()), ((x_What, x_Value, x_Belief_Floor, x_Belief_Dir, x_Belief_Door, x_Belief_Duties, x_Belief_Still, x_Belief_Late, x_Car_Sweep_Dir, x_Car_Sweep_Opened, x_Car_Door_Stage, x_Car_Door_Time, x_Car_Door_Since, x_Car_Door_Nudge, x_Car_Door_Cycles, x_Car_Motion_Command, x_Car_Motion_Time, x_Car_Motion_Floor, x_Car_Calls, x_Car_Shown, x_Car_Idle, x_Car_Fault, ()), y2.2.1, ()))) fun y3 =>
 (niy' y3.2.2.1.1 y3.2.2.1.2.1 y3.2.2.1.2.2.1 y3.2.2.1.2.2.2.1 y3.2.2.1.2.2.2.2.1 y3.2.2.1.2.2.2.2.2.1 y3.2.2.1.2.2.2.2.2.2.1 y3.2.2.1.2.2.2.2.2.2.2.1 y3.1.1).bind fun y4 =>
 (nf3' y3.2.2.1.1 y3.2.2.1.2.1 y3.2.2.1.2.2.1 y3.2.2.1.2.2.2.1 y3.2.2.1.2.2.2.2.1 y3.2.2.1.2.2.2.2.2.1 y3.2.2.1.2.2.2.2.2.2.1 y3.2.2.1.2.2.2.2.2.2.2.1 y4.2.1.1 y4.2.1.2.1 y4.2.1.2.2.1 y4.2.1.2.2.2.1 (ByteArray.mk (Array.mk [])) (ByteArray.mk (Array.mk [])) (0 : Int)).bind fun y5 =>
 (nc4' (((), (), (), (0 : Int), ()), (y3.2.1, y3.2.2.1, y5.2.1, ()))).bind fun y6 =>
 (match y6 with
 | .inl y7 =>
 Option.bind ((nbr' y7.2.1.1 y7.2.1.2.1 y7.2.1.2.2.1 y7.2.1.2.2.2.1 y7.2.1.2.2.2.2.1 y7.2.1.2.2.2.2.2.1 y7.2.1.2.2.2.2.2.2.1 y7.2.1.2.2.2.2.2.2.2.1 y7.2.2.1.1 y7.2.2.1.2.1 y7.2.2.1.2.2.1 y7.2.2.1.2.2.2.1 y7.2.2.1.2.2.2.2.1 y7.2.2.1.2.2.2.2.2.1 y7.2.2.1.2.2.2.2.2.2.1 y7.2.2.1.2.2.2.2.2.2.2.1 y7.2.2.1.2.2.2.2.2.2.2.2.1 y7.2.2.1.2.2.2.2.2.2.2.2.2.1 y7.2.2.1.2.2.2.2.2.2.2.2.2.2.1 y7.2.2.1.2.2.2.2.2.2.2.2.2.2.2.1 y7.2.2.1.2.2.2.2.2.2.2.2.2.2.2.2.1 y7.2.2.1.2.2.2.2.2.2.2.2.2.2.2.2.2.1 y7.2.2.1.2.2.2.2.2.2.2.2.2.2.2.2.2.2.1 y7.2.2.1.2.2.2.2.2.2.2.2.2.2.2.2.2.2.2.1).bind fun y8 =>
 bif y8.1.1 then
 (nbr' y7.2.1.1 y7.2.1.2.1 y7.2.1.2.2.1 y7.2.1.2.2.2.1 y7.2.1.2.2.2.2.1 y7.2.1.2.2.2.2.2.1 y7.2.1.2.2.2.2.2.2.1 y7.2.1.2.2.2.2.2.2.2.1 [] [] [] [] (ByteArray.mk (Array.mk [])) (ByteArray.mk (Array.mk [])) (0 : Int) [] [] [] [] [] [] (0 : Int) (0 : Int) (0 : Int)).bind fun y9 =>
 bif (!y9.1.1) then
 (h_l26_sane ((), ())).bind fun y10 =>
 some ((y10.1.1, ()), ())
 else
 some ((false, ()), ())
 else
 some ((false, ()), ())) fun y11 =>
 some ((y11.1.1, ()), ())
 | .inr y7 =>
 some ((y7.1.1, ()), ()))
theorem q126 (h_l26_sane : (Unit × Unit) → Option ((Bool × Unit) × Unit)) (x : I126.T G) : endI (cfP [(6, Fe.mk (G := G) I66 E66 h_l26_sane Tryz.f6.results.toList), (7, e1), (8, e80), (12, e84), (14, e107), (19, e120), (20, e65), (13, e125)]) P126 J126 206 (nh' Tryz.f4) I126 E126 x = H126 h_l26_sane x.1.1.1 x.1.1.2.1 x.1.2.1 x.1.2.2.1.1 x.1.2.2.1.2.1 x.1.2.2.1.2.2.1 x.1.2.2.1.2.2.2.1 x.1.2.2.1.2.2.2.2.1 x.1.2.2.1.2.2.2.2.2.1 x.1.2.2.1.2.2.2.2.2.2.1 x.1.2.2.1.2.2.2.2.2.2.2.1 x.1.2.2.1.2.2.2.2.2.2.2.2.1 x.1.2.2.1.2.2.2.2.2.2.2.2.2.1 x.1.2.2.1.2.2.2.2.2.2.2.2.2.2.1 x.1.2.2.1.2.2.2.2.2.2.2.2.2.2.2.1 x.1.2.2.1.2.2.2.2.2.2.2.2.2.2.2.2.1 x.1.2.2.1.2.2.2.2.2.2.2.2.2.2.2.2.2.1 x.1.2.2.1.2.2.2.2.2.2.2.2.2.2.2.2.2.2.1 x.1.2.2.1.2.2.2.2.2.2.2.2.2.2.2.2.2.2.2.1 x.1.2.2.1.2.2.2.2.2.2.2.2.2.2.2.2.2.2.2.2.1 x.1.2.2.1.2.2.2.2.2.2.2.2.2.2.2.2.2.2.2.2.2.1 x.1.2.2.1.2.2.2.2.2.2.2.2.2.2.2.2.2.2.2.2.2.2.1 x.1.2.2.1.2.2.2.2.2.2.2.2.2.2.2.2.2.2.2.2.2.2.2.1 x.1.2.2.1.2.2.2.2.2.2.2.2.2.2.2.2.2.2.2.2.2.2.2.2.1 x.1.2.2.1.2.2.2.2.2.2.2.2.2.2.2.2.2.2.2.2.2.2.2.2.2.1 := by kernel_rfl
noncomputable def e126 : Fe G := ⟨I126, E126, fun x => F_l26_RestartMachines x.1.1.1 x.1.1.2.1 x.1.2.1 x.1.2.2.1.1 x.1.2.2.1.2.1 x.1.2.2.1.2.2.1 x.1.2.2.1.2.2.2.1 x.1.2.2.1.2.2.2.2.1 x.1.2.2.1.2.2.2.2.2.1 x.1.2.2.1.2.2.2.2.2.2.1 x.1.2.2.1.2.2.2.2.2.2.2.1 x.1.2.2.1.2.2.2.2.2.2.2.2.1 x.1.2.2.1.2.2.2.2.2.2.2.2.2.1 x.1.2.2.1.2.2.2.2.2.2.2.2.2.2.1 x.1.2.2.1.2.2.2.2.2.2.2.2.2.2.2.1 x.1.2.2.1.2.2.2.2.2.2.2.2.2.2.2.2.1 x.1.2.2.1.2.2.2.2.2.2.2.2.2.2.2.2.2.1 x.1.2.2.1.2.2.2.2.2.2.2.2.2.2.2.2.2.2.1 x.1.2.2.1.2.2.2.2.2.2.2.2.2.2.2.2.2.2.2.1 x.1.2.2.1.2.2.2.2.2.2.2.2.2.2.2.2.2.2.2.2.1 x.1.2.2.1.2.2.2.2.2.2.2.2.2.2.2.2.2.2.2.2.2.1 x.1.2.2.1.2.2.2.2.2.2.2.2.2.2.2.2.2.2.2.2.2.2.1 x.1.2.2.1.2.2.2.2.2.2.2.2.2.2.2.2.2.2.2.2.2.2.2.1 x.1.2.2.1.2.2.2.2.2.2.2.2.2.2.2.2.2.2.2.2.2.2.2.2.1 x.1.2.2.1.2.2.2.2.2.2.2.2.2.2.2.2.2.2.2.2.2.2.2.2.2.1, Tryz.f4.results.toList⟩
theorem k126 : FnOK Tryz.prog G 4 e126 := fk cx t126 J126 (lp := P126) Tryz.func4 (by kernel_rfl) (by kernel_rfl) rfl (nk' _ (by kernel_rfl) (ni' n6f' nr')) fun x => (q126 (fun _ => ng3' ) x).trans (by kernel_rfl)
def I127 : Sp := ⟨[(0, os)], [], []⟩
def E127 : SL := [(.ret, ⟨[(2, ou8)], [], []⟩)]
def n2w' : Sp := ⟨[(0, os), (3, oi64), (4, oi64)], [], []⟩
def n04' : SL := [(.exit 0, ⟨[(3, oi64)], [], []⟩)]
def n1s' : Sp := ⟨[(0, os), (3, oi64), (4, oi64), (5, oi64)], [], []⟩
def n12' : SL := [(.exit 2, ⟨[(0, os), (3, oi64), (4, oi64)], [], []⟩)]
def J127 : Nat → Option SL := jl []
noncomputable def P127 : Nat → St G → M (Ex × St G) := pl [lpX n2w' n04' nmo', lpX n1s' n12' nmu']
theorem n1d' : LoopOK Tryz.prog G 33 (P127 1) (nl' (nh' Tryz.f71) 1) := lk cx tn J127 2 n1s' n12' (rfl : nmu' = _) (by kernel_rfl) (an0 (by kernel_rfl)) fun x => by kernel_rfl
theorem n67' : LoopOK Tryz.prog G 33 (P127 0) (nl' (nh' Tryz.f71) 0) := lk cx tn J127 1 n2w' n04' (rfl : nmo' = _) (by kernel_rfl) (nk' _ (by kernel_rfl) (ni' n1d' nr')) fun x => by kernel_rfl
noncomputable def e127 : Fe G := ⟨I127, E127, fun x => nod' x.1.1, Tryz.f71.results.toList⟩
theorem k127 : FnOK Tryz.prog G 71 e127 := fk cx tn J127 (lp := P127) Tryz.func71 (by kernel_rfl) (by kernel_rfl) rfl (nk' _ (by kernel_rfl) (ni' n67' (ni' n1d' nr'))) fun x => by kernel_rfl
def I128 : Sp := ⟨[(0, oi64), (1, .agg c'5), (2, oi64), (3, oi64)], [], []⟩
def E128 : SL := [(.ret, ⟨[(8, oi64)], [], []⟩)]
noncomputable def e128 : Fe G := ⟨I128, E128, fun x => nk4' x.1.1 x.1.2.1.1 x.1.2.1.2.1 x.1.2.1.2.2.1 x.1.2.2.1 x.1.2.2.2.1, Tryz.f147.results.toList⟩
theorem k128 : FnOK Tryz.prog G 147 e128 := fk cx (tc k82 tn) (jl [(1048579, [(.normal, ⟨[(22, ob)], [], []⟩)])]) (lp := (pl [])) Tryz.func147 (by kernel_rfl) (by kernel_rfl) rfl (an0 (by kernel_rfl)) fun x => by kernel_rfl
def I129 : Sp := ⟨[(0, oi64), (1, .agg c'5), (2, oi64), (3, oi64)], [], []⟩
def E129 : SL := [(.ret, ⟨[(8, op 128), (9, oi64), (10, oi64)], [(128, c'5)], []⟩)]
noncomputable def e129 : Fe G := ⟨I129, E129, fun x => npb' x.1.1 x.1.2.1.1 x.1.2.1.2.1 x.1.2.1.2.2.1 x.1.2.2.1 x.1.2.2.2.1, Tryz.f127.results.toList⟩
theorem k129 : FnOK Tryz.prog G 127 e129 := fk cx (tc k128 tn) (jl []) (lp := (pl [])) Tryz.func127 (by kernel_rfl) (by kernel_rfl) rfl (an0 (by kernel_rfl)) fun x => by kernel_rfl
def I130 : Sp := ⟨[(0, .agg c'5)], [], []⟩
def E130 : SL := [(.ret, ⟨[(2, os)], [], []⟩)]
noncomputable def e130 : Fe G := ⟨I130, E130, fun x => no1' x.1.1.1 x.1.1.2.1 x.1.1.2.2.1, Tryz.f124.results.toList⟩
theorem k130 : FnOK Tryz.prog G 124 e130 := fk cx tn (jl []) (lp := (pl [])) Tryz.func124 (by kernel_rfl) (by kernel_rfl) rfl (an0 (by kernel_rfl)) fun x => by kernel_rfl
def I131 : Sp := ⟨[(0, oi64), (1, .agg c'5), (2, oi64), (3, oi64)], [], []⟩
def E131 : SL := [(.ret, ⟨[(8, op 128), (9, oi64), (10, oi64)], [(128, c'5)], []⟩)]
noncomputable def e131 : Fe G := ⟨I131, E131, fun x => nqy' x.1.1 x.1.2.1.1 x.1.2.1.2.1 x.1.2.1.2.2.1 x.1.2.2.1 x.1.2.2.2.1, Tryz.f125.results.toList⟩
theorem k131 : FnOK Tryz.prog G 125 e131 := fk cx (tc k128 tn) (jl []) (lp := (pl [])) Tryz.func125 (by kernel_rfl) (by kernel_rfl) rfl (an0 (by kernel_rfl)) fun x => by kernel_rfl
def I132 : Sp := ⟨[(0, oi64), (1, .agg c'5), (2, oi64), (3, os), (4, oi64)], [], []⟩
def E132 : SL := [(.ret, ⟨[(10, op 160), (11, oi64), (12, oi64)], [(160, c'5)], []⟩)]
def n1m' : Sp := ⟨[(2, oi64), (3, os), (4, oi64), (6, op 96), (10, op 160), (14, oi64)], [(96, c'5), (160, c'5)], []⟩
def n2r' : SL := [(.exit 0, ⟨[(4, oi64), (6, op 96), (10, op 160)], [(96, c'5), (160, c'5)], []⟩), (.ret, ⟨[(10, op 160), (11, oi64), (12, oi64)], [(160, c'5)], []⟩)]
def J132 : Nat → Option SL := jl []
noncomputable def P132 : Nat → St G → M (Ex × St G) := pl [lpX n1m' n2r' nlt']
theorem t132 : ∀ p ∈ [(147, e128)], FnOK Tryz.prog G p.1 p.2 := (tc k128 tn)
theorem n6a' : LoopOK Tryz.prog G 61 (P132 0) (nl' (nh' Tryz.f126) 0) := lk cx t132 J132 1 n1m' n2r' (rfl : nlt' = _) (by kernel_rfl) (an0 (by kernel_rfl)) fun x => by kernel_rfl
noncomputable def e132 : Fe G := ⟨I132, E132, fun x => nqx' x.1.1 x.1.2.1.1 x.1.2.1.2.1 x.1.2.1.2.2.1 x.1.2.2.1 x.1.2.2.2.1 x.1.2.2.2.2.1, Tryz.f126.results.toList⟩
theorem k132 : FnOK Tryz.prog G 126 e132 := fk cx t132 J132 (lp := P132) Tryz.func126 (by kernel_rfl) (by kernel_rfl) rfl (nk' _ (by kernel_rfl) (ni' n6a' nr')) fun x => by kernel_rfl
def I133 : Sp := ⟨[(0, .agg c'3), (1, os)], [], []⟩
def E133 : SL := [(.ret, ⟨[(4, op 64), (5, oi64)], [(64, c'6)], []⟩)]
noncomputable def e133 : Fe G := ⟨I133, E133, fun x => npn' x.1.1.1 x.1.1.2.1 x.1.1.2.2.1 x.1.1.2.2.2.1 x.1.1.2.2.2.2.1 x.1.1.2.2.2.2.2.1 x.1.1.2.2.2.2.2.2.1 x.1.1.2.2.2.2.2.2.2.1 x.1.2.1, Tryz.f146.results.toList⟩
theorem k133 : FnOK Tryz.prog G 146 e133 := fk cx (tc k69 (tc k127 (tc k76 tn))) (jl []) (lp := (pl [])) Tryz.func146 (by kernel_rfl) (by kernel_rfl) rfl (an0 (by kernel_rfl)) fun x => by kernel_rfl
def I134 : Sp := ⟨[(0, .agg c'3), (1, .agg c'6)], [], []⟩
def E134 : SL := [(.ret, ⟨[(4, os), (5, oi64)], [], []⟩)]
noncomputable def e134 : Fe G := ⟨I134, E134, fun x => npp' x.1.1.1 x.1.1.2.1 x.1.1.2.2.1 x.1.1.2.2.2.1 x.1.1.2.2.2.2.1 x.1.1.2.2.2.2.2.1 x.1.1.2.2.2.2.2.2.1 x.1.1.2.2.2.2.2.2.2.1 x.1.2.1.1 x.1.2.1.2.1 x.1.2.1.2.2.1 x.1.2.1.2.2.2.1 x.1.2.1.2.2.2.2.1, Tryz.f26.results.toList⟩
theorem k134 : FnOK Tryz.prog G 26 e134 := fk cx (tc k76 (tc k127 tn)) (jl []) (lp := (pl [])) Tryz.func26 (by kernel_rfl) (by kernel_rfl) rfl (an0 (by kernel_rfl)) fun x => by kernel_rfl
def I135 : Sp := ⟨[(0, .agg c'3), (1, os)], [], []⟩
def E135 : SL := [(.ret, ⟨[(4, .one (.own 32768 92)), (5, oi64)], [], []⟩)]
def n1f' : Sp := ⟨[(1, os), (2, op 32), (6, .one (.own 32768 92)), (7, oi64)], [(32, c'3)], []⟩
def n0s' : SL := [(.exit 0, ⟨[(6, .one (.own 32768 92)), (7, oi64)], [], []⟩)]
def J135 : Nat → Option SL := jl []
noncomputable def P135 : Nat → St G → M (Ex × St G) := pl [lpX n1f' n0s' nmi']
theorem t135 : ∀ p ∈ [(146, e133)], FnOK Tryz.prog G p.1 p.2 := (tc k133 tn)
theorem n51' : LoopOK Tryz.prog G 35 (P135 0) (nl' (nh' Tryz.f123) 0) := lk cx t135 J135 1 n1f' n0s' (rfl : nmi' = _) (by kernel_rfl) (an0 (by kernel_rfl)) fun x => by kernel_rfl
noncomputable def e135 : Fe G := ⟨I135, E135, fun x => ns6' x.1.1.1 x.1.1.2.1 x.1.1.2.2.1 x.1.1.2.2.2.1 x.1.1.2.2.2.2.1 x.1.1.2.2.2.2.2.1 x.1.1.2.2.2.2.2.2.1 x.1.1.2.2.2.2.2.2.2.1 x.1.2.1, Tryz.f123.results.toList⟩
theorem k135 : FnOK Tryz.prog G 123 e135 := fk cx t135 J135 (lp := P135) Tryz.func123 (by kernel_rfl) (by kernel_rfl) rfl (nk' _ (by kernel_rfl) (ni' n51' nr')) fun x => by kernel_rfl
def I136 : Sp := ⟨[(0, .agg c'3), (1, oro 92)], [], []⟩
def E136 : SL := [(.ret, ⟨[(4, os)], [], []⟩)]
def n10' : Sp := ⟨[(1, oro 92), (2, op 32), (5, os), (6, oi64)], [(32, c'3)], []⟩
def n1a' : SL := [(.exit 0, ⟨[(5, os)], [], []⟩)]
def J136 : Nat → Option SL := jl []
noncomputable def P136 : Nat → St G → M (Ex × St G) := pl [lpX n10' n1a' nls']
theorem t136 : ∀ p ∈ [(26, e134)], FnOK Tryz.prog G p.1 p.2 := (tc k134 tn)
theorem n6h' : LoopOK Tryz.prog G 28 (P136 0) (nl' (nh' Tryz.f9) 0) := lk cx t136 J136 1 n10' n1a' (rfl : nls' = _) (by kernel_rfl) (an0 (by kernel_rfl)) fun x => by kernel_rfl
noncomputable def e136 : Fe G := ⟨I136, E136, fun x => nq2' x.1.1.1 x.1.1.2.1 x.1.1.2.2.1 x.1.1.2.2.2.1 x.1.1.2.2.2.2.1 x.1.1.2.2.2.2.2.1 x.1.1.2.2.2.2.2.2.1 x.1.1.2.2.2.2.2.2.2.1 x.1.2.1, Tryz.f9.results.toList⟩
theorem k136 : FnOK Tryz.prog G 9 e136 := fk cx t136 J136 (lp := P136) Tryz.func9 (by kernel_rfl) (by kernel_rfl) rfl (nk' _ (by kernel_rfl) (ni' n6h' nr')) fun x => by kernel_rfl
def I137 : Sp := ⟨[(0, .agg c'3), (1, .agg c'5), (2, oi64)], [], []⟩
def E137 : SL := [(.ret, ⟨[(6, ob)], [], []⟩)]
noncomputable def e137 : Fe G := ⟨I137, E137, fun x => nry' x.1.1.1 x.1.1.2.1 x.1.1.2.2.1 x.1.1.2.2.2.1 x.1.1.2.2.2.2.1 x.1.1.2.2.2.2.2.1 x.1.1.2.2.2.2.2.2.1 x.1.1.2.2.2.2.2.2.2.1 x.1.2.1.1 x.1.2.1.2.1 x.1.2.1.2.2.1 x.1.2.2.1, Tryz.f88.results.toList⟩
theorem k137 : FnOK Tryz.prog G 88 e137 := fk cx (tc k69 (tc k82 tn)) (jl [(1048577, [(.normal, ⟨[(6, ob)], [], []⟩)])]) (lp := (pl [])) Tryz.func88 (by kernel_rfl) (by kernel_rfl) rfl (an0 (by kernel_rfl)) fun x => by kernel_rfl
def I138 : Sp := ⟨[(0, ob)], [], []⟩
def E138 : SL := [(.ret, ⟨[(2, oi64)], [], []⟩)]
noncomputable def e138 : Fe G := ⟨I138, E138, fun x => nm7' x.1.1, Tryz.f28.results.toList⟩
theorem k138 : FnOK Tryz.prog G 28 e138 := fk cx tn (jl []) (lp := (pl [])) Tryz.func28 (by kernel_rfl) (by kernel_rfl) rfl (an0 (by kernel_rfl)) fun x => by kernel_rfl
def I139 : Sp := ⟨[(0, .agg c'3), (1, .agg c'8)], [], []⟩
def E139 : SL := [(.ret, ⟨[(4, .one (.own 32768 92))], [], []⟩)]
def n1e' : Sp := ⟨[(3, op 48), (5, .one (.own 32768 92)), (6, oi64)], [(48, c'8)], []⟩
def n2k' : SL := [(.exit 0, ⟨[(3, op 48), (5, .one (.own 32768 92))], [(48, c'8)], []⟩)]
def n09' : Sp := ⟨[(3, op 48), (5, .one (.own 32768 92)), (7, oi64)], [(48, c'8)], []⟩
def n00' : SL := [(.exit 2, ⟨[(5, .one (.own 32768 92))], [], []⟩)]
def J139 : Nat → Option SL := jl []
noncomputable def P139 : Nat → St G → M (Ex × St G) := pl [lpX n1e' n2k' njp', lpX n09' n00' njm']
theorem t139 : ∀ p ∈ [(27, e74), (28, e138)], FnOK Tryz.prog G p.1 p.2 := (tc k74 (tc k138 tn))
theorem n6c' : LoopOK Tryz.prog G 84 (P139 1) (nl' (nh' Tryz.f10) 1) := lk cx t139 J139 2 n09' n00' (rfl : njm' = _) (by kernel_rfl) (an0 (by kernel_rfl)) fun x => by kernel_rfl
theorem n6j' : LoopOK Tryz.prog G 84 (P139 0) (nl' (nh' Tryz.f10) 0) := lk cx t139 J139 1 n1e' n2k' (rfl : njp' = _) (by kernel_rfl) (an0 (by kernel_rfl)) fun x => by kernel_rfl
noncomputable def e139 : Fe G := ⟨I139, E139, fun x => nn3' x.1.1.1 x.1.1.2.1 x.1.1.2.2.1 x.1.1.2.2.2.1 x.1.1.2.2.2.2.1 x.1.1.2.2.2.2.2.1 x.1.1.2.2.2.2.2.2.1 x.1.1.2.2.2.2.2.2.2.1 x.1.2.1.1 x.1.2.1.2.1 x.1.2.1.2.2.1 x.1.2.1.2.2.2.1, Tryz.f10.results.toList⟩
theorem k139 : FnOK Tryz.prog G 10 e139 := fk cx t139 J139 (lp := P139) Tryz.func10 (by kernel_rfl) (by kernel_rfl) rfl (nk' _ (by kernel_rfl) (ni' n6j' (ni' n6c' nr'))) fun x => by kernel_rfl
def I140 : Sp := ⟨[(0, .agg c'3), (1, .agg c'5), (2, .agg c'8), (3, oi64)], [], []⟩
def E140 : SL := [(.ret, ⟨[(8, op 128), (9, oi64), (10, oi64)], [(128, c'5)], []⟩)]
noncomputable def e140 : Fe G := ⟨I140, E140, fun x => noy' x.1.1.1 x.1.1.2.1 x.1.1.2.2.1 x.1.1.2.2.2.1 x.1.1.2.2.2.2.1 x.1.1.2.2.2.2.2.1 x.1.1.2.2.2.2.2.2.1 x.1.1.2.2.2.2.2.2.2.1 x.1.2.1.1 x.1.2.1.2.1 x.1.2.1.2.2.1 x.1.2.2.1.1 x.1.2.2.1.2.1 x.1.2.2.1.2.2.1 x.1.2.2.1.2.2.2.1 x.1.2.2.2.1, Tryz.f90.results.toList⟩
theorem k140 : FnOK Tryz.prog G 90 e140 := fk cx (tc k137 (tc k74 (tc k131 (tc k139 (tc k136 (tc k132 (tc k129 tn))))))) (jl []) (lp := (pl [])) Tryz.func90 (by kernel_rfl) (by kernel_rfl) rfl (an0 (by kernel_rfl)) fun x => by kernel_rfl
def I141 : Sp := ⟨[(0, .agg c'3), (1, .agg c'5)], [], []⟩
def E141 : SL := [(.ret, ⟨[(4, op 64)], [(64, c'4)], []⟩)]
def n0w' : Sp := ⟨[(2, op 32), (4, op 64), (5, op 80), (6, .one (.own 32768 92)), (8, oi64)], [(32, c'3), (64, c'9), (80, c'10)], []⟩
def n3e' : SL := [(.exit 0, ⟨[(4, op 64), (5, op 80)], [(64, c'4), (80, c'11)], []⟩)]
def J141 : Nat → Option SL := jl []
noncomputable def P141 : Nat → St G → M (Ex × St G) := pl [lpX n0w' n3e' nkr']
theorem t141 : ∀ p ∈ [(23, e70), (124, e130), (123, e135), (25, e79)], FnOK Tryz.prog G p.1 p.2 := (tc k70 (tc k130 (tc k135 (tc k79 tn))))
theorem n65' : LoopOK Tryz.prog G 35 (P141 0) (nl' (nh' Tryz.f89) 0) := lk cx t141 J141 1 n0w' n3e' (rfl : nkr' = _) (by kernel_rfl) (an0 (by kernel_rfl)) fun x => by kernel_rfl
noncomputable def e141 : Fe G := ⟨I141, E141, fun x => npj' x.1.1.1 x.1.1.2.1 x.1.1.2.2.1 x.1.1.2.2.2.1 x.1.1.2.2.2.2.1 x.1.1.2.2.2.2.2.1 x.1.1.2.2.2.2.2.2.1 x.1.1.2.2.2.2.2.2.2.1 x.1.2.1.1 x.1.2.1.2.1 x.1.2.1.2.2.1, Tryz.f89.results.toList⟩
theorem k141 : FnOK Tryz.prog G 89 e141 := fk cx t141 J141 (lp := P141) Tryz.func89 (by kernel_rfl) (by kernel_rfl) rfl (nk' _ (by kernel_rfl) (ni' n65' nr')) fun x => by kernel_rfl
def I142 : Sp := ⟨[(0, .agg c'3), (1, .agg c'5), (2, oi64)], [], []⟩
def E142 : SL := [(.ret, ⟨[(6, op 96), (7, op 112), (8, oi64), (9, oi64)], [(96, c'5), (112, c'4)], []⟩)]
noncomputable def e142 : Fe G := ⟨I142, E142, fun x => noz' x.1.1.1 x.1.1.2.1 x.1.1.2.2.1 x.1.1.2.2.2.1 x.1.1.2.2.2.2.1 x.1.1.2.2.2.2.2.1 x.1.1.2.2.2.2.2.2.1 x.1.1.2.2.2.2.2.2.2.1 x.1.2.1.1 x.1.2.1.2.1 x.1.2.1.2.2.1 x.1.2.2.1, Tryz.f52.results.toList⟩
theorem k142 : FnOK Tryz.prog G 52 e142 := fk cx (tc k137 (tc k141 (tc k140 tn))) (jl []) (lp := (pl [])) Tryz.func52 (by kernel_rfl) (by kernel_rfl) rfl (an0 (by kernel_rfl)) fun x => by kernel_rfl
def I143 : Sp := ⟨[(0, .agg c'3), (1, .agg c'5), (2, oi64)], [], []⟩
def E143 : SL := [(.ret, ⟨[(6, op 96), (7, oi64), (8, oi64)], [(96, c'23)], []⟩)]
noncomputable def e143 : Fe G := ⟨I143, E143, fun x => nsc' x.1.1.1 x.1.1.2.1 x.1.1.2.2.1 x.1.1.2.2.2.1 x.1.1.2.2.2.2.1 x.1.1.2.2.2.2.2.1 x.1.1.2.2.2.2.2.2.1 x.1.1.2.2.2.2.2.2.2.1 x.1.2.1.1 x.1.2.1.2.1 x.1.2.1.2.2.1 x.1.2.2.1, Tryz.f16.results.toList⟩
theorem k143 : FnOK Tryz.prog G 16 e143 := fk cx (tc k142 (tc k84 tn)) (jl [(2097156, [(.normal, ⟨[(3, op 48), (6, op 96), (9, op 144), (10, op 160), (11, oi64)], [(48, c'3), (96, c'17), (144, c'5), (160, c'8)], []⟩)])]) (lp := (pl [])) Tryz.func16 (by kernel_rfl) (by kernel_rfl) rfl (an0 (by kernel_rfl)) fun x => by kernel_rfl
def I144 : Sp := ⟨[(0, .agg c'3)], [], []⟩
def E144 : SL := [(.ret, ⟨[(2, op 32), (3, oi64)], [(32, c'23)], []⟩)]
noncomputable def e144 : Fe G := ⟨I144, E144, fun x => nyb' x.1.1.1 x.1.1.2.1 x.1.1.2.2.1 x.1.1.2.2.2.1 x.1.1.2.2.2.2.1 x.1.1.2.2.2.2.2.1 x.1.1.2.2.2.2.2.2.1 x.1.1.2.2.2.2.2.2.2.1, Tryz.f18.results.toList⟩
theorem k144 : FnOK Tryz.prog G 18 e144 := fk cx (tc k143 tn) (jl []) (lp := (pl [])) Tryz.func18 (by kernel_rfl) (by kernel_rfl) rfl (an0 (by kernel_rfl)) fun x => by kernel_rfl
end Go.Ovl
