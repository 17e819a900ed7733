/- The contracts of the program's functions: part 1. -/
import Derived.Test.YthdomhdippmaiaaGreatDoorSig
import Derived.Test.YthdomhdippmaiaaGreatDoorDefs2
import Derived.Test.YthdomhdippmaiaaGreatDoorHandL
namespace Go.Ovl
open Go Go.Ab Go.Proofs
set_option maxRecDepth 100000
def c'0 : List CSh := [.int .i64, .int .i64, .int .i64, .int .i64, .flt .f64, .flt .f64, .flt .f64, .own 32768 100]
def c'1 : List CSh := [.int .i64, .int .i64, .int .i64, .int .i64, .flt .f64, .flt .f64, .flt .f64, .own 32769 100]
def c'2 : List CSh := [.int .i64, .int .i64, .int .i64, .int .i64, .flt .f64, .flt .f64, .flt .f64, .ro 100]
def c'3 : List CSh := [.int .i64, .int .i64, .int .i64, .int .i64, .int .i64, .int .i64, .int .i64, .int .i64, .int .i64]
def c'4 : List CSh := [.own 32768 3, .own 32769 4, .own 32770 4, .own 32771 63]
def c'5 : List CSh := [.int .i64, .int .i64, .int .i64, .int .i64, .int .i64]
def c'6 : List CSh := [.int .i64, .int .i64, .int .i64, .int .i64, .bool]
def c'7 : List CSh := [.ro 3, .ro 4, .ro 4, .ro 63]
def c'8 : List CSh := [.own 32772 3, .own 32773 4, .own 32774 4, .own 32775 63]
def c'9 : List CSh := [.own 32768 3, .own 32769 4, .own 32770 4, .ro 63]
def c'10 : List CSh := [.own 32771 3, .own 32772 4, .own 32773 4, .own 32774 63]
def c'11 : List CSh := [.own 32769 3, .own 32770 4, .own 32771 4, .own 32772 63]
def c'12 : List CSh := [.own 32773 3, .own 32774 4, .own 32775 4, .own 32776 63]
def c'13 : List CSh := [.int .u8, .int .u8, .int .u8, .int .u8]
def c'14 : List CSh := [.int .u32, .int .u32]
def c'15 : List CSh := [.bool, .bool, .bool, .bool, .int .i64, .int .i64, .int .i64, .int .u32, .int .u32, .int .u32, .int .u32, .int .u32]
def c'16 : List CSh := [.own 32768 26, .own 32769 4, .int .u32, .int .u32]
def c'17 : List CSh := [.own 32770 26, .own 32771 4, .int .u32, .int .u32]
def c'18 : List CSh := [.own 32768 66, .own 32769 3, .own 32770 4, .own 32771 4, .own 32772 63, .own 32773 3, .own 32774 26, .own 32775 4, .int .u32, .int .u32, .int .u32, .int .u32, .int .i64, .int .i64, .int .i64, .int .i64, .flt .f64, .flt .f64, .flt .f64, .ro 100]
def c'19 : List CSh := [.own 32769 66, .own 32770 3, .own 32771 4, .own 32772 4, .own 32773 63, .own 32774 3, .own 32775 26, .own 32776 4, .int .u32, .int .u32, .int .u32, .int .u32, .int .i64, .int .i64, .int .i64, .int .i64, .flt .f64, .flt .f64, .flt .f64, .ro 100]
def c'20 : List CSh := [.int .u32, .int .u32, .int .u32]
def c'21 : List CSh := [.int .i64, .int .i64]
def c'22 : List CSh := [.int .i64, .int .i64, .int .i64, .int .i64, .flt .f64, .flt .f64, .flt .f64, .ro 100, .ro 46]
def c'23 : List CSh := [.own 32768 66, .own 32769 3, .own 32770 4, .own 32771 4, .own 32772 63, .own 32773 3, .own 32774 26, .own 32775 4, .int .u32, .int .u32, .int .u32, .int .u32]
def c'24 : List CSh := [.own 32776 66, .own 32777 3, .own 32778 4, .own 32779 4, .own 32780 63, .own 32781 3, .own 32782 26, .own 32783 4, .int .u32, .int .u32, .int .u32, .int .u32, .int .i64, .int .i64, .int .i64, .int .i64, .flt .f64, .flt .f64, .flt .f64, .ro 100]
def c'25 : List CSh := [.ro 26, .ro 4, .int .u32, .int .u32]
def c'26 : List CSh := [.ro 66, .ro 3, .ro 4, .ro 4, .ro 63, .ro 3, .ro 26, .ro 4, .int .u32, .int .u32, .int .u32, .int .u32]
def c'27 : List CSh := [.int .u8, .int .u8, .ro 5, .ro 5, .int .u32, .int .u32]
theorem cx : Ctx Tryz.prog G := ⟨sigOK, eqOK, hmix⟩
def I0 : Sp := ⟨[(0, oi64), (1, oi64)], [], []⟩
def E0 : SL := [(.ret, ⟨[(4, op 64)], [(64, c'0)], []⟩)]
def S0_0 : Sp := ⟨[(0, oi64), (1, oi64), (4, op 64), (5, op 80), (6, oi64)], [(64, c'0), (80, c'1)], []⟩
def X0_0 : SL := [(.exit 0, ⟨[(4, op 64), (5, op 80)], [(64, c'0), (80, c'1)], []⟩)]
def J0 : Nat → Option SL := jl []
noncomputable def P0 : Nat → St G → M (Ex × St G) := pl [lpX S0_0 X0_0 nfw']
theorem l0_0 : LoopOK Tryz.prog G 24 (P0 0) (nn' (ni' Tryz.f26) 0) := lk cx tn J0 1 S0_0 X0_0 (rfl : nfw' = _) (by kernel_rfl) (an0 (by kernel_rfl)) fun x => by kernel_rfl
noncomputable def e0 : Fe G := ⟨I0, E0, fun x => nh9' x.1.1 x.1.2.1, Tryz.f26.results.toList⟩
theorem k0 : FnOK Tryz.prog G 26 e0 := fk cx tn J0 (lp := P0) Tryz.func26 (by kernel_rfl) (by kernel_rfl) rfl (nh' _ (by kernel_rfl) (nf' l0_0 nk')) fun x => by kernel_rfl
def I1 : Sp := ⟨[(0, ou8), (1, ou8)], [], []⟩
def E1 : SL := [(.ret, ⟨[(4, op 64)], [(64, c'0)], []⟩)]
noncomputable def e1 : Fe G := ⟨I1, E1, fun x => ncs' x.1.1 x.1.2.1, Tryz.f8.results.toList⟩
theorem k1 : FnOK Tryz.prog G 8 e1 := fk cx (tc k0 tn) (jl []) (lp := (pl [])) Tryz.func8 (by kernel_rfl) (by kernel_rfl) rfl (an0 (by kernel_rfl)) fun x => by kernel_rfl
def I2 : Sp := ⟨[(0, oi64), (1, oi64), (2, oi64)], [], []⟩
def E2 : SL := [(.ret, ⟨[(6, ob)], [], []⟩)]
noncomputable def e2 : Fe G := ⟨I2, E2, fun x => ndi' x.1.1 x.1.2.1 x.1.2.2.1, Tryz.f96.results.toList⟩
theorem k2 : FnOK Tryz.prog G 96 e2 := fk cx tn (jl [(1048577, [(.normal, ⟨[(6, ob)], [], []⟩)])]) (lp := (pl [])) Tryz.func96 (by kernel_rfl) (by kernel_rfl) rfl (an0 (by kernel_rfl)) fun x => by kernel_rfl
def I3 : Sp := ⟨[(0, .agg c'2), (1, .agg c'3)], [], []⟩
def E3 : SL := [(.ret, ⟨[(4, ob)], [], []⟩)]
def S3_0 : Sp := ⟨[(2, op 32), (3, op 48), (5, .one (.own 32768 3)), (6, oi64)], [(32, c'2), (48, c'3)], []⟩
def X3_0 : SL := [(.exit 0, ⟨[(2, op 32), (3, op 48)], [(32, c'2), (48, c'3)], []⟩), (.ret, ⟨[(4, ob)], [], []⟩)]
def J3 : Nat → Option SL := jl [(1048585, [(.normal, ⟨[(4, ob)], [], []⟩)])]
noncomputable def P3 : Nat → St G → M (Ex × St G) := pl [lpX S3_0 X3_0 nhu']
theorem t3 : ∀ p ∈ [(96, e2)], FnOK Tryz.prog G p.1 p.2 := (tc k2 tn)
theorem l3_0 : LoopOK Tryz.prog G 56 (P3 0) (nn' (ni' Tryz.f100) 0) := lk cx t3 J3 1 S3_0 X3_0 (rfl : nhu' = _) (by kernel_rfl) (an0 (by kernel_rfl)) fun x => by kernel_rfl
noncomputable def e3 : Fe G := ⟨I3, E3, fun x => njc' x.1.1.1 x.1.1.2.1 x.1.1.2.2.1 x.1.1.2.2.2.1 x.1.1.2.2.2.2.1 x.1.1.2.2.2.2.2.1 x.1.1.2.2.2.2.2.2.1 x.1.1.2.2.2.2.2.2.2.1 x.1.2.1.1 x.1.2.1.2.1 x.1.2.1.2.2.1 x.1.2.1.2.2.2.1 x.1.2.1.2.2.2.2.1 x.1.2.1.2.2.2.2.2.1 x.1.2.1.2.2.2.2.2.2.1 x.1.2.1.2.2.2.2.2.2.2.1 x.1.2.1.2.2.2.2.2.2.2.2.1, Tryz.f100.results.toList⟩
theorem k3 : FnOK Tryz.prog G 100 e3 := fk cx t3 J3 (lp := P3) Tryz.func100 (by kernel_rfl) (by kernel_rfl) rfl (nh' _ (by kernel_rfl) (nf' l3_0 nk')) fun x => by kernel_rfl
def I4 : Sp := ⟨[(0, .agg c'2)], [], []⟩
def E4 : SL := [(.ret, ⟨[(2, oi64)], [], []⟩)]
def S4_0 : Sp := ⟨[(1, op 16), (3, ob), (4, oi64)], [(16, c'2)], []⟩
def X4_0 : SL := [(.exit 0, ⟨[(1, op 16), (3, ob)], [(16, c'2)], []⟩)]
def J4 : Nat → Option SL := jl [(1048581, [(.normal, ⟨[(1, op 16), (3, ob)], [(16, c'2)], []⟩)]), (1048585, [(.normal, ⟨[(1, op 16), (3, ob), (4, oi64)], [(16, c'2)], []⟩)])]
noncomputable def P4 : Nat → St G → M (Ex × St G) := pl [lpX S4_0 X4_0 nhs']
theorem t4 : ∀ p ∈ [(96, e2), (100, e3)], FnOK Tryz.prog G p.1 p.2 := (tc k2 (tc k3 tn))
theorem l4_0 : LoopOK Tryz.prog G 73 (P4 0) (nn' (ni' Tryz.f60) 0) := lk cx t4 J4 1 S4_0 X4_0 (rfl : nhs' = _) (by kernel_rfl) (an0 (by kernel_rfl)) fun x => by kernel_rfl
noncomputable def e4 : Fe G := ⟨I4, E4, fun x => ncw' x.1.1.1 x.1.1.2.1 x.1.1.2.2.1 x.1.1.2.2.2.1 x.1.1.2.2.2.2.1 x.1.1.2.2.2.2.2.1 x.1.1.2.2.2.2.2.2.1 x.1.1.2.2.2.2.2.2.2.1, Tryz.f60.results.toList⟩
theorem k4 : FnOK Tryz.prog G 60 e4 := fk cx t4 J4 (lp := P4) Tryz.func60 (by kernel_rfl) (by kernel_rfl) rfl (nh' _ (by kernel_rfl) (nf' l4_0 nk')) fun x => by kernel_rfl
def I5 : Sp := ⟨[(0, .agg c'2)], [], []⟩
def E5 : SL := [(.ret, ⟨[(2, op 32)], [(32, c'4)], []⟩)]
noncomputable def e5 : Fe G := ⟨I5, E5, fun x => neq' x.1.1.1 x.1.1.2.1 x.1.1.2.2.1 x.1.1.2.2.2.1 x.1.1.2.2.2.2.1 x.1.1.2.2.2.2.2.1 x.1.1.2.2.2.2.2.2.1 x.1.1.2.2.2.2.2.2.2.1, Tryz.f27.results.toList⟩
theorem k5 : FnOK Tryz.prog G 27 e5 := fk cx (tc k4 tn) (jl []) (lp := (pl [])) Tryz.func27 (by kernel_rfl) (by kernel_rfl) rfl (an0 (by kernel_rfl)) fun x => by kernel_rfl
def I6 : Sp := ⟨[(0, .agg c'2), (1, oro 5), (2, oi64)], [], []⟩
def E6 : SL := [(.ret, ⟨[(6, .one (.own 32768 66))], [], []⟩)]
def S6_0 : Sp := ⟨[(1, oro 5), (2, oi64), (7, .one (.own 32768 66)), (8, oi64), (9, oi64), (10, oi64)], [], []⟩
def X6_0 : SL := [(.exit 0, ⟨[(7, .one (.own 32768 66))], [], []⟩)]
def J6 : Nat → Option SL := jl [(18, [(.normal, ⟨[(1, oro 5), (2, oi64), (7, .one (.own 32768 66)), (8, oi64), (9, oi64), (10, oi64), (11, oi64), (13, op 208)], [(208, c'5)], []⟩)]), (20, [(.normal, ⟨[(1, oro 5), (2, oi64), (7, .one (.own 32768 66)), (8, oi64), (9, oi64), (10, oi64), (11, oi64), (13, op 208)], [(208, c'5)], []⟩)])]
noncomputable def P6 : Nat → St G → M (Ex × St G) := pl [lpX S6_0 X6_0 ngq']
theorem l6_0 : LoopOK Tryz.prog G 112 (P6 0) (nn' (ni' Tryz.f28) 0) := lk cx tn J6 1 S6_0 X6_0 (rfl : ngq' = _) (by kernel_rfl) (an0 (by kernel_rfl)) fun x => by kernel_rfl
noncomputable def e6 : Fe G := ⟨I6, E6, fun x => nhp' x.1.1.1 x.1.1.2.1 x.1.1.2.2.1 x.1.1.2.2.2.1 x.1.1.2.2.2.2.1 x.1.1.2.2.2.2.2.1 x.1.1.2.2.2.2.2.2.1 x.1.1.2.2.2.2.2.2.2.1 x.1.2.1 x.1.2.2.1, Tryz.f28.results.toList⟩
theorem k6 : FnOK Tryz.prog G 28 e6 := fk cx tn J6 (lp := P6) Tryz.func28 (by kernel_rfl) (by kernel_rfl) rfl (nh' _ (by kernel_rfl) (nf' l6_0 nk')) fun x => by kernel_rfl
def I7 : Sp := ⟨[(0, .agg c'2), (1, oi64), (2, oi64)], [], []⟩
def E7 : SL := [(.ret, ⟨[(6, ob)], [], []⟩)]
noncomputable def e7 : Fe G := ⟨I7, E7, fun x => nei' x.1.1.1 x.1.1.2.1 x.1.1.2.2.1 x.1.1.2.2.2.1 x.1.1.2.2.2.2.1 x.1.1.2.2.2.2.2.1 x.1.1.2.2.2.2.2.2.1 x.1.1.2.2.2.2.2.2.2.1 x.1.2.1 x.1.2.2.1, Tryz.f58.results.toList⟩
theorem k7 : FnOK Tryz.prog G 58 e7 := fk cx (tc k4 (tc k2 tn)) (jl [(1048579, [(.normal, ⟨[(6, ob)], [], []⟩)])]) (lp := (pl [])) Tryz.func58 (by kernel_rfl) (by kernel_rfl) rfl (an0 (by kernel_rfl)) fun x => by kernel_rfl
def I8 : Sp := ⟨[(0, .agg c'6), (1, .agg c'6)], [], []⟩
def E8 : SL := [(.ret, ⟨[(4, ob)], [], []⟩)]
noncomputable def e8 : Fe G := ⟨I8, E8, fun x => nib' x.1.1.1 x.1.1.2.1 x.1.1.2.2.1 x.1.1.2.2.2.1 x.1.1.2.2.2.2.1 x.1.2.1.1 x.1.2.1.2.1 x.1.2.1.2.2.1 x.1.2.1.2.2.2.1 x.1.2.1.2.2.2.2.1, Tryz.f87.results.toList⟩
theorem k8 : FnOK Tryz.prog G 87 e8 := fk cx tn (jl [(1048577, [(.normal, ⟨[(4, ob)], [], []⟩)])]) (lp := (pl [])) Tryz.func87 (by kernel_rfl) (by kernel_rfl) rfl (an0 (by kernel_rfl)) fun x => by kernel_rfl
def I9 : Sp := ⟨[(0, .agg c'2), (1, .agg c'7)], [], []⟩
def E9 : SL := [(.ret, ⟨[(4, ob)], [], []⟩)]
def S9_0 : Sp := ⟨[(2, op 32), (3, op 48), (5, oi64), (6, oi64)], [(32, c'2), (48, c'7)], []⟩
def X9_0 : SL := [(.exit 0, ⟨[(2, op 32), (3, op 48), (5, oi64)], [(32, c'2), (48, c'7)], []⟩), (.ret, ⟨[(4, ob)], [], []⟩)]
def S9_1 : Sp := ⟨[(2, op 32), (3, op 48), (5, oi64), (7, oi64)], [(32, c'2), (48, c'7)], []⟩
def X9_1 : SL := [(.exit 2, ⟨[], [], []⟩), (.ret, ⟨[(4, ob)], [], []⟩)]
def J9 : Nat → Option SL := jl [(1048589, [(.normal, ⟨[(2, op 32), (3, op 48), (5, oi64), (7, oi64), (109, ob)], [(32, c'2), (48, c'7)], []⟩)])]
noncomputable def P9 : Nat → St G → M (Ex × St G) := pl [lpX S9_0 X9_0 ngr', lpX S9_1 X9_1 ngu']
theorem t9 : ∀ p ∈ [(60, e4), (58, e7), (87, e8)], FnOK Tryz.prog G p.1 p.2 := (tc k4 (tc k7 (tc k8 tn)))
theorem l9_1 : LoopOK Tryz.prog G 110 (P9 1) (nn' (ni' Tryz.f43) 1) := lk cx t9 J9 2 S9_1 X9_1 (rfl : ngu' = _) (by kernel_rfl) (an0 (by kernel_rfl)) fun x => by kernel_rfl
theorem l9_0 : LoopOK Tryz.prog G 110 (P9 0) (nn' (ni' Tryz.f43) 0) := lk cx t9 J9 1 S9_0 X9_0 (rfl : ngr' = _) (by kernel_rfl) (an0 (by kernel_rfl)) fun x => by kernel_rfl
noncomputable def e9 : Fe G := ⟨I9, E9, fun x => nes' x.1.1.1 x.1.1.2.1 x.1.1.2.2.1 x.1.1.2.2.2.1 x.1.1.2.2.2.2.1 x.1.1.2.2.2.2.2.1 x.1.1.2.2.2.2.2.2.1 x.1.1.2.2.2.2.2.2.2.1 x.1.2.1.1 x.1.2.1.2.1 x.1.2.1.2.2.1 x.1.2.1.2.2.2.1, Tryz.f43.results.toList⟩
theorem k9 : FnOK Tryz.prog G 43 e9 := fk cx t9 J9 (lp := P9) Tryz.func43 (by kernel_rfl) (by kernel_rfl) rfl (nh' _ (by kernel_rfl) (nf' l9_0 (nf' l9_1 nk'))) fun x => by kernel_rfl
def I10 : Sp := ⟨[(0, oi64), (1, oi64), (2, oi64)], [], []⟩
def E10 : SL := [(.ret, ⟨[(6, ob)], [], []⟩)]
noncomputable def e10 : Fe G := ⟨I10, E10, fun x => ne9' x.1.1 x.1.2.1 x.1.2.2.1, Tryz.f101.results.toList⟩
theorem k10 : FnOK Tryz.prog G 101 e10 := fk cx tn (jl [(1048577, [(.normal, ⟨[(6, ob)], [], []⟩)])]) (lp := (pl [])) Tryz.func101 (by kernel_rfl) (by kernel_rfl) rfl (an0 (by kernel_rfl)) fun x => by kernel_rfl
def I11 : Sp := ⟨[(0, .agg c'2), (1, .agg c'5)], [], []⟩
def E11 : SL := [(.ret, ⟨[(4, ob)], [], []⟩)]
noncomputable def e11 : Fe G := ⟨I11, E11, fun x => ni9' x.1.1.1 x.1.1.2.1 x.1.1.2.2.1 x.1.1.2.2.2.1 x.1.1.2.2.2.2.1 x.1.1.2.2.2.2.2.1 x.1.1.2.2.2.2.2.2.1 x.1.1.2.2.2.2.2.2.2.1 x.1.2.1.1 x.1.2.1.2.1 x.1.2.1.2.2.1 x.1.2.1.2.2.2.1 x.1.2.1.2.2.2.2.1, Tryz.f61.results.toList⟩
theorem k11 : FnOK Tryz.prog G 61 e11 := fk cx (tc k4 (tc k7 (tc k10 tn))) (jl [(1048580, [(.normal, ⟨[(2, op 32), (3, op 48), (5, ob), (6, ob)], [(32, c'2), (48, c'5)], []⟩)]), (1048584, [(.normal, ⟨[(4, ob)], [], []⟩)]), (1048586, [(.normal, ⟨[(4, ob)], [], []⟩)]), (1048588, [(.normal, ⟨[(4, ob)], [], []⟩)]), (1048591, [(.normal, ⟨[(4, ob)], [], []⟩)]), (1048593, [(.normal, ⟨[(4, ob)], [], []⟩)])]) (lp := (pl [])) Tryz.func61 (by kernel_rfl) (by kernel_rfl) rfl (an0 (by kernel_rfl)) fun x => by kernel_rfl
def I12 : Sp := ⟨[(0, .agg c'7), (1, oi64), (2, oi64)], [], []⟩
def E12 : SL := [(.ret, ⟨[(6, oi64)], [], []⟩)]
def S12_0 : Sp := ⟨[(1, oi64), (2, oi64), (3, op 48), (7, oi64)], [(48, c'7)], []⟩
def X12_0 : SL := [(.exit 0, ⟨[], [], []⟩), (.ret, ⟨[(6, oi64)], [], []⟩)]
def J12 : Nat → Option SL := jl [(1048580, [(.normal, ⟨[(1, oi64), (2, oi64), (3, op 48), (7, oi64), (32, ob)], [(48, c'7)], []⟩)])]
noncomputable def P12 : Nat → St G → M (Ex × St G) := pl [lpX S12_0 X12_0 nid']
theorem l12_0 : LoopOK Tryz.prog G 34 (P12 0) (nn' (ni' Tryz.f22) 0) := lk cx tn J12 1 S12_0 X12_0 (rfl : nid' = _) (by kernel_rfl) (an0 (by kernel_rfl)) fun x => by kernel_rfl
noncomputable def e12 : Fe G := ⟨I12, E12, fun x => nhd' x.1.1.1 x.1.1.2.1 x.1.1.2.2.1 x.1.1.2.2.2.1 x.1.2.1 x.1.2.2.1, Tryz.f22.results.toList⟩
theorem k12 : FnOK Tryz.prog G 22 e12 := fk cx tn J12 (lp := P12) Tryz.func22 (by kernel_rfl) (by kernel_rfl) rfl (nh' _ (by kernel_rfl) (nf' l12_0 nk')) fun x => by kernel_rfl
def I13 : Sp := ⟨[(0, oro 63), (1, .agg c'6)], [], []⟩
def E13 : SL := [(.ret, ⟨[(4, .one (.own 32768 63))], [], []⟩)]
def S13_0 : Sp := ⟨[(0, oro 63), (3, op 48), (5, .one (.own 32768 63)), (6, ob), (7, oi64)], [(48, c'6)], []⟩
def X13_0 : SL := [(.exit 0, ⟨[(3, op 48), (5, .one (.own 32768 63)), (6, ob)], [(48, c'6)], []⟩)]
def J13 : Nat → Option SL := jl [(10, [(.normal, ⟨[(0, oro 63), (3, op 48), (5, .one (.own 32768 63)), (6, ob), (7, oi64)], [(48, c'6)], []⟩)]), (1048582, [(.normal, ⟨[(0, oro 63), (3, op 48), (5, .one (.own 32768 63)), (6, ob), (7, oi64), (23, ob)], [(48, c'6)], []⟩)])]
noncomputable def P13 : Nat → St G → M (Ex × St G) := pl [lpX S13_0 X13_0 ngw']
theorem t13 : ∀ p ∈ [(87, e8)], FnOK Tryz.prog G p.1 p.2 := (tc k8 tn)
theorem l13_0 : LoopOK Tryz.prog G 42 (P13 0) (nn' (ni' Tryz.f62) 0) := lk cx t13 J13 1 S13_0 X13_0 (rfl : ngw' = _) (by kernel_rfl) (an0 (by kernel_rfl)) fun x => by kernel_rfl
noncomputable def e13 : Fe G := ⟨I13, E13, fun x => nhl' x.1.1 x.1.2.1.1 x.1.2.1.2.1 x.1.2.1.2.2.1 x.1.2.1.2.2.2.1 x.1.2.1.2.2.2.2.1, Tryz.f62.results.toList⟩
theorem k13 : FnOK Tryz.prog G 62 e13 := fk cx t13 J13 (lp := P13) Tryz.func62 (by kernel_rfl) (by kernel_rfl) rfl (nh' _ (by kernel_rfl) (nf' l13_0 nk')) fun x => by kernel_rfl
def I14 : Sp := ⟨[(0, .agg c'2), (1, .agg c'7), (2, .agg c'5)], [], []⟩
def E14 : SL := [(.ret, ⟨[(6, op 96), (7, oi64)], [(96, c'4)], []⟩)]
noncomputable def e14 : Fe G := ⟨I14, E14, fun x => nhj' x.1.1.1 x.1.1.2.1 x.1.1.2.2.1 x.1.1.2.2.2.1 x.1.1.2.2.2.2.1 x.1.1.2.2.2.2.2.1 x.1.1.2.2.2.2.2.2.1 x.1.1.2.2.2.2.2.2.2.1 x.1.2.1.1 x.1.2.1.2.1 x.1.2.1.2.2.1 x.1.2.1.2.2.2.1 x.1.2.2.1.1 x.1.2.2.1.2.1 x.1.2.2.1.2.2.1 x.1.2.2.1.2.2.2.1 x.1.2.2.1.2.2.2.2.1, Tryz.f29.results.toList⟩
theorem k14 : FnOK Tryz.prog G 29 e14 := fk cx (tc k9 (tc k11 (tc k12 (tc k13 tn)))) (jl [(1048588, [(.normal, ⟨[(4, op 64), (5, op 80), (6, op 96), (8, oi64), (77, ob)], [(64, c'4), (80, c'5), (96, c'8)], []⟩)]), (2097168, [(.normal, ⟨[(4, op 64), (6, op 96), (8, oi64)], [(64, c'9), (96, c'10)], []⟩)])]) (lp := (pl [])) Tryz.func29 (by kernel_rfl) (by kernel_rfl) rfl (an0 (by kernel_rfl)) fun x => by kernel_rfl
def I15 : Sp := ⟨[(0, .agg c'2), (1, oro 5)], [], []⟩
def E15 : SL := [(.ret, ⟨[(4, op 64)], [(64, c'4)], []⟩)]
def S15_0 : Sp := ⟨[(2, op 32), (4, op 64), (5, op 80), (6, .one (.own 32768 66)), (7, oi64)], [(32, c'2), (64, c'11), (80, c'12)], []⟩
def X15_0 : SL := [(.exit 0, ⟨[(4, op 64), (5, op 80)], [(64, c'4), (80, c'8)], []⟩)]
def J15 : Nat → Option SL := jl []
noncomputable def P15 : Nat → St G → M (Ex × St G) := pl [lpX S15_0 X15_0 nhw']
theorem t15 : ∀ p ∈ [(27, e5), (28, e6), (29, e14)], FnOK Tryz.prog G p.1 p.2 := (tc k5 (tc k6 (tc k14 tn)))
theorem l15_0 : LoopOK Tryz.prog G 30 (P15 0) (nn' (ni' Tryz.f9) 0) := lk cx t15 J15 1 S15_0 X15_0 (rfl : nhw' = _) (by kernel_rfl) (an0 (by kernel_rfl)) fun x => by kernel_rfl
noncomputable def e15 : Fe G := ⟨I15, E15, fun x => ngg' x.1.1.1 x.1.1.2.1 x.1.1.2.2.1 x.1.1.2.2.2.1 x.1.1.2.2.2.2.1 x.1.1.2.2.2.2.2.1 x.1.1.2.2.2.2.2.2.1 x.1.1.2.2.2.2.2.2.2.1 x.1.2.1, Tryz.f9.results.toList⟩
theorem k15 : FnOK Tryz.prog G 9 e15 := fk cx t15 J15 (lp := P15) Tryz.func9 (by kernel_rfl) (by kernel_rfl) rfl (nh' _ (by kernel_rfl) (nf' l15_0 nk')) fun x => by kernel_rfl
def I16 : Sp := ⟨[(0, .agg c'2), (1, oro 5)], [], []⟩
def E16 : SL := [(.ret, ⟨[(4, .one (.own 32768 46))], [], []⟩)]
def S16_0 : Sp := ⟨[(1, oro 5), (2, op 32), (5, .one (.own 32768 46)), (6, oi64)], [(32, c'2)], []⟩
def X16_0 : SL := [(.exit 0, ⟨[(5, .one (.own 32768 46))], [], []⟩)]
def S16_1 : Sp := ⟨[(1, oro 5), (2, op 32), (5, .one (.own 32768 46)), (6, oi64), (7, op 112), (8, oi64)], [(32, c'2), (112, c'13)], []⟩
def X16_1 : SL := [(.exit 2, ⟨[(1, oro 5), (2, op 32), (5, .one (.own 32768 46)), (6, oi64), (7, op 112)], [(32, c'2), (112, c'13)], []⟩)]
def J16 : Nat → Option SL := jl []
noncomputable def P16 : Nat → St G → M (Ex × St G) := pl [lpX S16_0 X16_0 nga', lpX S16_1 X16_1 nf9']
theorem l16_1 : LoopOK Tryz.prog G 101 (P16 1) (nn' (ni' Tryz.f30) 1) := lk cx tn J16 2 S16_1 X16_1 (rfl : nf9' = _) (by kernel_rfl) (an0 (by kernel_rfl)) fun x => by kernel_rfl
theorem l16_0 : LoopOK Tryz.prog G 101 (P16 0) (nn' (ni' Tryz.f30) 0) := lk cx tn J16 1 S16_0 X16_0 (rfl : nga' = _) (by kernel_rfl) (nh' _ (by kernel_rfl) (nf' l16_1 nk')) fun x => by kernel_rfl
noncomputable def e16 : Fe G := ⟨I16, E16, fun x => ni8' x.1.1.1 x.1.1.2.1 x.1.1.2.2.1 x.1.1.2.2.2.1 x.1.1.2.2.2.2.1 x.1.1.2.2.2.2.2.1 x.1.1.2.2.2.2.2.2.1 x.1.1.2.2.2.2.2.2.2.1 x.1.2.1, Tryz.f30.results.toList⟩
theorem k16 : FnOK Tryz.prog G 30 e16 := fk cx tn J16 (lp := P16) Tryz.func30 (by kernel_rfl) (by kernel_rfl) rfl (nh' _ (by kernel_rfl) (nf' l16_0 (nf' l16_1 nk'))) fun x => by kernel_rfl
def I17 : Sp := ⟨[(0, oi64), (1, oi64)], [], []⟩
def E17 : SL := [(.ret, ⟨[(4, op 64)], [(64, c'14)], []⟩)]
noncomputable def e17 : Fe G := ⟨I17, E17, fun x => nh6' x.1.1 x.1.2.1, Tryz.f31.results.toList⟩
theorem k17 : FnOK Tryz.prog G 31 e17 := fk cx tn (jl []) (lp := (pl [])) Tryz.func31 (by kernel_rfl) (by kernel_rfl) rfl (an0 (by kernel_rfl)) fun x => by kernel_rfl
def I18 : Sp := ⟨[(0, .agg c'2), (1, oro 5)], [], []⟩
def E18 : SL := [(.ret, ⟨[(4, .one (.own 32768 46))], [], []⟩)]
def S18_0 : Sp := ⟨[(1, oro 5), (2, op 32), (5, .one (.own 32768 46)), (6, oi64)], [(32, c'2)], []⟩
def X18_0 : SL := [(.exit 0, ⟨[(5, .one (.own 32768 46))], [], []⟩)]
def J18 : Nat → Option SL := jl []
noncomputable def P18 : Nat → St G → M (Ex × St G) := pl [lpX S18_0 X18_0 nhn']
theorem t18 : ∀ p ∈ [(30, e16), (31, e17)], FnOK Tryz.prog G p.1 p.2 := (tc k16 (tc k17 tn))
theorem l18_0 : LoopOK Tryz.prog G 51 (P18 0) (nn' (ni' Tryz.f10) 0) := lk cx t18 J18 1 S18_0 X18_0 (rfl : nhn' = _) (by kernel_rfl) (an0 (by kernel_rfl)) fun x => by kernel_rfl
noncomputable def e18 : Fe G := ⟨I18, E18, fun x => nge' x.1.1.1 x.1.1.2.1 x.1.1.2.2.1 x.1.1.2.2.2.1 x.1.1.2.2.2.2.1 x.1.1.2.2.2.2.2.1 x.1.1.2.2.2.2.2.2.1 x.1.1.2.2.2.2.2.2.2.1 x.1.2.1, Tryz.f10.results.toList⟩
theorem k18 : FnOK Tryz.prog G 10 e18 := fk cx t18 J18 (lp := P18) Tryz.func10 (by kernel_rfl) (by kernel_rfl) rfl (nh' _ (by kernel_rfl) (nf' l18_0 nk')) fun x => by kernel_rfl
def I19 : Sp := ⟨[(0, .agg c'7), (1, oro 5)], [], []⟩
def E19 : SL := [(.ret, ⟨[(4, .one (.own 32768 3))], [], []⟩)]
def S19_0 : Sp := ⟨[(1, oro 5), (5, .one (.own 32768 3)), (6, oi64)], [], []⟩
def X19_0 : SL := [(.exit 0, ⟨[(5, .one (.own 32768 3))], [], []⟩)]
def J19 : Nat → Option SL := jl []
noncomputable def P19 : Nat → St G → M (Ex × St G) := pl [lpX S19_0 X19_0 ngn']
theorem l19_0 : LoopOK Tryz.prog G 33 (P19 0) (nn' (ni' Tryz.f12) 0) := lk cx tn J19 1 S19_0 X19_0 (rfl : ngn' = _) (by kernel_rfl) (an0 (by kernel_rfl)) fun x => by kernel_rfl
noncomputable def e19 : Fe G := ⟨I19, E19, fun x => nep' x.1.1.1 x.1.1.2.1 x.1.1.2.2.1 x.1.1.2.2.2.1 x.1.2.1, Tryz.f12.results.toList⟩
theorem k19 : FnOK Tryz.prog G 12 e19 := fk cx tn J19 (lp := P19) Tryz.func12 (by kernel_rfl) (by kernel_rfl) rfl (nh' _ (by kernel_rfl) (nf' l19_0 nk')) fun x => by kernel_rfl
def I20 : Sp := ⟨[(0, oi64), (1, oi64), (2, oro 3)], [], []⟩
def E20 : SL := [(.ret, ⟨[(6, ob)], [], []⟩)]
def S20_0 : Sp := ⟨[(0, oi64), (1, oi64), (9, oro 3), (10, oi64), (11, oi64)], [], []⟩
def X20_0 : SL := [(.exit 0, ⟨[], [], []⟩), (.ret, ⟨[(6, ob)], [], []⟩)]
def J20 : Nat → Option SL := jl []
noncomputable def P20 : Nat → St G → M (Ex × St G) := pl [lpX S20_0 X20_0 nem']
theorem l20_0 : LoopOK Tryz.prog G 24 (P20 0) (nn' (ni' Tryz.f102) 0) := lk cx tn J20 1 S20_0 X20_0 (rfl : nem' = _) (by kernel_rfl) (an0 (by kernel_rfl)) fun x => by kernel_rfl
noncomputable def e20 : Fe G := ⟨I20, E20, fun x => n1' x.1.1 x.1.2.1 x.1.2.2.1, Tryz.f102.results.toList⟩
theorem k20 : FnOK Tryz.prog G 102 e20 := fk cx tn J20 (lp := P20) Tryz.func102 (by kernel_rfl) (by kernel_rfl) rfl (nh' _ (by kernel_rfl) (nf' l20_0 nk')) fun x => by kernel_rfl
def I21 : Sp := ⟨[(0, .agg c'3), (1, oi64)], [], []⟩
def E21 : SL := [(.ret, ⟨[(4, ob)], [], []⟩)]
noncomputable def e21 : Fe G := ⟨I21, E21, fun x => nf3' x.1.1.1 x.1.1.2.1 x.1.1.2.2.1 x.1.1.2.2.2.1 x.1.1.2.2.2.2.1 x.1.1.2.2.2.2.2.1 x.1.1.2.2.2.2.2.2.1 x.1.1.2.2.2.2.2.2.2.1 x.1.1.2.2.2.2.2.2.2.2.1 x.1.2.1, Tryz.f103.results.toList⟩
theorem k21 : FnOK Tryz.prog G 103 e21 := fk cx (tc k20 tn) (jl [(1048577, [(.normal, ⟨[(4, ob)], [], []⟩)])]) (lp := (pl [])) Tryz.func103 (by kernel_rfl) (by kernel_rfl) rfl (an0 (by kernel_rfl)) fun x => by kernel_rfl
def I22 : Sp := ⟨[(0, .agg c'2)], [], []⟩
def E22 : SL := [(.ret, ⟨[(2, ob)], [], []⟩)]
noncomputable def e22 : Fe G := ⟨I22, E22, fun x => nf0' x.1.1.1 x.1.1.2.1 x.1.1.2.2.1 x.1.1.2.2.2.1 x.1.1.2.2.2.2.1 x.1.1.2.2.2.2.2.1 x.1.1.2.2.2.2.2.2.1 x.1.1.2.2.2.2.2.2.2.1, Tryz.f104.results.toList⟩
theorem k22 : FnOK Tryz.prog G 104 e22 := fk cx tn (jl [(1048577, [(.normal, ⟨[(2, ob)], [], []⟩)])]) (lp := (pl [])) Tryz.func104 (by kernel_rfl) (by kernel_rfl) rfl (an0 (by kernel_rfl)) fun x => by kernel_rfl
def I23 : Sp := ⟨[(0, .agg c'2)], [], []⟩
def E23 : SL := [(.ret, ⟨[(2, oi64)], [], []⟩)]
def S23_0 : Sp := ⟨[(1, op 16), (3, ob), (28, oro 100), (29, oi64), (30, oi64)], [(16, c'2)], []⟩
def X23_0 : SL := [(.exit 0, ⟨[(1, op 16), (3, ob)], [(16, c'2)], []⟩)]
def J23 : Nat → Option SL := jl [(1048581, [(.normal, ⟨[(1, op 16), (3, ob)], [(16, c'2)], []⟩)]), (1048585, [(.normal, ⟨[(1, op 16), (3, ob), (28, oro 100), (29, oi64), (30, oi64)], [(16, c'2)], []⟩)])]
noncomputable def P23 : Nat → St G → M (Ex × St G) := pl [lpX S23_0 X23_0 nez']
theorem t23 : ∀ p ∈ [(102, e20), (103, e21), (104, e22)], FnOK Tryz.prog G p.1 p.2 := (tc k20 (tc k21 (tc k22 tn)))
theorem l23_0 : LoopOK Tryz.prog G 60 (P23 0) (nn' (ni' Tryz.f63) 0) := lk cx t23 J23 1 S23_0 X23_0 (rfl : nez' = _) (by kernel_rfl) (an0 (by kernel_rfl)) fun x => by kernel_rfl
noncomputable def e23 : Fe G := ⟨I23, E23, fun x => nbt' x.1.1.1 x.1.1.2.1 x.1.1.2.2.1 x.1.1.2.2.2.1 x.1.1.2.2.2.2.1 x.1.1.2.2.2.2.2.1 x.1.1.2.2.2.2.2.2.1 x.1.1.2.2.2.2.2.2.2.1, Tryz.f63.results.toList⟩
theorem k23 : FnOK Tryz.prog G 63 e23 := fk cx t23 J23 (lp := P23) Tryz.func63 (by kernel_rfl) (by kernel_rfl) rfl (nh' _ (by kernel_rfl) (nf' l23_0 nk')) fun x => by kernel_rfl
def I24 : Sp := ⟨[(0, .agg c'2)], [], []⟩
def E24 : SL := [(.ret, ⟨[(2, op 32)], [(32, c'14)], []⟩)]
noncomputable def e24 : Fe G := ⟨I24, E24, fun x => ne0' x.1.1.1 x.1.1.2.1 x.1.1.2.2.1 x.1.1.2.2.2.1 x.1.1.2.2.2.2.1 x.1.1.2.2.2.2.2.1 x.1.1.2.2.2.2.2.2.1 x.1.1.2.2.2.2.2.2.2.1, Tryz.f79.results.toList⟩
theorem k24 : FnOK Tryz.prog G 79 e24 := fk cx (tc k23 tn) (jl []) (lp := (pl [])) Tryz.func79 (by kernel_rfl) (by kernel_rfl) rfl (an0 (by kernel_rfl)) fun x => by kernel_rfl
def I25 : Sp := ⟨[(0, .agg c'14), (1, .agg c'14)], [], []⟩
def E25 : SL := [(.ret, ⟨[(4, op 64)], [(64, c'14)], []⟩)]
noncomputable def e25 : Fe G := ⟨I25, E25, fun x => ndr' x.1.1.1 x.1.1.2.1 x.1.2.1.1 x.1.2.1.2.1, Tryz.f78.results.toList⟩
theorem k25 : FnOK Tryz.prog G 78 e25 := fk cx tn (jl []) (lp := (pl [])) Tryz.func78 (by kernel_rfl) (by kernel_rfl) rfl (an0 (by kernel_rfl)) fun x => by kernel_rfl
def I26 : Sp := ⟨[(0, .agg c'2), (1, .agg c'15)], [], []⟩
def E26 : SL := [(.ret, ⟨[(4, op 64)], [(64, c'14)], []⟩)]
noncomputable def e26 : Fe G := ⟨I26, E26, fun x => nej' x.1.1.1 x.1.1.2.1 x.1.1.2.2.1 x.1.1.2.2.2.1 x.1.1.2.2.2.2.1 x.1.1.2.2.2.2.2.1 x.1.1.2.2.2.2.2.2.1 x.1.1.2.2.2.2.2.2.2.1 x.1.2.1.1 x.1.2.1.2.1 x.1.2.1.2.2.1 x.1.2.1.2.2.2.1 x.1.2.1.2.2.2.2.1 x.1.2.1.2.2.2.2.2.1 x.1.2.1.2.2.2.2.2.2.1 x.1.2.1.2.2.2.2.2.2.2.1 x.1.2.1.2.2.2.2.2.2.2.2.1 x.1.2.1.2.2.2.2.2.2.2.2.2.1 x.1.2.1.2.2.2.2.2.2.2.2.2.2.1 x.1.2.1.2.2.2.2.2.2.2.2.2.2.2.1, Tryz.f65.results.toList⟩
theorem k26 : FnOK Tryz.prog G 65 e26 := fk cx (tc k24 (tc k25 tn)) (jl []) (lp := (pl [])) Tryz.func65 (by kernel_rfl) (by kernel_rfl) rfl (an0 (by kernel_rfl)) fun x => by kernel_rfl
def I27 : Sp := ⟨[(0, .agg c'14), (1, .agg c'14)], [], []⟩
def E27 : SL := [(.ret, ⟨[(4, op 64)], [(64, c'14)], []⟩)]
noncomputable def e27 : Fe G := ⟨I27, E27, fun x => neo' x.1.1.1 x.1.1.2.1 x.1.2.1.1 x.1.2.1.2.1, Tryz.f64.results.toList⟩
theorem k27 : FnOK Tryz.prog G 64 e27 := fk cx tn (jl []) (lp := (pl [])) Tryz.func64 (by kernel_rfl) (by kernel_rfl) rfl (an0 (by kernel_rfl)) fun x => by kernel_rfl
def I28 : Sp := ⟨[(0, .agg c'14), (1, .agg c'14)], [], []⟩
def E28 : SL := [(.ret, ⟨[(4, op 64)], [(64, c'14)], []⟩)]
noncomputable def e28 : Fe G := ⟨I28, E28, fun x => nd5' x.1.1.1 x.1.1.2.1 x.1.2.1.1 x.1.2.1.2.1, Tryz.f66.results.toList⟩
theorem k28 : FnOK Tryz.prog G 66 e28 := fk cx tn (jl []) (lp := (pl [])) Tryz.func66 (by kernel_rfl) (by kernel_rfl) rfl (an0 (by kernel_rfl)) fun x => by kernel_rfl
def I29 : Sp := ⟨[(0, .agg c'2), (1, oro 46), (2, oro 26)], [], []⟩
def E29 : SL := [(.ret, ⟨[(6, op 96), (7, oi64)], [(96, c'16)], []⟩)]
def S29_0 : Sp := ⟨[(2, oro 26), (3, op 48), (6, op 96), (8, op 128), (32, oro 46), (33, oi64), (34, oi64)], [(48, c'2), (96, c'16), (128, c'17)], []⟩
def X29_0 : SL := [(.exit 0, ⟨[(6, op 96), (8, op 128)], [(96, c'16), (128, c'17)], []⟩)]
def J29 : Nat → Option SL := jl []
noncomputable def P29 : Nat → St G → M (Ex × St G) := pl [lpX S29_0 X29_0 nfc']
theorem t29 : ∀ p ∈ [(63, e23), (65, e26), (64, e27), (66, e28)], FnOK Tryz.prog G p.1 p.2 := (tc k23 (tc k26 (tc k27 (tc k28 tn))))
theorem l29_0 : LoopOK Tryz.prog G 71 (P29 0) (nn' (ni' Tryz.f32) 0) := lk cx t29 J29 1 S29_0 X29_0 (rfl : nfc' = _) (by kernel_rfl) (an0 (by kernel_rfl)) fun x => by kernel_rfl
noncomputable def e29 : Fe G := ⟨I29, E29, fun x => ngm' x.1.1.1 x.1.1.2.1 x.1.1.2.2.1 x.1.1.2.2.2.1 x.1.1.2.2.2.2.1 x.1.1.2.2.2.2.2.1 x.1.1.2.2.2.2.2.2.1 x.1.1.2.2.2.2.2.2.2.1 x.1.2.1 x.1.2.2.1, Tryz.f32.results.toList⟩
theorem k29 : FnOK Tryz.prog G 32 e29 := fk cx t29 J29 (lp := P29) Tryz.func32 (by kernel_rfl) (by kernel_rfl) rfl (nh' _ (by kernel_rfl) (nf' l29_0 nk')) fun x => by kernel_rfl
def I30 : Sp := ⟨[(0, oi64), (1, oi64), (2, oi64)], [], []⟩
def E30 : SL := [(.ret, ⟨[(6, ob)], [], []⟩)]
noncomputable def e30 : Fe G := ⟨I30, E30, fun x => nfe' x.1.1 x.1.2.1 x.1.2.2.1, Tryz.f129.results.toList⟩
theorem k30 : FnOK Tryz.prog G 129 e30 := fk cx (tc k20 tn) (jl [(1048577, [(.normal, ⟨[(6, ob)], [], []⟩)])]) (lp := (pl [])) Tryz.func129 (by kernel_rfl) (by kernel_rfl) rfl (an0 (by kernel_rfl)) fun x => by kernel_rfl
def I31 : Sp := ⟨[(0, .agg c'2), (1, oi64), (2, oi64)], [], []⟩
def E31 : SL := [(.ret, ⟨[(6, ob)], [], []⟩)]
noncomputable def e31 : Fe G := ⟨I31, E31, fun x => nd7' x.1.1.1 x.1.1.2.1 x.1.1.2.2.1 x.1.1.2.2.2.1 x.1.1.2.2.2.2.1 x.1.1.2.2.2.2.2.1 x.1.1.2.2.2.2.2.2.1 x.1.1.2.2.2.2.2.2.2.1 x.1.2.1 x.1.2.2.1, Tryz.f105.results.toList⟩
theorem k31 : FnOK Tryz.prog G 105 e31 := fk cx (tc k23 (tc k30 tn)) (jl [(1048577, [(.normal, ⟨[(6, ob)], [], []⟩)])]) (lp := (pl [])) Tryz.func105 (by kernel_rfl) (by kernel_rfl) rfl (an0 (by kernel_rfl)) fun x => by kernel_rfl
def I32 : Sp := ⟨[(0, .agg c'2), (1, .agg c'6)], [], []⟩
def E32 : SL := [(.ret, ⟨[(4, ob)], [], []⟩)]
noncomputable def e32 : Fe G := ⟨I32, E32, fun x => nhq' x.1.1.1 x.1.1.2.1 x.1.1.2.2.1 x.1.1.2.2.2.1 x.1.1.2.2.2.2.1 x.1.1.2.2.2.2.2.1 x.1.1.2.2.2.2.2.2.1 x.1.1.2.2.2.2.2.2.2.1 x.1.2.1.1 x.1.2.1.2.1 x.1.2.1.2.2.1 x.1.2.1.2.2.2.1 x.1.2.1.2.2.2.2.1, Tryz.f67.results.toList⟩
theorem k32 : FnOK Tryz.prog G 67 e32 := fk cx (tc k31 tn) (jl [(1048577, [(.normal, ⟨[(4, ob)], [], []⟩)])]) (lp := (pl [])) Tryz.func67 (by kernel_rfl) (by kernel_rfl) rfl (an0 (by kernel_rfl)) fun x => by kernel_rfl
def I33 : Sp := ⟨[(0, oi64)], [], []⟩
def E33 : SL := [(.ret, ⟨[(2, ob)], [], []⟩)]
noncomputable def e33 : Fe G := ⟨I33, E33, fun x => ngx' x.1.1, Tryz.f130.results.toList⟩
theorem k33 : FnOK Tryz.prog G 130 e33 := fk cx tn (jl []) (lp := (pl [])) Tryz.func130 (by kernel_rfl) (by kernel_rfl) rfl (an0 (by kernel_rfl)) fun x => by kernel_rfl
def I34 : Sp := ⟨[(0, oi64), (1, oi64)], [], []⟩
def E34 : SL := [(.ret, ⟨[(4, oi64)], [], []⟩)]
noncomputable def e34 : Fe G := ⟨I34, E34, fun x => nd9' x.1.1 x.1.2.1, Tryz.f107.results.toList⟩
theorem k34 : FnOK Tryz.prog G 107 e34 := fk cx (tc k33 tn) (jl []) (lp := (pl [])) Tryz.func107 (by kernel_rfl) (by kernel_rfl) rfl (an0 (by kernel_rfl)) fun x => by kernel_rfl
def I35 : Sp := ⟨[(0, oro 3)], [], []⟩
def E35 : SL := [(.ret, ⟨[(2, oi64)], [], []⟩)]
def S35_0 : Sp := ⟨[(3, oi64), (6, oro 3), (7, oi64), (8, oi64)], [], []⟩
def X35_0 : SL := [(.exit 0, ⟨[(3, oi64)], [], []⟩), (.ret, ⟨[(2, oi64)], [], []⟩)]
def J35 : Nat → Option SL := jl []
noncomputable def P35 : Nat → St G → M (Ex × St G) := pl [lpX S35_0 X35_0 nha']
theorem l35_0 : LoopOK Tryz.prog G 18 (P35 0) (nn' (ni' Tryz.f106) 0) := lk cx tn J35 1 S35_0 X35_0 (rfl : nha' = _) (by kernel_rfl) (an0 (by kernel_rfl)) fun x => by kernel_rfl
noncomputable def e35 : Fe G := ⟨I35, E35, fun x => nia' x.1.1, Tryz.f106.results.toList⟩
theorem k35 : FnOK Tryz.prog G 106 e35 := fk cx tn J35 (lp := P35) Tryz.func106 (by kernel_rfl) (by kernel_rfl) rfl (nh' _ (by kernel_rfl) (nf' l35_0 nk')) fun x => by kernel_rfl
def I36 : Sp := ⟨[(0, .agg c'6), (1, .agg c'6)], [], []⟩
def E36 : SL := [(.ret, ⟨[(4, oi64)], [], []⟩)]
noncomputable def e36 : Fe G := ⟨I36, E36, fun x => neu' x.1.1.1 x.1.1.2.1 x.1.1.2.2.1 x.1.1.2.2.2.1 x.1.1.2.2.2.2.1 x.1.2.1.1 x.1.2.1.2.1 x.1.2.1.2.2.1 x.1.2.1.2.2.2.1 x.1.2.1.2.2.2.2.1, Tryz.f68.results.toList⟩
theorem k36 : FnOK Tryz.prog G 68 e36 := fk cx (tc k34 (tc k35 tn)) (jl []) (lp := (pl [])) Tryz.func68 (by kernel_rfl) (by kernel_rfl) rfl (an0 (by kernel_rfl)) fun x => by kernel_rfl
def I37 : Sp := ⟨[(0, .agg c'2), (1, .agg c'7)], [], []⟩
def E37 : SL := [(.ret, ⟨[(4, ob)], [], []⟩)]
def S37_0 : Sp := ⟨[(2, op 32), (3, op 48), (38, oro 3), (39, oi64), (40, oi64)], [(32, c'2), (48, c'7)], []⟩
def X37_0 : SL := [(.exit 0, ⟨[(2, op 32), (3, op 48)], [(32, c'2), (48, c'7)], []⟩), (.ret, ⟨[(4, ob)], [], []⟩)]
def S37_1 : Sp := ⟨[(2, op 32), (3, op 48), (52, oro 63), (53, oi64), (54, oi64)], [(32, c'2), (48, c'7)], []⟩
def X37_1 : SL := [(.exit 2, ⟨[], [], []⟩), (.ret, ⟨[(4, ob)], [], []⟩)]
def J37 : Nat → Option SL := jl [(1048589, [(.normal, ⟨[(2, op 32), (3, op 48), (52, oro 63), (53, oi64), (54, oi64), (77, ob)], [(32, c'2), (48, c'7)], []⟩)])]
noncomputable def P37 : Nat → St G → M (Ex × St G) := pl [lpX S37_0 X37_0 ngp', lpX S37_1 X37_1 ngt']
theorem t37 : ∀ p ∈ [(63, e23), (67, e32), (68, e36)], FnOK Tryz.prog G p.1 p.2 := (tc k23 (tc k32 (tc k36 tn)))
theorem l37_1 : LoopOK Tryz.prog G 79 (P37 1) (nn' (ni' Tryz.f33) 1) := lk cx t37 J37 2 S37_1 X37_1 (rfl : ngt' = _) (by kernel_rfl) (an0 (by kernel_rfl)) fun x => by kernel_rfl
theorem l37_0 : LoopOK Tryz.prog G 79 (P37 0) (nn' (ni' Tryz.f33) 0) := lk cx t37 J37 1 S37_0 X37_0 (rfl : ngp' = _) (by kernel_rfl) (an0 (by kernel_rfl)) fun x => by kernel_rfl
noncomputable def e37 : Fe G := ⟨I37, E37, fun x => ndc' x.1.1.1 x.1.1.2.1 x.1.1.2.2.1 x.1.1.2.2.2.1 x.1.1.2.2.2.2.1 x.1.1.2.2.2.2.2.1 x.1.1.2.2.2.2.2.2.1 x.1.1.2.2.2.2.2.2.2.1 x.1.2.1.1 x.1.2.1.2.1 x.1.2.1.2.2.1 x.1.2.1.2.2.2.1, Tryz.f33.results.toList⟩
theorem k37 : FnOK Tryz.prog G 33 e37 := fk cx t37 J37 (lp := P37) Tryz.func33 (by kernel_rfl) (by kernel_rfl) rfl (nh' _ (by kernel_rfl) (nf' l37_0 (nf' l37_1 nk'))) fun x => by kernel_rfl
def I38 : Sp := ⟨[(0, oi64)], [], []⟩
def E38 : SL := [(.ret, ⟨[(2, ob)], [], []⟩)]
noncomputable def e38 : Fe G := ⟨I38, E38, fun x => ndx' x.1.1, Tryz.f70.results.toList⟩
theorem k38 : FnOK Tryz.prog G 70 e38 := fk cx tn (jl [(1048577, [(.normal, ⟨[(2, ob)], [], []⟩)])]) (lp := (pl [])) Tryz.func70 (by kernel_rfl) (by kernel_rfl) rfl (an0 (by kernel_rfl)) fun x => by kernel_rfl
def I39 : Sp := ⟨[(0, oro 3), (1, .one (.clo 70 [] []))], [], []⟩
def E39 : SL := [(.ret, ⟨[(4, oi64)], [], []⟩)]
def S39_0 : Sp := ⟨[(0, oro 3), (1, .one (.clo 70 [] [])), (7, oi64), (8, oi64)], [], []⟩
def X39_0 : SL := [(.exit 0, ⟨[], [], []⟩), (.ret, ⟨[(4, oi64)], [], []⟩)]
def J39 : Nat → Option SL := jl []
noncomputable def P39 : Nat → St G → M (Ex × St G) := pl [lpX S39_0 X39_0 n4']
theorem t39 : ∀ p ∈ [(70, e38)], FnOK Tryz.prog G p.1 p.2 := (tc k38 tn)
theorem l39_0 : LoopOK Tryz.prog G 19 (P39 0) (nn' (ni' Tryz.f108) 0) := lk cx t39 J39 1 S39_0 X39_0 (rfl : n4' = _) (by kernel_rfl) (an0 (by kernel_rfl)) fun x => by kernel_rfl
noncomputable def e39 : Fe G := ⟨I39, E39, fun x => nbq' x.1.1, Tryz.f108.results.toList⟩
theorem k39 : FnOK Tryz.prog G 108 e39 := fk cx t39 J39 (lp := P39) Tryz.func108 (by kernel_rfl) (by kernel_rfl) rfl (nh' _ (by kernel_rfl) (nf' l39_0 nk')) fun x => by kernel_rfl
def I40 : Sp := ⟨[(0, oro 3), (1, .one (.clo 70 [] []))], [], []⟩
def E40 : SL := [(.ret, ⟨[(4, ob)], [], []⟩)]
noncomputable def e40 : Fe G := ⟨I40, E40, fun x => n2' x.1.1, Tryz.f69.results.toList⟩
theorem k40 : FnOK Tryz.prog G 69 e40 := fk cx (tc k39 tn) (jl []) (lp := (pl [])) Tryz.func69 (by kernel_rfl) (by kernel_rfl) rfl (an0 (by kernel_rfl)) fun x => by kernel_rfl
def I41 : Sp := ⟨[(0, .agg c'7), (1, oro 3)], [], []⟩
def E41 : SL := [(.ret, ⟨[(4, ob)], [], []⟩)]
noncomputable def e41 : Fe G := ⟨I41, E41, fun x => nen' x.1.1.1 x.1.1.2.1 x.1.1.2.2.1 x.1.1.2.2.2.1 x.1.2.1, Tryz.f34.results.toList⟩
theorem k41 : FnOK Tryz.prog G 34 e41 := fk cx (tc k40 tn) (jl [(1048577, [(.normal, ⟨[(4, ob)], [], []⟩)])]) (lp := (pl [])) Tryz.func34 (by kernel_rfl) (by kernel_rfl) rfl (an0 (by kernel_rfl)) fun x => by kernel_rfl
def I42 : Sp := ⟨[(0, oro 3)], [], []⟩
def E42 : SL := [(.ret, ⟨[(2, .one (.own 32768 3))], [], []⟩)]
noncomputable def e42 : Fe G := ⟨I42, E42, fun x => nbu' x.1.1, Tryz.f36.results.toList⟩
theorem s42 : cloFe G 2 3 = e42 := by kernel_rfl
theorem k42 : FnOK Tryz.prog G 36 e42 := s42 ▸ nsm' (r := 2) (t := 3) sigOK ⟨_, Tryz.func36, by kernel_rfl, by kernel_rfl⟩ (tS := 34) (size := 1) (bytes := Tryz.t3.bytes) (by kernel_rfl) (by kernel_rfl) (Nat.le_of_ble_eq_true (by kernel_rfl)) (fun w a n c news => nxb' _ rfl (by kernel_rfl) w a n c news) (nyu')
def I43 : Sp := ⟨[(0, oro 4)], [], []⟩
def E43 : SL := [(.ret, ⟨[(2, .one (.own 32768 4))], [], []⟩)]
noncomputable def e43 : Fe G := ⟨I43, E43, fun x => nbi' x.1.1, Tryz.f71.results.toList⟩
theorem s43 : cloFe G 2 4 = e43 := by kernel_rfl
theorem k43 : FnOK Tryz.prog G 71 e43 := s43 ▸ nsm' (r := 2) (t := 4) sigOK ⟨_, Tryz.func71, by kernel_rfl, by kernel_rfl⟩ (tS := 35) (size := 1) (bytes := Tryz.t4.bytes) (by kernel_rfl) (by kernel_rfl) (Nat.le_of_ble_eq_true (by kernel_rfl)) (fun w a n c news => nxl' _ rfl (by kernel_rfl) w a n c news) (ny2')
def I44 : Sp := ⟨[(0, oro 63)], [], []⟩
def E44 : SL := [(.ret, ⟨[(2, .one (.own 32768 63))], [], []⟩)]
noncomputable def e44 : Fe G := ⟨I44, E44, fun x => nbe' x.1.1, Tryz.f72.results.toList⟩
theorem s44 : cloFe G 2 63 = e44 := by kernel_rfl
theorem k44 : FnOK Tryz.prog G 72 e44 := s44 ▸ nsm' (r := 2) (t := 63) sigOK ⟨_, Tryz.func72, by kernel_rfl, by kernel_rfl⟩ (tS := 36) (size := 5) (bytes := Tryz.t63.bytes) (by kernel_rfl) (by kernel_rfl) (Nat.le_of_ble_eq_true (by kernel_rfl)) (fun w a n c news => nw3' _ rfl (by kernel_rfl) w a n c news) (nyw')
def I45 : Sp := ⟨[(0, .agg c'7)], [], []⟩
def E45 : SL := [(.ret, ⟨[(2, op 32)], [(32, c'4)], []⟩)]
noncomputable def e45 : Fe G := ⟨I45, E45, fun x => nff' x.1.1.1 x.1.1.2.1 x.1.1.2.2.1 x.1.1.2.2.2.1, Tryz.f35.results.toList⟩
theorem k45 : FnOK Tryz.prog G 35 e45 := fk cx (tc k42 (tc k43 (tc k44 tn))) (jl []) (lp := (pl [])) Tryz.func35 (by kernel_rfl) (by kernel_rfl) rfl (an0 (by kernel_rfl)) fun x => by kernel_rfl
def I46 : Sp := ⟨[(0, oi64)], [], []⟩
def E46 : SL := [(.ret, ⟨[(2, op 32)], [(32, c'16)], []⟩)]
noncomputable def e46 : Fe G := ⟨I46, E46, fun x => nih' x.1.1, Tryz.f37.results.toList⟩
theorem k46 : FnOK Tryz.prog G 37 e46 := fk cx tn (jl []) (lp := (pl [])) Tryz.func37 (by kernel_rfl) (by kernel_rfl) rfl (an0 (by kernel_rfl)) fun x => by kernel_rfl
def I47 : Sp := ⟨[(0, oi64), (1, oi64)], [], []⟩
def E47 : SL := [(.ret, ⟨[(4, op 64)], [(64, c'14)], []⟩)]
noncomputable def e47 : Fe G := ⟨I47, E47, fun x => ngi' x.1.1 x.1.2.1, Tryz.f81.results.toList⟩
theorem k47 : FnOK Tryz.prog G 81 e47 := fk cx tn (jl [(1048577, [(.normal, ⟨[(0, oi64), (1, oi64), (4, op 64), (10, ob)], [(64, c'14)], []⟩)])]) (lp := (pl [])) Tryz.func81 (by kernel_rfl) (by kernel_rfl) rfl (an0 (by kernel_rfl)) fun x => by kernel_rfl
def I48 : Sp := ⟨[(0, .agg c'14), (1, oi64), (2, oi64)], [], []⟩
def E48 : SL := [(.ret, ⟨[(6, ob)], [], []⟩)]
noncomputable def e48 : Fe G := ⟨I48, E48, fun x => ncx' x.1.1.1 x.1.1.2.1 x.1.2.1 x.1.2.2.1, Tryz.f76.results.toList⟩
theorem k48 : FnOK Tryz.prog G 76 e48 := fk cx (tc k47 (tc k25 tn)) (jl []) (lp := (pl [])) Tryz.func76 (by kernel_rfl) (by kernel_rfl) rfl (an0 (by kernel_rfl)) fun x => by kernel_rfl
def I49 : Sp := ⟨[(0, .agg c'2), (1, .agg c'7), (2, oro 46)], [], []⟩
def E49 : SL := [(.ret, ⟨[(6, .one (.own 32768 66))], [], []⟩)]
def S49_0 : Sp := ⟨[(3, op 48), (4, op 64), (7, op 112), (25, oro 46), (26, oi64), (27, oi64)], [(48, c'2), (64, c'7), (112, c'14)], []⟩
def X49_0 : SL := [(.exit 0, ⟨[(4, op 64), (7, op 112)], [(64, c'7), (112, c'14)], []⟩)]
def S49_1 : Sp := ⟨[(7, op 112), (10, .one (.own 32768 66)), (38, oro 63), (39, oi64), (40, oi64)], [(112, c'14)], []⟩
def X49_1 : SL := [(.exit 2, ⟨[(10, .one (.own 32768 66))], [], []⟩)]
def J49 : Nat → Option SL := jl []
noncomputable def P49 : Nat → St G → M (Ex × St G) := pl [lpX S49_0 X49_0 nfd', lpX S49_1 X49_1 nfh']
theorem t49 : ∀ p ∈ [(33, e37), (65, e26), (66, e28), (76, e48)], FnOK Tryz.prog G p.1 p.2 := (tc k37 (tc k26 (tc k28 (tc k48 tn))))
theorem l49_1 : LoopOK Tryz.prog G 60 (P49 1) (nn' (ni' Tryz.f39) 1) := lk cx t49 J49 2 S49_1 X49_1 (rfl : nfh' = _) (by kernel_rfl) (an0 (by kernel_rfl)) fun x => by kernel_rfl
theorem l49_0 : LoopOK Tryz.prog G 60 (P49 0) (nn' (ni' Tryz.f39) 0) := lk cx t49 J49 1 S49_0 X49_0 (rfl : nfd' = _) (by kernel_rfl) (an0 (by kernel_rfl)) fun x => by kernel_rfl
noncomputable def e49 : Fe G := ⟨I49, E49, fun x => ngv' x.1.1.1 x.1.1.2.1 x.1.1.2.2.1 x.1.1.2.2.2.1 x.1.1.2.2.2.2.1 x.1.1.2.2.2.2.2.1 x.1.1.2.2.2.2.2.2.1 x.1.1.2.2.2.2.2.2.2.1 x.1.2.1.1 x.1.2.1.2.1 x.1.2.1.2.2.1 x.1.2.1.2.2.2.1 x.1.2.2.1, Tryz.f39.results.toList⟩
theorem k49 : FnOK Tryz.prog G 39 e49 := fk cx t49 J49 (lp := P49) Tryz.func39 (by kernel_rfl) (by kernel_rfl) rfl (nh' _ (by kernel_rfl) (nf' l49_0 (nf' l49_1 nk'))) fun x => by kernel_rfl
def I50 : Sp := ⟨[(0, .agg c'6), (1, op 65536), (2, op 65537)], [(65536, [.int .i64]), (65537, [.int .i64])], []⟩
def E50 : SL := [(.ret, ⟨[(4, ob)], [(65536, [.int .i64]), (65537, [.int .i64])], [65536, 65537]⟩)]
noncomputable def e50 : Fe G := ⟨I50, E50, fun x => ne7' x.1.1.1 x.1.1.2.1 x.1.1.2.2.1 x.1.1.2.2.2.1 x.1.1.2.2.2.2.1 x.2.1.1 x.2.2.1.1, Tryz.f110.results.toList⟩
theorem k50 : FnOK Tryz.prog G 110 e50 := fk cx tn (jl [(1048577, [(.normal, ⟨[(4, ob)], [(65536, [.int .i64]), (65537, [.int .i64])], [65536, 65537]⟩)])]) (lp := (pl [])) Tryz.func110 (by kernel_rfl) (by kernel_rfl) rfl (an0 (by kernel_rfl)) fun x => by kernel_rfl
def I51 : Sp := ⟨[(0, oro 63), (1, .one (.clo 110 [] [(65536, 0), (65537, 0)]))], [(65536, [.int .i64]), (65537, [.int .i64])], []⟩
def E51 : SL := [(.ret, ⟨[(4, oi64)], [(65536, [.int .i64]), (65537, [.int .i64])], [65536, 65537]⟩)]
def S51_0 : Sp := ⟨[(0, oro 63), (1, .one (.clo 110 [] [(65536, 0), (65537, 0)])), (7, oi64), (8, oi64)], [(65536, [.int .i64]), (65537, [.int .i64])], [65536, 65537]⟩
def X51_0 : SL := [(.exit 0, ⟨[], [(65536, [.int .i64]), (65537, [.int .i64])], [65536, 65537]⟩), (.ret, ⟨[(4, oi64)], [(65536, [.int .i64]), (65537, [.int .i64])], [65536, 65537]⟩)]
def J51 : Nat → Option SL := jl []
noncomputable def P51 : Nat → St G → M (Ex × St G) := pl [lpX S51_0 X51_0 nw']
theorem t51 : ∀ p ∈ [(110, e50)], FnOK Tryz.prog G p.1 p.2 := (tc k50 tn)
theorem l51_0 : LoopOK Tryz.prog G 19 (P51 0) (nn' (ni' Tryz.f109) 0) := lk cx t51 J51 1 S51_0 X51_0 (rfl : nw' = _) (by kernel_rfl) (an0 (by kernel_rfl)) fun x => by kernel_rfl
noncomputable def e51 : Fe G := ⟨I51, E51, fun x => nba' x.1.1 x.2.1.1 x.2.2.1.1, Tryz.f109.results.toList⟩
theorem k51 : FnOK Tryz.prog G 109 e51 := fk cx t51 J51 (lp := P51) Tryz.func109 (by kernel_rfl) (by kernel_rfl) rfl (nh' _ (by kernel_rfl) (nf' l51_0 nk')) fun x => by kernel_rfl
def I52 : Sp := ⟨[(0, .agg c'7), (1, oi64), (2, oi64)], [], []⟩
def E52 : SL := [(.ret, ⟨[(6, oi64), (7, ob)], [], []⟩)]
noncomputable def e52 : Fe G := ⟨I52, E52, fun x => nf5' x.1.1.1 x.1.1.2.1 x.1.1.2.2.1 x.1.1.2.2.2.1 x.1.2.1 x.1.2.2.1, Tryz.f73.results.toList⟩
theorem k52 : FnOK Tryz.prog G 73 e52 := fk cx (tc k51 tn) (jl [(1048580, [(.normal, ⟨[(6, oi64), (7, ob)], [], []⟩)])]) (lp := (pl [])) Tryz.func73 (by kernel_rfl) (by kernel_rfl) rfl (an0 (by kernel_rfl)) fun x => by kernel_rfl
def I53 : Sp := ⟨[(0, .one (.own 32768 3)), (1, oi64), (2, oi64)], [], []⟩
def E53 : SL := [(.ret, ⟨[(6, .one (.own 32768 3))], [], []⟩)]
noncomputable def e53 : Fe G := ⟨I53, E53, fun x => ncq' x.1.1 x.1.2.1 x.1.2.2.1, Tryz.f74.results.toList⟩
theorem s53 : delFe G 6 3 = e53 := by kernel_rfl
theorem k53 : FnOK Tryz.prog G 74 e53 := s53 ▸ nut' (r := 6) (t := 3) sigOK ⟨_, Tryz.func74, by kernel_rfl, by kernel_rfl⟩ (by intro h; cases h) (fun _ => rfl) (nrb')
def I54 : Sp := ⟨[(0, .one (.own 32768 3)), (1, oi64), (2, .one (.own 32769 3))], [], []⟩
def E54 : SL := [(.ret, ⟨[(6, .one (.own 32768 3))], [], []⟩)]
noncomputable def e54 : Fe G := ⟨I54, E54, fun x => ncp' x.1.1 x.1.2.1 x.1.2.2.1, Tryz.f75.results.toList⟩
theorem s54 : insFe G 6 3 = e54 := by kernel_rfl
theorem k54 : FnOK Tryz.prog G 75 e54 := s54 ▸ nup' (r := 6) (t := 3) sigOK ⟨_, Tryz.func75, by kernel_rfl, by kernel_rfl⟩ (by intro h; cases h) (fun _ => rfl) (nq7')
def I55 : Sp := ⟨[(0, oi64), (1, oi64), (2, oi64)], [], []⟩
def E55 : SL := [(.ret, ⟨[(6, ob)], [], []⟩)]
noncomputable def e55 : Fe G := ⟨I55, E55, fun x => nby' x.1.1 x.1.2.1 x.1.2.2.1, Tryz.f125.results.toList⟩
theorem k55 : FnOK Tryz.prog G 125 e55 := fk cx tn (jl [(1048577, [(.normal, ⟨[(6, ob)], [], []⟩)])]) (lp := (pl [])) Tryz.func125 (by kernel_rfl) (by kernel_rfl) rfl (an0 (by kernel_rfl)) fun x => by kernel_rfl
def I56 : Sp := ⟨[(0, .agg c'2), (1, .agg c'5)], [], []⟩
def E56 : SL := [(.ret, ⟨[(4, ob)], [], []⟩)]
noncomputable def e56 : Fe G := ⟨I56, E56, fun x => ng9' x.1.1.1 x.1.1.2.1 x.1.1.2.2.1 x.1.1.2.2.2.1 x.1.1.2.2.2.2.1 x.1.1.2.2.2.2.2.1 x.1.1.2.2.2.2.2.2.1 x.1.1.2.2.2.2.2.2.2.1 x.1.2.1.1 x.1.2.1.2.1 x.1.2.1.2.2.1 x.1.2.1.2.2.2.1 x.1.2.1.2.2.2.2.1, Tryz.f97.results.toList⟩
theorem k56 : FnOK Tryz.prog G 97 e56 := fk cx (tc k23 (tc k31 (tc k55 tn))) (jl [(1048580, [(.normal, ⟨[(2, op 32), (3, op 48), (5, ob), (6, ob)], [(32, c'2), (48, c'5)], []⟩)]), (1048584, [(.normal, ⟨[(4, ob)], [], []⟩)]), (1048586, [(.normal, ⟨[(4, ob)], [], []⟩)]), (1048588, [(.normal, ⟨[(4, ob)], [], []⟩)]), (1048590, [(.normal, ⟨[(4, ob)], [], []⟩)]), (1048593, [(.normal, ⟨[(4, ob)], [], []⟩)])]) (lp := (pl [])) Tryz.func97 (by kernel_rfl) (by kernel_rfl) rfl (an0 (by kernel_rfl)) fun x => by kernel_rfl
def I57 : Sp := ⟨[(0, .agg c'7)], [], []⟩
def E57 : SL := [(.ret, ⟨[(2, op 32)], [(32, c'4)], []⟩)]
noncomputable def e57 : Fe G := ⟨I57, E57, fun x => ni7' x.1.1.1 x.1.1.2.1 x.1.1.2.2.1 x.1.1.2.2.2.1, Tryz.f98.results.toList⟩
theorem k57 : FnOK Tryz.prog G 98 e57 := fk cx (tc k42 (tc k43 (tc k44 tn))) (jl []) (lp := (pl [])) Tryz.func98 (by kernel_rfl) (by kernel_rfl) rfl (an0 (by kernel_rfl)) fun x => by kernel_rfl
def I58 : Sp := ⟨[(0, oro 63), (1, .agg c'6), (2, .one (.clo 68 [] []))], [], []⟩
def E58 : SL := [(.ret, ⟨[(6, oi64), (7, ob)], [], []⟩)]
def S58_0 : Sp := ⟨[(0, oro 63), (2, .one (.clo 68 [] [])), (4, op 64), (8, oi64), (9, oi64), (10, oi64)], [(64, c'6)], []⟩
def X58_0 : SL := [(.exit 0, ⟨[(0, oro 63), (2, .one (.clo 68 [] [])), (4, op 64), (8, oi64), (9, oi64)], [(64, c'6)], []⟩)]
def J58 : Nat → Option SL := jl [(1048584, [(.normal, ⟨[(6, oi64), (7, ob)], [], []⟩)])]
noncomputable def P58 : Nat → St G → M (Ex × St G) := pl [lpX S58_0 X58_0 no']
theorem t58 : ∀ p ∈ [(68, e36)], FnOK Tryz.prog G p.1 p.2 := (tc k36 tn)
theorem l58_0 : LoopOK Tryz.prog G 49 (P58 0) (nn' (ni' Tryz.f145) 0) := lk cx t58 J58 1 S58_0 X58_0 (rfl : no' = _) (by kernel_rfl) (an0 (by kernel_rfl)) fun x => by kernel_rfl
noncomputable def e58 : Fe G := ⟨I58, E58, fun x => nz' x.1.1 x.1.2.1.1 x.1.2.1.2.1 x.1.2.1.2.2.1 x.1.2.1.2.2.2.1 x.1.2.1.2.2.2.2.1, Tryz.f145.results.toList⟩
theorem k58 : FnOK Tryz.prog G 145 e58 := fk cx t58 J58 (lp := P58) Tryz.func145 (by kernel_rfl) (by kernel_rfl) rfl (nh' _ (by kernel_rfl) (nf' l58_0 nk')) fun x => by kernel_rfl
def I59 : Sp := ⟨[(0, .agg c'7), (1, oi64), (2, oi64)], [], []⟩
def E59 : SL := [(.ret, ⟨[(6, oi64), (7, ob)], [], []⟩)]
noncomputable def e59 : Fe G := ⟨I59, E59, fun x => nkp' x.1.1.1 x.1.1.2.1 x.1.1.2.2.1 x.1.1.2.2.2.1 x.1.2.1 x.1.2.2.1, Tryz.f126.results.toList⟩
theorem k59 : FnOK Tryz.prog G 126 e59 := fk cx (tc k58 tn) (jl []) (lp := (pl [])) Tryz.func126 (by kernel_rfl) (by kernel_rfl) rfl (an0 (by kernel_rfl)) fun x => by kernel_rfl
def I60 : Sp := ⟨[(0, .one (.own 32768 63)), (1, oi64), (2, .one (.own 32769 63))], [], []⟩
def E60 : SL := [(.ret, ⟨[(6, .one (.own 32768 63))], [], []⟩)]
noncomputable def e60 : Fe G := ⟨I60, E60, fun x => nb5' x.1.1 x.1.2.1 x.1.2.2.1, Tryz.f127.results.toList⟩
theorem s60 : insFe G 6 63 = e60 := by kernel_rfl
theorem k60 : FnOK Tryz.prog G 127 e60 := s60 ▸ nup' (r := 6) (t := 63) sigOK ⟨_, Tryz.func127, by kernel_rfl, by kernel_rfl⟩ (by intro h; cases h) (fun _ => rfl) (np6')
def I61 : Sp := ⟨[(0, .one (.own 32768 63)), (1, oi64), (2, oi64)], [], []⟩
def E61 : SL := [(.ret, ⟨[(6, .one (.own 32768 63))], [], []⟩)]
noncomputable def e61 : Fe G := ⟨I61, E61, fun x => nb6' x.1.1 x.1.2.1 x.1.2.2.1, Tryz.f128.results.toList⟩
theorem s61 : delFe G 6 63 = e61 := by kernel_rfl
theorem k61 : FnOK Tryz.prog G 128 e61 := s61 ▸ nut' (r := 6) (t := 63) sigOK ⟨_, Tryz.func128, by kernel_rfl, by kernel_rfl⟩ (by intro h; cases h) (fun _ => rfl) (npw')
def I62 : Sp := ⟨[(0, op 65536), (1, .agg c'5)], [(65536, c'4)], []⟩
def E62 : SL := [(.normal, ⟨[], [(65536, c'4)], [65536]⟩)]
noncomputable def e62 : Fe G := ⟨I62, E62, fun x => nie' x.1.2.1.1 x.1.2.1.2.1 x.1.2.1.2.2.1 x.1.2.1.2.2.2.1 x.1.2.1.2.2.2.2.1 x.2.1.1 x.2.1.2.1 x.2.1.2.2.1 x.2.1.2.2.2.1, Tryz.f99.results.toList⟩
theorem k62 : FnOK Tryz.prog G 99 e62 := fk cx (tc k59 (tc k60 (tc k61 tn))) (jl []) (lp := (pl [])) Tryz.func99 (by kernel_rfl) (by kernel_rfl) rfl (an0 (by kernel_rfl)) fun x => by kernel_rfl
def I63 : Sp := ⟨[(0, .agg c'2), (1, .agg c'7), (2, .agg c'5)], [], []⟩
def E63 : SL := [(.ret, ⟨[(6, op 96), (7, oi64)], [(96, c'4)], []⟩)]
noncomputable def e63 : Fe G := ⟨I63, E63, fun x => nhf' x.1.1.1 x.1.1.2.1 x.1.1.2.2.1 x.1.1.2.2.2.1 x.1.1.2.2.2.2.1 x.1.1.2.2.2.2.2.1 x.1.1.2.2.2.2.2.2.1 x.1.1.2.2.2.2.2.2.2.1 x.1.2.1.1 x.1.2.1.2.1 x.1.2.1.2.2.1 x.1.2.1.2.2.2.1 x.1.2.2.1.1 x.1.2.2.1.2.1 x.1.2.2.1.2.2.1 x.1.2.2.1.2.2.2.1 x.1.2.2.1.2.2.2.2.1, Tryz.f59.results.toList⟩
theorem k63 : FnOK Tryz.prog G 59 e63 := fk cx (tc k37 (tc k56 (tc k57 (tc k62 tn)))) (jl []) (lp := (pl [])) Tryz.func59 (by kernel_rfl) (by kernel_rfl) rfl (an0 (by kernel_rfl)) fun x => by kernel_rfl
def I64 : Sp := ⟨[(0, op 65536), (1, oro 66)], [(65536, c'18)], []⟩
def E64 : SL := [(.normal, ⟨[], [(65536, c'18)], [65536]⟩)]
def S64_0 : Sp := ⟨[(0, op 65536), (10, oro 66), (11, oi64), (12, oi64)], [(65536, c'18)], [65536]⟩
def X64_0 : SL := [(.exit 0, ⟨[], [(65536, c'18)], [65536]⟩)]
def J64 : Nat → Option SL := jl [(9, [(.normal, ⟨[(0, op 65536), (5, op 80), (10, oro 66), (11, oi64), (12, oi64)], [(80, c'5), (65536, c'18)], [65536]⟩)]), (1048580, [(.normal, ⟨[(0, op 65536), (5, op 80), (6, oi64), (7, ob), (10, oro 66), (11, oi64), (12, oi64), (29, ob)], [(80, c'5), (65536, c'18)], [65536]⟩)]), (1048582, [(.normal, ⟨[(0, op 65536), (5, op 80), (6, oi64), (10, oro 66), (11, oi64), (12, oi64), (49, ob)], [(80, c'5), (65536, c'18)], [65536]⟩)])]
noncomputable def P64 : Nat → St G → M (Ex × St G) := pl [lpX S64_0 X64_0 nbs']
theorem t64 : ∀ p ∈ [(73, e52), (74, e53), (75, e54), (59, e63)], FnOK Tryz.prog G p.1 p.2 := (tc k52 (tc k53 (tc k54 (tc k63 tn))))
theorem l64_0 : LoopOK Tryz.prog G 103 (P64 0) (nn' (ni' Tryz.f38) 0) := lk cx t64 J64 1 S64_0 X64_0 (rfl : nbs' = _) (by kernel_rfl) (an0 (by kernel_rfl)) fun x => by kernel_rfl
noncomputable def e64 : Fe G := ⟨I64, E64, fun x => n9' x.1.2.1 x.2.1.1 x.2.1.2.1 x.2.1.2.2.1 x.2.1.2.2.2.1 x.2.1.2.2.2.2.1 x.2.1.2.2.2.2.2.1 x.2.1.2.2.2.2.2.2.1 x.2.1.2.2.2.2.2.2.2.1 x.2.1.2.2.2.2.2.2.2.2.1 x.2.1.2.2.2.2.2.2.2.2.2.1 x.2.1.2.2.2.2.2.2.2.2.2.2.1 x.2.1.2.2.2.2.2.2.2.2.2.2.2.1 x.2.1.2.2.2.2.2.2.2.2.2.2.2.2.1 x.2.1.2.2.2.2.2.2.2.2.2.2.2.2.2.1 x.2.1.2.2.2.2.2.2.2.2.2.2.2.2.2.2.1 x.2.1.2.2.2.2.2.2.2.2.2.2.2.2.2.2.2.1 x.2.1.2.2.2.2.2.2.2.2.2.2.2.2.2.2.2.2.1 x.2.1.2.2.2.2.2.2.2.2.2.2.2.2.2.2.2.2.2.1 x.2.1.2.2.2.2.2.2.2.2.2.2.2.2.2.2.2.2.2.2.1 x.2.1.2.2.2.2.2.2.2.2.2.2.2.2.2.2.2.2.2.2.2.1, Tryz.f38.results.toList⟩
theorem k64 : FnOK Tryz.prog G 38 e64 := fk cx t64 J64 (lp := P64) Tryz.func38 (by kernel_rfl) (by kernel_rfl) rfl (nh' _ (by kernel_rfl) (nf' l64_0 nk')) fun x => by kernel_rfl
def I65 : Sp := ⟨[(0, oro 63)], [], []⟩
def E65 : SL := [(.ret, ⟨[(2, op 32)], [(32, c'14)], []⟩)]
def S65_0 : Sp := ⟨[(2, op 32), (3, op 48), (6, oro 63), (7, oi64), (8, oi64)], [(32, c'14), (48, c'14)], []⟩
def X65_0 : SL := [(.exit 0, ⟨[(2, op 32), (3, op 48)], [(32, c'14), (48, c'14)], []⟩)]
def J65 : Nat → Option SL := jl []
noncomputable def P65 : Nat → St G → M (Ex × St G) := pl [lpX S65_0 X65_0 nig']
theorem t65 : ∀ p ∈ [(81, e47), (66, e28)], FnOK Tryz.prog G p.1 p.2 := (tc k47 (tc k28 tn))
theorem l65_0 : LoopOK Tryz.prog G 21 (P65 0) (nn' (ni' Tryz.f82) 0) := lk cx t65 J65 1 S65_0 X65_0 (rfl : nig' = _) (by kernel_rfl) (an0 (by kernel_rfl)) fun x => by kernel_rfl
noncomputable def e65 : Fe G := ⟨I65, E65, fun x => nkk' x.1.1, Tryz.f82.results.toList⟩
theorem k65 : FnOK Tryz.prog G 82 e65 := fk cx t65 J65 (lp := P65) Tryz.func82 (by kernel_rfl) (by kernel_rfl) rfl (nh' _ (by kernel_rfl) (nf' l65_0 nk')) fun x => by kernel_rfl
def I66 : Sp := ⟨[(0, .agg c'7)], [], []⟩
def E66 : SL := [(.ret, ⟨[(2, op 32)], [(32, c'14)], []⟩)]
noncomputable def e66 : Fe G := ⟨I66, E66, fun x => nio' x.1.1.1 x.1.1.2.1 x.1.1.2.2.1 x.1.1.2.2.2.1, Tryz.f41.results.toList⟩
theorem k66 : FnOK Tryz.prog G 41 e66 := fk cx (tc k65 tn) (jl []) (lp := (pl [])) Tryz.func41 (by kernel_rfl) (by kernel_rfl) rfl (an0 (by kernel_rfl)) fun x => by kernel_rfl
def I67 : Sp := ⟨[(0, .agg c'14)], [], []⟩
def E67 : SL := [(.ret, ⟨[(2, .one (.own 32768 63))], [], []⟩)]
noncomputable def e67 : Fe G := ⟨I67, E67, fun x => nif' x.1.1.1 x.1.1.2.1, Tryz.f77.results.toList⟩
theorem s67 : lstFe G 2 63 (fun u d f k => ncx' u d f k) (fun f d => Entry.mk f d (-1) 0 false) = e67 := by kernel_rfl
theorem k67 : FnOK Tryz.prog G 77 e67 := s67 ▸ n45' (t := 63) (h := (fun u d f k => ncx' u d f k)) (mk := fun f d => Entry.mk f d (-1) 0 false) sigOK ⟨_, Tryz.func77, by kernel_rfl, by kernel_rfl⟩ (by kernel_rfl) (fun _ _ => by kernel_rfl) (fun w u d hb hh hgl => n2l' w u d hb fun p hp w' hw => n05' (h := (fun u d f k => ncx' u d f k)) ((show e48 = hasFe G 6 (fun u d f k => ncx' u d f k) by kernel_rfl) ▸ k48) (hh p hp) (hgl.below hw) hw.size)
def I68 : Sp := ⟨[(0, .agg c'2), (1, .agg c'7)], [], []⟩
def E68 : SL := [(.ret, ⟨[(4, ob)], [], []⟩)]
noncomputable def e68 : Fe G := ⟨I68, E68, fun x => nkl' x.1.1.1 x.1.1.2.1 x.1.1.2.2.1 x.1.1.2.2.2.1 x.1.1.2.2.2.2.1 x.1.1.2.2.2.2.2.1 x.1.1.2.2.2.2.2.2.1 x.1.1.2.2.2.2.2.2.2.1 x.1.2.1.1 x.1.2.1.2.1 x.1.2.1.2.2.1 x.1.2.1.2.2.2.1, Tryz.f80.results.toList⟩
theorem k68 : FnOK Tryz.prog G 80 e68 := fk cx (tc k37 tn) (jl [(1048577, [(.normal, ⟨[(4, ob)], [], []⟩)])]) (lp := (pl [])) Tryz.func80 (by kernel_rfl) (by kernel_rfl) rfl (an0 (by kernel_rfl)) fun x => by kernel_rfl
def I69 : Sp := ⟨[(0, op 65536), (1, .agg c'14), (2, .agg c'14)], [(65536, c'18)], []⟩
def E69 : SL := [(.normal, ⟨[], [(65536, c'18)], [65536]⟩)]
def S69_0 : Sp := ⟨[(0, op 65536), (17, .one (.own 32768 63)), (18, oi64), (19, oi64)], [(65536, c'19)], [65536]⟩
def X69_0 : SL := [(.exit 0, ⟨[], [(65536, c'18)], [65536]⟩)]
def J69 : Nat → Option SL := jl []
noncomputable def P69 : Nat → St G → M (Ex × St G) := pl [lpX S69_0 X69_0 nbw']
theorem t69 : ∀ p ∈ [(79, e24), (78, e25), (64, e27), (77, e67), (80, e68), (38, e64), (81, e47), (66, e28)], FnOK Tryz.prog G p.1 p.2 := (tc k24 (tc k25 (tc k27 (tc k67 (tc k68 (tc k64 (tc k47 (tc k28 tn))))))))
theorem l69_0 : LoopOK Tryz.prog G 57 (P69 0) (nn' (ni' Tryz.f40) 0) := lk cx t69 J69 1 S69_0 X69_0 (rfl : nbw' = _) (by kernel_rfl) (an0 (by kernel_rfl)) fun x => by kernel_rfl
noncomputable def e69 : Fe G := ⟨I69, E69, fun x => nb0' x.1.2.1.1 x.1.2.1.2.1 x.1.2.2.1.1 x.1.2.2.1.2.1 x.2.1.1 x.2.1.2.1 x.2.1.2.2.1 x.2.1.2.2.2.1 x.2.1.2.2.2.2.1 x.2.1.2.2.2.2.2.1 x.2.1.2.2.2.2.2.2.1 x.2.1.2.2.2.2.2.2.2.1 x.2.1.2.2.2.2.2.2.2.2.1 x.2.1.2.2.2.2.2.2.2.2.2.1 x.2.1.2.2.2.2.2.2.2.2.2.2.1 x.2.1.2.2.2.2.2.2.2.2.2.2.2.1 x.2.1.2.2.2.2.2.2.2.2.2.2.2.2.1 x.2.1.2.2.2.2.2.2.2.2.2.2.2.2.2.1 x.2.1.2.2.2.2.2.2.2.2.2.2.2.2.2.2.1 x.2.1.2.2.2.2.2.2.2.2.2.2.2.2.2.2.2.1 x.2.1.2.2.2.2.2.2.2.2.2.2.2.2.2.2.2.2.1 x.2.1.2.2.2.2.2.2.2.2.2.2.2.2.2.2.2.2.2.1 x.2.1.2.2.2.2.2.2.2.2.2.2.2.2.2.2.2.2.2.2.1 x.2.1.2.2.2.2.2.2.2.2.2.2.2.2.2.2.2.2.2.2.2.1, Tryz.f40.results.toList⟩
theorem k69 : FnOK Tryz.prog G 40 e69 := fk cx t69 J69 (lp := P69) Tryz.func40 (by kernel_rfl) (by kernel_rfl) rfl (nh' _ (by kernel_rfl) (nf' l69_0 nk')) fun x => by kernel_rfl
def I70 : Sp := ⟨[(0, oi64)], [], []⟩
def E70 : SL := [(.ret, ⟨[(2, ob)], [], []⟩)]
noncomputable def e70 : Fe G := ⟨I70, E70, fun x => ngo' x.1.1, Tryz.f83.results.toList⟩
theorem k70 : FnOK Tryz.prog G 83 e70 := fk cx tn (jl [(1048577, [(.normal, ⟨[(2, ob)], [], []⟩)])]) (lp := (pl [])) Tryz.func83 (by kernel_rfl) (by kernel_rfl) rfl (an0 (by kernel_rfl)) fun x => by kernel_rfl
def I71 : Sp := ⟨[(0, oro 3), (1, .one (.clo 83 [] []))], [], []⟩
def E71 : SL := [(.ret, ⟨[(4, oi64)], [], []⟩)]
def S71_0 : Sp := ⟨[(0, oro 3), (1, .one (.clo 83 [] [])), (7, oi64), (8, oi64)], [], []⟩
def X71_0 : SL := [(.exit 0, ⟨[], [], []⟩), (.ret, ⟨[(4, oi64)], [], []⟩)]
def J71 : Nat → Option SL := jl []
noncomputable def P71 : Nat → St G → M (Ex × St G) := pl [lpX S71_0 X71_0 nbc']
theorem t71 : ∀ p ∈ [(83, e70)], FnOK Tryz.prog G p.1 p.2 := (tc k70 tn)
theorem l71_0 : LoopOK Tryz.prog G 19 (P71 0) (nn' (ni' Tryz.f108) 0) := lk cx t71 J71 1 S71_0 X71_0 (rfl : nbc' = _) (by kernel_rfl) (an0 (by kernel_rfl)) fun x => by kernel_rfl
noncomputable def e71 : Fe G := ⟨I71, E71, fun x => nbv' x.1.1, Tryz.f108.results.toList⟩
theorem k71 : FnOK Tryz.prog G 108 e71 := fk cx t71 J71 (lp := P71) Tryz.func108 (by kernel_rfl) (by kernel_rfl) rfl (nh' _ (by kernel_rfl) (nf' l71_0 nk')) fun x => by kernel_rfl
def I72 : Sp := ⟨[(0, oro 3), (1, .one (.clo 83 [] []))], [], []⟩
def E72 : SL := [(.ret, ⟨[(4, ob)], [], []⟩)]
noncomputable def e72 : Fe G := ⟨I72, E72, fun x => nbb' x.1.1, Tryz.f69.results.toList⟩
theorem k72 : FnOK Tryz.prog G 69 e72 := fk cx (tc k71 tn) (jl []) (lp := (pl [])) Tryz.func69 (by kernel_rfl) (by kernel_rfl) rfl (an0 (by kernel_rfl)) fun x => by kernel_rfl
def I73 : Sp := ⟨[(0, oi64)], [], []⟩
def E73 : SL := [(.ret, ⟨[(2, ob)], [], []⟩)]
noncomputable def e73 : Fe G := ⟨I73, E73, fun x => ne5' x.1.1, Tryz.f136.results.toList⟩
theorem k73 : FnOK Tryz.prog G 136 e73 := fk cx tn (jl [(1048577, [(.normal, ⟨[(2, ob)], [], []⟩)])]) (lp := (pl [])) Tryz.func136 (by kernel_rfl) (by kernel_rfl) rfl (an0 (by kernel_rfl)) fun x => by kernel_rfl
def I74 : Sp := ⟨[(0, oi64), (1, oi64), (2, oi64)], [], []⟩
def E74 : SL := [(.ret, ⟨[(6, ob)], [], []⟩)]
noncomputable def e74 : Fe G := ⟨I74, E74, fun x => nhv' x.1.1 x.1.2.1 x.1.2.2.1, Tryz.f137.results.toList⟩
theorem k74 : FnOK Tryz.prog G 137 e74 := fk cx tn (jl [(1048577, [(.normal, ⟨[(6, ob)], [], []⟩)])]) (lp := (pl [])) Tryz.func137 (by kernel_rfl) (by kernel_rfl) rfl (an0 (by kernel_rfl)) fun x => by kernel_rfl
def I75 : Sp := ⟨[(0, oi64), (1, .agg c'20)], [], []⟩
def E75 : SL := [(.ret, ⟨[(4, op 64)], [(64, c'20)], []⟩)]
noncomputable def e75 : Fe G := ⟨I75, E75, fun x => nfr' x.1.1 x.1.2.1.1 x.1.2.1.2.1 x.1.2.1.2.2.1, Tryz.f138.results.toList⟩
theorem k75 : FnOK Tryz.prog G 138 e75 := fk cx (tc k25 tn) (jl []) (lp := (pl [])) Tryz.func138 (by kernel_rfl) (by kernel_rfl) rfl (an0 (by kernel_rfl)) fun x => by kernel_rfl
def I76 : Sp := ⟨[(0, ou32)], [], []⟩
def E76 : SL := [(.ret, ⟨[(2, oi64)], [], []⟩)]
noncomputable def e76 : Fe G := ⟨I76, E76, fun x => ncm' x.1.1, Tryz.f139.results.toList⟩
theorem k76 : FnOK Tryz.prog G 139 e76 := fk cx tn (jl []) (lp := (pl [])) Tryz.func139 (by kernel_rfl) (by kernel_rfl) rfl (an0 (by kernel_rfl)) fun x => by kernel_rfl
def I77 : Sp := ⟨[(0, ou32)], [], []⟩
def E77 : SL := [(.ret, ⟨[(2, oi64)], [], []⟩)]
noncomputable def e77 : Fe G := ⟨I77, E77, fun x => ng6' x.1.1, Tryz.f140.results.toList⟩
theorem k77 : FnOK Tryz.prog G 140 e77 := fk cx tn (jl [(5, [(.normal, ⟨[(0, ou32), (2, oi64)], [], []⟩)]), (8, [(.normal, ⟨[(0, ou32), (2, oi64)], [], []⟩)])]) (lp := (pl [])) Tryz.func140 (by kernel_rfl) (by kernel_rfl) rfl (an0 (by kernel_rfl)) fun x => by kernel_rfl
def I78 : Sp := ⟨[(0, .one (.own 32768 3)), (1, op 65536), (2, op 65537)], [(65536, [.int .i64]), (65537, [.int .i64])], []⟩
def E78 : SL := [(.ret, ⟨[(4, oi64)], [(65536, [.int .i64]), (65537, [.int .i64])], [65536, 65537]⟩)]
def S78_0 : Sp := ⟨[(5, oi64), (6, oi64), (13, .one (.own 32768 3)), (14, oi64), (15, oi64)], [(65536, [.int .i64]), (65537, [.int .i64])], [65536, 65537]⟩
def X78_0 : SL := [(.exit 0, ⟨[(5, oi64)], [(65536, [.int .i64]), (65537, [.int .i64])], [65536, 65537]⟩)]
def J78 : Nat → Option SL := jl []
noncomputable def P78 : Nat → St G → M (Ex × St G) := pl [lpX S78_0 X78_0 ndn']
theorem l78_0 : LoopOK Tryz.prog G 31 (P78 0) (nn' (ni' Tryz.f141) 0) := lk cx tn J78 1 S78_0 X78_0 (rfl : ndn' = _) (by kernel_rfl) (an0 (by kernel_rfl)) fun x => by kernel_rfl
noncomputable def e78 : Fe G := ⟨I78, E78, fun x => ns' x.1.1 x.2.1.1 x.2.2.1.1, Tryz.f141.results.toList⟩
theorem k78 : FnOK Tryz.prog G 141 e78 := fk cx tn J78 (lp := P78) Tryz.func141 (by kernel_rfl) (by kernel_rfl) rfl (nh' _ (by kernel_rfl) (nf' l78_0 nk')) fun x => by kernel_rfl
def I79 : Sp := ⟨[(0, oi64), (1, oi64), (2, oi64), (3, .agg c'20), (4, oi64), (5, oi64)], [], []⟩
def E79 : SL := [(.ret, ⟨[(12, oi64)], [], []⟩)]
noncomputable def e79 : Fe G := ⟨I79, E79, fun x => ndp' x.1.1 x.1.2.1 x.1.2.2.1 x.1.2.2.2.1.1 x.1.2.2.2.1.2.1 x.1.2.2.2.1.2.2.1 x.1.2.2.2.2.1 x.1.2.2.2.2.2.1, Tryz.f116.results.toList⟩
theorem k79 : FnOK Tryz.prog G 116 e79 := fk cx (tc k73 (tc k74 (tc k75 (tc k76 (tc k77 (tc k78 tn)))))) (jl [(1048583, [(.normal, ⟨[(2, oi64), (5, oi64), (15, oi64), (16, oi64), (17, .one (.clo 141 [] [(112, 0), (160, 0)])), (18, ob)], [(112, [.int .i64]), (160, [.int .i64])], []⟩)]), (1048584, [(.normal, ⟨[(2, oi64), (5, oi64), (15, oi64), (16, oi64), (17, .one (.clo 141 [] [(112, 0), (160, 0)])), (87, ob)], [(112, [.int .i64]), (160, [.int .i64])], []⟩)]), (1048586, [(.normal, ⟨[(2, oi64), (5, oi64), (15, oi64), (16, oi64), (17, .one (.clo 141 [] [(112, 0), (160, 0)])), (100, ob)], [(112, [.int .i64]), (160, [.int .i64])], []⟩)])]) (lp := (pl [])) Tryz.func116 (by kernel_rfl) (by kernel_rfl) rfl (an0 (by kernel_rfl)) fun x => by kernel_rfl
def I80 : Sp := ⟨[(0, ou32)], [], []⟩
def E80 : SL := [(.ret, ⟨[(2, oi64)], [], []⟩)]
noncomputable def e80 : Fe G := ⟨I80, E80, fun x => nce' x.1.1, Tryz.f142.results.toList⟩
theorem k80 : FnOK Tryz.prog G 142 e80 := fk cx tn (jl []) (lp := (pl [])) Tryz.func142 (by kernel_rfl) (by kernel_rfl) rfl (an0 (by kernel_rfl)) fun x => by kernel_rfl
def I81 : Sp := ⟨[(0, .agg c'14)], [], []⟩
def E81 : SL := [(.ret, ⟨[(2, oi64)], [], []⟩)]
noncomputable def e81 : Fe G := ⟨I81, E81, fun x => njz' x.1.1.1 x.1.1.2.1, Tryz.f143.results.toList⟩
theorem k81 : FnOK Tryz.prog G 143 e81 := fk cx (tc k80 tn) (jl []) (lp := (pl [])) Tryz.func143 (by kernel_rfl) (by kernel_rfl) rfl (an0 (by kernel_rfl)) fun x => by kernel_rfl
def I82 : Sp := ⟨[(0, oi64), (1, .agg c'20)], [], []⟩
def E82 : SL := [(.ret, ⟨[(4, oi64)], [], []⟩)]
noncomputable def e82 : Fe G := ⟨I82, E82, fun x => nfv' x.1.1 x.1.2.1.1 x.1.2.1.2.1 x.1.2.1.2.2.1, Tryz.f117.results.toList⟩
theorem k82 : FnOK Tryz.prog G 117 e82 := fk cx (tc k73 (tc k75 (tc k80 (tc k81 tn)))) (jl []) (lp := (pl [])) Tryz.func117 (by kernel_rfl) (by kernel_rfl) rfl (an0 (by kernel_rfl)) fun x => by kernel_rfl
def I83 : Sp := ⟨[(0, .agg c'2), (1, oi64), (2, .agg c'15), (3, oi64), (4, oi64)], [], []⟩
def E83 : SL := [(.ret, ⟨[(10, oi64)], [], []⟩)]
noncomputable def e83 : Fe G := ⟨I83, E83, fun x => nc6' x.1.1.1 x.1.1.2.1 x.1.1.2.2.1 x.1.1.2.2.2.1 x.1.1.2.2.2.2.1 x.1.1.2.2.2.2.2.1 x.1.1.2.2.2.2.2.2.1 x.1.1.2.2.2.2.2.2.2.1 x.1.2.1 x.1.2.2.1.1 x.1.2.2.1.2.1 x.1.2.2.1.2.2.1 x.1.2.2.1.2.2.2.1 x.1.2.2.1.2.2.2.2.1 x.1.2.2.1.2.2.2.2.2.1 x.1.2.2.1.2.2.2.2.2.2.1 x.1.2.2.1.2.2.2.2.2.2.2.1 x.1.2.2.1.2.2.2.2.2.2.2.2.1 x.1.2.2.1.2.2.2.2.2.2.2.2.2.1 x.1.2.2.1.2.2.2.2.2.2.2.2.2.2.1 x.1.2.2.1.2.2.2.2.2.2.2.2.2.2.2.1 x.1.2.2.2.1 x.1.2.2.2.2.1, Tryz.f86.results.toList⟩
theorem k83 : FnOK Tryz.prog G 86 e83 := fk cx (tc k23 (tc k79 (tc k82 tn))) (jl [(7, [(.normal, ⟨[(1, oi64), (3, oi64), (4, oi64), (5, op 80), (7, op 112), (11, oi64)], [(80, c'2), (112, c'15)], []⟩)])]) (lp := (pl [])) Tryz.func86 (by kernel_rfl) (by kernel_rfl) rfl (an0 (by kernel_rfl)) fun x => by kernel_rfl
def I84 : Sp := ⟨[(0, .agg c'15)], [], []⟩
def E84 : SL := [(.ret, ⟨[(2, ob)], [], []⟩)]
noncomputable def e84 : Fe G := ⟨I84, E84, fun x => nd6' x.1.1.1 x.1.1.2.1 x.1.1.2.2.1 x.1.1.2.2.2.1 x.1.1.2.2.2.2.1 x.1.1.2.2.2.2.2.1 x.1.1.2.2.2.2.2.2.1 x.1.1.2.2.2.2.2.2.2.1 x.1.1.2.2.2.2.2.2.2.2.1 x.1.1.2.2.2.2.2.2.2.2.2.1 x.1.1.2.2.2.2.2.2.2.2.2.2.1 x.1.1.2.2.2.2.2.2.2.2.2.2.2.1, Tryz.f135.results.toList⟩
theorem k84 : FnOK Tryz.prog G 135 e84 := fk cx tn (jl [(1048577, [(.normal, ⟨[(2, ob)], [], []⟩)])]) (lp := (pl [])) Tryz.func135 (by kernel_rfl) (by kernel_rfl) rfl (an0 (by kernel_rfl)) fun x => by kernel_rfl
def I85 : Sp := ⟨[(0, .agg c'2), (1, oro 46), (2, oi64), (3, oi64), (4, oi64)], [], []⟩
def E85 : SL := [(.ret, ⟨[(10, op 160)], [(160, c'21)], []⟩)]
noncomputable def e85 : Fe G := ⟨I85, E85, fun x => ner' x.1.1.1 x.1.1.2.1 x.1.1.2.2.1 x.1.1.2.2.2.1 x.1.1.2.2.2.2.1 x.1.1.2.2.2.2.2.1 x.1.1.2.2.2.2.2.2.1 x.1.1.2.2.2.2.2.2.2.1 x.1.2.1 x.1.2.2.1 x.1.2.2.2.1 x.1.2.2.2.2.1, Tryz.f133.results.toList⟩
theorem k85 : FnOK Tryz.prog G 133 e85 := fk cx (tc k83 (tc k84 tn)) (jl []) (lp := (pl [])) Tryz.func133 (by kernel_rfl) (by kernel_rfl) rfl (an0 (by kernel_rfl)) fun x => by kernel_rfl
def I86 : Sp := ⟨[(0, .agg c'21), (1, .agg c'21)], [], []⟩
def E86 : SL := [(.ret, ⟨[(4, ob)], [], []⟩)]
noncomputable def e86 : Fe G := ⟨I86, E86, fun x => ne3' x.1.1.1 x.1.1.2.1 x.1.2.1.1 x.1.2.1.2.1, Tryz.f134.results.toList⟩
theorem k86 : FnOK Tryz.prog G 134 e86 := fk cx tn (jl [(1048579, [(.normal, ⟨[(4, ob)], [], []⟩)])]) (lp := (pl [])) Tryz.func134 (by kernel_rfl) (by kernel_rfl) rfl (an0 (by kernel_rfl)) fun x => by kernel_rfl
def I87 : Sp := ⟨[(0, .agg c'2), (1, oro 46), (2, oi64), (3, oi64), (4, oi64)], [], []⟩
def E87 : SL := [(.ret, ⟨[(10, oi64)], [], []⟩)]
def S87_0 : Sp := ⟨[(1, oro 46), (2, oi64), (3, oi64), (4, oi64), (5, op 80), (11, oi64), (12, op 192), (28, oro 46), (29, oi64), (30, oi64)], [(80, c'2), (192, c'21)], []⟩
def X87_0 : SL := [(.exit 0, ⟨[(11, oi64)], [], []⟩)]
def J87 : Nat → Option SL := jl [(1048585, [(.normal, ⟨[(1, oro 46), (2, oi64), (3, oi64), (4, oi64), (5, op 80), (11, oi64), (12, op 192), (13, oi64), (15, op 240), (28, oro 46), (29, oi64), (30, oi64), (55, ob)], [(80, c'2), (192, c'21), (240, c'21)], []⟩)])]
noncomputable def P87 : Nat → St G → M (Ex × St G) := pl [lpX S87_0 X87_0 nfg']
theorem t87 : ∀ p ∈ [(63, e23), (133, e85), (134, e86)], FnOK Tryz.prog G p.1 p.2 := (tc k23 (tc k85 (tc k86 tn)))
theorem l87_0 : LoopOK Tryz.prog G 60 (P87 0) (nn' (ni' Tryz.f114) 0) := lk cx t87 J87 1 S87_0 X87_0 (rfl : nfg' = _) (by kernel_rfl) (an0 (by kernel_rfl)) fun x => by kernel_rfl
noncomputable def e87 : Fe G := ⟨I87, E87, fun x => ndy' x.1.1.1 x.1.1.2.1 x.1.1.2.2.1 x.1.1.2.2.2.1 x.1.1.2.2.2.2.1 x.1.1.2.2.2.2.2.1 x.1.1.2.2.2.2.2.2.1 x.1.1.2.2.2.2.2.2.2.1 x.1.2.1 x.1.2.2.1 x.1.2.2.2.1 x.1.2.2.2.2.1, Tryz.f114.results.toList⟩
theorem k87 : FnOK Tryz.prog G 114 e87 := fk cx t87 J87 (lp := P87) Tryz.func114 (by kernel_rfl) (by kernel_rfl) rfl (nh' _ (by kernel_rfl) (nf' l87_0 nk')) fun x => by kernel_rfl
def I88 : Sp := ⟨[(0, .agg c'22), (1, .agg c'6), (2, oi64)], [], []⟩
def E88 : SL := [(.ret, ⟨[(6, oi64)], [], []⟩)]
noncomputable def e88 : Fe G := ⟨I88, E88, fun x => ndq' x.1.1.1 x.1.1.2.1 x.1.1.2.2.1 x.1.1.2.2.2.1 x.1.1.2.2.2.2.1 x.1.1.2.2.2.2.2.1 x.1.1.2.2.2.2.2.2.1 x.1.1.2.2.2.2.2.2.2.1 x.1.1.2.2.2.2.2.2.2.2.1 x.1.2.1.1 x.1.2.1.2.1 x.1.2.1.2.2.1 x.1.2.1.2.2.2.1 x.1.2.1.2.2.2.2.1 x.1.2.2.1, Tryz.f115.results.toList⟩
theorem k88 : FnOK Tryz.prog G 115 e88 := fk cx (tc k87 (tc k85 (tc k86 (tc k84 tn)))) (jl [(1048581, [(.normal, ⟨[(3, op 48), (7, oi64), (8, op 128), (9, ob)], [(48, c'22), (128, c'15)], []⟩)]), (1048582, [(.normal, ⟨[(7, oi64), (78, ob)], [], []⟩)])]) (lp := (pl [])) Tryz.func115 (by kernel_rfl) (by kernel_rfl) rfl (an0 (by kernel_rfl)) fun x => by kernel_rfl
def I89 : Sp := ⟨[(0, .agg c'22), (1, .agg c'6), (2, oi64)], [], []⟩
def E89 : SL := [(.ret, ⟨[(6, op 96)], [(96, c'6)], []⟩)]
noncomputable def e89 : Fe G := ⟨I89, E89, fun x => ndh' x.1.1.1 x.1.1.2.1 x.1.1.2.2.1 x.1.1.2.2.2.1 x.1.1.2.2.2.2.1 x.1.1.2.2.2.2.2.1 x.1.1.2.2.2.2.2.2.1 x.1.1.2.2.2.2.2.2.2.1 x.1.1.2.2.2.2.2.2.2.2.1 x.1.2.1.1 x.1.2.1.2.1 x.1.2.1.2.2.1 x.1.2.1.2.2.2.1 x.1.2.1.2.2.2.2.1 x.1.2.2.1, Tryz.f84.results.toList⟩
theorem k89 : FnOK Tryz.prog G 84 e89 := fk cx (tc k87 (tc k88 tn)) (jl [(1048581, [(.normal, ⟨[(2, oi64), (3, op 48), (4, op 64), (6, op 96), (7, oi64), (31, ob)], [(48, c'22), (64, c'6), (96, c'6)], []⟩)]), (1048586, [(.normal, ⟨[(2, oi64), (3, op 48), (4, op 64), (6, op 96), (70, ob)], [(48, c'22), (64, c'6), (96, c'6)], []⟩)])]) (lp := (pl [])) Tryz.func84 (by kernel_rfl) (by kernel_rfl) rfl (an0 (by kernel_rfl)) fun x => by kernel_rfl
def I90 : Sp := ⟨[(0, .agg c'6), (1, .agg c'6)], [], []⟩
def E90 : SL := [(.ret, ⟨[(4, .one (.own 32768 66))], [], []⟩)]
noncomputable def e90 : Fe G := ⟨I90, E90, fun x => nf1' x.1.1.1 x.1.1.2.1 x.1.1.2.2.1 x.1.1.2.2.2.1 x.1.1.2.2.2.2.1 x.1.2.1.1 x.1.2.1.2.1 x.1.2.1.2.2.1 x.1.2.1.2.2.2.1 x.1.2.1.2.2.2.2.1, Tryz.f85.results.toList⟩
theorem k90 : FnOK Tryz.prog G 85 e90 := fk cx tn (jl [(8, [(.normal, ⟨[(2, op 32), (3, op 48), (5, .one (.own 32768 66))], [(32, c'6), (48, c'6)], []⟩)]), (1048578, [(.normal, ⟨[(2, op 32), (3, op 48), (5, .one (.own 32768 66)), (18, ob)], [(32, c'6), (48, c'6)], []⟩)])]) (lp := (pl [])) Tryz.func85 (by kernel_rfl) (by kernel_rfl) rfl (an0 (by kernel_rfl)) fun x => by kernel_rfl
def I91 : Sp := ⟨[(0, .agg c'2), (1, .agg c'7), (2, oro 3), (3, oro 46)], [], []⟩
def E91 : SL := [(.ret, ⟨[(8, .one (.own 32768 66)), (9, .one (.own 32769 3)), (10, oi64)], [], []⟩)]
def S91_0 : Sp := ⟨[(2, oro 3), (3, oro 46), (4, op 64), (11, op 176), (12, .one (.own 32768 66)), (13, .one (.own 32769 3)), (48, oro 63), (49, oi64), (50, oi64)], [(64, c'2), (176, c'22)], []⟩
def X91_0 : SL := [(.exit 0, ⟨[(12, .one (.own 32768 66)), (13, .one (.own 32769 3))], [], []⟩)]
def J91 : Nat → Option SL := jl [(1048588, [(.normal, ⟨[(2, oro 3), (3, oro 46), (4, op 64), (11, op 176), (12, .one (.own 32768 66)), (13, .one (.own 32769 3)), (14, oi64), (15, op 240), (16, op 256), (48, oro 63), (49, oi64), (50, oi64), (85, ob)], [(64, c'2), (176, c'22), (240, c'6), (256, c'6)], []⟩)])]
noncomputable def P91 : Nat → St G → M (Ex × St G) := pl [lpX S91_0 X91_0 ngy']
theorem t91 : ∀ p ∈ [(33, e37), (69, e72), (84, e89), (85, e90), (86, e83)], FnOK Tryz.prog G p.1 p.2 := (tc k37 (tc k72 (tc k89 (tc k90 (tc k83 tn)))))
theorem l91_0 : LoopOK Tryz.prog G 114 (P91 0) (nn' (ni' Tryz.f42) 0) := lk cx t91 J91 1 S91_0 X91_0 (rfl : ngy' = _) (by kernel_rfl) (an0 (by kernel_rfl)) fun x => by kernel_rfl
noncomputable def e91 : Fe G := ⟨I91, E91, fun x => nev' x.1.1.1 x.1.1.2.1 x.1.1.2.2.1 x.1.1.2.2.2.1 x.1.1.2.2.2.2.1 x.1.1.2.2.2.2.2.1 x.1.1.2.2.2.2.2.2.1 x.1.1.2.2.2.2.2.2.2.1 x.1.2.1.1 x.1.2.1.2.1 x.1.2.1.2.2.1 x.1.2.1.2.2.2.1 x.1.2.2.1 x.1.2.2.2.1, Tryz.f42.results.toList⟩
theorem k91 : FnOK Tryz.prog G 42 e91 := fk cx t91 J91 (lp := P91) Tryz.func42 (by kernel_rfl) (by kernel_rfl) rfl (nh' _ (by kernel_rfl) (nf' l91_0 nk')) fun x => by kernel_rfl
def I92 : Sp := ⟨[(0, .agg c'2), (1, .agg c'7), (2, oro 3), (3, oro 46), (4, oro 26), (5, .agg c'14), (6, ob)], [], []⟩
def E92 : SL := [(.ret, ⟨[(14, op 224), (15, oi64)], [(224, c'23)], []⟩)]
noncomputable def e92 : Fe G := ⟨I92, E92, fun x => nbx' x.1.1.1 x.1.1.2.1 x.1.1.2.2.1 x.1.1.2.2.2.1 x.1.1.2.2.2.2.1 x.1.1.2.2.2.2.2.1 x.1.1.2.2.2.2.2.2.1 x.1.1.2.2.2.2.2.2.2.1 x.1.2.1.1 x.1.2.1.2.1 x.1.2.1.2.2.1 x.1.2.1.2.2.2.1 x.1.2.2.1 x.1.2.2.2.1 x.1.2.2.2.2.1 x.1.2.2.2.2.2.1.1 x.1.2.2.2.2.2.1.2.1 x.1.2.2.2.2.2.2.1, Tryz.f11.results.toList⟩
theorem k92 : FnOK Tryz.prog G 11 e92 := fk cx (tc k29 (tc k37 (tc k41 (tc k45 (tc k42 (tc k46 (tc k49 (tc k64 (tc k66 (tc k69 (tc k91 tn))))))))))) (jl [(11, [(.normal, ⟨[(3, oro 46), (7, op 112), (14, op 224), (18, op 736)], [(112, c'2), (224, c'23), (736, c'24)], []⟩)])]) (lp := (pl [])) Tryz.func11 (by kernel_rfl) (by kernel_rfl) rfl (an0 (by kernel_rfl)) fun x => by kernel_rfl
def I93 : Sp := ⟨[(0, oro 66), (1, oro 66)], [], []⟩
def E93 : SL := [(.ret, ⟨[(4, ob)], [], []⟩)]
def S93_0 : Sp := ⟨[(0, oro 66), (1, oro 66), (12, oi64), (13, oi64)], [], []⟩
def X93_0 : SL := [(.exit 0, ⟨[], [], []⟩), (.ret, ⟨[(4, ob)], [], []⟩)]
def J93 : Nat → Option SL := jl []
noncomputable def P93 : Nat → St G → M (Ex × St G) := pl [lpX S93_0 X93_0 nbz']
theorem l93_0 : LoopOK Tryz.prog G 26 (P93 0) (nn' (ni' Tryz.f54) 0) := lk cx tn J93 1 S93_0 X93_0 (rfl : nbz' = _) (by kernel_rfl) (an0 (by kernel_rfl)) fun x => by kernel_rfl
noncomputable def e93 : Fe G := ⟨I93, E93, fun x => ndf' x.1.1 x.1.2.1, Tryz.f54.results.toList⟩
theorem k93 : FnOK Tryz.prog G 54 e93 := fk cx tn J93 (lp := P93) Tryz.func54 (by kernel_rfl) (by kernel_rfl) rfl (nh' _ (by kernel_rfl) (nf' l93_0 nk')) fun x => by kernel_rfl
def I94 : Sp := ⟨[(0, oro 3), (1, oro 3)], [], []⟩
def E94 : SL := [(.ret, ⟨[(4, ob)], [], []⟩)]
def S94_0 : Sp := ⟨[(0, oro 3), (1, oro 3), (12, oi64), (13, oi64)], [], []⟩
def X94_0 : SL := [(.exit 0, ⟨[], [], []⟩), (.ret, ⟨[(4, ob)], [], []⟩)]
def J94 : Nat → Option SL := jl []
noncomputable def P94 : Nat → St G → M (Ex × St G) := pl [lpX S94_0 X94_0 nds']
theorem l94_0 : LoopOK Tryz.prog G 26 (P94 0) (nn' (ni' Tryz.f56) 0) := lk cx tn J94 1 S94_0 X94_0 (rfl : nds' = _) (by kernel_rfl) (an0 (by kernel_rfl)) fun x => by kernel_rfl
noncomputable def e94 : Fe G := ⟨I94, E94, fun x => nea' x.1.1 x.1.2.1, Tryz.f56.results.toList⟩
theorem k94 : FnOK Tryz.prog G 56 e94 := fk cx tn J94 (lp := P94) Tryz.func56 (by kernel_rfl) (by kernel_rfl) rfl (nh' _ (by kernel_rfl) (nf' l94_0 nk')) fun x => by kernel_rfl
def I95 : Sp := ⟨[(0, oro 4), (1, oro 4)], [], []⟩
def E95 : SL := [(.ret, ⟨[(4, ob)], [], []⟩)]
def S95_0 : Sp := ⟨[(0, oro 4), (1, oro 4), (12, oi64), (13, oi64)], [], []⟩
def X95_0 : SL := [(.exit 0, ⟨[], [], []⟩), (.ret, ⟨[(4, ob)], [], []⟩)]
def J95 : Nat → Option SL := jl []
noncomputable def P95 : Nat → St G → M (Ex × St G) := pl [lpX S95_0 X95_0 ndg']
theorem l95_0 : LoopOK Tryz.prog G 26 (P95 0) (nn' (ni' Tryz.f93) 0) := lk cx tn J95 1 S95_0 X95_0 (rfl : ndg' = _) (by kernel_rfl) (an0 (by kernel_rfl)) fun x => by kernel_rfl
noncomputable def e95 : Fe G := ⟨I95, E95, fun x => nck' x.1.1 x.1.2.1, Tryz.f93.results.toList⟩
theorem k95 : FnOK Tryz.prog G 93 e95 := fk cx tn J95 (lp := P95) Tryz.func93 (by kernel_rfl) (by kernel_rfl) rfl (nh' _ (by kernel_rfl) (nf' l95_0 nk')) fun x => by kernel_rfl
def I96 : Sp := ⟨[(0, oro 63), (1, oro 63)], [], []⟩
def E96 : SL := [(.ret, ⟨[(4, ob)], [], []⟩)]
def S96_0 : Sp := ⟨[(0, oro 63), (1, oro 63), (12, oi64), (13, oi64)], [], []⟩
def X96_0 : SL := [(.exit 0, ⟨[], [], []⟩), (.ret, ⟨[(4, ob)], [], []⟩)]
def J96 : Nat → Option SL := jl []
noncomputable def P96 : Nat → St G → M (Ex × St G) := pl [lpX S96_0 X96_0 nb1']
theorem l96_0 : LoopOK Tryz.prog G 26 (P96 0) (nn' (ni' Tryz.f94) 0) := lk cx tn J96 1 S96_0 X96_0 (rfl : nb1' = _) (by kernel_rfl) (an0 (by kernel_rfl)) fun x => by kernel_rfl
noncomputable def e96 : Fe G := ⟨I96, E96, fun x => ndm' x.1.1 x.1.2.1, Tryz.f94.results.toList⟩
theorem k96 : FnOK Tryz.prog G 94 e96 := fk cx tn J96 (lp := P96) Tryz.func94 (by kernel_rfl) (by kernel_rfl) rfl (nh' _ (by kernel_rfl) (nf' l96_0 nk')) fun x => by kernel_rfl
def I97 : Sp := ⟨[(0, .agg c'7), (1, .agg c'7)], [], []⟩
def E97 : SL := [(.ret, ⟨[(4, ob)], [], []⟩)]
noncomputable def e97 : Fe G := ⟨I97, E97, fun x => nqr' x.1.1.1 x.1.1.2.1 x.1.1.2.2.1 x.1.1.2.2.2.1 x.1.2.1.1 x.1.2.1.2.1 x.1.2.1.2.2.1 x.1.2.1.2.2.2.1, Tryz.f55.results.toList⟩
theorem k97 : FnOK Tryz.prog G 55 e97 := fk cx (tc k94 (tc k95 (tc k96 tn))) (jl [(1048577, [(.normal, ⟨[(4, ob)], [], []⟩)])]) (lp := (pl [])) Tryz.func55 (by kernel_rfl) (by kernel_rfl) rfl (an0 (by kernel_rfl)) fun x => by kernel_rfl
def I98 : Sp := ⟨[(0, oro 26), (1, oro 26)], [], []⟩
def E98 : SL := [(.ret, ⟨[(4, ob)], [], []⟩)]
def S98_0 : Sp := ⟨[(0, oro 26), (1, oro 26), (12, oi64), (13, oi64)], [], []⟩
def X98_0 : SL := [(.exit 0, ⟨[], [], []⟩), (.ret, ⟨[(4, ob)], [], []⟩)]
def J98 : Nat → Option SL := jl []
noncomputable def P98 : Nat → St G → M (Ex × St G) := pl [lpX S98_0 X98_0 nb2']
theorem l98_0 : LoopOK Tryz.prog G 26 (P98 0) (nn' (ni' Tryz.f95) 0) := lk cx tn J98 1 S98_0 X98_0 (rfl : nb2' = _) (by kernel_rfl) (an0 (by kernel_rfl)) fun x => by kernel_rfl
noncomputable def e98 : Fe G := ⟨I98, E98, fun x => ndl' x.1.1 x.1.2.1, Tryz.f95.results.toList⟩
theorem k98 : FnOK Tryz.prog G 95 e98 := fk cx tn J98 (lp := P98) Tryz.func95 (by kernel_rfl) (by kernel_rfl) rfl (nh' _ (by kernel_rfl) (nf' l98_0 nk')) fun x => by kernel_rfl
def I99 : Sp := ⟨[(0, .agg c'25), (1, .agg c'25)], [], []⟩
def E99 : SL := [(.ret, ⟨[(4, ob)], [], []⟩)]
noncomputable def e99 : Fe G := ⟨I99, E99, fun x => nmi' x.1.1.1 x.1.1.2.1 x.1.1.2.2.1 x.1.1.2.2.2.1 x.1.2.1.1 x.1.2.1.2.1 x.1.2.1.2.2.1 x.1.2.1.2.2.2.1, Tryz.f57.results.toList⟩
theorem k99 : FnOK Tryz.prog G 57 e99 := fk cx (tc k98 (tc k95 tn)) (jl [(1048577, [(.normal, ⟨[(4, ob)], [], []⟩)])]) (lp := (pl [])) Tryz.func57 (by kernel_rfl) (by kernel_rfl) rfl (an0 (by kernel_rfl)) fun x => by kernel_rfl
def I100 : Sp := ⟨[(0, .agg c'26), (1, .agg c'26)], [], []⟩
def E100 : SL := [(.ret, ⟨[(4, ob)], [], []⟩)]
noncomputable def e100 : Fe G := ⟨I100, E100, fun x => ngs' x.1.1.1 x.1.1.2.1 x.1.1.2.2.1 x.1.1.2.2.2.1 x.1.1.2.2.2.2.1 x.1.1.2.2.2.2.2.1 x.1.1.2.2.2.2.2.2.1 x.1.1.2.2.2.2.2.2.2.1 x.1.1.2.2.2.2.2.2.2.2.1 x.1.1.2.2.2.2.2.2.2.2.2.1 x.1.1.2.2.2.2.2.2.2.2.2.2.1 x.1.1.2.2.2.2.2.2.2.2.2.2.2.1 x.1.2.1.1 x.1.2.1.2.1 x.1.2.1.2.2.1 x.1.2.1.2.2.2.1 x.1.2.1.2.2.2.2.1 x.1.2.1.2.2.2.2.2.1 x.1.2.1.2.2.2.2.2.2.1 x.1.2.1.2.2.2.2.2.2.2.1 x.1.2.1.2.2.2.2.2.2.2.2.1 x.1.2.1.2.2.2.2.2.2.2.2.2.1 x.1.2.1.2.2.2.2.2.2.2.2.2.2.1 x.1.2.1.2.2.2.2.2.2.2.2.2.2.2.1, Tryz.f15.results.toList⟩
theorem k100 : FnOK Tryz.prog G 15 e100 := fk cx (tc k93 (tc k97 (tc k94 (tc k99 tn)))) (jl [(1048577, [(.normal, ⟨[(4, ob)], [], []⟩)])]) (lp := (pl [])) Tryz.func15 (by kernel_rfl) (by kernel_rfl) rfl (an0 (by kernel_rfl)) fun x => by kernel_rfl
def I101 : Sp := ⟨[], [], []⟩
def E101 : SL := [(.ret, ⟨[(0, ob)], [], []⟩)]
noncomputable def H101 (h_l10_Building : ((Int × Int × Unit) × Unit) → Option ((Unit × Unit) × (T'0 × Unit))) (h_r10_Initial : ((T'0 × Unit) × Unit) → Option ((Unit × Unit) × (T'5 × Unit))) (h_dispatch_Tick : (T'73 × Unit) → Option ((Unit × Int × Unit) × (T'48 × Unit))) (h_dispatch_Same : ((T'48 × T'48 × Unit) × Unit) → Option ((Bool × Unit) × Unit))  : Option ((Bool × Unit) × Unit) :=
 (h_l10_Building (((9 : Int), (90 : Int), ()), ())).bind fun y1 =>
 let z0 : List (View) := [(View.mk true true false false (0 : Int) (0 : Int) (0 : Int) (0 : Int) (0 : Int) (0 : Int) (0 : Int) (0 : Int)), (View.mk false false false false (0 : Int) (0 : Int) (0 : Int) (0 : Int) (0 : Int) (0 : Int) (0 : Int) (0 : Int))]
 (h_r10_Initial ((y1.2.1, ()), ())).bind fun y2 =>
 (h_dispatch_Tick ((y1.2.1, y2.2.1, ([] : List (Int)), z0, (List.replicate (Int.toNat (2 : Int)) (Calls.mk (0 : Int) (0 : Int))), ((4 : Int), (0 : Int), ()), true, ()), ())).bind fun y3 =>
 bif (inB (0 : Int) (List.length z0)) then
 let z1 : Nat := (Int.toNat (0 : Int))
 let z2 : View := (List.getD z0 z1 (View.mk false false false false (0 : Int) (0 : Int) (0 : Int) (0 : Int) (0 : Int) (0 : Int) (0 : Int) (0 : Int)))
 (h_dispatch_Tick ((y1.2.1, (y3.2.1.2.1, y3.2.1.2.2.1, y3.2.1.2.2.2.1, y3.2.1.2.2.2.2.1, ()), y3.2.1.2.2.2.2.2.1, (List.set z0 z1 (View.mk z2.Ready z2.Serving z2.Legacy z2.Lost z2.Floor z2.Dir z2.Load (4 : Int) (0 : Int) z2.Stops_Car z2.Stops_Hall_Up z2.Stops_Hall_Down)), (List.replicate (Int.toNat (2 : Int)) (Calls.mk (0 : Int) (0 : Int))), ((4 : Int), (0 : Int), ()), true, ()), ())).bind fun y4 =>
 Option.bind (bif (y3.1.2.1 == (0 : Int)) then
 bif (((List.length y3.2.1.1 : Nat) : Int) == (2 : Int)) then
 bif (((List.length y3.2.1.2.2.2.2.1 : Nat) : Int) == (1 : Int)) then
 bif (inB (0 : Int) (List.length y3.2.1.2.2.2.2.1)) then
 let z3 : Entry := (List.getD y3.2.1.2.2.2.2.1 (Int.toNat (0 : Int)) (Entry.mk (0 : Int) (0 : Int) (0 : Int) (0 : Int) false))
 bif ((z3.Floor == (2 : Int)) && ((z3.Dir == (1 : Int)) && ((z3.Car == (0 : Int)) && ((z3.Moves == (0 : Int)) && ((z3.Moved == false) && true))))) then
 bif (y4.1.2.1 == (0 : Int)) then
 bif (((List.length y4.2.1.2.2.2.2.1 : Nat) : Int) == (0 : Int)) then
 bif ((y4.2.1.2.2.2.2.2.2.2.2.1 == (4 : Int)) && ((y4.2.1.2.2.2.2.2.2.2.2.2.1 == (0 : Int)) && true)) then
 (h_dispatch_Same ((y4.2.1, y4.2.1, ()), ())).bind fun y5 =>
 bif y5.1.1 then
 (h_dispatch_Same ((y3.2.1, y4.2.1, ()), ())).bind fun y6 =>
 some (((!y6.1.1), ()), ())
 else
 some ((false, ()), ())
 else
 some ((false, ()), ())
 else
 some ((false, ()), ())
 else
 some ((false, ()), ())
 else
 some ((false, ()), ())
 else
 none
 else
 some ((false, ()), ())
 else
 some ((false, ()), ())
 else
 some ((false, ()), ())) fun y7 =>
 some ((y7.1.1, ()), ())
 else
 none
theorem q101 (h_l10_Building : ((Int × Int × Unit) × Unit) → Option ((Unit × Unit) × (T'0 × Unit))) (h_r10_Initial : ((T'0 × Unit) × Unit) → Option ((Unit × Unit) × (T'5 × Unit))) (h_dispatch_Tick : (T'73 × Unit) → Option ((Unit × Int × Unit) × (T'48 × Unit))) (h_dispatch_Same : ((T'48 × T'48 × Unit) × Unit) → Option ((Bool × Unit) × Unit)) (x : I101.T G) : endI (cfP [(8, Fe.mk (G := G) I1 E1 h_l10_Building Tryz.f8.results.toList), (27, Fe.mk (G := G) I5 E5 h_r10_Initial Tryz.f27.results.toList), (11, Fe.mk (G := G) I92 E92 h_dispatch_Tick Tryz.f11.results.toList), (15, Fe.mk (G := G) I100 E100 h_dispatch_Same Tryz.f15.results.toList)]) (pl []) (jl [(1048584, [(.normal, ⟨[(0, ob)], [], []⟩)])]) 94 (ni' Tryz.f16) I101 E101 x = H101 h_l10_Building h_r10_Initial h_dispatch_Tick h_dispatch_Same  := by kernel_rfl
noncomputable def e101 : Fe G := ⟨I101, E101, fun _ => nhb', Tryz.f16.results.toList⟩
theorem k101 : FnOK Tryz.prog G 16 e101 := fk cx (tc k1 (tc k5 (tc k92 (tc k100 tn)))) (jl [(1048584, [(.normal, ⟨[(0, ob)], [], []⟩)])]) (lp := (pl [])) Tryz.func16 (by kernel_rfl) (by kernel_rfl) rfl (an0 (by kernel_rfl)) fun x => (q101 (fun x => ncs' x.1.1 x.1.2.1) (fun x => neq' x.1.1.1 x.1.1.2.1 x.1.1.2.2.1 x.1.1.2.2.2.1 x.1.1.2.2.2.2.1 x.1.1.2.2.2.2.2.1 x.1.1.2.2.2.2.2.2.1 x.1.1.2.2.2.2.2.2.2.1) (fun x => nbx' x.1.1.1 x.1.1.2.1 x.1.1.2.2.1 x.1.1.2.2.2.1 x.1.1.2.2.2.2.1 x.1.1.2.2.2.2.2.1 x.1.1.2.2.2.2.2.2.1 x.1.1.2.2.2.2.2.2.2.1 x.1.2.1.1 x.1.2.1.2.1 x.1.2.1.2.2.1 x.1.2.1.2.2.2.1 x.1.2.2.1 x.1.2.2.2.1 x.1.2.2.2.2.1 x.1.2.2.2.2.2.1.1 x.1.2.2.2.2.2.1.2.1 x.1.2.2.2.2.2.2.1) (fun x => ngs' x.1.1.1 x.1.1.2.1 x.1.1.2.2.1 x.1.1.2.2.2.1 x.1.1.2.2.2.2.1 x.1.1.2.2.2.2.2.1 x.1.1.2.2.2.2.2.2.1 x.1.1.2.2.2.2.2.2.2.1 x.1.1.2.2.2.2.2.2.2.2.1 x.1.1.2.2.2.2.2.2.2.2.2.1 x.1.1.2.2.2.2.2.2.2.2.2.2.1 x.1.1.2.2.2.2.2.2.2.2.2.2.2.1 x.1.2.1.1 x.1.2.1.2.1 x.1.2.1.2.2.1 x.1.2.1.2.2.2.1 x.1.2.1.2.2.2.2.1 x.1.2.1.2.2.2.2.2.1 x.1.2.1.2.2.2.2.2.2.1 x.1.2.1.2.2.2.2.2.2.2.1 x.1.2.1.2.2.2.2.2.2.2.2.1 x.1.2.1.2.2.2.2.2.2.2.2.2.1 x.1.2.1.2.2.2.2.2.2.2.2.2.2.1 x.1.2.1.2.2.2.2.2.2.2.2.2.2.2.1) x).trans (by kernel_rfl)
def I102 : Sp := ⟨[(0, .agg c'27)], [], []⟩
def E102 : SL := [(.ret, ⟨[(2, ob)], [], []⟩)]
def S102_0 : Sp := ⟨[(8, op 128), (9, .one (.own 32768 46)), (12, op 192), (13, oi64), (14, oi64)], [(128, c'11), (192, c'12)], []⟩
def nwb' : SL := [(.exit 0, ⟨[(8, op 128), (12, op 192), (13, oi64)], [(128, c'4), (192, c'8)], []⟩), (.ret, ⟨[(2, ob)], [], []⟩)]
def S102_1 : Sp := ⟨[(8, op 128), (12, op 192), (13, oi64), (15, oi64)], [(128, c'4), (192, c'8)], []⟩
def nv4' : SL := [(.exit 2, ⟨[], [], []⟩), (.ret, ⟨[(2, ob)], [], []⟩)]
def J102 : Nat → Option SL := jl [(1048597, [(.normal, ⟨[(8, op 128), (12, op 192), (13, oi64), (15, oi64), (16, op 256), (17, oi64), (169, ob)], [(128, c'4), (192, c'8), (256, c'6)], []⟩)]), (1048599, [(.normal, ⟨[(8, op 128), (12, op 192), (13, oi64), (15, oi64), (204, ob)], [(128, c'4), (192, c'8)], []⟩)])]
noncomputable def P102 : Nat → St G → M (Ex × St G) := pl [lpX S102_0 nwb' nct', lpX S102_1 nv4' ncr']
theorem t102 : ∀ p ∈ [(8, e1), (9, e15), (10, e18), (12, e19), (11, e92), (22, e12), (16, e101)], FnOK Tryz.prog G p.1 p.2 := (tc k1 (tc k15 (tc k18 (tc k19 (tc k92 (tc k12 (tc k101 tn)))))))
noncomputable def n4m' (_h_l24_sane : (Unit × Unit) → Option ((Bool × Unit) × Unit)) (ready i : Int) (m_Phases : List (Int)) (m_Flags m_Leaving : List (Bool)) (m_Entries : List (Entry)) (x_Phases : List (Int)) (x_Flags x_Leaving : List (Bool)) (x_Entries : List (Entry)) : Option (Sum (T'7 × (T'5 × T'5 × Unit)) ((Unit × Unit) ⊕ ((Bool × Unit) × Unit))) :=
 bif (decide (i < ((List.length x_Entries : Nat) : Int))) then
 bif (inB i (List.length x_Entries)) then
 let z0 : Entry := (List.getD x_Entries (Int.toNat i) (Entry.mk (0 : Int) (0 : Int) (0 : Int) (0 : Int) false))
 (nhd' m_Phases m_Flags m_Leaving m_Entries z0.Floor z0.Dir).bind fun y1 =>
 Option.bind (bif (decide (y1.1.1 < (0 : Int))) then
 bif (z0.Moves != (0 : Int)) then
 some (((), (), ready, i, (), y1.1.1, true, ()), ((m_Phases, m_Flags, m_Leaving, m_Entries, ()), (x_Phases, x_Flags, x_Leaving, x_Entries, ()), (z0.Floor, z0.Dir, z0.Car, z0.Moves, z0.Moved, ()), ()))
 else
 bif z0.Moved then
 some (((), (), ready, i, (), y1.1.1, true, ()), ((m_Phases, m_Flags, m_Leaving, m_Entries, ()), (x_Phases, x_Flags, x_Leaving, x_Entries, ()), (z0.Floor, z0.Dir, z0.Car, z0.Moves, z0.Moved, ()), ()))
 else
 some (((), (), ready, i, (), y1.1.1, (!((z0.Car == (-1 : Int)) == (ready == (0 : Int)))), ()), ((m_Phases, m_Flags, m_Leaving, m_Entries, ()), (x_Phases, x_Flags, x_Leaving, x_Entries, ()), (z0.Floor, z0.Dir, z0.Car, z0.Moves, z0.Moved, ()), ()))
 else
 some (((), (), ready, i, (), y1.1.1, false, ()), ((m_Phases, m_Flags, m_Leaving, m_Entries, ()), (x_Phases, x_Flags, x_Leaving, x_Entries, ()), (z0.Floor, z0.Dir, z0.Car, z0.Moves, z0.Moved, ()), ()))) fun y2 =>
 bif y2.1.2.2.2.2.2.2.1 then
 some (Sum.inr (Sum.inr ((false, ()), ())))
 else
 Option.bind (bif (decide ((0 : Int) ≤ y2.1.2.2.2.2.2.1)) then
 bif (inB y2.1.2.2.2.2.2.1 (List.length y2.2.1.2.2.2.1)) then
 bif ((List.getD y2.2.1.2.2.2.1 (Int.toNat y2.1.2.2.2.2.2.1) (Entry.mk (0 : Int) (0 : Int) (0 : Int) (0 : Int) false)).Car == y2.2.2.2.1.2.2.1) then
 bif (inB y2.1.2.2.2.2.2.1 (List.length y2.2.1.2.2.2.1)) then
 bif (y2.2.2.2.1.2.2.2.1 != (List.getD y2.2.1.2.2.2.1 (Int.toNat y2.1.2.2.2.2.2.1) (Entry.mk (0 : Int) (0 : Int) (0 : Int) (0 : Int) false)).Moves) then
 some (((), (), y2.1.2.2.1, y2.1.2.2.2.1, true, ()), (y2.2.1, y2.2.2.1, ()))
 else
 bif (inB y2.1.2.2.2.2.2.1 (List.length y2.2.1.2.2.2.1)) then
 some (((), (), y2.1.2.2.1, y2.1.2.2.2.1, (!(y2.2.2.2.1.2.2.2.2.1 == (List.getD y2.2.1.2.2.2.1 (Int.toNat y2.1.2.2.2.2.2.1) (Entry.mk (0 : Int) (0 : Int) (0 : Int) (0 : Int) false)).Moved)), ()), (y2.2.1, y2.2.2.1, ()))
 else
 none
 else
 none
 else
 some (((), (), y2.1.2.2.1, y2.1.2.2.2.1, false, ()), (y2.2.1, y2.2.2.1, ()))
 else
 none
 else
 some (((), (), y2.1.2.2.1, y2.1.2.2.2.1, false, ()), (y2.2.1, y2.2.2.1, ()))) fun y3 =>
 bif y3.1.2.2.2.2.1 then
 some (Sum.inr (Sum.inr ((false, ()), ())))
 else
 some (Sum.inl (((), (), y3.1.2.2.1, (IntKind.i64.wrap (y3.1.2.2.2.1 + (1 : Int))), ()), (y3.2.1, y3.2.2.1, ())))
 else
 none
 else
 some (Sum.inr (Sum.inl ((), ())))
theorem n5d' (h_l24_sane : (Unit × Unit) → Option ((Bool × Unit) × Unit)) (x : S102_1.T G) : rndI (cfP [(8, e1), (9, e15), (10, e18), (12, e19), (11, e92), (22, e12), (16, Fe.mk (G := G) I101 E101 h_l24_sane Tryz.f16.results.toList)]) P102 J102 206 2 (nn' (ni' Tryz.f5) 1) S102_1 nv4' x = n4m' h_l24_sane x.1.2.2.1 x.1.2.2.2.1 x.2.1.1 x.2.1.2.1 x.2.1.2.2.1 x.2.1.2.2.2.1 x.2.2.1.1 x.2.2.1.2.1 x.2.2.1.2.2.1 x.2.2.1.2.2.2.1 := by kernel_rfl
theorem n49' : LoopOK Tryz.prog G 206 (P102 1) (nn' (ni' Tryz.f5) 1) := lk cx t102 J102 2 S102_1 nv4' (rfl : ncr' = _) (by kernel_rfl) (an0 (by kernel_rfl)) fun x => (n5d' (fun _ => nhb' ) x).trans (by kernel_rfl)
noncomputable def n4b' (_h_l24_sane : (Unit × Unit) → Option ((Bool × Unit) × Unit)) (v : List (View)) (ready i : Int) (m_Phases : List (Int)) (m_Flags m_Leaving : List (Bool)) (m_Entries : List (Entry)) (x_Phases : List (Int)) (x_Flags x_Leaving : List (Bool)) (x_Entries : List (Entry)) : Option (Sum (T'54 × (T'5 × T'5 × Unit)) ((T'8 × (T'5 × T'5 × Unit)) ⊕ ((Bool × Unit) × Unit))) :=
 bif (decide (i < ((List.length v : Nat) : Int))) then
 bif (inB i (List.length x_Phases)) then
 bif (inB i (List.length m_Phases)) then
 bif ((List.getD x_Phases (Int.toNat i) (0 : Int)) != (List.getD m_Phases (Int.toNat i) (0 : Int))) then
 some (Sum.inr (Sum.inr ((false, ()), ())))
 else
 bif (inB i (List.length x_Flags)) then
 bif (inB i (List.length m_Flags)) then
 bif (!((List.getD x_Flags (Int.toNat i) false) == (List.getD m_Flags (Int.toNat i) false))) then
 some (Sum.inr (Sum.inr ((false, ()), ())))
 else
 bif (inB i (List.length x_Leaving)) then
 bif (inB i (List.length m_Leaving)) then
 bif (!((List.getD x_Leaving (Int.toNat i) false) == (List.getD m_Leaving (Int.toNat i) false))) then
 some (Sum.inr (Sum.inr ((false, ()), ())))
 else
 bif (inB i (List.length v)) then
 bif (List.getD v (Int.toNat i) (View.mk false false false false (0 : Int) (0 : Int) (0 : Int) (0 : Int) (0 : Int) (0 : Int) (0 : Int) (0 : Int))).Ready then
 some (Sum.inl (((), v, (), (IntKind.i64.wrap (ready + (1 : Int))), (IntKind.i64.wrap (i + (1 : Int))), ()), ((m_Phases, m_Flags, m_Leaving, m_Entries, ()), (x_Phases, x_Flags, x_Leaving, x_Entries, ()), ())))
 else
 some (Sum.inl (((), v, (), ready, (IntKind.i64.wrap (i + (1 : Int))), ()), ((m_Phases, m_Flags, m_Leaving, m_Entries, ()), (x_Phases, x_Flags, x_Leaving, x_Entries, ()), ())))
 else
 none
 else
 none
 else
 none
 else
 none
 else
 none
 else
 none
 else
 none
 else
 some (Sum.inr (Sum.inl (((), (), ready, ()), ((m_Phases, m_Flags, m_Leaving, m_Entries, ()), (x_Phases, x_Flags, x_Leaving, x_Entries, ()), ()))))
theorem n40' (h_l24_sane : (Unit × Unit) → Option ((Bool × Unit) × Unit)) (x : S102_0.T G) : rndI (cfP [(8, e1), (9, e15), (10, e18), (12, e19), (11, e92), (22, e12), (16, Fe.mk (G := G) I101 E101 h_l24_sane Tryz.f16.results.toList)]) P102 J102 206 1 (nn' (ni' Tryz.f5) 0) S102_0 nwb' x = n4b' h_l24_sane x.1.2.1 x.1.2.2.2.1 x.1.2.2.2.2.1 x.2.1.1 x.2.1.2.1 x.2.1.2.2.1 x.2.1.2.2.2.1 x.2.2.1.1 x.2.2.1.2.1 x.2.2.1.2.2.1 x.2.2.1.2.2.2.1 := by kernel_rfl
theorem n50' : LoopOK Tryz.prog G 206 (P102 0) (nn' (ni' Tryz.f5) 0) := lk cx t102 J102 1 S102_0 nwb' (rfl : nct' = _) (by kernel_rfl) (an0 (by kernel_rfl)) fun x => (n40' (fun _ => nhb' ) x).trans (by kernel_rfl)
noncomputable def H102 (h_l24_sane : (Unit × Unit) → Option ((Bool × Unit) × Unit)) (c_N_0 c_N_1 : Int) (c_L c_K : List (Int)) (c_Press_Up c_Press_Down : Int) : Option ((Bool × Unit) × Unit) :=
 (ncs' c_N_0 c_N_1).bind fun y1 =>
 (ngg' y1.2.1.1 y1.2.1.2.1 y1.2.1.2.2.1 y1.2.1.2.2.2.1 y1.2.1.2.2.2.2.1 y1.2.1.2.2.2.2.2.1 y1.2.1.2.2.2.2.2.2.1 y1.2.1.2.2.2.2.2.2.2.1 c_L).bind fun y2 =>
 (nge' y1.2.1.1 y1.2.1.2.1 y1.2.1.2.2.1 y1.2.1.2.2.2.1 y1.2.1.2.2.2.2.1 y1.2.1.2.2.2.2.2.1 y1.2.1.2.2.2.2.2.2.1 y1.2.1.2.2.2.2.2.2.2.1 c_K).bind fun y3 =>
 (nep' y2.2.1.1 y2.2.1.2.1 y2.2.1.2.2.1 y2.2.1.2.2.2.1 c_K).bind fun y4 =>
 let z0 : Int := ((List.length y1.2.1.2.2.2.2.2.2.2.1 : Nat) : Int)
 bif (((decide ((0 : Int) ≤ z0)) && (decide (z0 ≤ z0))) && (decide (z0 ≤ (2147483648 : Int)))) then
 (nbx' y1.2.1.1 y1.2.1.2.1 y1.2.1.2.2.1 y1.2.1.2.2.2.1 y1.2.1.2.2.2.2.1 y1.2.1.2.2.2.2.2.1 y1.2.1.2.2.2.2.2.2.1 y1.2.1.2.2.2.2.2.2.2.1 y2.2.1.1 y2.2.1.2.1 y2.2.1.2.2.1 y2.2.1.2.2.2.1 y4.1.1 y3.1.1 (List.replicate (Int.toNat z0) (Calls.mk (0 : Int) (0 : Int))) c_Press_Up c_Press_Down true).bind fun y5 =>
 bif (y5.1.2.1 != (0 : Int)) then
 some ((false, ()), ())
 else
 bif (((List.length y5.2.1.2.1 : Nat) : Int) != ((List.length y1.2.1.2.2.2.2.2.2.2.1 : Nat) : Int)) then
 some ((false, ()), ())
 else
 bif (((List.length y5.2.1.2.2.1 : Nat) : Int) != ((List.length y1.2.1.2.2.2.2.2.2.2.1 : Nat) : Int)) then
 some ((false, ()), ())
 else
 bif (((List.length y5.2.1.2.2.2.1 : Nat) : Int) != ((List.length y1.2.1.2.2.2.2.2.2.2.1 : Nat) : Int)) then
 some ((false, ()), ())
 else
 (nct' (((), y3.1.1, (), (0 : Int), (0 : Int), ()), (y2.2.1, (y5.2.1.2.1, y5.2.1.2.2.1, y5.2.1.2.2.2.1, y5.2.1.2.2.2.2.1, ()), ()))).bind fun y6 =>
 (match y6 with
 | .inl y7 =>
 (ncr' (((), (), y7.1.2.2.1, (0 : Int), ()), (y7.2.1, y7.2.2.1, ()))).bind fun y8 =>
 (match y8 with
 | .inl y9 =>
 (h_l24_sane ((), ())).bind fun y10 =>
 some ((y10.1.1, ()), ())
 | .inr y9 =>
 some ((y9.1.1, ()), ()))
 | .inr y7 =>
 some ((y7.1.1, ()), ()))
 else
 none
theorem q102 (h_l24_sane : (Unit × Unit) → Option ((Bool × Unit) × Unit)) (x : I102.T G) : endI (cfP [(8, e1), (9, e15), (10, e18), (12, e19), (11, e92), (22, e12), (16, Fe.mk (G := G) I101 E101 h_l24_sane Tryz.f16.results.toList)]) P102 J102 206 (ni' Tryz.f5) I102 E102 x = H102 h_l24_sane x.1.1.1 x.1.1.2.1 x.1.1.2.2.1 x.1.1.2.2.2.1 x.1.1.2.2.2.2.1 x.1.1.2.2.2.2.2.1 := by kernel_rfl
noncomputable def e102 : Fe G := ⟨I102, E102, fun x => F_l24_DispatchKeeps x.1.1.1 x.1.1.2.1 x.1.1.2.2.1 x.1.1.2.2.2.1 x.1.1.2.2.2.2.1 x.1.1.2.2.2.2.2.1, Tryz.f5.results.toList⟩
theorem k102 : FnOK Tryz.prog G 5 e102 := fk cx t102 J102 (lp := P102) Tryz.func5 (by kernel_rfl) (by kernel_rfl) rfl (nh' _ (by kernel_rfl) (nf' n50' (nf' n49' nk'))) fun x => (q102 (fun _ => nhb' ) x).trans (by kernel_rfl)
def I103 : Sp := ⟨[(0, .agg c'2), (1, .agg c'7), (2, oro 66)], [], []⟩
def E103 : SL := [(.ret, ⟨[(6, op 96), (7, oi64)], [(96, c'4)], []⟩)]
def n10' : Sp := ⟨[(3, op 48), (4, op 64), (6, op 96), (12, oro 66), (13, oi64), (14, oi64)], [(48, c'2), (64, c'7), (96, c'4)], []⟩
def n03' : SL := [(.exit 0, ⟨[(4, op 64), (6, op 96)], [(64, c'7), (96, c'4)], []⟩), (.ret, ⟨[(6, op 96), (7, oi64)], [(96, c'4)], []⟩)]
def J103 : Nat → Option SL := jl []
noncomputable def P103 : Nat → St G → M (Ex × St G) := pl [lpX n10' n03' ngl']
theorem t103 : ∀ p ∈ [(59, e63), (35, e45)], FnOK Tryz.prog G p.1 p.2 := (tc k63 (tc k45 tn))
theorem n5e' : LoopOK Tryz.prog G 33 (P103 0) (nn' (ni' Tryz.f23) 0) := lk cx t103 J103 1 n10' n03' (rfl : ngl' = _) (by kernel_rfl) (an0 (by kernel_rfl)) fun x => by kernel_rfl
noncomputable def e103 : Fe G := ⟨I103, E103, fun x => no9' x.1.1.1 x.1.1.2.1 x.1.1.2.2.1 x.1.1.2.2.2.1 x.1.1.2.2.2.2.1 x.1.1.2.2.2.2.2.1 x.1.1.2.2.2.2.2.2.1 x.1.1.2.2.2.2.2.2.2.1 x.1.2.1.1 x.1.2.1.2.1 x.1.2.1.2.2.1 x.1.2.1.2.2.2.1 x.1.2.2.1, Tryz.f23.results.toList⟩
theorem k103 : FnOK Tryz.prog G 23 e103 := fk cx t103 J103 (lp := P103) Tryz.func23 (by kernel_rfl) (by kernel_rfl) rfl (nh' _ (by kernel_rfl) (nf' n5e' nk')) fun x => by kernel_rfl
def I104 : Sp := ⟨[(0, .agg c'2)], [], []⟩
def E104 : SL := [(.ret, ⟨[(2, op 32)], [(32, c'14)], []⟩)]
def n0x' : Sp := ⟨[(1, op 16), (2, op 32), (3, op 48), (4, oi64)], [(16, c'2), (32, c'14), (48, c'14)], []⟩
def n1e' : SL := [(.exit 0, ⟨[(2, op 32), (3, op 48)], [(32, c'14), (48, c'14)], []⟩)]
def J104 : Nat → Option SL := jl [(8, [(.normal, ⟨[(1, op 16), (2, op 32), (3, op 48), (4, oi64)], [(16, c'2), (32, c'14), (48, c'14)], []⟩)])]
noncomputable def P104 : Nat → St G → M (Ex × St G) := pl [lpX n0x' n1e' nls']
theorem t104 : ∀ p ∈ [(58, e7)], FnOK Tryz.prog G p.1 p.2 := (tc k7 tn)
theorem n5j' : LoopOK Tryz.prog G 30 (P104 0) (nn' (ni' Tryz.f20) 0) := lk cx t104 J104 1 n0x' n1e' (rfl : nls' = _) (by kernel_rfl) (an0 (by kernel_rfl)) fun x => by kernel_rfl
noncomputable def e104 : Fe G := ⟨I104, E104, fun x => nrm' x.1.1.1 x.1.1.2.1 x.1.1.2.2.1 x.1.1.2.2.2.1 x.1.1.2.2.2.2.1 x.1.1.2.2.2.2.2.1 x.1.1.2.2.2.2.2.2.1 x.1.1.2.2.2.2.2.2.2.1, Tryz.f20.results.toList⟩
theorem k104 : FnOK Tryz.prog G 20 e104 := fk cx t104 J104 (lp := P104) Tryz.func20 (by kernel_rfl) (by kernel_rfl) rfl (nh' _ (by kernel_rfl) (nf' n5j' nk')) fun x => by kernel_rfl
def I105 : Sp := ⟨[(0, .agg c'14), (1, .agg c'14)], [], []⟩
def E105 : SL := [(.ret, ⟨[(4, op 64)], [(64, c'14)], []⟩)]
noncomputable def e105 : Fe G := ⟨I105, E105, fun x => nrn' x.1.1.1 x.1.1.2.1 x.1.2.1.1 x.1.2.1.2.1, Tryz.f19.results.toList⟩
theorem k105 : FnOK Tryz.prog G 19 e105 := fk cx tn (jl []) (lp := (pl [])) Tryz.func19 (by kernel_rfl) (by kernel_rfl) rfl (an0 (by kernel_rfl)) fun x => by kernel_rfl
def I106 : Sp := ⟨[(0, .agg c'14), (1, oi64), (2, oi64)], [], []⟩
def E106 : SL := [(.ret, ⟨[(6, ob)], [], []⟩)]
noncomputable def e106 : Fe G := ⟨I106, E106, fun x => noi' x.1.1.1 x.1.1.2.1 x.1.2.1 x.1.2.2.1, Tryz.f90.results.toList⟩
theorem k106 : FnOK Tryz.prog G 90 e106 := fk cx tn (jl [(1048579, [(.normal, ⟨[(6, ob)], [], []⟩)])]) (lp := (pl [])) Tryz.func90 (by kernel_rfl) (by kernel_rfl) rfl (an0 (by kernel_rfl)) fun x => by kernel_rfl
def I107 : Sp := ⟨[(0, .agg c'14)], [], []⟩
def E107 : SL := [(.ret, ⟨[(2, .one (.own 32768 63))], [], []⟩)]
def n0q' : Sp := ⟨[(1, op 16), (3, .one (.own 32768 63)), (4, oi64)], [(16, c'14)], []⟩
def n0p' : SL := [(.exit 0, ⟨[(3, .one (.own 32768 63))], [], []⟩)]
def nzw' : Sp := ⟨[(1, op 16), (3, .one (.own 32768 63)), (4, oi64), (5, oi64)], [(16, c'14)], []⟩
def n12' : SL := [(.exit 2, ⟨[(1, op 16), (3, .one (.own 32768 63)), (4, oi64)], [(16, c'14)], []⟩)]
def J107 : Nat → Option SL := jl []
noncomputable def P107 : Nat → St G → M (Ex × St G) := pl [lpX n0q' n0p' nk3', lpX nzw' n12' nk5']
theorem t107 : ∀ p ∈ [(90, e106)], FnOK Tryz.prog G p.1 p.2 := (tc k106 tn)
theorem n1h' : LoopOK Tryz.prog G 25 (P107 1) (nn' (ni' Tryz.f48) 1) := lk cx t107 J107 2 nzw' n12' (rfl : nk5' = _) (by kernel_rfl) (an0 (by kernel_rfl)) fun x => by kernel_rfl
theorem n52' : LoopOK Tryz.prog G 25 (P107 0) (nn' (ni' Tryz.f48) 0) := lk cx t107 J107 1 n0q' n0p' (rfl : nk3' = _) (by kernel_rfl) (nh' _ (by kernel_rfl) (nf' n1h' nk')) fun x => by kernel_rfl
noncomputable def e107 : Fe G := ⟨I107, E107, fun x => nzl' x.1.1.1 x.1.1.2.1, Tryz.f48.results.toList⟩
theorem k107 : FnOK Tryz.prog G 48 e107 := fk cx t107 J107 (lp := P107) Tryz.func48 (by kernel_rfl) (by kernel_rfl) rfl (nh' _ (by kernel_rfl) (nf' n52' (nf' n1h' nk'))) fun x => by kernel_rfl
def I108 : Sp := ⟨[(0, .agg c'14), (1, .agg c'14)], [], []⟩
def E108 : SL := [(.ret, ⟨[(4, op 64)], [(64, c'14)], []⟩)]
noncomputable def e108 : Fe G := ⟨I108, E108, fun x => nmf' x.1.1.1 x.1.1.2.1 x.1.2.1.1 x.1.2.1.2.1, Tryz.f18.results.toList⟩
theorem k108 : FnOK Tryz.prog G 18 e108 := fk cx tn (jl []) (lp := (pl [])) Tryz.func18 (by kernel_rfl) (by kernel_rfl) rfl (an0 (by kernel_rfl)) fun x => by kernel_rfl
def I109 : Sp := ⟨[(0, .agg c'14), (1, .agg c'14)], [], []⟩
def E109 : SL := [(.ret, ⟨[(4, op 64)], [(64, c'14)], []⟩)]
noncomputable def e109 : Fe G := ⟨I109, E109, fun x => nl9' x.1.1.1 x.1.1.2.1 x.1.2.1.1 x.1.2.1.2.1, Tryz.f21.results.toList⟩
theorem k109 : FnOK Tryz.prog G 21 e109 := fk cx tn (jl []) (lp := (pl [])) Tryz.func21 (by kernel_rfl) (by kernel_rfl) rfl (an0 (by kernel_rfl)) fun x => by kernel_rfl
def I110 : Sp := ⟨[(0, oro 63)], [], []⟩
def E110 : SL := [(.ret, ⟨[(2, op 32)], [(32, c'14)], []⟩)]
def n1q' : Sp := ⟨[(0, oro 63), (2, op 32), (3, op 48), (4, oi64)], [(32, c'14), (48, c'14)], []⟩
def n0j' : SL := [(.exit 0, ⟨[(2, op 32), (3, op 48)], [(32, c'14), (48, c'14)], []⟩)]
def J110 : Nat → Option SL := jl []
noncomputable def P110 : Nat → St G → M (Ex × St G) := pl [lpX n1q' n0j' nnd']
theorem t110 : ∀ p ∈ [(31, e17), (21, e109)], FnOK Tryz.prog G p.1 p.2 := (tc k17 (tc k109 tn))
theorem n4y' : LoopOK Tryz.prog G 25 (P110 0) (nn' (ni' Tryz.f17) 0) := lk cx t110 J110 1 n1q' n0j' (rfl : nnd' = _) (by kernel_rfl) (an0 (by kernel_rfl)) fun x => by kernel_rfl
noncomputable def e110 : Fe G := ⟨I110, E110, fun x => n3c' x.1.1, Tryz.f17.results.toList⟩
theorem k110 : FnOK Tryz.prog G 17 e110 := fk cx t110 J110 (lp := P110) Tryz.func17 (by kernel_rfl) (by kernel_rfl) rfl (nh' _ (by kernel_rfl) (nf' n4y' nk')) fun x => by kernel_rfl
def I111 : Sp := ⟨[(0, oro 66), (1, oro 66)], [], []⟩
def E111 : SL := [(.ret, ⟨[(4, ob)], [], []⟩)]
def n1x' : Sp := ⟨[(0, oro 66), (1, oro 66), (5, oi64)], [], []⟩
def n1v' : SL := [(.exit 0, ⟨[], [], []⟩), (.ret, ⟨[(4, ob)], [], []⟩)]
def J111 : Nat → Option SL := jl []
noncomputable def P111 : Nat → St G → M (Ex × St G) := pl [lpX n1x' n1v' nk6']
theorem n47' : LoopOK Tryz.prog G 26 (P111 0) (nn' (ni' Tryz.f51) 0) := lk cx tn J111 1 n1x' n1v' (rfl : nk6' = _) (by kernel_rfl) (an0 (by kernel_rfl)) fun x => by kernel_rfl
noncomputable def e111 : Fe G := ⟨I111, E111, fun x => nzq' x.1.1 x.1.2.1, Tryz.f51.results.toList⟩
theorem k111 : FnOK Tryz.prog G 51 e111 := fk cx tn J111 (lp := P111) Tryz.func51 (by kernel_rfl) (by kernel_rfl) rfl (nh' _ (by kernel_rfl) (nf' n47' nk')) fun x => by kernel_rfl
def I112 : Sp := ⟨[(0, .agg c'7), (1, .agg c'7)], [], []⟩
def E112 : SL := [(.ret, ⟨[(4, ob)], [], []⟩)]
def n1b' : Sp := ⟨[(2, op 32), (3, op 48), (5, oi64)], [(32, c'7), (48, c'7)], []⟩
def nz9' : SL := [(.exit 0, ⟨[(2, op 32), (3, op 48)], [(32, c'7), (48, c'7)], []⟩), (.ret, ⟨[(4, ob)], [], []⟩)]
def n1r' : Sp := ⟨[(2, op 32), (3, op 48), (6, oi64)], [(32, c'7), (48, c'7)], []⟩
def n2c' : SL := [(.exit 2, ⟨[(2, op 32), (3, op 48)], [(32, c'7), (48, c'7)], []⟩), (.ret, ⟨[(4, ob)], [], []⟩)]
def nzs' : Sp := ⟨[(2, op 32), (3, op 48), (7, oi64)], [(32, c'7), (48, c'7)], []⟩
def n1s' : SL := [(.exit 4, ⟨[(2, op 32), (3, op 48)], [(32, c'7), (48, c'7)], []⟩), (.ret, ⟨[(4, ob)], [], []⟩)]
def n0t' : Sp := ⟨[(2, op 32), (3, op 48), (8, oi64)], [(32, c'7), (48, c'7)], []⟩
def n0e' : SL := [(.exit 6, ⟨[], [], []⟩), (.ret, ⟨[(4, ob)], [], []⟩)]
def J112 : Nat → Option SL := jl []
noncomputable def P112 : Nat → St G → M (Ex × St G) := pl [lpX n1b' nz9' nk0', lpX n1r' n2c' nk9', lpX nzs' n1s' nlp', lpX n0t' n0e' nle']
theorem n53' : LoopOK Tryz.prog G 115 (P112 3) (nn' (ni' Tryz.f25) 3) := lk cx tn J112 4 n0t' n0e' (rfl : nle' = _) (by kernel_rfl) (an0 (by kernel_rfl)) fun x => by kernel_rfl
theorem n4z' : LoopOK Tryz.prog G 115 (P112 2) (nn' (ni' Tryz.f25) 2) := lk cx tn J112 3 nzs' n1s' (rfl : nlp' = _) (by kernel_rfl) (an0 (by kernel_rfl)) fun x => by kernel_rfl
theorem n43' : LoopOK Tryz.prog G 115 (P112 1) (nn' (ni' Tryz.f25) 1) := lk cx tn J112 2 n1r' n2c' (rfl : nk9' = _) (by kernel_rfl) (an0 (by kernel_rfl)) fun x => by kernel_rfl
theorem n5i' : LoopOK Tryz.prog G 115 (P112 0) (nn' (ni' Tryz.f25) 0) := lk cx tn J112 1 n1b' nz9' (rfl : nk0' = _) (by kernel_rfl) (an0 (by kernel_rfl)) fun x => by kernel_rfl
noncomputable def e112 : Fe G := ⟨I112, E112, fun x => nyj' x.1.1.1 x.1.1.2.1 x.1.1.2.2.1 x.1.1.2.2.2.1 x.1.2.1.1 x.1.2.1.2.1 x.1.2.1.2.2.1 x.1.2.1.2.2.2.1, Tryz.f25.results.toList⟩
theorem k112 : FnOK Tryz.prog G 25 e112 := fk cx tn J112 (lp := P112) Tryz.func25 (by kernel_rfl) (by kernel_rfl) rfl (nh' _ (by kernel_rfl) (nf' n5i' (nf' n43' (nf' n4z' (nf' n53' nk'))))) fun x => by kernel_rfl
def I113 : Sp := ⟨[(0, oi64), (1, .agg c'20), (2, oi64), (3, oi64)], [], []⟩
def E113 : SL := [(.ret, ⟨[(8, ob)], [], []⟩)]
noncomputable def e113 : Fe G := ⟨I113, E113, fun x => nd4' x.1.1 x.1.2.1.1 x.1.2.1.2.1 x.1.2.1.2.2.1 x.1.2.2.1 x.1.2.2.2.1, Tryz.f144.results.toList⟩
theorem k113 : FnOK Tryz.prog G 144 e113 := fk cx tn (jl [(1048579, [(.normal, ⟨[(8, ob)], [], []⟩)]), (1048581, [(.normal, ⟨[(8, ob)], [], []⟩)])]) (lp := (pl [])) Tryz.func144 (by kernel_rfl) (by kernel_rfl) rfl (an0 (by kernel_rfl)) fun x => by kernel_rfl
def I114 : Sp := ⟨[(0, oi64), (1, .agg c'20)], [], []⟩
def E114 : SL := [(.ret, ⟨[(4, oi64)], [], []⟩)]
def n2e' : Sp := ⟨[(0, oi64), (3, op 48), (5, oi64), (6, oi64)], [(48, c'20)], []⟩
def n1p' : SL := [(.exit 0, ⟨[(5, oi64)], [], []⟩)]
def n0v' : Sp := ⟨[(0, oi64), (3, op 48), (5, oi64), (6, oi64), (7, oi64)], [(48, c'20)], []⟩
def nz3' : SL := [(.exit 2, ⟨[(0, oi64), (3, op 48), (5, oi64), (6, oi64)], [(48, c'20)], []⟩)]
def J114 : Nat → Option SL := jl []
noncomputable def P114 : Nat → St G → M (Ex × St G) := pl [lpX n2e' n1p' nhr', lpX n0v' nz3' nht']
theorem t114 : ∀ p ∈ [(144, e113)], FnOK Tryz.prog G p.1 p.2 := (tc k113 tn)
theorem n01' : LoopOK Tryz.prog G 31 (P114 1) (nn' (ni' Tryz.f124) 1) := lk cx t114 J114 2 n0v' nz3' (rfl : nht' = _) (by kernel_rfl) (an0 (by kernel_rfl)) fun x => by kernel_rfl
theorem n5p' : LoopOK Tryz.prog G 31 (P114 0) (nn' (ni' Tryz.f124) 0) := lk cx t114 J114 1 n2e' n1p' (rfl : nhr' = _) (by kernel_rfl) (nh' _ (by kernel_rfl) (nf' n01' nk')) fun x => by kernel_rfl
noncomputable def e114 : Fe G := ⟨I114, E114, fun x => ngd' x.1.1 x.1.2.1.1 x.1.2.1.2.1 x.1.2.1.2.2.1, Tryz.f124.results.toList⟩
theorem k114 : FnOK Tryz.prog G 124 e114 := fk cx t114 J114 (lp := P114) Tryz.func124 (by kernel_rfl) (by kernel_rfl) rfl (nh' _ (by kernel_rfl) (nf' n5p' (nf' n01' nk'))) fun x => by kernel_rfl
def I115 : Sp := ⟨[(0, oi64), (1, oi64), (2, oi64), (3, .agg c'20), (4, oi64), (5, oi64)], [], []⟩
def E115 : SL := [(.ret, ⟨[(12, oi64)], [], []⟩)]
def nz2' : Sp := ⟨[(0, oi64), (1, oi64), (2, oi64), (4, oi64), (5, oi64), (9, op 144), (13, oi64), (14, oi64), (15, oi64)], [(144, c'20)], []⟩
def n14' : SL := [(.exit 0, ⟨[(1, oi64), (2, oi64), (4, oi64), (5, oi64), (13, oi64), (14, oi64)], [], []⟩)]
def J115 : Nat → Option SL := jl [(1048579, [(.normal, ⟨[(0, oi64), (1, oi64), (2, oi64), (4, oi64), (5, oi64), (9, op 144), (64, ob)], [(144, c'20)], []⟩)]), (1048585, [(.normal, ⟨[(0, oi64), (1, oi64), (2, oi64), (4, oi64), (5, oi64), (9, op 144), (13, oi64), (14, oi64), (15, oi64), (91, ob)], [(144, c'20)], []⟩)]), (1048589, [(.normal, ⟨[(1, oi64), (2, oi64), (4, oi64), (5, oi64), (13, oi64), (14, oi64), (108, ob)], [], []⟩)]), (1048591, [(.normal, ⟨[(1, oi64), (2, oi64), (4, oi64), (5, oi64), (13, oi64), (14, oi64), (123, ob)], [], []⟩)]), (1048595, [(.normal, ⟨[(1, oi64), (4, oi64), (5, oi64), (13, oi64), (14, oi64), (151, ob)], [], []⟩)])]
noncomputable def P115 : Nat → St G → M (Ex × St G) := pl [lpX nz2' n14' nic']
theorem t115 : ∀ p ∈ [(144, e113)], FnOK Tryz.prog G p.1 p.2 := (tc k113 tn)
theorem n48' : LoopOK Tryz.prog G 183 (P115 0) (nn' (ni' Tryz.f123) 0) := lk cx t115 J115 1 nz2' n14' (rfl : nic' = _) (by kernel_rfl) (an0 (by kernel_rfl)) fun x => by kernel_rfl
noncomputable def e115 : Fe G := ⟨I115, E115, fun x => neb' x.1.1 x.1.2.1 x.1.2.2.1 x.1.2.2.2.1.1 x.1.2.2.2.1.2.1 x.1.2.2.2.1.2.2.1 x.1.2.2.2.2.1 x.1.2.2.2.2.2.1, Tryz.f123.results.toList⟩
theorem k115 : FnOK Tryz.prog G 123 e115 := fk cx t115 J115 (lp := P115) Tryz.func123 (by kernel_rfl) (by kernel_rfl) rfl (nh' _ (by kernel_rfl) (nf' n48' nk')) fun x => by kernel_rfl
def I116 : Sp := ⟨[(0, .agg c'2), (1, oi64), (2, .agg c'15), (3, oi64), (4, oi64)], [], []⟩
def E116 : SL := [(.ret, ⟨[(10, oi64)], [], []⟩)]
noncomputable def e116 : Fe G := ⟨I116, E116, fun x => nfs' x.1.1.1 x.1.1.2.1 x.1.1.2.2.1 x.1.1.2.2.2.1 x.1.1.2.2.2.2.1 x.1.1.2.2.2.2.2.1 x.1.1.2.2.2.2.2.2.1 x.1.1.2.2.2.2.2.2.2.1 x.1.2.1 x.1.2.2.1.1 x.1.2.2.1.2.1 x.1.2.2.1.2.2.1 x.1.2.2.1.2.2.2.1 x.1.2.2.1.2.2.2.2.1 x.1.2.2.1.2.2.2.2.2.1 x.1.2.2.1.2.2.2.2.2.2.1 x.1.2.2.1.2.2.2.2.2.2.2.1 x.1.2.2.1.2.2.2.2.2.2.2.2.1 x.1.2.2.1.2.2.2.2.2.2.2.2.2.1 x.1.2.2.1.2.2.2.2.2.2.2.2.2.2.1 x.1.2.2.1.2.2.2.2.2.2.2.2.2.2.2.1 x.1.2.2.2.1 x.1.2.2.2.2.1, Tryz.f92.results.toList⟩
theorem k116 : FnOK Tryz.prog G 92 e116 := fk cx (tc k4 (tc k115 (tc k114 tn))) (jl [(7, [(.normal, ⟨[(1, oi64), (3, oi64), (4, oi64), (5, op 80), (7, op 112), (11, oi64)], [(80, c'2), (112, c'15)], []⟩)])]) (lp := (pl [])) Tryz.func92 (by kernel_rfl) (by kernel_rfl) rfl (an0 (by kernel_rfl)) fun x => by kernel_rfl
def I117 : Sp := ⟨[(0, .agg c'21), (1, .agg c'21)], [], []⟩
def E117 : SL := [(.ret, ⟨[(4, ob)], [], []⟩)]
noncomputable def e117 : Fe G := ⟨I117, E117, fun x => nlf' x.1.1.1 x.1.1.2.1 x.1.2.1.1 x.1.2.1.2.1, Tryz.f120.results.toList⟩
theorem k117 : FnOK Tryz.prog G 120 e117 := fk cx tn (jl [(1048577, [(.normal, ⟨[(4, ob)], [], []⟩)])]) (lp := (pl [])) Tryz.func120 (by kernel_rfl) (by kernel_rfl) rfl (an0 (by kernel_rfl)) fun x => by kernel_rfl
def I118 : Sp := ⟨[(0, .agg c'15)], [], []⟩
def E118 : SL := [(.ret, ⟨[(2, ob)], [], []⟩)]
noncomputable def e118 : Fe G := ⟨I118, E118, fun x => nkn' x.1.1.1 x.1.1.2.1 x.1.1.2.2.1 x.1.1.2.2.2.1 x.1.1.2.2.2.2.1 x.1.1.2.2.2.2.2.1 x.1.1.2.2.2.2.2.2.1 x.1.1.2.2.2.2.2.2.2.1 x.1.1.2.2.2.2.2.2.2.2.1 x.1.1.2.2.2.2.2.2.2.2.2.1 x.1.1.2.2.2.2.2.2.2.2.2.2.1 x.1.1.2.2.2.2.2.2.2.2.2.2.2.1, Tryz.f122.results.toList⟩
theorem k118 : FnOK Tryz.prog G 122 e118 := fk cx tn (jl [(1048577, [(.normal, ⟨[(2, ob)], [], []⟩)])]) (lp := (pl [])) Tryz.func122 (by kernel_rfl) (by kernel_rfl) rfl (an0 (by kernel_rfl)) fun x => by kernel_rfl
def I119 : Sp := ⟨[(0, .agg c'2), (1, oro 46), (2, oi64), (3, oi64), (4, oi64)], [], []⟩
def E119 : SL := [(.ret, ⟨[(10, op 160)], [(160, c'21)], []⟩)]
noncomputable def e119 : Fe G := ⟨I119, E119, fun x => nim' x.1.1.1 x.1.1.2.1 x.1.1.2.2.1 x.1.1.2.2.2.1 x.1.1.2.2.2.2.1 x.1.1.2.2.2.2.2.1 x.1.1.2.2.2.2.2.2.1 x.1.1.2.2.2.2.2.2.2.1 x.1.2.1 x.1.2.2.1 x.1.2.2.2.1 x.1.2.2.2.2.1, Tryz.f121.results.toList⟩
theorem k119 : FnOK Tryz.prog G 121 e119 := fk cx (tc k118 (tc k116 tn)) (jl [(5, [(.normal, ⟨[(1, oro 46), (2, oi64), (3, oi64), (4, oi64), (5, op 80), (10, op 160), (11, oi64)], [(80, c'2), (160, c'21)], []⟩)])]) (lp := (pl [])) Tryz.func121 (by kernel_rfl) (by kernel_rfl) rfl (an0 (by kernel_rfl)) fun x => by kernel_rfl
def I120 : Sp := ⟨[(0, .agg c'2), (1, oro 46), (2, oi64), (3, oi64), (4, oi64)], [], []⟩
def E120 : SL := [(.ret, ⟨[(10, oi64)], [], []⟩)]
def n2d' : Sp := ⟨[(1, oro 46), (2, oi64), (3, oi64), (4, oi64), (5, op 80), (11, oi64), (12, oi64)], [(80, c'2)], []⟩
def n0w' : SL := [(.exit 0, ⟨[(11, oi64)], [], []⟩)]
def J120 : Nat → Option SL := jl [(1048584, [(.normal, ⟨[(1, oro 46), (2, oi64), (3, oi64), (4, oi64), (5, op 80), (11, oi64), (12, oi64), (57, ob)], [(80, c'2)], []⟩)])]
noncomputable def P120 : Nat → St G → M (Ex × St G) := pl [lpX n2d' n0w' ni1']
theorem t120 : ∀ p ∈ [(60, e4), (121, e119), (120, e117)], FnOK Tryz.prog G p.1 p.2 := (tc k4 (tc k119 (tc k117 tn)))
theorem n5g' : LoopOK Tryz.prog G 60 (P120 0) (nn' (ni' Tryz.f119) 0) := lk cx t120 J120 1 n2d' n0w' (rfl : ni1' = _) (by kernel_rfl) (an0 (by kernel_rfl)) fun x => by kernel_rfl
noncomputable def e120 : Fe G := ⟨I120, E120, fun x => nij' x.1.1.1 x.1.1.2.1 x.1.1.2.2.1 x.1.1.2.2.2.1 x.1.1.2.2.2.2.1 x.1.1.2.2.2.2.2.1 x.1.1.2.2.2.2.2.2.1 x.1.1.2.2.2.2.2.2.2.1 x.1.2.1 x.1.2.2.1 x.1.2.2.2.1 x.1.2.2.2.2.1, Tryz.f119.results.toList⟩
theorem k120 : FnOK Tryz.prog G 119 e120 := fk cx t120 J120 (lp := P120) Tryz.func119 (by kernel_rfl) (by kernel_rfl) rfl (nh' _ (by kernel_rfl) (nf' n5g' nk')) fun x => by kernel_rfl
def I121 : Sp := ⟨[(0, .agg c'7), (1, oro 3)], [], []⟩
def E121 : SL := [(.ret, ⟨[(4, ob)], [], []⟩)]
def n1g' : Sp := ⟨[(1, oro 3), (2, op 32), (5, oi64)], [(32, c'7)], []⟩
def n0k' : SL := [(.exit 0, ⟨[(1, oro 3), (2, op 32)], [(32, c'7)], []⟩), (.ret, ⟨[(4, ob)], [], []⟩)]
def J121 : Nat → Option SL := jl []
noncomputable def P121 : Nat → St G → M (Ex × St G) := pl [lpX n1g' n0k' nhz']
theorem n4w' : LoopOK Tryz.prog G 30 (P121 0) (nn' (ni' Tryz.f44) 0) := lk cx tn J121 1 n1g' n0k' (rfl : nhz' = _) (by kernel_rfl) (an0 (by kernel_rfl)) fun x => by kernel_rfl
noncomputable def e121 : Fe G := ⟨I121, E121, fun x => nmw' x.1.1.1 x.1.1.2.1 x.1.1.2.2.1 x.1.1.2.2.2.1 x.1.2.1, Tryz.f44.results.toList⟩
theorem k121 : FnOK Tryz.prog G 44 e121 := fk cx tn J121 (lp := P121) Tryz.func44 (by kernel_rfl) (by kernel_rfl) rfl (nh' _ (by kernel_rfl) (nf' n4w' nk')) fun x => by kernel_rfl
def I122 : Sp := ⟨[(0, .agg c'2), (1, .agg c'6), (2, oi64), (3, oro 46)], [], []⟩
def E122 : SL := [(.ret, ⟨[(8, op 128)], [(128, c'6)], []⟩)]
noncomputable def e122 : Fe G := ⟨I122, E122, fun x => nnm' x.1.1.1 x.1.1.2.1 x.1.1.2.2.1 x.1.1.2.2.2.1 x.1.1.2.2.2.2.1 x.1.1.2.2.2.2.2.1 x.1.1.2.2.2.2.2.2.1 x.1.1.2.2.2.2.2.2.2.1 x.1.2.1.1 x.1.2.1.2.1 x.1.2.1.2.2.1 x.1.2.1.2.2.2.1 x.1.2.1.2.2.2.2.1 x.1.2.2.1 x.1.2.2.2.1, Tryz.f91.results.toList⟩
theorem k122 : FnOK Tryz.prog G 91 e122 := fk cx (tc k120 (tc k119 (tc k117 (tc k118 tn)))) (jl [(1048583, [(.normal, ⟨[(2, oi64), (3, oro 46), (4, op 64), (5, op 80), (8, op 128), (9, oi64), (35, ob)], [(64, c'2), (80, c'6), (128, c'6)], []⟩)]), (1048594, [(.normal, ⟨[(3, oro 46), (5, op 80), (8, op 128), (10, op 160), (11, oi64), (12, ob)], [(80, c'6), (128, c'6), (160, c'15)], []⟩)]), (1048595, [(.normal, ⟨[(5, op 80), (8, op 128), (11, oi64), (141, ob)], [(80, c'6), (128, c'6)], []⟩)])]) (lp := (pl [])) Tryz.func91 (by kernel_rfl) (by kernel_rfl) rfl (an0 (by kernel_rfl)) fun x => by kernel_rfl
def I123 : Sp := ⟨[(0, .agg c'2), (1, .agg c'7), (2, oro 3), (3, oro 46)], [], []⟩
def E123 : SL := [(.ret, ⟨[(8, .one (.own 32768 66)), (9, .one (.own 32769 3)), (10, oi64)], [], []⟩)]
def n08' : Sp := ⟨[(2, oro 3), (3, oro 46), (4, op 64), (5, op 80), (11, .one (.own 32768 66)), (12, .one (.own 32769 3)), (13, oi64)], [(64, c'2), (80, c'7)], []⟩
def n0i' : SL := [(.exit 0, ⟨[(11, .one (.own 32768 66)), (12, .one (.own 32769 3))], [], []⟩)]
def J123 : Nat → Option SL := jl [(16, [(.normal, ⟨[(2, oro 3), (3, oro 46), (4, op 64), (5, op 80), (11, .one (.own 32768 66)), (12, .one (.own 32769 3)), (13, oi64), (14, op 224), (15, op 240)], [(64, c'2), (80, c'7), (224, c'6), (240, c'6)], []⟩)]), (18, [(.normal, ⟨[(2, oro 3), (3, oro 46), (4, op 64), (5, op 80), (11, .one (.own 32768 66)), (12, .one (.own 32769 3)), (13, oi64), (14, op 224), (15, op 240)], [(64, c'2), (80, c'7), (224, c'6), (240, c'6)], []⟩)]), (1048586, [(.normal, ⟨[(2, oro 3), (3, oro 46), (4, op 64), (5, op 80), (11, .one (.own 32768 66)), (12, .one (.own 32769 3)), (13, oi64), (14, op 224), (15, op 240), (66, ob)], [(64, c'2), (80, c'7), (224, c'6), (240, c'6)], []⟩)]), (1048593, [(.normal, ⟨[(2, oro 3), (3, oro 46), (4, op 64), (5, op 80), (11, .one (.own 32768 66)), (12, .one (.own 32769 3)), (13, oi64), (14, op 224), (15, op 240), (105, ob)], [(64, c'2), (80, c'7), (224, c'6), (240, c'6)], []⟩)])]
noncomputable def P123 : Nat → St G → M (Ex × St G) := pl [lpX n08' n0i' nlt']
theorem t123 : ∀ p ∈ [(43, e9), (44, e121), (91, e122), (92, e116)], FnOK Tryz.prog G p.1 p.2 := (tc k9 (tc k121 (tc k122 (tc k116 tn))))
theorem n5t' : LoopOK Tryz.prog G 142 (P123 0) (nn' (ni' Tryz.f50) 0) := lk cx t123 J123 1 n08' n0i' (rfl : nlt' = _) (by kernel_rfl) (an0 (by kernel_rfl)) fun x => by kernel_rfl
noncomputable def e123 : Fe G := ⟨I123, E123, fun x => nyp' x.1.1.1 x.1.1.2.1 x.1.1.2.2.1 x.1.1.2.2.2.1 x.1.1.2.2.2.2.1 x.1.1.2.2.2.2.2.1 x.1.1.2.2.2.2.2.2.1 x.1.1.2.2.2.2.2.2.2.1 x.1.2.1.1 x.1.2.1.2.1 x.1.2.1.2.2.1 x.1.2.1.2.2.2.1 x.1.2.2.1 x.1.2.2.2.1, Tryz.f50.results.toList⟩
theorem k123 : FnOK Tryz.prog G 50 e123 := fk cx t123 J123 (lp := P123) Tryz.func50 (by kernel_rfl) (by kernel_rfl) rfl (nh' _ (by kernel_rfl) (nf' n5t' nk')) fun x => by kernel_rfl
def I124 : Sp := ⟨[(0, oro 3), (1, oro 3)], [], []⟩
def E124 : SL := [(.ret, ⟨[(4, ob)], [], []⟩)]
def n11' : Sp := ⟨[(0, oro 3), (1, oro 3), (5, oi64)], [], []⟩
def n2b' : SL := [(.exit 0, ⟨[], [], []⟩), (.ret, ⟨[(4, ob)], [], []⟩)]
def J124 : Nat → Option SL := jl []
noncomputable def P124 : Nat → St G → M (Ex × St G) := pl [lpX n11' n2b' nhx']
theorem n5a' : LoopOK Tryz.prog G 26 (P124 0) (nn' (ni' Tryz.f52) 0) := lk cx tn J124 1 n11' n2b' (rfl : nhx' = _) (by kernel_rfl) (an0 (by kernel_rfl)) fun x => by kernel_rfl
noncomputable def e124 : Fe G := ⟨I124, E124, fun x => nsh' x.1.1 x.1.2.1, Tryz.f52.results.toList⟩
theorem k124 : FnOK Tryz.prog G 52 e124 := fk cx tn J124 (lp := P124) Tryz.func52 (by kernel_rfl) (by kernel_rfl) rfl (nh' _ (by kernel_rfl) (nf' n5a' nk')) fun x => by kernel_rfl
def I125 : Sp := ⟨[(0, .agg c'2), (1, .agg c'15)], [], []⟩
def E125 : SL := [(.ret, ⟨[(4, op 64)], [(64, c'14)], []⟩)]
noncomputable def e125 : Fe G := ⟨I125, E125, fun x => nlg' x.1.1.1 x.1.1.2.1 x.1.1.2.2.1 x.1.1.2.2.2.1 x.1.1.2.2.2.2.1 x.1.1.2.2.2.2.2.1 x.1.1.2.2.2.2.2.2.1 x.1.1.2.2.2.2.2.2.2.1 x.1.2.1.1 x.1.2.1.2.1 x.1.2.1.2.2.1 x.1.2.1.2.2.2.1 x.1.2.1.2.2.2.2.1 x.1.2.1.2.2.2.2.2.1 x.1.2.1.2.2.2.2.2.2.1 x.1.2.1.2.2.2.2.2.2.2.1 x.1.2.1.2.2.2.2.2.2.2.2.1 x.1.2.1.2.2.2.2.2.2.2.2.2.1 x.1.2.1.2.2.2.2.2.2.2.2.2.2.1 x.1.2.1.2.2.2.2.2.2.2.2.2.2.2.1, Tryz.f88.results.toList⟩
theorem k125 : FnOK Tryz.prog G 88 e125 := fk cx (tc k104 (tc k105 tn)) (jl []) (lp := (pl [])) Tryz.func88 (by kernel_rfl) (by kernel_rfl) rfl (an0 (by kernel_rfl)) fun x => by kernel_rfl
def I126 : Sp := ⟨[(0, .agg c'2), (1, oro 46), (2, oro 26)], [], []⟩
def E126 : SL := [(.ret, ⟨[(6, op 96), (7, oi64)], [(96, c'16)], []⟩)]
def n1u' : Sp := ⟨[(1, oro 46), (2, oro 26), (3, op 48), (6, op 96), (8, op 128), (9, oi64)], [(48, c'2), (96, c'16), (128, c'17)], []⟩
def n13' : SL := [(.exit 0, ⟨[(6, op 96), (8, op 128)], [(96, c'16), (128, c'17)], []⟩)]
def J126 : Nat → Option SL := jl []
noncomputable def P126 : Nat → St G → M (Ex × St G) := pl [lpX n1u' n13' nj4']
theorem t126 : ∀ p ∈ [(60, e4), (88, e125), (18, e108), (21, e109)], FnOK Tryz.prog G p.1 p.2 := (tc k4 (tc k125 (tc k108 (tc k109 tn))))
theorem n5m' : LoopOK Tryz.prog G 71 (P126 0) (nn' (ni' Tryz.f45) 0) := lk cx t126 J126 1 n1u' n13' (rfl : nj4' = _) (by kernel_rfl) (an0 (by kernel_rfl)) fun x => by kernel_rfl
noncomputable def e126 : Fe G := ⟨I126, E126, fun x => nxg' x.1.1.1 x.1.1.2.1 x.1.1.2.2.1 x.1.1.2.2.2.1 x.1.1.2.2.2.2.1 x.1.1.2.2.2.2.2.1 x.1.1.2.2.2.2.2.2.1 x.1.1.2.2.2.2.2.2.2.1 x.1.2.1 x.1.2.2.1, Tryz.f45.results.toList⟩
theorem k126 : FnOK Tryz.prog G 45 e126 := fk cx t126 J126 (lp := P126) Tryz.func45 (by kernel_rfl) (by kernel_rfl) rfl (nh' _ (by kernel_rfl) (nf' n5m' nk')) fun x => by kernel_rfl
def I127 : Sp := ⟨[(0, .agg c'2), (1, .agg c'7), (2, oro 46)], [], []⟩
def E127 : SL := [(.ret, ⟨[(6, .one (.own 32768 66))], [], []⟩)]
def n1w' : Sp := ⟨[(2, oro 46), (3, op 48), (4, op 64), (7, .one (.own 32768 66)), (8, oi64)], [(48, c'2), (64, c'7)], []⟩
def n1o' : SL := [(.exit 0, ⟨[(7, .one (.own 32768 66))], [], []⟩)]
def n1f' : Sp := ⟨[(2, oro 46), (3, op 48), (4, op 64), (7, .one (.own 32768 66)), (8, oi64), (9, op 144), (10, oi64)], [(48, c'2), (64, c'7), (144, c'6)], []⟩
def nzu' : SL := [(.exit 2, ⟨[(2, oro 46), (3, op 48), (4, op 64), (7, .one (.own 32768 66)), (8, oi64)], [(48, c'2), (64, c'7)], []⟩)]
def J127 : Nat → Option SL := jl []
noncomputable def P127 : Nat → St G → M (Ex × St G) := pl [lpX n1w' n1o' nj0', lpX n1f' nzu' nj5']
theorem t127 : ∀ p ∈ [(43, e9), (88, e125), (90, e106)], FnOK Tryz.prog G p.1 p.2 := (tc k9 (tc k125 (tc k106 tn)))
theorem n1i' : LoopOK Tryz.prog G 61 (P127 1) (nn' (ni' Tryz.f47) 1) := lk cx t127 J127 2 n1f' nzu' (rfl : nj5' = _) (by kernel_rfl) (an0 (by kernel_rfl)) fun x => by kernel_rfl
theorem n5h' : LoopOK Tryz.prog G 61 (P127 0) (nn' (ni' Tryz.f47) 0) := lk cx t127 J127 1 n1w' n1o' (rfl : nj0' = _) (by kernel_rfl) (nh' _ (by kernel_rfl) (nf' n1i' nk')) fun x => by kernel_rfl
noncomputable def e127 : Fe G := ⟨I127, E127, fun x => nwy' x.1.1.1 x.1.1.2.1 x.1.1.2.2.1 x.1.1.2.2.2.1 x.1.1.2.2.2.2.1 x.1.1.2.2.2.2.2.1 x.1.1.2.2.2.2.2.2.1 x.1.1.2.2.2.2.2.2.2.1 x.1.2.1.1 x.1.2.1.2.1 x.1.2.1.2.2.1 x.1.2.1.2.2.2.1 x.1.2.2.1, Tryz.f47.results.toList⟩
theorem k127 : FnOK Tryz.prog G 47 e127 := fk cx t127 J127 (lp := P127) Tryz.func47 (by kernel_rfl) (by kernel_rfl) rfl (nh' _ (by kernel_rfl) (nf' n5h' (nf' n1i' nk'))) fun x => by kernel_rfl
def I128 : Sp := ⟨[(0, .agg c'2), (1, .agg c'7), (2, oro 66)], [], []⟩
def E128 : SL := [(.ret, ⟨[(6, op 96), (7, oi64)], [(96, c'7)], []⟩)]
def n0c' : Sp := ⟨[(2, oro 66), (3, op 48), (4, op 64), (6, op 96), (8, oi64)], [(48, c'2), (64, c'7), (96, c'4)], []⟩
def n02' : SL := [(.exit 0, ⟨[(4, op 64), (6, op 96)], [(64, c'7), (96, c'4)], []⟩), (.ret, ⟨[(6, op 96), (7, oi64)], [(96, c'4)], []⟩)]
def J128 : Nat → Option SL := jl []
noncomputable def P128 : Nat → St G → M (Ex × St G) := pl [lpX n0c' n02' niy']
theorem t128 : ∀ p ∈ [(29, e14)], FnOK Tryz.prog G p.1 p.2 := (tc k14 tn)
theorem n5f' : LoopOK Tryz.prog G 33 (P128 0) (nn' (ni' Tryz.f24) 0) := lk cx t128 J128 1 n0c' n02' (rfl : niy' = _) (by kernel_rfl) (an0 (by kernel_rfl)) fun x => by kernel_rfl
noncomputable def e128 : Fe G := ⟨I128, E128, fun x => nwl' x.1.1.1 x.1.1.2.1 x.1.1.2.2.1 x.1.1.2.2.2.1 x.1.1.2.2.2.2.1 x.1.1.2.2.2.2.2.1 x.1.1.2.2.2.2.2.2.1 x.1.1.2.2.2.2.2.2.2.1 x.1.2.1.1 x.1.2.1.2.1 x.1.2.1.2.2.1 x.1.2.1.2.2.2.1 x.1.2.2.1, Tryz.f24.results.toList⟩
theorem k128 : FnOK Tryz.prog G 24 e128 := fk cx t128 J128 (lp := P128) Tryz.func24 (by kernel_rfl) (by kernel_rfl) rfl (nh' _ (by kernel_rfl) (nf' n5f' nk')) fun x => by kernel_rfl
end Go.Ovl
