/- The contracts of the program's functions: part 1. -/
import Derived.Test.YthdomhdippmaiaaGreatDoorSig
import Derived.Test.YthdomhdippmaiaaGreatDoorDefs2
import Derived.Test.YthdomhdippmaiaaGreatDoorHandL
namespace Go.Ovl
open Go Go.Ab Go.Proofs
set_option maxRecDepth 100000
def c'0 : List CSh := [.int .i64, .int .i64, .int .i64, .int .i64, .flt .f64, .flt .f64, .flt .f64, .own 32768 100]
def c'1 : List CSh := [.int .i64, .int .i64, .int .i64, .int .i64, .flt .f64, .flt .f64, .flt .f64, .own 32769 100]
def c'2 : List CSh := [.int .i64, .int .i64, .int .i64, .int .i64, .flt .f64, .flt .f64, .flt .f64, .ro 100]
def c'3 : List CSh := [.int .i64, .int .i64, .int .i64, .int .i64, .int .i64, .int .i64, .int .i64, .int .i64, .int .i64]
def c'4 : List CSh := [.own 32768 3, .own 32769 4, .own 32770 4, .own 32771 63]
def c'5 : List CSh := [.int .i64, .int .i64, .int .i64, .int .i64, .int .i64]
def c'6 : List CSh := [.int .i64, .int .i64, .int .i64, .int .i64, .bool]
def c'7 : List CSh := [.ro 3, .ro 4, .ro 4, .ro 63]
def c'8 : List CSh := [.own 32772 3, .own 32773 4, .own 32774 4, .own 32775 63]
def c'9 : List CSh := [.own 32768 3, .own 32769 4, .own 32770 4, .ro 63]
def c'10 : List CSh := [.own 32771 3, .own 32772 4, .own 32773 4, .own 32774 63]
def c'11 : List CSh := [.own 32769 3, .own 32770 4, .own 32771 4, .own 32772 63]
def c'12 : List CSh := [.own 32773 3, .own 32774 4, .own 32775 4, .own 32776 63]
def c'13 : List CSh := [.int .u32, .int .u32]
def c'14 : List CSh := [.int .u8, .int .u8, .int .u8, .int .u8]
def c'15 : List CSh := [.bool, .bool, .bool, .bool, .int .i64, .int .i64, .int .i64, .int .u32, .int .u32, .int .u32, .int .u32, .int .u32]
def c'16 : List CSh := [.own 32768 26, .own 32769 4, .int .u32, .int .u32]
def c'17 : List CSh := [.own 32770 26, .own 32771 4, .int .u32, .int .u32]
def c'18 : List CSh := [.own 32768 66, .own 32769 3, .own 32770 4, .own 32771 4, .own 32772 63, .own 32773 3, .own 32774 26, .own 32775 4, .int .u32, .int .u32, .int .u32, .int .u32, .int .i64, .int .i64, .int .i64, .int .i64, .flt .f64, .flt .f64, .flt .f64, .ro 100]
def c'19 : List CSh := [.own 32769 66, .own 32770 3, .own 32771 4, .own 32772 4, .own 32773 63, .own 32774 3, .own 32775 26, .own 32776 4, .int .u32, .int .u32, .int .u32, .int .u32, .int .i64, .int .i64, .int .i64, .int .i64, .flt .f64, .flt .f64, .flt .f64, .ro 100]
def c'20 : List CSh := [.int .u32, .int .u32, .int .u32]
def c'21 : List CSh := [.int .i64, .int .i64]
def c'22 : List CSh := [.int .i64, .int .i64, .int .i64, .int .i64, .flt .f64, .flt .f64, .flt .f64, .ro 100, .ro 46]
def c'23 : List CSh := [.own 32768 66, .own 32769 3, .own 32770 4, .own 32771 4, .own 32772 63, .own 32773 3, .own 32774 26, .own 32775 4, .int .u32, .int .u32, .int .u32, .int .u32]
def c'24 : List CSh := [.own 32776 66, .own 32777 3, .own 32778 4, .own 32779 4, .own 32780 63, .own 32781 3, .own 32782 26, .own 32783 4, .int .u32, .int .u32, .int .u32, .int .u32, .int .i64, .int .i64, .int .i64, .int .i64, .flt .f64, .flt .f64, .flt .f64, .ro 100]
def c'25 : List CSh := [.ro 26, .ro 4, .int .u32, .int .u32]
def c'26 : List CSh := [.ro 66, .ro 3, .ro 4, .ro 4, .ro 63, .ro 3, .ro 26, .ro 4, .int .u32, .int .u32, .int .u32, .int .u32]
def c'27 : List CSh := [.int .u8, .int .u8, .ro 5, .ro 5, .int .u32, .int .u32]
def c'28 : List CSh := [.own 32773 66, .own 32774 3, .own 32775 4, .own 32776 4, .own 32777 63, .own 32778 3, .own 32779 26, .own 32780 4, .int .u32, .int .u32, .int .u32, .int .u32]
theorem cx : Ctx Tryz.prog G := ⟨sigOK, eqOK, hmix⟩
def I0 : Sp := ⟨[(0, oi64), (1, oi64)], [], []⟩
def E0 : SL := [(.ret, ⟨[(4, op 64)], [(64, c'0)], []⟩)]
def S0_0 : Sp := ⟨[(0, oi64), (1, oi64), (4, op 64), (5, op 80), (6, oi64)], [(64, c'0), (80, c'1)], []⟩
def X0_0 : SL := [(.exit 0, ⟨[(4, op 64), (5, op 80)], [(64, c'0), (80, c'1)], []⟩)]
def J0 : Nat → Option SL := jl []
noncomputable def P0 : Nat → St G → M (Ex × St G) := pl [lpX S0_0 X0_0 nfz']
theorem l0_0 : LoopOK Tryz.prog G 24 (P0 0) (nn' (nj' Tryz.f26) 0) := lk cx tn J0 1 S0_0 X0_0 (rfl : nfz' = _) (by kernel_rfl) (an0 (by kernel_rfl)) fun x => by kernel_rfl
noncomputable def e0 : Fe G := ⟨I0, E0, fun x => niz' x.1.1 x.1.2.1, Tryz.f26.results.toList⟩
theorem k0 : FnOK Tryz.prog G 26 e0 := fk cx tn J0 (lp := P0) Tryz.func26 (by kernel_rfl) (by kernel_rfl) rfl (ng' _ (by kernel_rfl) (nf' l0_0 nk')) fun x => by kernel_rfl
def I1 : Sp := ⟨[(0, ou8), (1, ou8)], [], []⟩
def E1 : SL := [(.ret, ⟨[(4, op 64)], [(64, c'0)], []⟩)]
noncomputable def e1 : Fe G := ⟨I1, E1, fun x => ncu' x.1.1 x.1.2.1, Tryz.f8.results.toList⟩
theorem k1 : FnOK Tryz.prog G 8 e1 := fk cx (tc k0 tn) (jl []) (lp := (pl [])) Tryz.func8 (by kernel_rfl) (by kernel_rfl) rfl (an0 (by kernel_rfl)) fun x => by kernel_rfl
def I2 : Sp := ⟨[(0, oi64), (1, oi64), (2, oi64)], [], []⟩
def E2 : SL := [(.ret, ⟨[(6, ob)], [], []⟩)]
noncomputable def e2 : Fe G := ⟨I2, E2, fun x => ndk' x.1.1 x.1.2.1 x.1.2.2.1, Tryz.f96.results.toList⟩
theorem k2 : FnOK Tryz.prog G 96 e2 := fk cx tn (jl [(1048577, [(.normal, ⟨[(6, ob)], [], []⟩)])]) (lp := (pl [])) Tryz.func96 (by kernel_rfl) (by kernel_rfl) rfl (an0 (by kernel_rfl)) fun x => by kernel_rfl
def I3 : Sp := ⟨[(0, .agg c'2), (1, .agg c'3)], [], []⟩
def E3 : SL := [(.ret, ⟨[(4, ob)], [], []⟩)]
def S3_0 : Sp := ⟨[(2, op 32), (3, op 48), (5, .one (.own 32768 3)), (6, oi64)], [(32, c'2), (48, c'3)], []⟩
def X3_0 : SL := [(.exit 0, ⟨[(2, op 32), (3, op 48)], [(32, c'2), (48, c'3)], []⟩), (.ret, ⟨[(4, ob)], [], []⟩)]
def J3 : Nat → Option SL := jl [(1048585, [(.normal, ⟨[(4, ob)], [], []⟩)])]
noncomputable def P3 : Nat → St G → M (Ex × St G) := pl [lpX S3_0 X3_0 nh4']
theorem t3 : ∀ p ∈ [(96, e2)], FnOK Tryz.prog G p.1 p.2 := (tc k2 tn)
theorem l3_0 : LoopOK Tryz.prog G 56 (P3 0) (nn' (nj' Tryz.f100) 0) := lk cx t3 J3 1 S3_0 X3_0 (rfl : nh4' = _) (by kernel_rfl) (an0 (by kernel_rfl)) fun x => by kernel_rfl
noncomputable def e3 : Fe G := ⟨I3, E3, fun x => njs' x.1.1.1 x.1.1.2.1 x.1.1.2.2.1 x.1.1.2.2.2.1 x.1.1.2.2.2.2.1 x.1.1.2.2.2.2.2.1 x.1.1.2.2.2.2.2.2.1 x.1.1.2.2.2.2.2.2.2.1 x.1.2.1.1 x.1.2.1.2.1 x.1.2.1.2.2.1 x.1.2.1.2.2.2.1 x.1.2.1.2.2.2.2.1 x.1.2.1.2.2.2.2.2.1 x.1.2.1.2.2.2.2.2.2.1 x.1.2.1.2.2.2.2.2.2.2.1 x.1.2.1.2.2.2.2.2.2.2.2.1, Tryz.f100.results.toList⟩
theorem k3 : FnOK Tryz.prog G 100 e3 := fk cx t3 J3 (lp := P3) Tryz.func100 (by kernel_rfl) (by kernel_rfl) rfl (ng' _ (by kernel_rfl) (nf' l3_0 nk')) fun x => by kernel_rfl
def I4 : Sp := ⟨[(0, .agg c'2)], [], []⟩
def E4 : SL := [(.ret, ⟨[(2, oi64)], [], []⟩)]
def S4_0 : Sp := ⟨[(1, op 16), (3, ob), (4, oi64)], [(16, c'2)], []⟩
def X4_0 : SL := [(.exit 0, ⟨[(1, op 16), (3, ob)], [(16, c'2)], []⟩)]
def J4 : Nat → Option SL := jl [(1048581, [(.normal, ⟨[(1, op 16), (3, ob)], [(16, c'2)], []⟩)]), (1048585, [(.normal, ⟨[(1, op 16), (3, ob), (4, oi64)], [(16, c'2)], []⟩)])]
noncomputable def P4 : Nat → St G → M (Ex × St G) := pl [lpX S4_0 X4_0 nhy']
theorem t4 : ∀ p ∈ [(96, e2), (100, e3)], FnOK Tryz.prog G p.1 p.2 := (tc k2 (tc k3 tn))
theorem l4_0 : LoopOK Tryz.prog G 73 (P4 0) (nn' (nj' Tryz.f60) 0) := lk cx t4 J4 1 S4_0 X4_0 (rfl : nhy' = _) (by kernel_rfl) (an0 (by kernel_rfl)) fun x => by kernel_rfl
noncomputable def e4 : Fe G := ⟨I4, E4, fun x => nc0' x.1.1.1 x.1.1.2.1 x.1.1.2.2.1 x.1.1.2.2.2.1 x.1.1.2.2.2.2.1 x.1.1.2.2.2.2.2.1 x.1.1.2.2.2.2.2.2.1 x.1.1.2.2.2.2.2.2.2.1, Tryz.f60.results.toList⟩
theorem k4 : FnOK Tryz.prog G 60 e4 := fk cx t4 J4 (lp := P4) Tryz.func60 (by kernel_rfl) (by kernel_rfl) rfl (ng' _ (by kernel_rfl) (nf' l4_0 nk')) fun x => by kernel_rfl
def I5 : Sp := ⟨[(0, .agg c'2)], [], []⟩
def E5 : SL := [(.ret, ⟨[(2, op 32)], [(32, c'4)], []⟩)]
noncomputable def e5 : Fe G := ⟨I5, E5, fun x => neq' x.1.1.1 x.1.1.2.1 x.1.1.2.2.1 x.1.1.2.2.2.1 x.1.1.2.2.2.2.1 x.1.1.2.2.2.2.2.1 x.1.1.2.2.2.2.2.2.1 x.1.1.2.2.2.2.2.2.2.1, Tryz.f27.results.toList⟩
theorem k5 : FnOK Tryz.prog G 27 e5 := fk cx (tc k4 tn) (jl []) (lp := (pl [])) Tryz.func27 (by kernel_rfl) (by kernel_rfl) rfl (an0 (by kernel_rfl)) fun x => by kernel_rfl
def I6 : Sp := ⟨[(0, .agg c'2), (1, oro 5), (2, oi64)], [], []⟩
def E6 : SL := [(.ret, ⟨[(6, .one (.own 32768 66))], [], []⟩)]
def S6_0 : Sp := ⟨[(1, oro 5), (2, oi64), (7, .one (.own 32768 66)), (8, oi64), (9, oi64), (10, oi64)], [], []⟩
def X6_0 : SL := [(.exit 0, ⟨[(7, .one (.own 32768 66))], [], []⟩)]
def J6 : Nat → Option SL := jl [(18, [(.normal, ⟨[(1, oro 5), (2, oi64), (7, .one (.own 32768 66)), (8, oi64), (9, oi64), (10, oi64), (11, oi64), (13, op 208)], [(208, c'5)], []⟩)]), (20, [(.normal, ⟨[(1, oro 5), (2, oi64), (7, .one (.own 32768 66)), (8, oi64), (9, oi64), (10, oi64), (11, oi64), (13, op 208)], [(208, c'5)], []⟩)])]
noncomputable def P6 : Nat → St G → M (Ex × St G) := pl [lpX S6_0 X6_0 ng0']
theorem l6_0 : LoopOK Tryz.prog G 112 (P6 0) (nn' (nj' Tryz.f28) 0) := lk cx tn J6 1 S6_0 X6_0 (rfl : ng0' = _) (by kernel_rfl) (an0 (by kernel_rfl)) fun x => by kernel_rfl
noncomputable def e6 : Fe G := ⟨I6, E6, fun x => nhz' x.1.1.1 x.1.1.2.1 x.1.1.2.2.1 x.1.1.2.2.2.1 x.1.1.2.2.2.2.1 x.1.1.2.2.2.2.2.1 x.1.1.2.2.2.2.2.2.1 x.1.1.2.2.2.2.2.2.2.1 x.1.2.1 x.1.2.2.1, Tryz.f28.results.toList⟩
theorem k6 : FnOK Tryz.prog G 28 e6 := fk cx tn J6 (lp := P6) Tryz.func28 (by kernel_rfl) (by kernel_rfl) rfl (ng' _ (by kernel_rfl) (nf' l6_0 nk')) fun x => by kernel_rfl
def I7 : Sp := ⟨[(0, .agg c'2), (1, oi64), (2, oi64)], [], []⟩
def E7 : SL := [(.ret, ⟨[(6, ob)], [], []⟩)]
noncomputable def e7 : Fe G := ⟨I7, E7, fun x => nek' x.1.1.1 x.1.1.2.1 x.1.1.2.2.1 x.1.1.2.2.2.1 x.1.1.2.2.2.2.1 x.1.1.2.2.2.2.2.1 x.1.1.2.2.2.2.2.2.1 x.1.1.2.2.2.2.2.2.2.1 x.1.2.1 x.1.2.2.1, Tryz.f58.results.toList⟩
theorem k7 : FnOK Tryz.prog G 58 e7 := fk cx (tc k4 (tc k2 tn)) (jl [(1048579, [(.normal, ⟨[(6, ob)], [], []⟩)])]) (lp := (pl [])) Tryz.func58 (by kernel_rfl) (by kernel_rfl) rfl (an0 (by kernel_rfl)) fun x => by kernel_rfl
def I8 : Sp := ⟨[(0, .agg c'6), (1, .agg c'6)], [], []⟩
def E8 : SL := [(.ret, ⟨[(4, ob)], [], []⟩)]
noncomputable def e8 : Fe G := ⟨I8, E8, fun x => nil' x.1.1.1 x.1.1.2.1 x.1.1.2.2.1 x.1.1.2.2.2.1 x.1.1.2.2.2.2.1 x.1.2.1.1 x.1.2.1.2.1 x.1.2.1.2.2.1 x.1.2.1.2.2.2.1 x.1.2.1.2.2.2.2.1, Tryz.f87.results.toList⟩
theorem k8 : FnOK Tryz.prog G 87 e8 := fk cx tn (jl [(1048577, [(.normal, ⟨[(4, ob)], [], []⟩)])]) (lp := (pl [])) Tryz.func87 (by kernel_rfl) (by kernel_rfl) rfl (an0 (by kernel_rfl)) fun x => by kernel_rfl
def I9 : Sp := ⟨[(0, .agg c'2), (1, .agg c'7)], [], []⟩
def E9 : SL := [(.ret, ⟨[(4, ob)], [], []⟩)]
def S9_0 : Sp := ⟨[(2, op 32), (3, op 48), (5, oi64), (6, oi64)], [(32, c'2), (48, c'7)], []⟩
def X9_0 : SL := [(.exit 0, ⟨[(2, op 32), (3, op 48), (5, oi64)], [(32, c'2), (48, c'7)], []⟩), (.ret, ⟨[(4, ob)], [], []⟩)]
def S9_1 : Sp := ⟨[(2, op 32), (3, op 48), (5, oi64), (7, oi64)], [(32, c'2), (48, c'7)], []⟩
def X9_1 : SL := [(.exit 2, ⟨[], [], []⟩), (.ret, ⟨[(4, ob)], [], []⟩)]
def J9 : Nat → Option SL := jl [(1048589, [(.normal, ⟨[(2, op 32), (3, op 48), (5, oi64), (7, oi64), (109, ob)], [(32, c'2), (48, c'7)], []⟩)])]
noncomputable def P9 : Nat → St G → M (Ex × St G) := pl [lpX S9_0 X9_0 ngq', lpX S9_1 X9_1 ngy']
theorem t9 : ∀ p ∈ [(60, e4), (58, e7), (87, e8)], FnOK Tryz.prog G p.1 p.2 := (tc k4 (tc k7 (tc k8 tn)))
theorem l9_1 : LoopOK Tryz.prog G 110 (P9 1) (nn' (nj' Tryz.f43) 1) := lk cx t9 J9 2 S9_1 X9_1 (rfl : ngy' = _) (by kernel_rfl) (an0 (by kernel_rfl)) fun x => by kernel_rfl
theorem l9_0 : LoopOK Tryz.prog G 110 (P9 0) (nn' (nj' Tryz.f43) 0) := lk cx t9 J9 1 S9_0 X9_0 (rfl : ngq' = _) (by kernel_rfl) (an0 (by kernel_rfl)) fun x => by kernel_rfl
noncomputable def e9 : Fe G := ⟨I9, E9, fun x => new' x.1.1.1 x.1.1.2.1 x.1.1.2.2.1 x.1.1.2.2.2.1 x.1.1.2.2.2.2.1 x.1.1.2.2.2.2.2.1 x.1.1.2.2.2.2.2.2.1 x.1.1.2.2.2.2.2.2.2.1 x.1.2.1.1 x.1.2.1.2.1 x.1.2.1.2.2.1 x.1.2.1.2.2.2.1, Tryz.f43.results.toList⟩
theorem k9 : FnOK Tryz.prog G 43 e9 := fk cx t9 J9 (lp := P9) Tryz.func43 (by kernel_rfl) (by kernel_rfl) rfl (ng' _ (by kernel_rfl) (nf' l9_0 (nf' l9_1 nk'))) fun x => by kernel_rfl
def I10 : Sp := ⟨[(0, oi64), (1, oi64), (2, oi64)], [], []⟩
def E10 : SL := [(.ret, ⟨[(6, ob)], [], []⟩)]
noncomputable def e10 : Fe G := ⟨I10, E10, fun x => nfd' x.1.1 x.1.2.1 x.1.2.2.1, Tryz.f101.results.toList⟩
theorem k10 : FnOK Tryz.prog G 101 e10 := fk cx tn (jl [(1048577, [(.normal, ⟨[(6, ob)], [], []⟩)])]) (lp := (pl [])) Tryz.func101 (by kernel_rfl) (by kernel_rfl) rfl (an0 (by kernel_rfl)) fun x => by kernel_rfl
def I11 : Sp := ⟨[(0, .agg c'2), (1, .agg c'5)], [], []⟩
def E11 : SL := [(.ret, ⟨[(4, ob)], [], []⟩)]
noncomputable def e11 : Fe G := ⟨I11, E11, fun x => njm' x.1.1.1 x.1.1.2.1 x.1.1.2.2.1 x.1.1.2.2.2.1 x.1.1.2.2.2.2.1 x.1.1.2.2.2.2.2.1 x.1.1.2.2.2.2.2.2.1 x.1.1.2.2.2.2.2.2.2.1 x.1.2.1.1 x.1.2.1.2.1 x.1.2.1.2.2.1 x.1.2.1.2.2.2.1 x.1.2.1.2.2.2.2.1, Tryz.f61.results.toList⟩
theorem k11 : FnOK Tryz.prog G 61 e11 := fk cx (tc k4 (tc k7 (tc k10 tn))) (jl [(1048580, [(.normal, ⟨[(2, op 32), (3, op 48), (5, ob), (6, ob)], [(32, c'2), (48, c'5)], []⟩)]), (1048584, [(.normal, ⟨[(4, ob)], [], []⟩)]), (1048586, [(.normal, ⟨[(4, ob)], [], []⟩)]), (1048588, [(.normal, ⟨[(4, ob)], [], []⟩)]), (1048591, [(.normal, ⟨[(4, ob)], [], []⟩)]), (1048593, [(.normal, ⟨[(4, ob)], [], []⟩)])]) (lp := (pl [])) Tryz.func61 (by kernel_rfl) (by kernel_rfl) rfl (an0 (by kernel_rfl)) fun x => by kernel_rfl
def I12 : Sp := ⟨[(0, .agg c'7), (1, oi64), (2, oi64)], [], []⟩
def E12 : SL := [(.ret, ⟨[(6, oi64)], [], []⟩)]
def S12_0 : Sp := ⟨[(1, oi64), (2, oi64), (3, op 48), (7, oi64)], [(48, c'7)], []⟩
def X12_0 : SL := [(.exit 0, ⟨[], [], []⟩), (.ret, ⟨[(6, oi64)], [], []⟩)]
def J12 : Nat → Option SL := jl [(1048580, [(.normal, ⟨[(1, oi64), (2, oi64), (3, op 48), (7, oi64), (32, ob)], [(48, c'7)], []⟩)])]
noncomputable def P12 : Nat → St G → M (Ex × St G) := pl [lpX S12_0 X12_0 ni2']
theorem l12_0 : LoopOK Tryz.prog G 34 (P12 0) (nn' (nj' Tryz.f22) 0) := lk cx tn J12 1 S12_0 X12_0 (rfl : ni2' = _) (by kernel_rfl) (an0 (by kernel_rfl)) fun x => by kernel_rfl
noncomputable def e12 : Fe G := ⟨I12, E12, fun x => nk3' x.1.1.1 x.1.1.2.1 x.1.1.2.2.1 x.1.1.2.2.2.1 x.1.2.1 x.1.2.2.1, Tryz.f22.results.toList⟩
theorem k12 : FnOK Tryz.prog G 22 e12 := fk cx tn J12 (lp := P12) Tryz.func22 (by kernel_rfl) (by kernel_rfl) rfl (ng' _ (by kernel_rfl) (nf' l12_0 nk')) fun x => by kernel_rfl
def I13 : Sp := ⟨[(0, oro 63), (1, .agg c'6)], [], []⟩
def E13 : SL := [(.ret, ⟨[(4, .one (.own 32768 63))], [], []⟩)]
def S13_0 : Sp := ⟨[(0, oro 63), (3, op 48), (5, .one (.own 32768 63)), (6, ob), (7, oi64)], [(48, c'6)], []⟩
def X13_0 : SL := [(.exit 0, ⟨[(3, op 48), (5, .one (.own 32768 63)), (6, ob)], [(48, c'6)], []⟩)]
def J13 : Nat → Option SL := jl [(10, [(.normal, ⟨[(0, oro 63), (3, op 48), (5, .one (.own 32768 63)), (6, ob), (7, oi64)], [(48, c'6)], []⟩)]), (1048582, [(.normal, ⟨[(0, oro 63), (3, op 48), (5, .one (.own 32768 63)), (6, ob), (7, oi64), (23, ob)], [(48, c'6)], []⟩)])]
noncomputable def P13 : Nat → St G → M (Ex × St G) := pl [lpX S13_0 X13_0 ngu']
theorem t13 : ∀ p ∈ [(87, e8)], FnOK Tryz.prog G p.1 p.2 := (tc k8 tn)
theorem l13_0 : LoopOK Tryz.prog G 42 (P13 0) (nn' (nj' Tryz.f62) 0) := lk cx t13 J13 1 S13_0 X13_0 (rfl : ngu' = _) (by kernel_rfl) (an0 (by kernel_rfl)) fun x => by kernel_rfl
noncomputable def e13 : Fe G := ⟨I13, E13, fun x => nhx' x.1.1 x.1.2.1.1 x.1.2.1.2.1 x.1.2.1.2.2.1 x.1.2.1.2.2.2.1 x.1.2.1.2.2.2.2.1, Tryz.f62.results.toList⟩
theorem k13 : FnOK Tryz.prog G 62 e13 := fk cx t13 J13 (lp := P13) Tryz.func62 (by kernel_rfl) (by kernel_rfl) rfl (ng' _ (by kernel_rfl) (nf' l13_0 nk')) fun x => by kernel_rfl
def I14 : Sp := ⟨[(0, .agg c'2), (1, .agg c'7), (2, .agg c'5)], [], []⟩
def E14 : SL := [(.ret, ⟨[(6, op 96), (7, oi64)], [(96, c'4)], []⟩)]
noncomputable def e14 : Fe G := ⟨I14, E14, fun x => nhv' x.1.1.1 x.1.1.2.1 x.1.1.2.2.1 x.1.1.2.2.2.1 x.1.1.2.2.2.2.1 x.1.1.2.2.2.2.2.1 x.1.1.2.2.2.2.2.2.1 x.1.1.2.2.2.2.2.2.2.1 x.1.2.1.1 x.1.2.1.2.1 x.1.2.1.2.2.1 x.1.2.1.2.2.2.1 x.1.2.2.1.1 x.1.2.2.1.2.1 x.1.2.2.1.2.2.1 x.1.2.2.1.2.2.2.1 x.1.2.2.1.2.2.2.2.1, Tryz.f29.results.toList⟩
theorem k14 : FnOK Tryz.prog G 29 e14 := fk cx (tc k9 (tc k11 (tc k12 (tc k13 tn)))) (jl [(1048588, [(.normal, ⟨[(4, op 64), (5, op 80), (6, op 96), (8, oi64), (77, ob)], [(64, c'4), (80, c'5), (96, c'8)], []⟩)]), (2097168, [(.normal, ⟨[(4, op 64), (6, op 96), (8, oi64)], [(64, c'9), (96, c'10)], []⟩)])]) (lp := (pl [])) Tryz.func29 (by kernel_rfl) (by kernel_rfl) rfl (an0 (by kernel_rfl)) fun x => by kernel_rfl
def I15 : Sp := ⟨[(0, .agg c'2), (1, oro 5)], [], []⟩
def E15 : SL := [(.ret, ⟨[(4, op 64)], [(64, c'4)], []⟩)]
def S15_0 : Sp := ⟨[(2, op 32), (4, op 64), (5, op 80), (6, .one (.own 32768 66)), (7, oi64)], [(32, c'2), (64, c'11), (80, c'12)], []⟩
def X15_0 : SL := [(.exit 0, ⟨[(4, op 64), (5, op 80)], [(64, c'4), (80, c'8)], []⟩)]
def J15 : Nat → Option SL := jl []
noncomputable def P15 : Nat → St G → M (Ex × St G) := pl [lpX S15_0 X15_0 nh6']
theorem t15 : ∀ p ∈ [(27, e5), (28, e6), (29, e14)], FnOK Tryz.prog G p.1 p.2 := (tc k5 (tc k6 (tc k14 tn)))
theorem l15_0 : LoopOK Tryz.prog G 30 (P15 0) (nn' (nj' Tryz.f9) 0) := lk cx t15 J15 1 S15_0 X15_0 (rfl : nh6' = _) (by kernel_rfl) (an0 (by kernel_rfl)) fun x => by kernel_rfl
noncomputable def e15 : Fe G := ⟨I15, E15, fun x => ngk' x.1.1.1 x.1.1.2.1 x.1.1.2.2.1 x.1.1.2.2.2.1 x.1.1.2.2.2.2.1 x.1.1.2.2.2.2.2.1 x.1.1.2.2.2.2.2.2.1 x.1.1.2.2.2.2.2.2.2.1 x.1.2.1, Tryz.f9.results.toList⟩
theorem k15 : FnOK Tryz.prog G 9 e15 := fk cx t15 J15 (lp := P15) Tryz.func9 (by kernel_rfl) (by kernel_rfl) rfl (ng' _ (by kernel_rfl) (nf' l15_0 nk')) fun x => by kernel_rfl
def I16 : Sp := ⟨[(0, oi64), (1, oi64)], [], []⟩
def E16 : SL := [(.ret, ⟨[(4, op 64)], [(64, c'13)], []⟩)]
noncomputable def e16 : Fe G := ⟨I16, E16, fun x => nif' x.1.1 x.1.2.1, Tryz.f31.results.toList⟩
theorem k16 : FnOK Tryz.prog G 31 e16 := fk cx tn (jl []) (lp := (pl [])) Tryz.func31 (by kernel_rfl) (by kernel_rfl) rfl (an0 (by kernel_rfl)) fun x => by kernel_rfl
def I17 : Sp := ⟨[(0, .agg c'13), (1, .agg c'13)], [], []⟩
def E17 : SL := [(.ret, ⟨[(4, op 64)], [(64, c'13)], []⟩)]
noncomputable def e17 : Fe G := ⟨I17, E17, fun x => nfb' x.1.1.1 x.1.1.2.1 x.1.2.1.1 x.1.2.1.2.1, Tryz.f21.results.toList⟩
theorem k17 : FnOK Tryz.prog G 21 e17 := fk cx tn (jl []) (lp := (pl [])) Tryz.func21 (by kernel_rfl) (by kernel_rfl) rfl (an0 (by kernel_rfl)) fun x => by kernel_rfl
def I18 : Sp := ⟨[(0, oro 63)], [], []⟩
def E18 : SL := [(.ret, ⟨[(2, op 32)], [(32, c'13)], []⟩)]
def S18_0 : Sp := ⟨[(0, oro 63), (2, op 32), (3, op 48), (4, oi64)], [(32, c'13), (48, c'13)], []⟩
def X18_0 : SL := [(.exit 0, ⟨[(2, op 32), (3, op 48)], [(32, c'13), (48, c'13)], []⟩)]
def J18 : Nat → Option SL := jl []
noncomputable def P18 : Nat → St G → M (Ex × St G) := pl [lpX S18_0 X18_0 nk1']
theorem t18 : ∀ p ∈ [(31, e16), (21, e17)], FnOK Tryz.prog G p.1 p.2 := (tc k16 (tc k17 tn))
theorem l18_0 : LoopOK Tryz.prog G 25 (P18 0) (nn' (nj' Tryz.f17) 0) := lk cx t18 J18 1 S18_0 X18_0 (rfl : nk1' = _) (by kernel_rfl) (an0 (by kernel_rfl)) fun x => by kernel_rfl
noncomputable def e18 : Fe G := ⟨I18, E18, fun x => nh8' x.1.1, Tryz.f17.results.toList⟩
theorem k18 : FnOK Tryz.prog G 17 e18 := fk cx t18 J18 (lp := P18) Tryz.func17 (by kernel_rfl) (by kernel_rfl) rfl (ng' _ (by kernel_rfl) (nf' l18_0 nk')) fun x => by kernel_rfl
def I19 : Sp := ⟨[(0, .agg c'2)], [], []⟩
def E19 : SL := [(.ret, ⟨[(2, op 32)], [(32, c'13)], []⟩)]
def S19_0 : Sp := ⟨[(1, op 16), (2, op 32), (3, op 48), (4, oi64)], [(16, c'2), (32, c'13), (48, c'13)], []⟩
def X19_0 : SL := [(.exit 0, ⟨[(2, op 32), (3, op 48)], [(32, c'13), (48, c'13)], []⟩)]
def J19 : Nat → Option SL := jl [(8, [(.normal, ⟨[(1, op 16), (2, op 32), (3, op 48), (4, oi64)], [(16, c'2), (32, c'13), (48, c'13)], []⟩)])]
noncomputable def P19 : Nat → St G → M (Ex × St G) := pl [lpX S19_0 X19_0 ni0']
theorem t19 : ∀ p ∈ [(58, e7)], FnOK Tryz.prog G p.1 p.2 := (tc k7 tn)
theorem l19_0 : LoopOK Tryz.prog G 30 (P19 0) (nn' (nj' Tryz.f20) 0) := lk cx t19 J19 1 S19_0 X19_0 (rfl : ni0' = _) (by kernel_rfl) (an0 (by kernel_rfl)) fun x => by kernel_rfl
noncomputable def e19 : Fe G := ⟨I19, E19, fun x => nhm' x.1.1.1 x.1.1.2.1 x.1.1.2.2.1 x.1.1.2.2.2.1 x.1.1.2.2.2.2.1 x.1.1.2.2.2.2.2.1 x.1.1.2.2.2.2.2.2.1 x.1.1.2.2.2.2.2.2.2.1, Tryz.f20.results.toList⟩
theorem k19 : FnOK Tryz.prog G 20 e19 := fk cx t19 J19 (lp := P19) Tryz.func20 (by kernel_rfl) (by kernel_rfl) rfl (ng' _ (by kernel_rfl) (nf' l19_0 nk')) fun x => by kernel_rfl
def I20 : Sp := ⟨[(0, .agg c'13), (1, .agg c'13)], [], []⟩
def E20 : SL := [(.ret, ⟨[(4, op 64)], [(64, c'13)], []⟩)]
noncomputable def e20 : Fe G := ⟨I20, E20, fun x => nhe' x.1.1.1 x.1.1.2.1 x.1.2.1.1 x.1.2.1.2.1, Tryz.f19.results.toList⟩
theorem k20 : FnOK Tryz.prog G 19 e20 := fk cx tn (jl []) (lp := (pl [])) Tryz.func19 (by kernel_rfl) (by kernel_rfl) rfl (an0 (by kernel_rfl)) fun x => by kernel_rfl
def I21 : Sp := ⟨[(0, .agg c'13), (1, .agg c'13)], [], []⟩
def E21 : SL := [(.ret, ⟨[(4, op 64)], [(64, c'13)], []⟩)]
noncomputable def e21 : Fe G := ⟨I21, E21, fun x => nby' x.1.1.1 x.1.1.2.1 x.1.2.1.1 x.1.2.1.2.1, Tryz.f18.results.toList⟩
theorem k21 : FnOK Tryz.prog G 18 e21 := fk cx tn (jl []) (lp := (pl [])) Tryz.func18 (by kernel_rfl) (by kernel_rfl) rfl (an0 (by kernel_rfl)) fun x => by kernel_rfl
def I22 : Sp := ⟨[(0, .agg c'7), (1, oro 5)], [], []⟩
def E22 : SL := [(.ret, ⟨[(4, .one (.own 32768 3))], [], []⟩)]
def S22_0 : Sp := ⟨[(1, oro 5), (5, .one (.own 32768 3)), (6, oi64)], [], []⟩
def X22_0 : SL := [(.exit 0, ⟨[(5, .one (.own 32768 3))], [], []⟩)]
def J22 : Nat → Option SL := jl []
noncomputable def P22 : Nat → St G → M (Ex × St G) := pl [lpX S22_0 X22_0 ngr']
theorem l22_0 : LoopOK Tryz.prog G 33 (P22 0) (nn' (nj' Tryz.f12) 0) := lk cx tn J22 1 S22_0 X22_0 (rfl : ngr' = _) (by kernel_rfl) (an0 (by kernel_rfl)) fun x => by kernel_rfl
noncomputable def e22 : Fe G := ⟨I22, E22, fun x => nde' x.1.1.1 x.1.1.2.1 x.1.1.2.2.1 x.1.1.2.2.2.1 x.1.2.1, Tryz.f12.results.toList⟩
theorem k22 : FnOK Tryz.prog G 12 e22 := fk cx tn J22 (lp := P22) Tryz.func12 (by kernel_rfl) (by kernel_rfl) rfl (ng' _ (by kernel_rfl) (nf' l22_0 nk')) fun x => by kernel_rfl
def I23 : Sp := ⟨[(0, .agg c'2), (1, oro 5)], [], []⟩
def E23 : SL := [(.ret, ⟨[(4, .one (.own 32768 46))], [], []⟩)]
def S23_0 : Sp := ⟨[(1, oro 5), (2, op 32), (5, .one (.own 32768 46)), (6, oi64)], [(32, c'2)], []⟩
def X23_0 : SL := [(.exit 0, ⟨[(5, .one (.own 32768 46))], [], []⟩)]
def S23_1 : Sp := ⟨[(1, oro 5), (2, op 32), (5, .one (.own 32768 46)), (6, oi64), (7, op 112), (8, oi64)], [(32, c'2), (112, c'14)], []⟩
def X23_1 : SL := [(.exit 2, ⟨[(1, oro 5), (2, op 32), (5, .one (.own 32768 46)), (6, oi64), (7, op 112)], [(32, c'2), (112, c'14)], []⟩)]
def J23 : Nat → Option SL := jl []
noncomputable def P23 : Nat → St G → M (Ex × St G) := pl [lpX S23_0 X23_0 nge', lpX S23_1 X23_1 ngd']
theorem l23_1 : LoopOK Tryz.prog G 101 (P23 1) (nn' (nj' Tryz.f30) 1) := lk cx tn J23 2 S23_1 X23_1 (rfl : ngd' = _) (by kernel_rfl) (an0 (by kernel_rfl)) fun x => by kernel_rfl
theorem l23_0 : LoopOK Tryz.prog G 101 (P23 0) (nn' (nj' Tryz.f30) 0) := lk cx tn J23 1 S23_0 X23_0 (rfl : nge' = _) (by kernel_rfl) (ng' _ (by kernel_rfl) (nf' l23_1 nk')) fun x => by kernel_rfl
noncomputable def e23 : Fe G := ⟨I23, E23, fun x => nju' x.1.1.1 x.1.1.2.1 x.1.1.2.2.1 x.1.1.2.2.2.1 x.1.1.2.2.2.2.1 x.1.1.2.2.2.2.2.1 x.1.1.2.2.2.2.2.2.1 x.1.1.2.2.2.2.2.2.2.1 x.1.2.1, Tryz.f30.results.toList⟩
theorem k23 : FnOK Tryz.prog G 30 e23 := fk cx tn J23 (lp := P23) Tryz.func30 (by kernel_rfl) (by kernel_rfl) rfl (ng' _ (by kernel_rfl) (nf' l23_0 (nf' l23_1 nk'))) fun x => by kernel_rfl
def I24 : Sp := ⟨[(0, .agg c'2), (1, oro 5)], [], []⟩
def E24 : SL := [(.ret, ⟨[(4, .one (.own 32768 46))], [], []⟩)]
def S24_0 : Sp := ⟨[(1, oro 5), (2, op 32), (5, .one (.own 32768 46)), (6, oi64)], [(32, c'2)], []⟩
def X24_0 : SL := [(.exit 0, ⟨[(5, .one (.own 32768 46))], [], []⟩)]
def J24 : Nat → Option SL := jl []
noncomputable def P24 : Nat → St G → M (Ex × St G) := pl [lpX S24_0 X24_0 nh0']
theorem t24 : ∀ p ∈ [(30, e23), (31, e16)], FnOK Tryz.prog G p.1 p.2 := (tc k23 (tc k16 tn))
theorem l24_0 : LoopOK Tryz.prog G 51 (P24 0) (nn' (nj' Tryz.f10) 0) := lk cx t24 J24 1 S24_0 X24_0 (rfl : nh0' = _) (by kernel_rfl) (an0 (by kernel_rfl)) fun x => by kernel_rfl
noncomputable def e24 : Fe G := ⟨I24, E24, fun x => ned' x.1.1.1 x.1.1.2.1 x.1.1.2.2.1 x.1.1.2.2.2.1 x.1.1.2.2.2.2.1 x.1.1.2.2.2.2.2.1 x.1.1.2.2.2.2.2.2.1 x.1.1.2.2.2.2.2.2.2.1 x.1.2.1, Tryz.f10.results.toList⟩
theorem k24 : FnOK Tryz.prog G 10 e24 := fk cx t24 J24 (lp := P24) Tryz.func10 (by kernel_rfl) (by kernel_rfl) rfl (ng' _ (by kernel_rfl) (nf' l24_0 nk')) fun x => by kernel_rfl
def I25 : Sp := ⟨[(0, oi64), (1, oi64), (2, oro 3)], [], []⟩
def E25 : SL := [(.ret, ⟨[(6, ob)], [], []⟩)]
def S25_0 : Sp := ⟨[(0, oi64), (1, oi64), (9, oro 3), (10, oi64), (11, oi64)], [], []⟩
def X25_0 : SL := [(.exit 0, ⟨[], [], []⟩), (.ret, ⟨[(6, ob)], [], []⟩)]
def J25 : Nat → Option SL := jl []
noncomputable def P25 : Nat → St G → M (Ex × St G) := pl [lpX S25_0 X25_0 nen']
theorem l25_0 : LoopOK Tryz.prog G 24 (P25 0) (nn' (nj' Tryz.f102) 0) := lk cx tn J25 1 S25_0 X25_0 (rfl : nen' = _) (by kernel_rfl) (an0 (by kernel_rfl)) fun x => by kernel_rfl
noncomputable def e25 : Fe G := ⟨I25, E25, fun x => n0' x.1.1 x.1.2.1 x.1.2.2.1, Tryz.f102.results.toList⟩
theorem k25 : FnOK Tryz.prog G 102 e25 := fk cx tn J25 (lp := P25) Tryz.func102 (by kernel_rfl) (by kernel_rfl) rfl (ng' _ (by kernel_rfl) (nf' l25_0 nk')) fun x => by kernel_rfl
def I26 : Sp := ⟨[(0, .agg c'3), (1, oi64)], [], []⟩
def E26 : SL := [(.ret, ⟨[(4, ob)], [], []⟩)]
noncomputable def e26 : Fe G := ⟨I26, E26, fun x => nf3' x.1.1.1 x.1.1.2.1 x.1.1.2.2.1 x.1.1.2.2.2.1 x.1.1.2.2.2.2.1 x.1.1.2.2.2.2.2.1 x.1.1.2.2.2.2.2.2.1 x.1.1.2.2.2.2.2.2.2.1 x.1.1.2.2.2.2.2.2.2.2.1 x.1.2.1, Tryz.f103.results.toList⟩
theorem k26 : FnOK Tryz.prog G 103 e26 := fk cx (tc k25 tn) (jl [(1048577, [(.normal, ⟨[(4, ob)], [], []⟩)])]) (lp := (pl [])) Tryz.func103 (by kernel_rfl) (by kernel_rfl) rfl (an0 (by kernel_rfl)) fun x => by kernel_rfl
def I27 : Sp := ⟨[(0, .agg c'2)], [], []⟩
def E27 : SL := [(.ret, ⟨[(2, ob)], [], []⟩)]
noncomputable def e27 : Fe G := ⟨I27, E27, fun x => nf7' x.1.1.1 x.1.1.2.1 x.1.1.2.2.1 x.1.1.2.2.2.1 x.1.1.2.2.2.2.1 x.1.1.2.2.2.2.2.1 x.1.1.2.2.2.2.2.2.1 x.1.1.2.2.2.2.2.2.2.1, Tryz.f104.results.toList⟩
theorem k27 : FnOK Tryz.prog G 104 e27 := fk cx tn (jl [(1048577, [(.normal, ⟨[(2, ob)], [], []⟩)])]) (lp := (pl [])) Tryz.func104 (by kernel_rfl) (by kernel_rfl) rfl (an0 (by kernel_rfl)) fun x => by kernel_rfl
def I28 : Sp := ⟨[(0, .agg c'2)], [], []⟩
def E28 : SL := [(.ret, ⟨[(2, oi64)], [], []⟩)]
def S28_0 : Sp := ⟨[(1, op 16), (3, ob), (28, oro 100), (29, oi64), (30, oi64)], [(16, c'2)], []⟩
def X28_0 : SL := [(.exit 0, ⟨[(1, op 16), (3, ob)], [(16, c'2)], []⟩)]
def J28 : Nat → Option SL := jl [(1048581, [(.normal, ⟨[(1, op 16), (3, ob)], [(16, c'2)], []⟩)]), (1048585, [(.normal, ⟨[(1, op 16), (3, ob), (28, oro 100), (29, oi64), (30, oi64)], [(16, c'2)], []⟩)])]
noncomputable def P28 : Nat → St G → M (Ex × St G) := pl [lpX S28_0 X28_0 nfa']
theorem t28 : ∀ p ∈ [(102, e25), (103, e26), (104, e27)], FnOK Tryz.prog G p.1 p.2 := (tc k25 (tc k26 (tc k27 tn)))
theorem l28_0 : LoopOK Tryz.prog G 60 (P28 0) (nn' (nj' Tryz.f63) 0) := lk cx t28 J28 1 S28_0 X28_0 (rfl : nfa' = _) (by kernel_rfl) (an0 (by kernel_rfl)) fun x => by kernel_rfl
noncomputable def e28 : Fe G := ⟨I28, E28, fun x => nbx' x.1.1.1 x.1.1.2.1 x.1.1.2.2.1 x.1.1.2.2.2.1 x.1.1.2.2.2.2.1 x.1.1.2.2.2.2.2.1 x.1.1.2.2.2.2.2.2.1 x.1.1.2.2.2.2.2.2.2.1, Tryz.f63.results.toList⟩
theorem k28 : FnOK Tryz.prog G 63 e28 := fk cx t28 J28 (lp := P28) Tryz.func63 (by kernel_rfl) (by kernel_rfl) rfl (ng' _ (by kernel_rfl) (nf' l28_0 nk')) fun x => by kernel_rfl
def I29 : Sp := ⟨[(0, .agg c'2)], [], []⟩
def E29 : SL := [(.ret, ⟨[(2, op 32)], [(32, c'13)], []⟩)]
noncomputable def e29 : Fe G := ⟨I29, E29, fun x => ne3' x.1.1.1 x.1.1.2.1 x.1.1.2.2.1 x.1.1.2.2.2.1 x.1.1.2.2.2.2.1 x.1.1.2.2.2.2.2.1 x.1.1.2.2.2.2.2.2.1 x.1.1.2.2.2.2.2.2.2.1, Tryz.f79.results.toList⟩
theorem k29 : FnOK Tryz.prog G 79 e29 := fk cx (tc k28 tn) (jl []) (lp := (pl [])) Tryz.func79 (by kernel_rfl) (by kernel_rfl) rfl (an0 (by kernel_rfl)) fun x => by kernel_rfl
def I30 : Sp := ⟨[(0, .agg c'13), (1, .agg c'13)], [], []⟩
def E30 : SL := [(.ret, ⟨[(4, op 64)], [(64, c'13)], []⟩)]
noncomputable def e30 : Fe G := ⟨I30, E30, fun x => ndu' x.1.1.1 x.1.1.2.1 x.1.2.1.1 x.1.2.1.2.1, Tryz.f78.results.toList⟩
theorem k30 : FnOK Tryz.prog G 78 e30 := fk cx tn (jl []) (lp := (pl [])) Tryz.func78 (by kernel_rfl) (by kernel_rfl) rfl (an0 (by kernel_rfl)) fun x => by kernel_rfl
def I31 : Sp := ⟨[(0, .agg c'2), (1, .agg c'15)], [], []⟩
def E31 : SL := [(.ret, ⟨[(4, op 64)], [(64, c'13)], []⟩)]
noncomputable def e31 : Fe G := ⟨I31, E31, fun x => nel' x.1.1.1 x.1.1.2.1 x.1.1.2.2.1 x.1.1.2.2.2.1 x.1.1.2.2.2.2.1 x.1.1.2.2.2.2.2.1 x.1.1.2.2.2.2.2.2.1 x.1.1.2.2.2.2.2.2.2.1 x.1.2.1.1 x.1.2.1.2.1 x.1.2.1.2.2.1 x.1.2.1.2.2.2.1 x.1.2.1.2.2.2.2.1 x.1.2.1.2.2.2.2.2.1 x.1.2.1.2.2.2.2.2.2.1 x.1.2.1.2.2.2.2.2.2.2.1 x.1.2.1.2.2.2.2.2.2.2.2.1 x.1.2.1.2.2.2.2.2.2.2.2.2.1 x.1.2.1.2.2.2.2.2.2.2.2.2.2.1 x.1.2.1.2.2.2.2.2.2.2.2.2.2.2.1, Tryz.f65.results.toList⟩
theorem k31 : FnOK Tryz.prog G 65 e31 := fk cx (tc k29 (tc k30 tn)) (jl []) (lp := (pl [])) Tryz.func65 (by kernel_rfl) (by kernel_rfl) rfl (an0 (by kernel_rfl)) fun x => by kernel_rfl
def I32 : Sp := ⟨[(0, .agg c'13), (1, .agg c'13)], [], []⟩
def E32 : SL := [(.ret, ⟨[(4, op 64)], [(64, c'13)], []⟩)]
noncomputable def e32 : Fe G := ⟨I32, E32, fun x => nes' x.1.1.1 x.1.1.2.1 x.1.2.1.1 x.1.2.1.2.1, Tryz.f64.results.toList⟩
theorem k32 : FnOK Tryz.prog G 64 e32 := fk cx tn (jl []) (lp := (pl [])) Tryz.func64 (by kernel_rfl) (by kernel_rfl) rfl (an0 (by kernel_rfl)) fun x => by kernel_rfl
def I33 : Sp := ⟨[(0, .agg c'13), (1, .agg c'13)], [], []⟩
def E33 : SL := [(.ret, ⟨[(4, op 64)], [(64, c'13)], []⟩)]
noncomputable def e33 : Fe G := ⟨I33, E33, fun x => nd4' x.1.1.1 x.1.1.2.1 x.1.2.1.1 x.1.2.1.2.1, Tryz.f66.results.toList⟩
theorem k33 : FnOK Tryz.prog G 66 e33 := fk cx tn (jl []) (lp := (pl [])) Tryz.func66 (by kernel_rfl) (by kernel_rfl) rfl (an0 (by kernel_rfl)) fun x => by kernel_rfl
def I34 : Sp := ⟨[(0, .agg c'2), (1, oro 46), (2, oro 26)], [], []⟩
def E34 : SL := [(.ret, ⟨[(6, op 96), (7, oi64)], [(96, c'16)], []⟩)]
def S34_0 : Sp := ⟨[(2, oro 26), (3, op 48), (6, op 96), (8, op 128), (32, oro 46), (33, oi64), (34, oi64)], [(48, c'2), (96, c'16), (128, c'17)], []⟩
def X34_0 : SL := [(.exit 0, ⟨[(6, op 96), (8, op 128)], [(96, c'16), (128, c'17)], []⟩)]
def J34 : Nat → Option SL := jl []
noncomputable def P34 : Nat → St G → M (Ex × St G) := pl [lpX S34_0 X34_0 nfg']
theorem t34 : ∀ p ∈ [(63, e28), (65, e31), (64, e32), (66, e33)], FnOK Tryz.prog G p.1 p.2 := (tc k28 (tc k31 (tc k32 (tc k33 tn))))
theorem l34_0 : LoopOK Tryz.prog G 71 (P34 0) (nn' (nj' Tryz.f32) 0) := lk cx t34 J34 1 S34_0 X34_0 (rfl : nfg' = _) (by kernel_rfl) (an0 (by kernel_rfl)) fun x => by kernel_rfl
noncomputable def e34 : Fe G := ⟨I34, E34, fun x => ngv' x.1.1.1 x.1.1.2.1 x.1.1.2.2.1 x.1.1.2.2.2.1 x.1.1.2.2.2.2.1 x.1.1.2.2.2.2.2.1 x.1.1.2.2.2.2.2.2.1 x.1.1.2.2.2.2.2.2.2.1 x.1.2.1 x.1.2.2.1, Tryz.f32.results.toList⟩
theorem k34 : FnOK Tryz.prog G 32 e34 := fk cx t34 J34 (lp := P34) Tryz.func32 (by kernel_rfl) (by kernel_rfl) rfl (ng' _ (by kernel_rfl) (nf' l34_0 nk')) fun x => by kernel_rfl
def I35 : Sp := ⟨[(0, oi64), (1, oi64), (2, oi64)], [], []⟩
def E35 : SL := [(.ret, ⟨[(6, ob)], [], []⟩)]
noncomputable def e35 : Fe G := ⟨I35, E35, fun x => nfk' x.1.1 x.1.2.1 x.1.2.2.1, Tryz.f129.results.toList⟩
theorem k35 : FnOK Tryz.prog G 129 e35 := fk cx (tc k25 tn) (jl [(1048577, [(.normal, ⟨[(6, ob)], [], []⟩)])]) (lp := (pl [])) Tryz.func129 (by kernel_rfl) (by kernel_rfl) rfl (an0 (by kernel_rfl)) fun x => by kernel_rfl
def I36 : Sp := ⟨[(0, .agg c'2), (1, oi64), (2, oi64)], [], []⟩
def E36 : SL := [(.ret, ⟨[(6, ob)], [], []⟩)]
noncomputable def e36 : Fe G := ⟨I36, E36, fun x => nd7' x.1.1.1 x.1.1.2.1 x.1.1.2.2.1 x.1.1.2.2.2.1 x.1.1.2.2.2.2.1 x.1.1.2.2.2.2.2.1 x.1.1.2.2.2.2.2.2.1 x.1.1.2.2.2.2.2.2.2.1 x.1.2.1 x.1.2.2.1, Tryz.f105.results.toList⟩
theorem k36 : FnOK Tryz.prog G 105 e36 := fk cx (tc k28 (tc k35 tn)) (jl [(1048577, [(.normal, ⟨[(6, ob)], [], []⟩)])]) (lp := (pl [])) Tryz.func105 (by kernel_rfl) (by kernel_rfl) rfl (an0 (by kernel_rfl)) fun x => by kernel_rfl
def I37 : Sp := ⟨[(0, .agg c'2), (1, .agg c'6)], [], []⟩
def E37 : SL := [(.ret, ⟨[(4, ob)], [], []⟩)]
noncomputable def e37 : Fe G := ⟨I37, E37, fun x => nh7' x.1.1.1 x.1.1.2.1 x.1.1.2.2.1 x.1.1.2.2.2.1 x.1.1.2.2.2.2.1 x.1.1.2.2.2.2.2.1 x.1.1.2.2.2.2.2.2.1 x.1.1.2.2.2.2.2.2.2.1 x.1.2.1.1 x.1.2.1.2.1 x.1.2.1.2.2.1 x.1.2.1.2.2.2.1 x.1.2.1.2.2.2.2.1, Tryz.f67.results.toList⟩
theorem k37 : FnOK Tryz.prog G 67 e37 := fk cx (tc k36 tn) (jl [(1048577, [(.normal, ⟨[(4, ob)], [], []⟩)])]) (lp := (pl [])) Tryz.func67 (by kernel_rfl) (by kernel_rfl) rfl (an0 (by kernel_rfl)) fun x => by kernel_rfl
def I38 : Sp := ⟨[(0, oi64)], [], []⟩
def E38 : SL := [(.ret, ⟨[(2, ob)], [], []⟩)]
noncomputable def e38 : Fe G := ⟨I38, E38, fun x => ngz' x.1.1, Tryz.f130.results.toList⟩
theorem k38 : FnOK Tryz.prog G 130 e38 := fk cx tn (jl []) (lp := (pl [])) Tryz.func130 (by kernel_rfl) (by kernel_rfl) rfl (an0 (by kernel_rfl)) fun x => by kernel_rfl
def I39 : Sp := ⟨[(0, oi64), (1, oi64)], [], []⟩
def E39 : SL := [(.ret, ⟨[(4, oi64)], [], []⟩)]
noncomputable def e39 : Fe G := ⟨I39, E39, fun x => nd6' x.1.1 x.1.2.1, Tryz.f107.results.toList⟩
theorem k39 : FnOK Tryz.prog G 107 e39 := fk cx (tc k38 tn) (jl []) (lp := (pl [])) Tryz.func107 (by kernel_rfl) (by kernel_rfl) rfl (an0 (by kernel_rfl)) fun x => by kernel_rfl
def I40 : Sp := ⟨[(0, oro 3)], [], []⟩
def E40 : SL := [(.ret, ⟨[(2, oi64)], [], []⟩)]
def S40_0 : Sp := ⟨[(3, oi64), (6, oro 3), (7, oi64), (8, oi64)], [], []⟩
def X40_0 : SL := [(.exit 0, ⟨[(3, oi64)], [], []⟩), (.ret, ⟨[(2, oi64)], [], []⟩)]
def J40 : Nat → Option SL := jl []
noncomputable def P40 : Nat → St G → M (Ex × St G) := pl [lpX S40_0 X40_0 nhk']
theorem l40_0 : LoopOK Tryz.prog G 18 (P40 0) (nn' (nj' Tryz.f106) 0) := lk cx tn J40 1 S40_0 X40_0 (rfl : nhk' = _) (by kernel_rfl) (an0 (by kernel_rfl)) fun x => by kernel_rfl
noncomputable def e40 : Fe G := ⟨I40, E40, fun x => niv' x.1.1, Tryz.f106.results.toList⟩
theorem k40 : FnOK Tryz.prog G 106 e40 := fk cx tn J40 (lp := P40) Tryz.func106 (by kernel_rfl) (by kernel_rfl) rfl (ng' _ (by kernel_rfl) (nf' l40_0 nk')) fun x => by kernel_rfl
def I41 : Sp := ⟨[(0, .agg c'6), (1, .agg c'6)], [], []⟩
def E41 : SL := [(.ret, ⟨[(4, oi64)], [], []⟩)]
noncomputable def e41 : Fe G := ⟨I41, E41, fun x => nex' x.1.1.1 x.1.1.2.1 x.1.1.2.2.1 x.1.1.2.2.2.1 x.1.1.2.2.2.2.1 x.1.2.1.1 x.1.2.1.2.1 x.1.2.1.2.2.1 x.1.2.1.2.2.2.1 x.1.2.1.2.2.2.2.1, Tryz.f68.results.toList⟩
theorem k41 : FnOK Tryz.prog G 68 e41 := fk cx (tc k39 (tc k40 tn)) (jl []) (lp := (pl [])) Tryz.func68 (by kernel_rfl) (by kernel_rfl) rfl (an0 (by kernel_rfl)) fun x => by kernel_rfl
def I42 : Sp := ⟨[(0, .agg c'2), (1, .agg c'7)], [], []⟩
def E42 : SL := [(.ret, ⟨[(4, ob)], [], []⟩)]
def S42_0 : Sp := ⟨[(2, op 32), (3, op 48), (38, oro 3), (39, oi64), (40, oi64)], [(32, c'2), (48, c'7)], []⟩
def X42_0 : SL := [(.exit 0, ⟨[(2, op 32), (3, op 48)], [(32, c'2), (48, c'7)], []⟩), (.ret, ⟨[(4, ob)], [], []⟩)]
def S42_1 : Sp := ⟨[(2, op 32), (3, op 48), (52, oro 63), (53, oi64), (54, oi64)], [(32, c'2), (48, c'7)], []⟩
def X42_1 : SL := [(.exit 2, ⟨[], [], []⟩), (.ret, ⟨[(4, ob)], [], []⟩)]
def J42 : Nat → Option SL := jl [(1048589, [(.normal, ⟨[(2, op 32), (3, op 48), (52, oro 63), (53, oi64), (54, oi64), (77, ob)], [(32, c'2), (48, c'7)], []⟩)])]
noncomputable def P42 : Nat → St G → M (Ex × St G) := pl [lpX S42_0 X42_0 ngp', lpX S42_1 X42_1 ngs']
theorem t42 : ∀ p ∈ [(63, e28), (67, e37), (68, e41)], FnOK Tryz.prog G p.1 p.2 := (tc k28 (tc k37 (tc k41 tn)))
theorem l42_1 : LoopOK Tryz.prog G 79 (P42 1) (nn' (nj' Tryz.f33) 1) := lk cx t42 J42 2 S42_1 X42_1 (rfl : ngs' = _) (by kernel_rfl) (an0 (by kernel_rfl)) fun x => by kernel_rfl
theorem l42_0 : LoopOK Tryz.prog G 79 (P42 0) (nn' (nj' Tryz.f33) 0) := lk cx t42 J42 1 S42_0 X42_0 (rfl : ngp' = _) (by kernel_rfl) (an0 (by kernel_rfl)) fun x => by kernel_rfl
noncomputable def e42 : Fe G := ⟨I42, E42, fun x => ndd' x.1.1.1 x.1.1.2.1 x.1.1.2.2.1 x.1.1.2.2.2.1 x.1.1.2.2.2.2.1 x.1.1.2.2.2.2.2.1 x.1.1.2.2.2.2.2.2.1 x.1.1.2.2.2.2.2.2.2.1 x.1.2.1.1 x.1.2.1.2.1 x.1.2.1.2.2.1 x.1.2.1.2.2.2.1, Tryz.f33.results.toList⟩
theorem k42 : FnOK Tryz.prog G 33 e42 := fk cx t42 J42 (lp := P42) Tryz.func33 (by kernel_rfl) (by kernel_rfl) rfl (ng' _ (by kernel_rfl) (nf' l42_0 (nf' l42_1 nk'))) fun x => by kernel_rfl
def I43 : Sp := ⟨[(0, oi64)], [], []⟩
def E43 : SL := [(.ret, ⟨[(2, ob)], [], []⟩)]
noncomputable def e43 : Fe G := ⟨I43, E43, fun x => nd2' x.1.1, Tryz.f70.results.toList⟩
theorem k43 : FnOK Tryz.prog G 70 e43 := fk cx tn (jl [(1048577, [(.normal, ⟨[(2, ob)], [], []⟩)])]) (lp := (pl [])) Tryz.func70 (by kernel_rfl) (by kernel_rfl) rfl (an0 (by kernel_rfl)) fun x => by kernel_rfl
def I44 : Sp := ⟨[(0, oro 3), (1, .one (.clo 70 [] []))], [], []⟩
def E44 : SL := [(.ret, ⟨[(4, oi64)], [], []⟩)]
def S44_0 : Sp := ⟨[(0, oro 3), (1, .one (.clo 70 [] [])), (7, oi64), (8, oi64)], [], []⟩
def X44_0 : SL := [(.exit 0, ⟨[], [], []⟩), (.ret, ⟨[(4, oi64)], [], []⟩)]
def J44 : Nat → Option SL := jl []
noncomputable def P44 : Nat → St G → M (Ex × St G) := pl [lpX S44_0 X44_0 n4']
theorem t44 : ∀ p ∈ [(70, e43)], FnOK Tryz.prog G p.1 p.2 := (tc k43 tn)
theorem l44_0 : LoopOK Tryz.prog G 19 (P44 0) (nn' (nj' Tryz.f108) 0) := lk cx t44 J44 1 S44_0 X44_0 (rfl : n4' = _) (by kernel_rfl) (an0 (by kernel_rfl)) fun x => by kernel_rfl
noncomputable def e44 : Fe G := ⟨I44, E44, fun x => nbr' x.1.1, Tryz.f108.results.toList⟩
theorem k44 : FnOK Tryz.prog G 108 e44 := fk cx t44 J44 (lp := P44) Tryz.func108 (by kernel_rfl) (by kernel_rfl) rfl (ng' _ (by kernel_rfl) (nf' l44_0 nk')) fun x => by kernel_rfl
def I45 : Sp := ⟨[(0, oro 3), (1, .one (.clo 70 [] []))], [], []⟩
def E45 : SL := [(.ret, ⟨[(4, ob)], [], []⟩)]
noncomputable def e45 : Fe G := ⟨I45, E45, fun x => n2' x.1.1, Tryz.f69.results.toList⟩
theorem k45 : FnOK Tryz.prog G 69 e45 := fk cx (tc k44 tn) (jl []) (lp := (pl [])) Tryz.func69 (by kernel_rfl) (by kernel_rfl) rfl (an0 (by kernel_rfl)) fun x => by kernel_rfl
def I46 : Sp := ⟨[(0, .agg c'7), (1, oro 3)], [], []⟩
def E46 : SL := [(.ret, ⟨[(4, ob)], [], []⟩)]
noncomputable def e46 : Fe G := ⟨I46, E46, fun x => neo' x.1.1.1 x.1.1.2.1 x.1.1.2.2.1 x.1.1.2.2.2.1 x.1.2.1, Tryz.f34.results.toList⟩
theorem k46 : FnOK Tryz.prog G 34 e46 := fk cx (tc k45 tn) (jl [(1048577, [(.normal, ⟨[(4, ob)], [], []⟩)])]) (lp := (pl [])) Tryz.func34 (by kernel_rfl) (by kernel_rfl) rfl (an0 (by kernel_rfl)) fun x => by kernel_rfl
def I47 : Sp := ⟨[(0, oro 3)], [], []⟩
def E47 : SL := [(.ret, ⟨[(2, .one (.own 32768 3))], [], []⟩)]
noncomputable def e47 : Fe G := ⟨I47, E47, fun x => nbz' x.1.1, Tryz.f36.results.toList⟩
theorem s47 : cloFe G 2 3 = e47 := by kernel_rfl
theorem k47 : FnOK Tryz.prog G 36 e47 := s47 ▸ nst' (r := 2) (t := 3) sigOK ⟨_, Tryz.func36, by kernel_rfl, by kernel_rfl⟩ (tS := 34) (size := 1) (bytes := Tryz.t3.bytes) (by kernel_rfl) (by kernel_rfl) (Nat.le_of_ble_eq_true (by kernel_rfl)) (fun w a n c news => nxn' _ rfl (by kernel_rfl) w a n c news) (ny9')
def I48 : Sp := ⟨[(0, oro 4)], [], []⟩
def E48 : SL := [(.ret, ⟨[(2, .one (.own 32768 4))], [], []⟩)]
noncomputable def e48 : Fe G := ⟨I48, E48, fun x => nbj' x.1.1, Tryz.f71.results.toList⟩
theorem s48 : cloFe G 2 4 = e48 := by kernel_rfl
theorem k48 : FnOK Tryz.prog G 71 e48 := s48 ▸ nst' (r := 2) (t := 4) sigOK ⟨_, Tryz.func71, by kernel_rfl, by kernel_rfl⟩ (tS := 35) (size := 1) (bytes := Tryz.t4.bytes) (by kernel_rfl) (by kernel_rfl) (Nat.le_of_ble_eq_true (by kernel_rfl)) (fun w a n c news => nxw' _ rfl (by kernel_rfl) w a n c news) (ny8')
def I49 : Sp := ⟨[(0, oro 63)], [], []⟩
def E49 : SL := [(.ret, ⟨[(2, .one (.own 32768 63))], [], []⟩)]
noncomputable def e49 : Fe G := ⟨I49, E49, fun x => nbf' x.1.1, Tryz.f72.results.toList⟩
theorem s49 : cloFe G 2 63 = e49 := by kernel_rfl
theorem k49 : FnOK Tryz.prog G 72 e49 := s49 ▸ nst' (r := 2) (t := 63) sigOK ⟨_, Tryz.func72, by kernel_rfl, by kernel_rfl⟩ (tS := 36) (size := 5) (bytes := Tryz.t63.bytes) (by kernel_rfl) (by kernel_rfl) (Nat.le_of_ble_eq_true (by kernel_rfl)) (fun w a n c news => nxg' _ rfl (by kernel_rfl) w a n c news) (nzs')
def I50 : Sp := ⟨[(0, .agg c'7)], [], []⟩
def E50 : SL := [(.ret, ⟨[(2, op 32)], [(32, c'4)], []⟩)]
noncomputable def e50 : Fe G := ⟨I50, E50, fun x => nfj' x.1.1.1 x.1.1.2.1 x.1.1.2.2.1 x.1.1.2.2.2.1, Tryz.f35.results.toList⟩
theorem k50 : FnOK Tryz.prog G 35 e50 := fk cx (tc k47 (tc k48 (tc k49 tn))) (jl []) (lp := (pl [])) Tryz.func35 (by kernel_rfl) (by kernel_rfl) rfl (an0 (by kernel_rfl)) fun x => by kernel_rfl
def I51 : Sp := ⟨[(0, oi64)], [], []⟩
def E51 : SL := [(.ret, ⟨[(2, op 32)], [(32, c'16)], []⟩)]
noncomputable def e51 : Fe G := ⟨I51, E51, fun x => nip' x.1.1, Tryz.f37.results.toList⟩
theorem k51 : FnOK Tryz.prog G 37 e51 := fk cx tn (jl []) (lp := (pl [])) Tryz.func37 (by kernel_rfl) (by kernel_rfl) rfl (an0 (by kernel_rfl)) fun x => by kernel_rfl
def I52 : Sp := ⟨[(0, oi64), (1, oi64)], [], []⟩
def E52 : SL := [(.ret, ⟨[(4, op 64)], [(64, c'13)], []⟩)]
noncomputable def e52 : Fe G := ⟨I52, E52, fun x => ngl' x.1.1 x.1.2.1, Tryz.f81.results.toList⟩
theorem k52 : FnOK Tryz.prog G 81 e52 := fk cx tn (jl [(1048577, [(.normal, ⟨[(0, oi64), (1, oi64), (4, op 64), (10, ob)], [(64, c'13)], []⟩)])]) (lp := (pl [])) Tryz.func81 (by kernel_rfl) (by kernel_rfl) rfl (an0 (by kernel_rfl)) fun x => by kernel_rfl
def I53 : Sp := ⟨[(0, .agg c'13), (1, oi64), (2, oi64)], [], []⟩
def E53 : SL := [(.ret, ⟨[(6, ob)], [], []⟩)]
noncomputable def e53 : Fe G := ⟨I53, E53, fun x => ncz' x.1.1.1 x.1.1.2.1 x.1.2.1 x.1.2.2.1, Tryz.f76.results.toList⟩
theorem k53 : FnOK Tryz.prog G 76 e53 := fk cx (tc k52 (tc k30 tn)) (jl []) (lp := (pl [])) Tryz.func76 (by kernel_rfl) (by kernel_rfl) rfl (an0 (by kernel_rfl)) fun x => by kernel_rfl
def I54 : Sp := ⟨[(0, .agg c'2), (1, .agg c'7), (2, oro 46)], [], []⟩
def E54 : SL := [(.ret, ⟨[(6, .one (.own 32768 66))], [], []⟩)]
def S54_0 : Sp := ⟨[(3, op 48), (4, op 64), (7, op 112), (25, oro 46), (26, oi64), (27, oi64)], [(48, c'2), (64, c'7), (112, c'13)], []⟩
def X54_0 : SL := [(.exit 0, ⟨[(4, op 64), (7, op 112)], [(64, c'7), (112, c'13)], []⟩)]
def S54_1 : Sp := ⟨[(7, op 112), (10, .one (.own 32768 66)), (38, oro 63), (39, oi64), (40, oi64)], [(112, c'13)], []⟩
def X54_1 : SL := [(.exit 2, ⟨[(10, .one (.own 32768 66))], [], []⟩)]
def J54 : Nat → Option SL := jl []
noncomputable def P54 : Nat → St G → M (Ex × St G) := pl [lpX S54_0 X54_0 nfi', lpX S54_1 X54_1 nfh']
theorem t54 : ∀ p ∈ [(33, e42), (65, e31), (66, e33), (76, e53)], FnOK Tryz.prog G p.1 p.2 := (tc k42 (tc k31 (tc k33 (tc k53 tn))))
theorem l54_1 : LoopOK Tryz.prog G 60 (P54 1) (nn' (nj' Tryz.f39) 1) := lk cx t54 J54 2 S54_1 X54_1 (rfl : nfh' = _) (by kernel_rfl) (an0 (by kernel_rfl)) fun x => by kernel_rfl
theorem l54_0 : LoopOK Tryz.prog G 60 (P54 0) (nn' (nj' Tryz.f39) 0) := lk cx t54 J54 1 S54_0 X54_0 (rfl : nfi' = _) (by kernel_rfl) (an0 (by kernel_rfl)) fun x => by kernel_rfl
noncomputable def e54 : Fe G := ⟨I54, E54, fun x => ngw' x.1.1.1 x.1.1.2.1 x.1.1.2.2.1 x.1.1.2.2.2.1 x.1.1.2.2.2.2.1 x.1.1.2.2.2.2.2.1 x.1.1.2.2.2.2.2.2.1 x.1.1.2.2.2.2.2.2.2.1 x.1.2.1.1 x.1.2.1.2.1 x.1.2.1.2.2.1 x.1.2.1.2.2.2.1 x.1.2.2.1, Tryz.f39.results.toList⟩
theorem k54 : FnOK Tryz.prog G 39 e54 := fk cx t54 J54 (lp := P54) Tryz.func39 (by kernel_rfl) (by kernel_rfl) rfl (ng' _ (by kernel_rfl) (nf' l54_0 (nf' l54_1 nk'))) fun x => by kernel_rfl
def I55 : Sp := ⟨[(0, .agg c'6), (1, op 65536), (2, op 65537)], [(65536, [.int .i64]), (65537, [.int .i64])], []⟩
def E55 : SL := [(.ret, ⟨[(4, ob)], [(65536, [.int .i64]), (65537, [.int .i64])], [65536, 65537]⟩)]
noncomputable def e55 : Fe G := ⟨I55, E55, fun x => ne6' x.1.1.1 x.1.1.2.1 x.1.1.2.2.1 x.1.1.2.2.2.1 x.1.1.2.2.2.2.1 x.2.1.1 x.2.2.1.1, Tryz.f110.results.toList⟩
theorem k55 : FnOK Tryz.prog G 110 e55 := fk cx tn (jl [(1048577, [(.normal, ⟨[(4, ob)], [(65536, [.int .i64]), (65537, [.int .i64])], [65536, 65537]⟩)])]) (lp := (pl [])) Tryz.func110 (by kernel_rfl) (by kernel_rfl) rfl (an0 (by kernel_rfl)) fun x => by kernel_rfl
def I56 : Sp := ⟨[(0, oro 63), (1, .one (.clo 110 [] [(65536, 0), (65537, 0)]))], [(65536, [.int .i64]), (65537, [.int .i64])], []⟩
def E56 : SL := [(.ret, ⟨[(4, oi64)], [(65536, [.int .i64]), (65537, [.int .i64])], [65536, 65537]⟩)]
def S56_0 : Sp := ⟨[(0, oro 63), (1, .one (.clo 110 [] [(65536, 0), (65537, 0)])), (7, oi64), (8, oi64)], [(65536, [.int .i64]), (65537, [.int .i64])], [65536, 65537]⟩
def X56_0 : SL := [(.exit 0, ⟨[], [(65536, [.int .i64]), (65537, [.int .i64])], [65536, 65537]⟩), (.ret, ⟨[(4, oi64)], [(65536, [.int .i64]), (65537, [.int .i64])], [65536, 65537]⟩)]
def J56 : Nat → Option SL := jl []
noncomputable def P56 : Nat → St G → M (Ex × St G) := pl [lpX S56_0 X56_0 nx']
theorem t56 : ∀ p ∈ [(110, e55)], FnOK Tryz.prog G p.1 p.2 := (tc k55 tn)
theorem l56_0 : LoopOK Tryz.prog G 19 (P56 0) (nn' (nj' Tryz.f109) 0) := lk cx t56 J56 1 S56_0 X56_0 (rfl : nx' = _) (by kernel_rfl) (an0 (by kernel_rfl)) fun x => by kernel_rfl
noncomputable def e56 : Fe G := ⟨I56, E56, fun x => n9' x.1.1 x.2.1.1 x.2.2.1.1, Tryz.f109.results.toList⟩
theorem k56 : FnOK Tryz.prog G 109 e56 := fk cx t56 J56 (lp := P56) Tryz.func109 (by kernel_rfl) (by kernel_rfl) rfl (ng' _ (by kernel_rfl) (nf' l56_0 nk')) fun x => by kernel_rfl
def I57 : Sp := ⟨[(0, .agg c'7), (1, oi64), (2, oi64)], [], []⟩
def E57 : SL := [(.ret, ⟨[(6, oi64), (7, ob)], [], []⟩)]
noncomputable def e57 : Fe G := ⟨I57, E57, fun x => nf2' x.1.1.1 x.1.1.2.1 x.1.1.2.2.1 x.1.1.2.2.2.1 x.1.2.1 x.1.2.2.1, Tryz.f73.results.toList⟩
theorem k57 : FnOK Tryz.prog G 73 e57 := fk cx (tc k56 tn) (jl [(1048580, [(.normal, ⟨[(6, oi64), (7, ob)], [], []⟩)])]) (lp := (pl [])) Tryz.func73 (by kernel_rfl) (by kernel_rfl) rfl (an0 (by kernel_rfl)) fun x => by kernel_rfl
def I58 : Sp := ⟨[(0, .one (.own 32768 3)), (1, oi64), (2, oi64)], [], []⟩
def E58 : SL := [(.ret, ⟨[(6, .one (.own 32768 3))], [], []⟩)]
noncomputable def e58 : Fe G := ⟨I58, E58, fun x => ncs' x.1.1 x.1.2.1 x.1.2.2.1, Tryz.f74.results.toList⟩
theorem s58 : delFe G 6 3 = e58 := by kernel_rfl
theorem k58 : FnOK Tryz.prog G 74 e58 := s58 ▸ nvz' (r := 6) (t := 3) sigOK ⟨_, Tryz.func74, by kernel_rfl, by kernel_rfl⟩ (by intro h; cases h) (fun _ => rfl) (nr3')
def I59 : Sp := ⟨[(0, .one (.own 32768 3)), (1, oi64), (2, .one (.own 32769 3))], [], []⟩
def E59 : SL := [(.ret, ⟨[(6, .one (.own 32768 3))], [], []⟩)]
noncomputable def e59 : Fe G := ⟨I59, E59, fun x => ncr' x.1.1 x.1.2.1 x.1.2.2.1, Tryz.f75.results.toList⟩
theorem s59 : insFe G 6 3 = e59 := by kernel_rfl
theorem k59 : FnOK Tryz.prog G 75 e59 := s59 ▸ nwq' (r := 6) (t := 3) sigOK ⟨_, Tryz.func75, by kernel_rfl, by kernel_rfl⟩ (by intro h; cases h) (fun _ => rfl) (nrf')
def I60 : Sp := ⟨[(0, oi64), (1, oi64), (2, oi64)], [], []⟩
def E60 : SL := [(.ret, ⟨[(6, ob)], [], []⟩)]
noncomputable def e60 : Fe G := ⟨I60, E60, fun x => nb3' x.1.1 x.1.2.1 x.1.2.2.1, Tryz.f125.results.toList⟩
theorem k60 : FnOK Tryz.prog G 125 e60 := fk cx tn (jl [(1048577, [(.normal, ⟨[(6, ob)], [], []⟩)])]) (lp := (pl [])) Tryz.func125 (by kernel_rfl) (by kernel_rfl) rfl (an0 (by kernel_rfl)) fun x => by kernel_rfl
def I61 : Sp := ⟨[(0, .agg c'2), (1, .agg c'5)], [], []⟩
def E61 : SL := [(.ret, ⟨[(4, ob)], [], []⟩)]
noncomputable def e61 : Fe G := ⟨I61, E61, fun x => nhh' x.1.1.1 x.1.1.2.1 x.1.1.2.2.1 x.1.1.2.2.2.1 x.1.1.2.2.2.2.1 x.1.1.2.2.2.2.2.1 x.1.1.2.2.2.2.2.2.1 x.1.1.2.2.2.2.2.2.2.1 x.1.2.1.1 x.1.2.1.2.1 x.1.2.1.2.2.1 x.1.2.1.2.2.2.1 x.1.2.1.2.2.2.2.1, Tryz.f97.results.toList⟩
theorem k61 : FnOK Tryz.prog G 97 e61 := fk cx (tc k28 (tc k36 (tc k60 tn))) (jl [(1048580, [(.normal, ⟨[(2, op 32), (3, op 48), (5, ob), (6, ob)], [(32, c'2), (48, c'5)], []⟩)]), (1048584, [(.normal, ⟨[(4, ob)], [], []⟩)]), (1048586, [(.normal, ⟨[(4, ob)], [], []⟩)]), (1048588, [(.normal, ⟨[(4, ob)], [], []⟩)]), (1048590, [(.normal, ⟨[(4, ob)], [], []⟩)]), (1048593, [(.normal, ⟨[(4, ob)], [], []⟩)])]) (lp := (pl [])) Tryz.func97 (by kernel_rfl) (by kernel_rfl) rfl (an0 (by kernel_rfl)) fun x => by kernel_rfl
def I62 : Sp := ⟨[(0, .agg c'7)], [], []⟩
def E62 : SL := [(.ret, ⟨[(2, op 32)], [(32, c'4)], []⟩)]
noncomputable def e62 : Fe G := ⟨I62, E62, fun x => njq' x.1.1.1 x.1.1.2.1 x.1.1.2.2.1 x.1.1.2.2.2.1, Tryz.f98.results.toList⟩
theorem k62 : FnOK Tryz.prog G 98 e62 := fk cx (tc k47 (tc k48 (tc k49 tn))) (jl []) (lp := (pl [])) Tryz.func98 (by kernel_rfl) (by kernel_rfl) rfl (an0 (by kernel_rfl)) fun x => by kernel_rfl
def I63 : Sp := ⟨[(0, oro 63), (1, .agg c'6), (2, .one (.clo 68 [] []))], [], []⟩
def E63 : SL := [(.ret, ⟨[(6, oi64), (7, ob)], [], []⟩)]
def S63_0 : Sp := ⟨[(0, oro 63), (2, .one (.clo 68 [] [])), (4, op 64), (8, oi64), (9, oi64), (10, oi64)], [(64, c'6)], []⟩
def X63_0 : SL := [(.exit 0, ⟨[(0, oro 63), (2, .one (.clo 68 [] [])), (4, op 64), (8, oi64), (9, oi64)], [(64, c'6)], []⟩)]
def J63 : Nat → Option SL := jl [(1048584, [(.normal, ⟨[(6, oi64), (7, ob)], [], []⟩)])]
noncomputable def P63 : Nat → St G → M (Ex × St G) := pl [lpX S63_0 X63_0 no']
theorem t63 : ∀ p ∈ [(68, e41)], FnOK Tryz.prog G p.1 p.2 := (tc k41 tn)
theorem l63_0 : LoopOK Tryz.prog G 49 (P63 0) (nn' (nj' Tryz.f145) 0) := lk cx t63 J63 1 S63_0 X63_0 (rfl : no' = _) (by kernel_rfl) (an0 (by kernel_rfl)) fun x => by kernel_rfl
noncomputable def e63 : Fe G := ⟨I63, E63, fun x => nz' x.1.1 x.1.2.1.1 x.1.2.1.2.1 x.1.2.1.2.2.1 x.1.2.1.2.2.2.1 x.1.2.1.2.2.2.2.1, Tryz.f145.results.toList⟩
theorem k63 : FnOK Tryz.prog G 145 e63 := fk cx t63 J63 (lp := P63) Tryz.func145 (by kernel_rfl) (by kernel_rfl) rfl (ng' _ (by kernel_rfl) (nf' l63_0 nk')) fun x => by kernel_rfl
def I64 : Sp := ⟨[(0, .agg c'7), (1, oi64), (2, oi64)], [], []⟩
def E64 : SL := [(.ret, ⟨[(6, oi64), (7, ob)], [], []⟩)]
noncomputable def e64 : Fe G := ⟨I64, E64, fun x => nkz' x.1.1.1 x.1.1.2.1 x.1.1.2.2.1 x.1.1.2.2.2.1 x.1.2.1 x.1.2.2.1, Tryz.f126.results.toList⟩
theorem k64 : FnOK Tryz.prog G 126 e64 := fk cx (tc k63 tn) (jl []) (lp := (pl [])) Tryz.func126 (by kernel_rfl) (by kernel_rfl) rfl (an0 (by kernel_rfl)) fun x => by kernel_rfl
def I65 : Sp := ⟨[(0, .one (.own 32768 63)), (1, oi64), (2, .one (.own 32769 63))], [], []⟩
def E65 : SL := [(.ret, ⟨[(6, .one (.own 32768 63))], [], []⟩)]
noncomputable def e65 : Fe G := ⟨I65, E65, fun x => nce' x.1.1 x.1.2.1 x.1.2.2.1, Tryz.f127.results.toList⟩
theorem s65 : insFe G 6 63 = e65 := by kernel_rfl
theorem k65 : FnOK Tryz.prog G 127 e65 := s65 ▸ nwq' (r := 6) (t := 63) sigOK ⟨_, Tryz.func127, by kernel_rfl, by kernel_rfl⟩ (by intro h; cases h) (fun _ => rfl) (nqh')
def I66 : Sp := ⟨[(0, .one (.own 32768 63)), (1, oi64), (2, oi64)], [], []⟩
def E66 : SL := [(.ret, ⟨[(6, .one (.own 32768 63))], [], []⟩)]
noncomputable def e66 : Fe G := ⟨I66, E66, fun x => ncd' x.1.1 x.1.2.1 x.1.2.2.1, Tryz.f128.results.toList⟩
theorem s66 : delFe G 6 63 = e66 := by kernel_rfl
theorem k66 : FnOK Tryz.prog G 128 e66 := s66 ▸ nvz' (r := 6) (t := 63) sigOK ⟨_, Tryz.func128, by kernel_rfl, by kernel_rfl⟩ (by intro h; cases h) (fun _ => rfl) (nqe')
def I67 : Sp := ⟨[(0, op 65536), (1, .agg c'5)], [(65536, c'4)], []⟩
def E67 : SL := [(.normal, ⟨[], [(65536, c'4)], [65536]⟩)]
noncomputable def e67 : Fe G := ⟨I67, E67, fun x => nix' x.1.2.1.1 x.1.2.1.2.1 x.1.2.1.2.2.1 x.1.2.1.2.2.2.1 x.1.2.1.2.2.2.2.1 x.2.1.1 x.2.1.2.1 x.2.1.2.2.1 x.2.1.2.2.2.1, Tryz.f99.results.toList⟩
theorem k67 : FnOK Tryz.prog G 99 e67 := fk cx (tc k64 (tc k65 (tc k66 tn))) (jl []) (lp := (pl [])) Tryz.func99 (by kernel_rfl) (by kernel_rfl) rfl (an0 (by kernel_rfl)) fun x => by kernel_rfl
def I68 : Sp := ⟨[(0, .agg c'2), (1, .agg c'7), (2, .agg c'5)], [], []⟩
def E68 : SL := [(.ret, ⟨[(6, op 96), (7, oi64)], [(96, c'4)], []⟩)]
noncomputable def e68 : Fe G := ⟨I68, E68, fun x => nhr' x.1.1.1 x.1.1.2.1 x.1.1.2.2.1 x.1.1.2.2.2.1 x.1.1.2.2.2.2.1 x.1.1.2.2.2.2.2.1 x.1.1.2.2.2.2.2.2.1 x.1.1.2.2.2.2.2.2.2.1 x.1.2.1.1 x.1.2.1.2.1 x.1.2.1.2.2.1 x.1.2.1.2.2.2.1 x.1.2.2.1.1 x.1.2.2.1.2.1 x.1.2.2.1.2.2.1 x.1.2.2.1.2.2.2.1 x.1.2.2.1.2.2.2.2.1, Tryz.f59.results.toList⟩
theorem k68 : FnOK Tryz.prog G 59 e68 := fk cx (tc k42 (tc k61 (tc k62 (tc k67 tn)))) (jl []) (lp := (pl [])) Tryz.func59 (by kernel_rfl) (by kernel_rfl) rfl (an0 (by kernel_rfl)) fun x => by kernel_rfl
def I69 : Sp := ⟨[(0, op 65536), (1, oro 66)], [(65536, c'18)], []⟩
def E69 : SL := [(.normal, ⟨[], [(65536, c'18)], [65536]⟩)]
def S69_0 : Sp := ⟨[(0, op 65536), (10, oro 66), (11, oi64), (12, oi64)], [(65536, c'18)], [65536]⟩
def X69_0 : SL := [(.exit 0, ⟨[], [(65536, c'18)], [65536]⟩)]
def J69 : Nat → Option SL := jl [(9, [(.normal, ⟨[(0, op 65536), (5, op 80), (10, oro 66), (11, oi64), (12, oi64)], [(80, c'5), (65536, c'18)], [65536]⟩)]), (1048580, [(.normal, ⟨[(0, op 65536), (5, op 80), (6, oi64), (7, ob), (10, oro 66), (11, oi64), (12, oi64), (29, ob)], [(80, c'5), (65536, c'18)], [65536]⟩)]), (1048582, [(.normal, ⟨[(0, op 65536), (5, op 80), (6, oi64), (10, oro 66), (11, oi64), (12, oi64), (49, ob)], [(80, c'5), (65536, c'18)], [65536]⟩)])]
noncomputable def P69 : Nat → St G → M (Ex × St G) := pl [lpX S69_0 X69_0 nbt']
theorem t69 : ∀ p ∈ [(73, e57), (74, e58), (75, e59), (59, e68)], FnOK Tryz.prog G p.1 p.2 := (tc k57 (tc k58 (tc k59 (tc k68 tn))))
theorem l69_0 : LoopOK Tryz.prog G 103 (P69 0) (nn' (nj' Tryz.f38) 0) := lk cx t69 J69 1 S69_0 X69_0 (rfl : nbt' = _) (by kernel_rfl) (an0 (by kernel_rfl)) fun x => by kernel_rfl
noncomputable def e69 : Fe G := ⟨I69, E69, fun x => n8' x.1.2.1 x.2.1.1 x.2.1.2.1 x.2.1.2.2.1 x.2.1.2.2.2.1 x.2.1.2.2.2.2.1 x.2.1.2.2.2.2.2.1 x.2.1.2.2.2.2.2.2.1 x.2.1.2.2.2.2.2.2.2.1 x.2.1.2.2.2.2.2.2.2.2.1 x.2.1.2.2.2.2.2.2.2.2.2.1 x.2.1.2.2.2.2.2.2.2.2.2.2.1 x.2.1.2.2.2.2.2.2.2.2.2.2.2.1 x.2.1.2.2.2.2.2.2.2.2.2.2.2.2.1 x.2.1.2.2.2.2.2.2.2.2.2.2.2.2.2.1 x.2.1.2.2.2.2.2.2.2.2.2.2.2.2.2.2.1 x.2.1.2.2.2.2.2.2.2.2.2.2.2.2.2.2.2.1 x.2.1.2.2.2.2.2.2.2.2.2.2.2.2.2.2.2.2.1 x.2.1.2.2.2.2.2.2.2.2.2.2.2.2.2.2.2.2.2.1 x.2.1.2.2.2.2.2.2.2.2.2.2.2.2.2.2.2.2.2.2.1 x.2.1.2.2.2.2.2.2.2.2.2.2.2.2.2.2.2.2.2.2.2.1, Tryz.f38.results.toList⟩
theorem k69 : FnOK Tryz.prog G 38 e69 := fk cx t69 J69 (lp := P69) Tryz.func38 (by kernel_rfl) (by kernel_rfl) rfl (ng' _ (by kernel_rfl) (nf' l69_0 nk')) fun x => by kernel_rfl
def I70 : Sp := ⟨[(0, oro 63)], [], []⟩
def E70 : SL := [(.ret, ⟨[(2, op 32)], [(32, c'13)], []⟩)]
def S70_0 : Sp := ⟨[(2, op 32), (3, op 48), (6, oro 63), (7, oi64), (8, oi64)], [(32, c'13), (48, c'13)], []⟩
def X70_0 : SL := [(.exit 0, ⟨[(2, op 32), (3, op 48)], [(32, c'13), (48, c'13)], []⟩)]
def J70 : Nat → Option SL := jl []
noncomputable def P70 : Nat → St G → M (Ex × St G) := pl [lpX S70_0 X70_0 ni3']
theorem t70 : ∀ p ∈ [(81, e52), (66, e33)], FnOK Tryz.prog G p.1 p.2 := (tc k52 (tc k33 tn))
theorem l70_0 : LoopOK Tryz.prog G 21 (P70 0) (nn' (nj' Tryz.f82) 0) := lk cx t70 J70 1 S70_0 X70_0 (rfl : ni3' = _) (by kernel_rfl) (an0 (by kernel_rfl)) fun x => by kernel_rfl
noncomputable def e70 : Fe G := ⟨I70, E70, fun x => nk0' x.1.1, Tryz.f82.results.toList⟩
theorem k70 : FnOK Tryz.prog G 82 e70 := fk cx t70 J70 (lp := P70) Tryz.func82 (by kernel_rfl) (by kernel_rfl) rfl (ng' _ (by kernel_rfl) (nf' l70_0 nk')) fun x => by kernel_rfl
def I71 : Sp := ⟨[(0, .agg c'7)], [], []⟩
def E71 : SL := [(.ret, ⟨[(2, op 32)], [(32, c'13)], []⟩)]
noncomputable def e71 : Fe G := ⟨I71, E71, fun x => nik' x.1.1.1 x.1.1.2.1 x.1.1.2.2.1 x.1.1.2.2.2.1, Tryz.f41.results.toList⟩
theorem k71 : FnOK Tryz.prog G 41 e71 := fk cx (tc k70 tn) (jl []) (lp := (pl [])) Tryz.func41 (by kernel_rfl) (by kernel_rfl) rfl (an0 (by kernel_rfl)) fun x => by kernel_rfl
def I72 : Sp := ⟨[(0, .agg c'13)], [], []⟩
def E72 : SL := [(.ret, ⟨[(2, .one (.own 32768 63))], [], []⟩)]
noncomputable def e72 : Fe G := ⟨I72, E72, fun x => nin' x.1.1.1 x.1.1.2.1, Tryz.f77.results.toList⟩
theorem s72 : lstFe G 2 63 (fun u d f k => ncz' u d f k) (fun f d => Entry.mk f d (-1) 0 false) = e72 := by kernel_rfl
theorem k72 : FnOK Tryz.prog G 77 e72 := s72 ▸ n6f' (t := 63) (h := (fun u d f k => ncz' u d f k)) (mk := fun f d => Entry.mk f d (-1) 0 false) sigOK ⟨_, Tryz.func77, by kernel_rfl, by kernel_rfl⟩ (by kernel_rfl) (fun _ _ => by kernel_rfl) (fun w u d hb hh hgl => n34' w u d hb fun p hp w' hw => n2l' (h := (fun u d f k => ncz' u d f k)) ((show e53 = hasFe G 6 (fun u d f k => ncz' u d f k) by kernel_rfl) ▸ k53) (hh p hp) (hgl.below hw) hw.size)
def I73 : Sp := ⟨[(0, .agg c'2), (1, .agg c'7)], [], []⟩
def E73 : SL := [(.ret, ⟨[(4, ob)], [], []⟩)]
noncomputable def e73 : Fe G := ⟨I73, E73, fun x => nky' x.1.1.1 x.1.1.2.1 x.1.1.2.2.1 x.1.1.2.2.2.1 x.1.1.2.2.2.2.1 x.1.1.2.2.2.2.2.1 x.1.1.2.2.2.2.2.2.1 x.1.1.2.2.2.2.2.2.2.1 x.1.2.1.1 x.1.2.1.2.1 x.1.2.1.2.2.1 x.1.2.1.2.2.2.1, Tryz.f80.results.toList⟩
theorem k73 : FnOK Tryz.prog G 80 e73 := fk cx (tc k42 tn) (jl [(1048577, [(.normal, ⟨[(4, ob)], [], []⟩)])]) (lp := (pl [])) Tryz.func80 (by kernel_rfl) (by kernel_rfl) rfl (an0 (by kernel_rfl)) fun x => by kernel_rfl
def I74 : Sp := ⟨[(0, op 65536), (1, .agg c'13), (2, .agg c'13)], [(65536, c'18)], []⟩
def E74 : SL := [(.normal, ⟨[], [(65536, c'18)], [65536]⟩)]
def S74_0 : Sp := ⟨[(0, op 65536), (17, .one (.own 32768 63)), (18, oi64), (19, oi64)], [(65536, c'19)], [65536]⟩
def X74_0 : SL := [(.exit 0, ⟨[], [(65536, c'18)], [65536]⟩)]
def J74 : Nat → Option SL := jl []
noncomputable def P74 : Nat → St G → M (Ex × St G) := pl [lpX S74_0 X74_0 nb2']
theorem t74 : ∀ p ∈ [(79, e29), (78, e30), (64, e32), (77, e72), (80, e73), (38, e69), (81, e52), (66, e33)], FnOK Tryz.prog G p.1 p.2 := (tc k29 (tc k30 (tc k32 (tc k72 (tc k73 (tc k69 (tc k52 (tc k33 tn))))))))
theorem l74_0 : LoopOK Tryz.prog G 57 (P74 0) (nn' (nj' Tryz.f40) 0) := lk cx t74 J74 1 S74_0 X74_0 (rfl : nb2' = _) (by kernel_rfl) (an0 (by kernel_rfl)) fun x => by kernel_rfl
noncomputable def e74 : Fe G := ⟨I74, E74, fun x => nb8' x.1.2.1.1 x.1.2.1.2.1 x.1.2.2.1.1 x.1.2.2.1.2.1 x.2.1.1 x.2.1.2.1 x.2.1.2.2.1 x.2.1.2.2.2.1 x.2.1.2.2.2.2.1 x.2.1.2.2.2.2.2.1 x.2.1.2.2.2.2.2.2.1 x.2.1.2.2.2.2.2.2.2.1 x.2.1.2.2.2.2.2.2.2.2.1 x.2.1.2.2.2.2.2.2.2.2.2.1 x.2.1.2.2.2.2.2.2.2.2.2.2.1 x.2.1.2.2.2.2.2.2.2.2.2.2.2.1 x.2.1.2.2.2.2.2.2.2.2.2.2.2.2.1 x.2.1.2.2.2.2.2.2.2.2.2.2.2.2.2.1 x.2.1.2.2.2.2.2.2.2.2.2.2.2.2.2.2.1 x.2.1.2.2.2.2.2.2.2.2.2.2.2.2.2.2.2.1 x.2.1.2.2.2.2.2.2.2.2.2.2.2.2.2.2.2.2.1 x.2.1.2.2.2.2.2.2.2.2.2.2.2.2.2.2.2.2.2.1 x.2.1.2.2.2.2.2.2.2.2.2.2.2.2.2.2.2.2.2.2.1 x.2.1.2.2.2.2.2.2.2.2.2.2.2.2.2.2.2.2.2.2.2.1, Tryz.f40.results.toList⟩
theorem k74 : FnOK Tryz.prog G 40 e74 := fk cx t74 J74 (lp := P74) Tryz.func40 (by kernel_rfl) (by kernel_rfl) rfl (ng' _ (by kernel_rfl) (nf' l74_0 nk')) fun x => by kernel_rfl
def I75 : Sp := ⟨[(0, oi64)], [], []⟩
def E75 : SL := [(.ret, ⟨[(2, ob)], [], []⟩)]
noncomputable def e75 : Fe G := ⟨I75, E75, fun x => ngt' x.1.1, Tryz.f83.results.toList⟩
theorem k75 : FnOK Tryz.prog G 83 e75 := fk cx tn (jl [(1048577, [(.normal, ⟨[(2, ob)], [], []⟩)])]) (lp := (pl [])) Tryz.func83 (by kernel_rfl) (by kernel_rfl) rfl (an0 (by kernel_rfl)) fun x => by kernel_rfl
def I76 : Sp := ⟨[(0, oro 3), (1, .one (.clo 83 [] []))], [], []⟩
def E76 : SL := [(.ret, ⟨[(4, oi64)], [], []⟩)]
def S76_0 : Sp := ⟨[(0, oro 3), (1, .one (.clo 83 [] [])), (7, oi64), (8, oi64)], [], []⟩
def X76_0 : SL := [(.exit 0, ⟨[], [], []⟩), (.ret, ⟨[(4, oi64)], [], []⟩)]
def J76 : Nat → Option SL := jl []
noncomputable def P76 : Nat → St G → M (Ex × St G) := pl [lpX S76_0 X76_0 nbc']
theorem t76 : ∀ p ∈ [(83, e75)], FnOK Tryz.prog G p.1 p.2 := (tc k75 tn)
theorem l76_0 : LoopOK Tryz.prog G 19 (P76 0) (nn' (nj' Tryz.f108) 0) := lk cx t76 J76 1 S76_0 X76_0 (rfl : nbc' = _) (by kernel_rfl) (an0 (by kernel_rfl)) fun x => by kernel_rfl
noncomputable def e76 : Fe G := ⟨I76, E76, fun x => nb1' x.1.1, Tryz.f108.results.toList⟩
theorem k76 : FnOK Tryz.prog G 108 e76 := fk cx t76 J76 (lp := P76) Tryz.func108 (by kernel_rfl) (by kernel_rfl) rfl (ng' _ (by kernel_rfl) (nf' l76_0 nk')) fun x => by kernel_rfl
def I77 : Sp := ⟨[(0, oro 3), (1, .one (.clo 83 [] []))], [], []⟩
def E77 : SL := [(.ret, ⟨[(4, ob)], [], []⟩)]
noncomputable def e77 : Fe G := ⟨I77, E77, fun x => nbb' x.1.1, Tryz.f69.results.toList⟩
theorem k77 : FnOK Tryz.prog G 69 e77 := fk cx (tc k76 tn) (jl []) (lp := (pl [])) Tryz.func69 (by kernel_rfl) (by kernel_rfl) rfl (an0 (by kernel_rfl)) fun x => by kernel_rfl
def I78 : Sp := ⟨[(0, oi64)], [], []⟩
def E78 : SL := [(.ret, ⟨[(2, ob)], [], []⟩)]
noncomputable def e78 : Fe G := ⟨I78, E78, fun x => ne9' x.1.1, Tryz.f136.results.toList⟩
theorem k78 : FnOK Tryz.prog G 136 e78 := fk cx tn (jl [(1048577, [(.normal, ⟨[(2, ob)], [], []⟩)])]) (lp := (pl [])) Tryz.func136 (by kernel_rfl) (by kernel_rfl) rfl (an0 (by kernel_rfl)) fun x => by kernel_rfl
def I79 : Sp := ⟨[(0, oi64), (1, oi64), (2, oi64)], [], []⟩
def E79 : SL := [(.ret, ⟨[(6, ob)], [], []⟩)]
noncomputable def e79 : Fe G := ⟨I79, E79, fun x => nh2' x.1.1 x.1.2.1 x.1.2.2.1, Tryz.f137.results.toList⟩
theorem k79 : FnOK Tryz.prog G 137 e79 := fk cx tn (jl [(1048577, [(.normal, ⟨[(6, ob)], [], []⟩)])]) (lp := (pl [])) Tryz.func137 (by kernel_rfl) (by kernel_rfl) rfl (an0 (by kernel_rfl)) fun x => by kernel_rfl
def I80 : Sp := ⟨[(0, oi64), (1, .agg c'20)], [], []⟩
def E80 : SL := [(.ret, ⟨[(4, op 64)], [(64, c'20)], []⟩)]
noncomputable def e80 : Fe G := ⟨I80, E80, fun x => nfm' x.1.1 x.1.2.1.1 x.1.2.1.2.1 x.1.2.1.2.2.1, Tryz.f138.results.toList⟩
theorem k80 : FnOK Tryz.prog G 138 e80 := fk cx (tc k30 tn) (jl []) (lp := (pl [])) Tryz.func138 (by kernel_rfl) (by kernel_rfl) rfl (an0 (by kernel_rfl)) fun x => by kernel_rfl
def I81 : Sp := ⟨[(0, ou32)], [], []⟩
def E81 : SL := [(.ret, ⟨[(2, oi64)], [], []⟩)]
noncomputable def e81 : Fe G := ⟨I81, E81, fun x => nco' x.1.1, Tryz.f139.results.toList⟩
theorem k81 : FnOK Tryz.prog G 139 e81 := fk cx tn (jl []) (lp := (pl [])) Tryz.func139 (by kernel_rfl) (by kernel_rfl) rfl (an0 (by kernel_rfl)) fun x => by kernel_rfl
def I82 : Sp := ⟨[(0, ou32)], [], []⟩
def E82 : SL := [(.ret, ⟨[(2, oi64)], [], []⟩)]
noncomputable def e82 : Fe G := ⟨I82, E82, fun x => ng2' x.1.1, Tryz.f140.results.toList⟩
theorem k82 : FnOK Tryz.prog G 140 e82 := fk cx tn (jl [(5, [(.normal, ⟨[(0, ou32), (2, oi64)], [], []⟩)]), (8, [(.normal, ⟨[(0, ou32), (2, oi64)], [], []⟩)])]) (lp := (pl [])) Tryz.func140 (by kernel_rfl) (by kernel_rfl) rfl (an0 (by kernel_rfl)) fun x => by kernel_rfl
def I83 : Sp := ⟨[(0, .one (.own 32768 3)), (1, op 65536), (2, op 65537)], [(65536, [.int .i64]), (65537, [.int .i64])], []⟩
def E83 : SL := [(.ret, ⟨[(4, oi64)], [(65536, [.int .i64]), (65537, [.int .i64])], [65536, 65537]⟩)]
def S83_0 : Sp := ⟨[(5, oi64), (6, oi64), (13, .one (.own 32768 3)), (14, oi64), (15, oi64)], [(65536, [.int .i64]), (65537, [.int .i64])], [65536, 65537]⟩
def X83_0 : SL := [(.exit 0, ⟨[(5, oi64)], [(65536, [.int .i64]), (65537, [.int .i64])], [65536, 65537]⟩)]
def J83 : Nat → Option SL := jl []
noncomputable def P83 : Nat → St G → M (Ex × St G) := pl [lpX S83_0 X83_0 ndr']
theorem l83_0 : LoopOK Tryz.prog G 31 (P83 0) (nn' (nj' Tryz.f141) 0) := lk cx tn J83 1 S83_0 X83_0 (rfl : ndr' = _) (by kernel_rfl) (an0 (by kernel_rfl)) fun x => by kernel_rfl
noncomputable def e83 : Fe G := ⟨I83, E83, fun x => ns' x.1.1 x.2.1.1 x.2.2.1.1, Tryz.f141.results.toList⟩
theorem k83 : FnOK Tryz.prog G 141 e83 := fk cx tn J83 (lp := P83) Tryz.func141 (by kernel_rfl) (by kernel_rfl) rfl (ng' _ (by kernel_rfl) (nf' l83_0 nk')) fun x => by kernel_rfl
def I84 : Sp := ⟨[(0, oi64), (1, oi64), (2, oi64), (3, .agg c'20), (4, oi64), (5, oi64)], [], []⟩
def E84 : SL := [(.ret, ⟨[(12, oi64)], [], []⟩)]
noncomputable def e84 : Fe G := ⟨I84, E84, fun x => ndq' x.1.1 x.1.2.1 x.1.2.2.1 x.1.2.2.2.1.1 x.1.2.2.2.1.2.1 x.1.2.2.2.1.2.2.1 x.1.2.2.2.2.1 x.1.2.2.2.2.2.1, Tryz.f116.results.toList⟩
theorem k84 : FnOK Tryz.prog G 116 e84 := fk cx (tc k78 (tc k79 (tc k80 (tc k81 (tc k82 (tc k83 tn)))))) (jl [(1048583, [(.normal, ⟨[(2, oi64), (5, oi64), (15, oi64), (16, oi64), (17, .one (.clo 141 [] [(112, 0), (160, 0)])), (18, ob)], [(112, [.int .i64]), (160, [.int .i64])], []⟩)]), (1048584, [(.normal, ⟨[(2, oi64), (5, oi64), (15, oi64), (16, oi64), (17, .one (.clo 141 [] [(112, 0), (160, 0)])), (87, ob)], [(112, [.int .i64]), (160, [.int .i64])], []⟩)]), (1048586, [(.normal, ⟨[(2, oi64), (5, oi64), (15, oi64), (16, oi64), (17, .one (.clo 141 [] [(112, 0), (160, 0)])), (100, ob)], [(112, [.int .i64]), (160, [.int .i64])], []⟩)])]) (lp := (pl [])) Tryz.func116 (by kernel_rfl) (by kernel_rfl) rfl (an0 (by kernel_rfl)) fun x => by kernel_rfl
def I85 : Sp := ⟨[(0, ou32)], [], []⟩
def E85 : SL := [(.ret, ⟨[(2, oi64)], [], []⟩)]
noncomputable def e85 : Fe G := ⟨I85, E85, fun x => ncf' x.1.1, Tryz.f142.results.toList⟩
theorem k85 : FnOK Tryz.prog G 142 e85 := fk cx tn (jl []) (lp := (pl [])) Tryz.func142 (by kernel_rfl) (by kernel_rfl) rfl (an0 (by kernel_rfl)) fun x => by kernel_rfl
def I86 : Sp := ⟨[(0, .agg c'13)], [], []⟩
def E86 : SL := [(.ret, ⟨[(2, oi64)], [], []⟩)]
noncomputable def e86 : Fe G := ⟨I86, E86, fun x => nkh' x.1.1.1 x.1.1.2.1, Tryz.f143.results.toList⟩
theorem k86 : FnOK Tryz.prog G 143 e86 := fk cx (tc k85 tn) (jl []) (lp := (pl [])) Tryz.func143 (by kernel_rfl) (by kernel_rfl) rfl (an0 (by kernel_rfl)) fun x => by kernel_rfl
def I87 : Sp := ⟨[(0, oi64), (1, .agg c'20)], [], []⟩
def E87 : SL := [(.ret, ⟨[(4, oi64)], [], []⟩)]
noncomputable def e87 : Fe G := ⟨I87, E87, fun x => nfx' x.1.1 x.1.2.1.1 x.1.2.1.2.1 x.1.2.1.2.2.1, Tryz.f117.results.toList⟩
theorem k87 : FnOK Tryz.prog G 117 e87 := fk cx (tc k78 (tc k80 (tc k85 (tc k86 tn)))) (jl []) (lp := (pl [])) Tryz.func117 (by kernel_rfl) (by kernel_rfl) rfl (an0 (by kernel_rfl)) fun x => by kernel_rfl
def I88 : Sp := ⟨[(0, .agg c'2), (1, oi64), (2, .agg c'15), (3, oi64), (4, oi64)], [], []⟩
def E88 : SL := [(.ret, ⟨[(10, oi64)], [], []⟩)]
noncomputable def e88 : Fe G := ⟨I88, E88, fun x => nc1' x.1.1.1 x.1.1.2.1 x.1.1.2.2.1 x.1.1.2.2.2.1 x.1.1.2.2.2.2.1 x.1.1.2.2.2.2.2.1 x.1.1.2.2.2.2.2.2.1 x.1.1.2.2.2.2.2.2.2.1 x.1.2.1 x.1.2.2.1.1 x.1.2.2.1.2.1 x.1.2.2.1.2.2.1 x.1.2.2.1.2.2.2.1 x.1.2.2.1.2.2.2.2.1 x.1.2.2.1.2.2.2.2.2.1 x.1.2.2.1.2.2.2.2.2.2.1 x.1.2.2.1.2.2.2.2.2.2.2.1 x.1.2.2.1.2.2.2.2.2.2.2.2.1 x.1.2.2.1.2.2.2.2.2.2.2.2.2.1 x.1.2.2.1.2.2.2.2.2.2.2.2.2.2.1 x.1.2.2.1.2.2.2.2.2.2.2.2.2.2.2.1 x.1.2.2.2.1 x.1.2.2.2.2.1, Tryz.f86.results.toList⟩
theorem k88 : FnOK Tryz.prog G 86 e88 := fk cx (tc k28 (tc k84 (tc k87 tn))) (jl [(7, [(.normal, ⟨[(1, oi64), (3, oi64), (4, oi64), (5, op 80), (7, op 112), (11, oi64)], [(80, c'2), (112, c'15)], []⟩)])]) (lp := (pl [])) Tryz.func86 (by kernel_rfl) (by kernel_rfl) rfl (an0 (by kernel_rfl)) fun x => by kernel_rfl
def I89 : Sp := ⟨[(0, .agg c'15)], [], []⟩
def E89 : SL := [(.ret, ⟨[(2, ob)], [], []⟩)]
noncomputable def e89 : Fe G := ⟨I89, E89, fun x => nd3' x.1.1.1 x.1.1.2.1 x.1.1.2.2.1 x.1.1.2.2.2.1 x.1.1.2.2.2.2.1 x.1.1.2.2.2.2.2.1 x.1.1.2.2.2.2.2.2.1 x.1.1.2.2.2.2.2.2.2.1 x.1.1.2.2.2.2.2.2.2.2.1 x.1.1.2.2.2.2.2.2.2.2.2.1 x.1.1.2.2.2.2.2.2.2.2.2.2.1 x.1.1.2.2.2.2.2.2.2.2.2.2.2.1, Tryz.f135.results.toList⟩
theorem k89 : FnOK Tryz.prog G 135 e89 := fk cx tn (jl [(1048577, [(.normal, ⟨[(2, ob)], [], []⟩)])]) (lp := (pl [])) Tryz.func135 (by kernel_rfl) (by kernel_rfl) rfl (an0 (by kernel_rfl)) fun x => by kernel_rfl
def I90 : Sp := ⟨[(0, .agg c'2), (1, oro 46), (2, oi64), (3, oi64), (4, oi64)], [], []⟩
def E90 : SL := [(.ret, ⟨[(10, op 160)], [(160, c'21)], []⟩)]
noncomputable def e90 : Fe G := ⟨I90, E90, fun x => nev' x.1.1.1 x.1.1.2.1 x.1.1.2.2.1 x.1.1.2.2.2.1 x.1.1.2.2.2.2.1 x.1.1.2.2.2.2.2.1 x.1.1.2.2.2.2.2.2.1 x.1.1.2.2.2.2.2.2.2.1 x.1.2.1 x.1.2.2.1 x.1.2.2.2.1 x.1.2.2.2.2.1, Tryz.f133.results.toList⟩
theorem k90 : FnOK Tryz.prog G 133 e90 := fk cx (tc k88 (tc k89 tn)) (jl []) (lp := (pl [])) Tryz.func133 (by kernel_rfl) (by kernel_rfl) rfl (an0 (by kernel_rfl)) fun x => by kernel_rfl
def I91 : Sp := ⟨[(0, .agg c'21), (1, .agg c'21)], [], []⟩
def E91 : SL := [(.ret, ⟨[(4, ob)], [], []⟩)]
noncomputable def e91 : Fe G := ⟨I91, E91, fun x => ne1' x.1.1.1 x.1.1.2.1 x.1.2.1.1 x.1.2.1.2.1, Tryz.f134.results.toList⟩
theorem k91 : FnOK Tryz.prog G 134 e91 := fk cx tn (jl [(1048579, [(.normal, ⟨[(4, ob)], [], []⟩)])]) (lp := (pl [])) Tryz.func134 (by kernel_rfl) (by kernel_rfl) rfl (an0 (by kernel_rfl)) fun x => by kernel_rfl
def I92 : Sp := ⟨[(0, .agg c'2), (1, oro 46), (2, oi64), (3, oi64), (4, oi64)], [], []⟩
def E92 : SL := [(.ret, ⟨[(10, oi64)], [], []⟩)]
def S92_0 : Sp := ⟨[(1, oro 46), (2, oi64), (3, oi64), (4, oi64), (5, op 80), (11, oi64), (12, op 192), (28, oro 46), (29, oi64), (30, oi64)], [(80, c'2), (192, c'21)], []⟩
def X92_0 : SL := [(.exit 0, ⟨[(11, oi64)], [], []⟩)]
def J92 : Nat → Option SL := jl [(1048585, [(.normal, ⟨[(1, oro 46), (2, oi64), (3, oi64), (4, oi64), (5, op 80), (11, oi64), (12, op 192), (13, oi64), (15, op 240), (28, oro 46), (29, oi64), (30, oi64), (55, ob)], [(80, c'2), (192, c'21), (240, c'21)], []⟩)])]
noncomputable def P92 : Nat → St G → M (Ex × St G) := pl [lpX S92_0 X92_0 nff']
theorem t92 : ∀ p ∈ [(63, e28), (133, e90), (134, e91)], FnOK Tryz.prog G p.1 p.2 := (tc k28 (tc k90 (tc k91 tn)))
theorem l92_0 : LoopOK Tryz.prog G 60 (P92 0) (nn' (nj' Tryz.f114) 0) := lk cx t92 J92 1 S92_0 X92_0 (rfl : nff' = _) (by kernel_rfl) (an0 (by kernel_rfl)) fun x => by kernel_rfl
noncomputable def e92 : Fe G := ⟨I92, E92, fun x => ndy' x.1.1.1 x.1.1.2.1 x.1.1.2.2.1 x.1.1.2.2.2.1 x.1.1.2.2.2.2.1 x.1.1.2.2.2.2.2.1 x.1.1.2.2.2.2.2.2.1 x.1.1.2.2.2.2.2.2.2.1 x.1.2.1 x.1.2.2.1 x.1.2.2.2.1 x.1.2.2.2.2.1, Tryz.f114.results.toList⟩
theorem k92 : FnOK Tryz.prog G 114 e92 := fk cx t92 J92 (lp := P92) Tryz.func114 (by kernel_rfl) (by kernel_rfl) rfl (ng' _ (by kernel_rfl) (nf' l92_0 nk')) fun x => by kernel_rfl
def I93 : Sp := ⟨[(0, .agg c'22), (1, .agg c'6), (2, oi64)], [], []⟩
def E93 : SL := [(.ret, ⟨[(6, oi64)], [], []⟩)]
noncomputable def e93 : Fe G := ⟨I93, E93, fun x => ndp' x.1.1.1 x.1.1.2.1 x.1.1.2.2.1 x.1.1.2.2.2.1 x.1.1.2.2.2.2.1 x.1.1.2.2.2.2.2.1 x.1.1.2.2.2.2.2.2.1 x.1.1.2.2.2.2.2.2.2.1 x.1.1.2.2.2.2.2.2.2.2.1 x.1.2.1.1 x.1.2.1.2.1 x.1.2.1.2.2.1 x.1.2.1.2.2.2.1 x.1.2.1.2.2.2.2.1 x.1.2.2.1, Tryz.f115.results.toList⟩
theorem k93 : FnOK Tryz.prog G 115 e93 := fk cx (tc k92 (tc k90 (tc k91 (tc k89 tn)))) (jl [(1048581, [(.normal, ⟨[(3, op 48), (7, oi64), (8, op 128), (9, ob)], [(48, c'22), (128, c'15)], []⟩)]), (1048582, [(.normal, ⟨[(7, oi64), (78, ob)], [], []⟩)])]) (lp := (pl [])) Tryz.func115 (by kernel_rfl) (by kernel_rfl) rfl (an0 (by kernel_rfl)) fun x => by kernel_rfl
def I94 : Sp := ⟨[(0, .agg c'22), (1, .agg c'6), (2, oi64)], [], []⟩
def E94 : SL := [(.ret, ⟨[(6, op 96)], [(96, c'6)], []⟩)]
noncomputable def e94 : Fe G := ⟨I94, E94, fun x => ndi' x.1.1.1 x.1.1.2.1 x.1.1.2.2.1 x.1.1.2.2.2.1 x.1.1.2.2.2.2.1 x.1.1.2.2.2.2.2.1 x.1.1.2.2.2.2.2.2.1 x.1.1.2.2.2.2.2.2.2.1 x.1.1.2.2.2.2.2.2.2.2.1 x.1.2.1.1 x.1.2.1.2.1 x.1.2.1.2.2.1 x.1.2.1.2.2.2.1 x.1.2.1.2.2.2.2.1 x.1.2.2.1, Tryz.f84.results.toList⟩
theorem k94 : FnOK Tryz.prog G 84 e94 := fk cx (tc k92 (tc k93 tn)) (jl [(1048581, [(.normal, ⟨[(2, oi64), (3, op 48), (4, op 64), (6, op 96), (7, oi64), (31, ob)], [(48, c'22), (64, c'6), (96, c'6)], []⟩)]), (1048586, [(.normal, ⟨[(2, oi64), (3, op 48), (4, op 64), (6, op 96), (70, ob)], [(48, c'22), (64, c'6), (96, c'6)], []⟩)])]) (lp := (pl [])) Tryz.func84 (by kernel_rfl) (by kernel_rfl) rfl (an0 (by kernel_rfl)) fun x => by kernel_rfl
def I95 : Sp := ⟨[(0, .agg c'6), (1, .agg c'6)], [], []⟩
def E95 : SL := [(.ret, ⟨[(4, .one (.own 32768 66))], [], []⟩)]
noncomputable def e95 : Fe G := ⟨I95, E95, fun x => nf6' x.1.1.1 x.1.1.2.1 x.1.1.2.2.1 x.1.1.2.2.2.1 x.1.1.2.2.2.2.1 x.1.2.1.1 x.1.2.1.2.1 x.1.2.1.2.2.1 x.1.2.1.2.2.2.1 x.1.2.1.2.2.2.2.1, Tryz.f85.results.toList⟩
theorem k95 : FnOK Tryz.prog G 85 e95 := fk cx tn (jl [(8, [(.normal, ⟨[(2, op 32), (3, op 48), (5, .one (.own 32768 66))], [(32, c'6), (48, c'6)], []⟩)]), (1048578, [(.normal, ⟨[(2, op 32), (3, op 48), (5, .one (.own 32768 66)), (18, ob)], [(32, c'6), (48, c'6)], []⟩)])]) (lp := (pl [])) Tryz.func85 (by kernel_rfl) (by kernel_rfl) rfl (an0 (by kernel_rfl)) fun x => by kernel_rfl
def I96 : Sp := ⟨[(0, .agg c'2), (1, .agg c'7), (2, oro 3), (3, oro 46)], [], []⟩
def E96 : SL := [(.ret, ⟨[(8, .one (.own 32768 66)), (9, .one (.own 32769 3)), (10, oi64)], [], []⟩)]
def S96_0 : Sp := ⟨[(2, oro 3), (3, oro 46), (4, op 64), (11, op 176), (12, .one (.own 32768 66)), (13, .one (.own 32769 3)), (48, oro 63), (49, oi64), (50, oi64)], [(64, c'2), (176, c'22)], []⟩
def X96_0 : SL := [(.exit 0, ⟨[(12, .one (.own 32768 66)), (13, .one (.own 32769 3))], [], []⟩)]
def J96 : Nat → Option SL := jl [(1048588, [(.normal, ⟨[(2, oro 3), (3, oro 46), (4, op 64), (11, op 176), (12, .one (.own 32768 66)), (13, .one (.own 32769 3)), (14, oi64), (15, op 240), (16, op 256), (48, oro 63), (49, oi64), (50, oi64), (85, ob)], [(64, c'2), (176, c'22), (240, c'6), (256, c'6)], []⟩)])]
noncomputable def P96 : Nat → St G → M (Ex × St G) := pl [lpX S96_0 X96_0 ng1']
theorem t96 : ∀ p ∈ [(33, e42), (69, e77), (84, e94), (85, e95), (86, e88)], FnOK Tryz.prog G p.1 p.2 := (tc k42 (tc k77 (tc k94 (tc k95 (tc k88 tn)))))
theorem l96_0 : LoopOK Tryz.prog G 114 (P96 0) (nn' (nj' Tryz.f42) 0) := lk cx t96 J96 1 S96_0 X96_0 (rfl : ng1' = _) (by kernel_rfl) (an0 (by kernel_rfl)) fun x => by kernel_rfl
noncomputable def e96 : Fe G := ⟨I96, E96, fun x => ney' x.1.1.1 x.1.1.2.1 x.1.1.2.2.1 x.1.1.2.2.2.1 x.1.1.2.2.2.2.1 x.1.1.2.2.2.2.2.1 x.1.1.2.2.2.2.2.2.1 x.1.1.2.2.2.2.2.2.2.1 x.1.2.1.1 x.1.2.1.2.1 x.1.2.1.2.2.1 x.1.2.1.2.2.2.1 x.1.2.2.1 x.1.2.2.2.1, Tryz.f42.results.toList⟩
theorem k96 : FnOK Tryz.prog G 42 e96 := fk cx t96 J96 (lp := P96) Tryz.func42 (by kernel_rfl) (by kernel_rfl) rfl (ng' _ (by kernel_rfl) (nf' l96_0 nk')) fun x => by kernel_rfl
def I97 : Sp := ⟨[(0, .agg c'2), (1, .agg c'7), (2, oro 3), (3, oro 46), (4, oro 26), (5, .agg c'13), (6, ob)], [], []⟩
def E97 : SL := [(.ret, ⟨[(14, op 224), (15, oi64)], [(224, c'23)], []⟩)]
noncomputable def e97 : Fe G := ⟨I97, E97, fun x => nbw' x.1.1.1 x.1.1.2.1 x.1.1.2.2.1 x.1.1.2.2.2.1 x.1.1.2.2.2.2.1 x.1.1.2.2.2.2.2.1 x.1.1.2.2.2.2.2.2.1 x.1.1.2.2.2.2.2.2.2.1 x.1.2.1.1 x.1.2.1.2.1 x.1.2.1.2.2.1 x.1.2.1.2.2.2.1 x.1.2.2.1 x.1.2.2.2.1 x.1.2.2.2.2.1 x.1.2.2.2.2.2.1.1 x.1.2.2.2.2.2.1.2.1 x.1.2.2.2.2.2.2.1, Tryz.f11.results.toList⟩
theorem k97 : FnOK Tryz.prog G 11 e97 := fk cx (tc k34 (tc k42 (tc k46 (tc k50 (tc k47 (tc k51 (tc k54 (tc k69 (tc k71 (tc k74 (tc k96 tn))))))))))) (jl [(11, [(.normal, ⟨[(3, oro 46), (7, op 112), (14, op 224), (18, op 736)], [(112, c'2), (224, c'23), (736, c'24)], []⟩)])]) (lp := (pl [])) Tryz.func11 (by kernel_rfl) (by kernel_rfl) rfl (an0 (by kernel_rfl)) fun x => by kernel_rfl
def I98 : Sp := ⟨[(0, oro 66), (1, oro 66)], [], []⟩
def E98 : SL := [(.ret, ⟨[(4, ob)], [], []⟩)]
def S98_0 : Sp := ⟨[(0, oro 66), (1, oro 66), (12, oi64), (13, oi64)], [], []⟩
def X98_0 : SL := [(.exit 0, ⟨[], [], []⟩), (.ret, ⟨[(4, ob)], [], []⟩)]
def J98 : Nat → Option SL := jl []
noncomputable def P98 : Nat → St G → M (Ex × St G) := pl [lpX S98_0 X98_0 nb4']
theorem l98_0 : LoopOK Tryz.prog G 26 (P98 0) (nn' (nj' Tryz.f54) 0) := lk cx tn J98 1 S98_0 X98_0 (rfl : nb4' = _) (by kernel_rfl) (an0 (by kernel_rfl)) fun x => by kernel_rfl
noncomputable def e98 : Fe G := ⟨I98, E98, fun x => ndg' x.1.1 x.1.2.1, Tryz.f54.results.toList⟩
theorem k98 : FnOK Tryz.prog G 54 e98 := fk cx tn J98 (lp := P98) Tryz.func54 (by kernel_rfl) (by kernel_rfl) rfl (ng' _ (by kernel_rfl) (nf' l98_0 nk')) fun x => by kernel_rfl
def I99 : Sp := ⟨[(0, oro 3), (1, oro 3)], [], []⟩
def E99 : SL := [(.ret, ⟨[(4, ob)], [], []⟩)]
def S99_0 : Sp := ⟨[(0, oro 3), (1, oro 3), (12, oi64), (13, oi64)], [], []⟩
def X99_0 : SL := [(.exit 0, ⟨[], [], []⟩), (.ret, ⟨[(4, ob)], [], []⟩)]
def J99 : Nat → Option SL := jl []
noncomputable def P99 : Nat → St G → M (Ex × St G) := pl [lpX S99_0 X99_0 ndt']
theorem l99_0 : LoopOK Tryz.prog G 26 (P99 0) (nn' (nj' Tryz.f56) 0) := lk cx tn J99 1 S99_0 X99_0 (rfl : ndt' = _) (by kernel_rfl) (an0 (by kernel_rfl)) fun x => by kernel_rfl
noncomputable def e99 : Fe G := ⟨I99, E99, fun x => neb' x.1.1 x.1.2.1, Tryz.f56.results.toList⟩
theorem k99 : FnOK Tryz.prog G 56 e99 := fk cx tn J99 (lp := P99) Tryz.func56 (by kernel_rfl) (by kernel_rfl) rfl (ng' _ (by kernel_rfl) (nf' l99_0 nk')) fun x => by kernel_rfl
def I100 : Sp := ⟨[(0, oro 4), (1, oro 4)], [], []⟩
def E100 : SL := [(.ret, ⟨[(4, ob)], [], []⟩)]
def n0p' : Sp := ⟨[(0, oro 4), (1, oro 4), (12, oi64), (13, oi64)], [], []⟩
def n17' : SL := [(.exit 0, ⟨[], [], []⟩), (.ret, ⟨[(4, ob)], [], []⟩)]
def J100 : Nat → Option SL := jl []
noncomputable def P100 : Nat → St G → M (Ex × St G) := pl [lpX n0p' n17' ndh']
theorem n59' : LoopOK Tryz.prog G 26 (P100 0) (nn' (nj' Tryz.f93) 0) := lk cx tn J100 1 n0p' n17' (rfl : ndh' = _) (by kernel_rfl) (an0 (by kernel_rfl)) fun x => by kernel_rfl
noncomputable def e100 : Fe G := ⟨I100, E100, fun x => ncl' x.1.1 x.1.2.1, Tryz.f93.results.toList⟩
theorem k100 : FnOK Tryz.prog G 93 e100 := fk cx tn J100 (lp := P100) Tryz.func93 (by kernel_rfl) (by kernel_rfl) rfl (ng' _ (by kernel_rfl) (nf' n59' nk')) fun x => by kernel_rfl
def I101 : Sp := ⟨[(0, oro 63), (1, oro 63)], [], []⟩
def E101 : SL := [(.ret, ⟨[(4, ob)], [], []⟩)]
def n1g' : Sp := ⟨[(0, oro 63), (1, oro 63), (12, oi64), (13, oi64)], [], []⟩
def n0e' : SL := [(.exit 0, ⟨[], [], []⟩), (.ret, ⟨[(4, ob)], [], []⟩)]
def J101 : Nat → Option SL := jl []
noncomputable def P101 : Nat → St G → M (Ex × St G) := pl [lpX n1g' n0e' nca']
theorem n5r' : LoopOK Tryz.prog G 26 (P101 0) (nn' (nj' Tryz.f94) 0) := lk cx tn J101 1 n1g' n0e' (rfl : nca' = _) (by kernel_rfl) (an0 (by kernel_rfl)) fun x => by kernel_rfl
noncomputable def e101 : Fe G := ⟨I101, E101, fun x => ndn' x.1.1 x.1.2.1, Tryz.f94.results.toList⟩
theorem k101 : FnOK Tryz.prog G 94 e101 := fk cx tn J101 (lp := P101) Tryz.func94 (by kernel_rfl) (by kernel_rfl) rfl (ng' _ (by kernel_rfl) (nf' n5r' nk')) fun x => by kernel_rfl
def I102 : Sp := ⟨[(0, .agg c'7), (1, .agg c'7)], [], []⟩
def E102 : SL := [(.ret, ⟨[(4, ob)], [], []⟩)]
noncomputable def e102 : Fe G := ⟨I102, E102, fun x => nsa' x.1.1.1 x.1.1.2.1 x.1.1.2.2.1 x.1.1.2.2.2.1 x.1.2.1.1 x.1.2.1.2.1 x.1.2.1.2.2.1 x.1.2.1.2.2.2.1, Tryz.f55.results.toList⟩
theorem k102 : FnOK Tryz.prog G 55 e102 := fk cx (tc k99 (tc k100 (tc k101 tn))) (jl [(1048577, [(.normal, ⟨[(4, ob)], [], []⟩)])]) (lp := (pl [])) Tryz.func55 (by kernel_rfl) (by kernel_rfl) rfl (an0 (by kernel_rfl)) fun x => by kernel_rfl
def I103 : Sp := ⟨[(0, oro 26), (1, oro 26)], [], []⟩
def E103 : SL := [(.ret, ⟨[(4, ob)], [], []⟩)]
def n1q' : Sp := ⟨[(0, oro 26), (1, oro 26), (12, oi64), (13, oi64)], [], []⟩
def n0s' : SL := [(.exit 0, ⟨[], [], []⟩), (.ret, ⟨[(4, ob)], [], []⟩)]
def J103 : Nat → Option SL := jl []
noncomputable def P103 : Nat → St G → M (Ex × St G) := pl [lpX n1q' n0s' nb9']
theorem n56' : LoopOK Tryz.prog G 26 (P103 0) (nn' (nj' Tryz.f95) 0) := lk cx tn J103 1 n1q' n0s' (rfl : nb9' = _) (by kernel_rfl) (an0 (by kernel_rfl)) fun x => by kernel_rfl
noncomputable def e103 : Fe G := ⟨I103, E103, fun x => ndo' x.1.1 x.1.2.1, Tryz.f95.results.toList⟩
theorem k103 : FnOK Tryz.prog G 95 e103 := fk cx tn J103 (lp := P103) Tryz.func95 (by kernel_rfl) (by kernel_rfl) rfl (ng' _ (by kernel_rfl) (nf' n56' nk')) fun x => by kernel_rfl
def I104 : Sp := ⟨[(0, .agg c'25), (1, .agg c'25)], [], []⟩
def E104 : SL := [(.ret, ⟨[(4, ob)], [], []⟩)]
noncomputable def e104 : Fe G := ⟨I104, E104, fun x => nna' x.1.1.1 x.1.1.2.1 x.1.1.2.2.1 x.1.1.2.2.2.1 x.1.2.1.1 x.1.2.1.2.1 x.1.2.1.2.2.1 x.1.2.1.2.2.2.1, Tryz.f57.results.toList⟩
theorem k104 : FnOK Tryz.prog G 57 e104 := fk cx (tc k103 (tc k100 tn)) (jl [(1048577, [(.normal, ⟨[(4, ob)], [], []⟩)])]) (lp := (pl [])) Tryz.func57 (by kernel_rfl) (by kernel_rfl) rfl (an0 (by kernel_rfl)) fun x => by kernel_rfl
def I105 : Sp := ⟨[(0, .agg c'26), (1, .agg c'26)], [], []⟩
def E105 : SL := [(.ret, ⟨[(4, ob)], [], []⟩)]
noncomputable def e105 : Fe G := ⟨I105, E105, fun x => ngx' x.1.1.1 x.1.1.2.1 x.1.1.2.2.1 x.1.1.2.2.2.1 x.1.1.2.2.2.2.1 x.1.1.2.2.2.2.2.1 x.1.1.2.2.2.2.2.2.1 x.1.1.2.2.2.2.2.2.2.1 x.1.1.2.2.2.2.2.2.2.2.1 x.1.1.2.2.2.2.2.2.2.2.2.1 x.1.1.2.2.2.2.2.2.2.2.2.2.1 x.1.1.2.2.2.2.2.2.2.2.2.2.2.1 x.1.2.1.1 x.1.2.1.2.1 x.1.2.1.2.2.1 x.1.2.1.2.2.2.1 x.1.2.1.2.2.2.2.1 x.1.2.1.2.2.2.2.2.1 x.1.2.1.2.2.2.2.2.2.1 x.1.2.1.2.2.2.2.2.2.2.1 x.1.2.1.2.2.2.2.2.2.2.2.1 x.1.2.1.2.2.2.2.2.2.2.2.2.1 x.1.2.1.2.2.2.2.2.2.2.2.2.2.1 x.1.2.1.2.2.2.2.2.2.2.2.2.2.2.1, Tryz.f15.results.toList⟩
theorem k105 : FnOK Tryz.prog G 15 e105 := fk cx (tc k98 (tc k102 (tc k99 (tc k104 tn)))) (jl [(1048577, [(.normal, ⟨[(4, ob)], [], []⟩)])]) (lp := (pl [])) Tryz.func15 (by kernel_rfl) (by kernel_rfl) rfl (an0 (by kernel_rfl)) fun x => by kernel_rfl
def I106 : Sp := ⟨[], [], []⟩
def E106 : SL := [(.ret, ⟨[(0, ob)], [], []⟩)]
noncomputable def H106 (h_l10_Building : ((Int × Int × Unit) × Unit) → Option ((Unit × Unit) × (T'0 × Unit))) (h_r10_Initial : ((T'0 × Unit) × Unit) → Option ((Unit × Unit) × (T'5 × Unit))) (h_dispatch_Tick : (T'74 × Unit) → Option ((Unit × Int × Unit) × (T'51 × Unit))) (h_dispatch_Same : ((T'51 × T'51 × Unit) × Unit) → Option ((Bool × Unit) × Unit))  : Option ((Bool × Unit) × Unit) :=
 (h_l10_Building (((9 : Int), (90 : Int), ()), ())).bind fun y1 =>
 let z0 : List (View) := [(View.mk true true false false (0 : Int) (0 : Int) (0 : Int) (0 : Int) (0 : Int) (0 : Int) (0 : Int) (0 : Int)), (View.mk false false false false (0 : Int) (0 : Int) (0 : Int) (0 : Int) (0 : Int) (0 : Int) (0 : Int) (0 : Int))]
 (h_r10_Initial ((y1.2.1, ()), ())).bind fun y2 =>
 (h_dispatch_Tick ((y1.2.1, y2.2.1, ([] : List (Int)), z0, (List.replicate (Int.toNat (2 : Int)) (Calls.mk (0 : Int) (0 : Int))), ((4 : Int), (0 : Int), ()), true, ()), ())).bind fun y3 =>
 bif (inB (0 : Int) (List.length z0)) then
 let z1 : Nat := (Int.toNat (0 : Int))
 let z2 : View := (List.getD z0 z1 (View.mk false false false false (0 : Int) (0 : Int) (0 : Int) (0 : Int) (0 : Int) (0 : Int) (0 : Int) (0 : Int)))
 (h_dispatch_Tick ((y1.2.1, (y3.2.1.2.1, y3.2.1.2.2.1, y3.2.1.2.2.2.1, y3.2.1.2.2.2.2.1, ()), y3.2.1.2.2.2.2.2.1, (List.set z0 z1 (View.mk z2.Ready z2.Serving z2.Legacy z2.Lost z2.Floor z2.Dir z2.Load (4 : Int) (0 : Int) z2.Stops_Car z2.Stops_Hall_Up z2.Stops_Hall_Down)), (List.replicate (Int.toNat (2 : Int)) (Calls.mk (0 : Int) (0 : Int))), ((4 : Int), (0 : Int), ()), true, ()), ())).bind fun y4 =>
 Option.bind (bif (y3.1.2.1 == (0 : Int)) then
 bif (((List.length y3.2.1.1 : Nat) : Int) == (2 : Int)) then
 bif (((List.length y3.2.1.2.2.2.2.1 : Nat) : Int) == (1 : Int)) then
 bif (inB (0 : Int) (List.length y3.2.1.2.2.2.2.1)) then
 let z3 : Entry := (List.getD y3.2.1.2.2.2.2.1 (Int.toNat (0 : Int)) (Entry.mk (0 : Int) (0 : Int) (0 : Int) (0 : Int) false))
 bif ((z3.Floor == (2 : Int)) && ((z3.Dir == (1 : Int)) && ((z3.Car == (0 : Int)) && ((z3.Moves == (0 : Int)) && ((z3.Moved == false) && true))))) then
 bif (y4.1.2.1 == (0 : Int)) then
 bif (((List.length y4.2.1.2.2.2.2.1 : Nat) : Int) == (0 : Int)) then
 bif ((y4.2.1.2.2.2.2.2.2.2.2.1 == (4 : Int)) && ((y4.2.1.2.2.2.2.2.2.2.2.2.1 == (0 : Int)) && true)) then
 (h_dispatch_Same ((y4.2.1, y4.2.1, ()), ())).bind fun y5 =>
 bif y5.1.1 then
 (h_dispatch_Same ((y3.2.1, y4.2.1, ()), ())).bind fun y6 =>
 some (((!y6.1.1), ()), ())
 else
 some ((false, ()), ())
 else
 some ((false, ()), ())
 else
 some ((false, ()), ())
 else
 some ((false, ()), ())
 else
 some ((false, ()), ())
 else
 none
 else
 some ((false, ()), ())
 else
 some ((false, ()), ())
 else
 some ((false, ()), ())) fun y7 =>
 some ((y7.1.1, ()), ())
 else
 none
theorem q106 (h_l10_Building : ((Int × Int × Unit) × Unit) → Option ((Unit × Unit) × (T'0 × Unit))) (h_r10_Initial : ((T'0 × Unit) × Unit) → Option ((Unit × Unit) × (T'5 × Unit))) (h_dispatch_Tick : (T'74 × Unit) → Option ((Unit × Int × Unit) × (T'51 × Unit))) (h_dispatch_Same : ((T'51 × T'51 × Unit) × Unit) → Option ((Bool × Unit) × Unit)) (x : I106.T G) : endI (cfP [(8, Fe.mk (G := G) I1 E1 h_l10_Building Tryz.f8.results.toList), (27, Fe.mk (G := G) I5 E5 h_r10_Initial Tryz.f27.results.toList), (11, Fe.mk (G := G) I97 E97 h_dispatch_Tick Tryz.f11.results.toList), (15, Fe.mk (G := G) I105 E105 h_dispatch_Same Tryz.f15.results.toList)]) (pl []) (jl [(1048584, [(.normal, ⟨[(0, ob)], [], []⟩)])]) 94 (nj' Tryz.f16) I106 E106 x = H106 h_l10_Building h_r10_Initial h_dispatch_Tick h_dispatch_Same  := by kernel_rfl
noncomputable def e106 : Fe G := ⟨I106, E106, fun _ => ni1', Tryz.f16.results.toList⟩
theorem k106 : FnOK Tryz.prog G 16 e106 := fk cx (tc k1 (tc k5 (tc k97 (tc k105 tn)))) (jl [(1048584, [(.normal, ⟨[(0, ob)], [], []⟩)])]) (lp := (pl [])) Tryz.func16 (by kernel_rfl) (by kernel_rfl) rfl (an0 (by kernel_rfl)) fun x => (q106 (fun x => ncu' x.1.1 x.1.2.1) (fun x => neq' x.1.1.1 x.1.1.2.1 x.1.1.2.2.1 x.1.1.2.2.2.1 x.1.1.2.2.2.2.1 x.1.1.2.2.2.2.2.1 x.1.1.2.2.2.2.2.2.1 x.1.1.2.2.2.2.2.2.2.1) (fun x => nbw' x.1.1.1 x.1.1.2.1 x.1.1.2.2.1 x.1.1.2.2.2.1 x.1.1.2.2.2.2.1 x.1.1.2.2.2.2.2.1 x.1.1.2.2.2.2.2.2.1 x.1.1.2.2.2.2.2.2.2.1 x.1.2.1.1 x.1.2.1.2.1 x.1.2.1.2.2.1 x.1.2.1.2.2.2.1 x.1.2.2.1 x.1.2.2.2.1 x.1.2.2.2.2.1 x.1.2.2.2.2.2.1.1 x.1.2.2.2.2.2.1.2.1 x.1.2.2.2.2.2.2.1) (fun x => ngx' x.1.1.1 x.1.1.2.1 x.1.1.2.2.1 x.1.1.2.2.2.1 x.1.1.2.2.2.2.1 x.1.1.2.2.2.2.2.1 x.1.1.2.2.2.2.2.2.1 x.1.1.2.2.2.2.2.2.2.1 x.1.1.2.2.2.2.2.2.2.2.1 x.1.1.2.2.2.2.2.2.2.2.2.1 x.1.1.2.2.2.2.2.2.2.2.2.2.1 x.1.1.2.2.2.2.2.2.2.2.2.2.2.1 x.1.2.1.1 x.1.2.1.2.1 x.1.2.1.2.2.1 x.1.2.1.2.2.2.1 x.1.2.1.2.2.2.2.1 x.1.2.1.2.2.2.2.2.1 x.1.2.1.2.2.2.2.2.2.1 x.1.2.1.2.2.2.2.2.2.2.1 x.1.2.1.2.2.2.2.2.2.2.2.1 x.1.2.1.2.2.2.2.2.2.2.2.2.1 x.1.2.1.2.2.2.2.2.2.2.2.2.2.1 x.1.2.1.2.2.2.2.2.2.2.2.2.2.2.1) x).trans (by kernel_rfl)
def I107 : Sp := ⟨[(0, .agg c'27)], [], []⟩
def E107 : SL := [(.ret, ⟨[(2, ob)], [], []⟩)]
def S107_0 : Sp := ⟨[(5, oro 5), (6, op 96), (7, op 112), (8, op 128), (9, op 144), (10, op 160), (11, oi64)], [(96, c'13), (112, c'0), (128, c'11), (144, c'13), (160, c'13)], []⟩
def nwg' : SL := [(.exit 0, ⟨[], [], []⟩), (.ret, ⟨[(2, ob)], [], []⟩)]
def J107 : Nat → Option SL := jl [(16, [(.normal, ⟨[(5, oro 5), (6, op 96), (7, op 112), (8, op 128), (9, op 144), (10, op 160), (11, oi64), (12, op 192), (14, op 224)], [(96, c'13), (112, c'0), (128, c'11), (144, c'13), (160, c'13), (192, c'28), (224, c'13)], []⟩)]), (1048591, [(.normal, ⟨[(5, oro 5), (6, op 96), (7, op 112), (8, op 128), (9, op 144), (10, op 160), (11, oi64), (12, op 192), (108, ob)], [(96, c'13), (112, c'0), (128, c'11), (144, c'13), (160, c'13), (192, c'28)], []⟩)]), (1048593, [(.normal, ⟨[(5, oro 5), (6, op 96), (7, op 112), (8, op 128), (9, op 144), (10, op 160), (11, oi64), (128, ob)], [(96, c'13), (112, c'0), (128, c'11), (144, c'13), (160, c'13)], []⟩)])]
noncomputable def P107 : Nat → St G → M (Ex × St G) := pl [lpX S107_0 nwg' ncw']
theorem t107 : ∀ p ∈ [(8, e1), (9, e15), (17, e18), (20, e19), (19, e20), (18, e21), (12, e22), (10, e24), (11, e97), (21, e17), (16, e106)], FnOK Tryz.prog G p.1 p.2 := (tc k1 (tc k15 (tc k18 (tc k19 (tc k20 (tc k21 (tc k22 (tc k24 (tc k97 (tc k17 (tc k106 tn)))))))))))
noncomputable def n4k' (_h_l24_sane : (Unit × Unit) → Option ((Bool × Unit) × Unit)) (k : List (Int)) (i press_Up press_Down b_Floors b_Debounce b_Room b_Park : Int) (b_Empty b_Full b_Over : Nat) (b_Cars : List (Car)) (m_Phases : List (Int)) (m_Flags m_Leaving : List (Bool)) (m_Entries : List (Entry)) (was_Up was_Down fresh_Up fresh_Down : Int) : Option (Sum (T'57 × T'58) ((Unit × Unit) ⊕ ((Bool × Unit) × Unit))) :=
 bif (decide (i < (2 : Int))) then
 (nde' m_Phases m_Flags m_Leaving m_Entries k).bind fun y1 =>
 (ned' b_Floors b_Debounce b_Room b_Park b_Empty b_Full b_Over b_Cars k).bind fun y2 =>
 let z0 : Int := ((List.length b_Cars : Nat) : Int)
 bif (((decide ((0 : Int) ≤ z0)) && (decide (z0 ≤ z0))) && (decide (z0 ≤ (2147483648 : Int)))) then
 (nbw' b_Floors b_Debounce b_Room b_Park b_Empty b_Full b_Over b_Cars m_Phases m_Flags m_Leaving m_Entries y1.1.1 y2.1.1 (List.replicate (Int.toNat z0) (Calls.mk (0 : Int) (0 : Int))) press_Up press_Down (i == (0 : Int))).bind fun y3 =>
 bif (y3.1.2.1 != (0 : Int)) then
 some (Sum.inr (Sum.inr ((false, ()), ())))
 else
 Option.bind (bif (i == (0 : Int)) then
 (nby' was_Up was_Down y3.2.1.2.2.2.2.2.2.2.2.1 y3.2.1.2.2.2.2.2.2.2.2.2.1).bind fun y4 =>
 (nby' fresh_Up fresh_Down y3.2.1.2.2.2.2.2.2.2.2.2.2.1 y3.2.1.2.2.2.2.2.2.2.2.2.2.2.1).bind fun y5 =>
 (nfb' y4.2.1.1 y4.2.1.2.1 y5.2.1.1 y5.2.1.2.1).bind fun y6 =>
 some ((k, (), (), (), (), (), i, (), (), ()), ((press_Up, press_Down, ()), (b_Floors, b_Debounce, b_Room, b_Park, b_Empty, b_Full, b_Over, b_Cars, ()), (m_Phases, m_Flags, m_Leaving, m_Entries, ()), (was_Up, was_Down, ()), (fresh_Up, fresh_Down, ()), y3.2.1, y6.2.1, ()))
 else
 some ((k, (), (), (), (), (), i, (), (), ()), ((press_Up, press_Down, ()), (b_Floors, b_Debounce, b_Room, b_Park, b_Empty, b_Full, b_Over, b_Cars, ()), (m_Phases, m_Flags, m_Leaving, m_Entries, ()), (was_Up, was_Down, ()), (fresh_Up, fresh_Down, ()), y3.2.1, (was_Up, was_Down, ()), ()))) fun y7 =>
 Option.bind ((nh8' y7.2.2.2.2.2.2.1.2.2.2.2.1).bind fun y8 =>
 bif (!((y8.2.1.1 == y7.2.2.2.2.2.2.2.1.1) && ((y8.2.1.2.1 == y7.2.2.2.2.2.2.2.1.2.1) && true))) then
 some ((y7.1.1, (), (), (), (), (), y7.1.2.2.2.2.2.2.1, (), true, ()), (y7.2.1, y7.2.2.1, y7.2.2.2.1, y7.2.2.2.2.1, y7.2.2.2.2.2.1, y7.2.2.2.2.2.2.1, ()))
 else
 bif (y7.1.2.2.2.2.2.2.1 == (1 : Int)) then
 bif (!((y7.2.2.2.2.2.2.1.2.2.2.2.2.2.2.2.2.2.1 == (0 : Int)) && ((y7.2.2.2.2.2.2.1.2.2.2.2.2.2.2.2.2.2.2.1 == (0 : Int)) && true))) then
 some ((y7.1.1, (), (), (), (), (), y7.1.2.2.2.2.2.2.1, (), true, ()), (y7.2.1, y7.2.2.1, y7.2.2.2.1, y7.2.2.2.2.1, y7.2.2.2.2.2.1, y7.2.2.2.2.2.2.1, ()))
 else
 bif (!((y7.2.2.2.2.2.2.1.2.2.2.2.2.2.2.2.1 == (0 : Int)) && ((y7.2.2.2.2.2.2.1.2.2.2.2.2.2.2.2.2.1 == (0 : Int)) && true))) then
 some ((y7.1.1, (), (), (), (), (), y7.1.2.2.2.2.2.2.1, (), true, ()), (y7.2.1, y7.2.2.1, y7.2.2.2.1, y7.2.2.2.2.1, y7.2.2.2.2.2.1, y7.2.2.2.2.2.2.1, ()))
 else
 (nby' y7.2.2.2.2.2.2.1.2.2.2.2.2.2.2.2.2.2.1 y7.2.2.2.2.2.2.1.2.2.2.2.2.2.2.2.2.2.2.1 y7.2.2.2.2.2.1.1 y7.2.2.2.2.2.1.2.1).bind fun y9 =>
 some ((y7.1.1, (), (), (), (), (), y7.1.2.2.2.2.2.2.1, (), (!((y9.2.1.1 == (0 : Int)) && ((y9.2.1.2.1 == (0 : Int)) && true))), ()), (y7.2.1, y7.2.2.1, y7.2.2.2.1, y7.2.2.2.2.1, y7.2.2.2.2.2.1, y7.2.2.2.2.2.2.1, ()))
 else
 (nby' y7.2.2.2.2.2.2.1.2.2.2.2.2.2.2.2.2.2.1 y7.2.2.2.2.2.2.1.2.2.2.2.2.2.2.2.2.2.2.1 y7.2.2.2.2.2.1.1 y7.2.2.2.2.2.1.2.1).bind fun y10 =>
 some ((y7.1.1, (), (), (), (), (), y7.1.2.2.2.2.2.2.1, (), (!((y10.2.1.1 == (0 : Int)) && ((y10.2.1.2.1 == (0 : Int)) && true))), ()), (y7.2.1, y7.2.2.1, y7.2.2.2.1, y7.2.2.2.2.1, y7.2.2.2.2.2.1, y7.2.2.2.2.2.2.1, ()))) fun y11 =>
 bif y11.1.2.2.2.2.2.2.2.2.1 then
 some (Sum.inr (Sum.inr ((false, ()), ())))
 else
 Option.bind (bif (!((y11.2.2.2.2.2.2.1.2.2.2.2.2.2.2.2.2.2.1 == (0 : Int)) && ((y11.2.2.2.2.2.2.1.2.2.2.2.2.2.2.2.2.2.2.1 == (0 : Int)) && true))) then
 some ((y11.1.1, (), (), (), (), (), y11.1.2.2.2.2.2.2.1, (decide ((IntKind.i64.wrap ((IntKind.i64.wrap ((18 : Int) * (IntKind.i64.wrap ((IntKind.i64.wrap (((List.length y11.2.2.1.2.2.2.2.2.2.2.1 : Nat) : Int) + ((List.length y11.2.2.2.2.2.2.1.2.2.2.2.1 : Nat) : Int))) + (1 : Int))))) + (6 : Int))) ≤ y11.2.2.1.2.2.1)), ()), (y11.2.1, y11.2.2.1, y11.2.2.2.1, y11.2.2.2.2.1, y11.2.2.2.2.2.1, ()))
 else
 some ((y11.1.1, (), (), (), (), (), y11.1.2.2.2.2.2.2.1, false, ()), (y11.2.1, y11.2.2.1, y11.2.2.2.1, y11.2.2.2.2.1, y11.2.2.2.2.2.1, ()))) fun y12 =>
 bif y12.1.2.2.2.2.2.2.2.1 then
 some (Sum.inr (Sum.inr ((false, ()), ())))
 else
 some (Sum.inl ((y12.1.1, (), (), (), (), (), (IntKind.i64.wrap (y12.1.2.2.2.2.2.2.1 + (1 : Int))), ()), (y12.2.1, y12.2.2.1, y12.2.2.2.1, y12.2.2.2.2.1, y12.2.2.2.2.2.1, ())))
 else
 none
 else
 some (Sum.inr (Sum.inl ((), ())))
theorem n5q' (h_l24_sane : (Unit × Unit) → Option ((Bool × Unit) × Unit)) (x : S107_0.T G) : rndI (cfP [(8, e1), (9, e15), (17, e18), (20, e19), (19, e20), (18, e21), (12, e22), (10, e24), (11, e97), (21, e17), (16, Fe.mk (G := G) I106 E106 h_l24_sane Tryz.f16.results.toList)]) P107 J107 130 1 (nn' (nj' Tryz.f4) 0) S107_0 nwg' x = n4k' h_l24_sane x.1.1 x.1.2.2.2.2.2.2.1 x.2.1.1 x.2.1.2.1 x.2.2.1.1 x.2.2.1.2.1 x.2.2.1.2.2.1 x.2.2.1.2.2.2.1 x.2.2.1.2.2.2.2.1 x.2.2.1.2.2.2.2.2.1 x.2.2.1.2.2.2.2.2.2.1 x.2.2.1.2.2.2.2.2.2.2.1 x.2.2.2.1.1 x.2.2.2.1.2.1 x.2.2.2.1.2.2.1 x.2.2.2.1.2.2.2.1 x.2.2.2.2.1.1 x.2.2.2.2.1.2.1 x.2.2.2.2.2.1.1 x.2.2.2.2.2.1.2.1 := by kernel_rfl
theorem n55' : LoopOK Tryz.prog G 130 (P107 0) (nn' (nj' Tryz.f4) 0) := lk cx t107 J107 1 S107_0 nwg' (rfl : ncw' = _) (by kernel_rfl) (an0 (by kernel_rfl)) fun x => (n5q' (fun _ => ni1' ) x).trans (by kernel_rfl)
noncomputable def H107 (h_l24_sane : (Unit × Unit) → Option ((Bool × Unit) × Unit)) (c_N_0 c_N_1 : Int) (c_L c_K : List (Int)) (c_Press_Up c_Press_Down : Int) : Option ((Bool × Unit) × Unit) :=
 (ncu' c_N_0 c_N_1).bind fun y1 =>
 (ngk' y1.2.1.1 y1.2.1.2.1 y1.2.1.2.2.1 y1.2.1.2.2.2.1 y1.2.1.2.2.2.2.1 y1.2.1.2.2.2.2.2.1 y1.2.1.2.2.2.2.2.2.1 y1.2.1.2.2.2.2.2.2.2.1 c_L).bind fun y2 =>
 (nh8' y2.2.1.2.2.2.1).bind fun y3 =>
 (nhm' y1.2.1.1 y1.2.1.2.1 y1.2.1.2.2.1 y1.2.1.2.2.2.1 y1.2.1.2.2.2.2.1 y1.2.1.2.2.2.2.2.1 y1.2.1.2.2.2.2.2.2.1 y1.2.1.2.2.2.2.2.2.2.1).bind fun y4 =>
 (nhe' c_Press_Up c_Press_Down y4.2.1.1 y4.2.1.2.1).bind fun y5 =>
 (nby' y5.2.1.1 y5.2.1.2.1 y3.2.1.1 y3.2.1.2.1).bind fun y6 =>
 (ncw' ((c_K, (), (), (), (), (), (0 : Int), ()), ((c_Press_Up, c_Press_Down, ()), y1.2.1, y2.2.1, y3.2.1, y6.2.1, ()))).bind fun y7 =>
 (match y7 with
 | .inl y8 =>
 (h_l24_sane ((), ())).bind fun y9 =>
 some ((y9.1.1, ()), ())
 | .inr y8 =>
 some ((y8.1.1, ()), ()))
theorem q107 (h_l24_sane : (Unit × Unit) → Option ((Bool × Unit) × Unit)) (x : I107.T G) : endI (cfP [(8, e1), (9, e15), (17, e18), (20, e19), (19, e20), (18, e21), (12, e22), (10, e24), (11, e97), (21, e17), (16, Fe.mk (G := G) I106 E106 h_l24_sane Tryz.f16.results.toList)]) P107 J107 130 (nj' Tryz.f4) I107 E107 x = H107 h_l24_sane x.1.1.1 x.1.1.2.1 x.1.1.2.2.1 x.1.1.2.2.2.1 x.1.1.2.2.2.2.1 x.1.1.2.2.2.2.2.1 := by kernel_rfl
noncomputable def e107 : Fe G := ⟨I107, E107, fun x => F_l24_DispatchCalls x.1.1.1 x.1.1.2.1 x.1.1.2.2.1 x.1.1.2.2.2.1 x.1.1.2.2.2.2.1 x.1.1.2.2.2.2.2.1, Tryz.f4.results.toList⟩
theorem k107 : FnOK Tryz.prog G 4 e107 := fk cx t107 J107 (lp := P107) Tryz.func4 (by kernel_rfl) (by kernel_rfl) rfl (ng' _ (by kernel_rfl) (nf' n55' nk')) fun x => (q107 (fun _ => ni1' ) x).trans (by kernel_rfl)
def I108 : Sp := ⟨[(0, .agg c'2), (1, .agg c'7), (2, oro 66)], [], []⟩
def E108 : SL := [(.ret, ⟨[(6, op 96), (7, oi64)], [(96, c'4)], []⟩)]
def n0b' : Sp := ⟨[(3, op 48), (4, op 64), (6, op 96), (12, oro 66), (13, oi64), (14, oi64)], [(48, c'2), (64, c'7), (96, c'4)], []⟩
def n0n' : SL := [(.exit 0, ⟨[(4, op 64), (6, op 96)], [(64, c'7), (96, c'4)], []⟩), (.ret, ⟨[(6, op 96), (7, oi64)], [(96, c'4)], []⟩)]
def J108 : Nat → Option SL := jl []
noncomputable def P108 : Nat → St G → M (Ex × St G) := pl [lpX n0b' n0n' ngo']
theorem t108 : ∀ p ∈ [(59, e68), (35, e50)], FnOK Tryz.prog G p.1 p.2 := (tc k68 (tc k50 tn))
theorem n5u' : LoopOK Tryz.prog G 33 (P108 0) (nn' (nj' Tryz.f23) 0) := lk cx t108 J108 1 n0b' n0n' (rfl : ngo' = _) (by kernel_rfl) (an0 (by kernel_rfl)) fun x => by kernel_rfl
noncomputable def e108 : Fe G := ⟨I108, E108, fun x => npt' x.1.1.1 x.1.1.2.1 x.1.1.2.2.1 x.1.1.2.2.2.1 x.1.1.2.2.2.2.1 x.1.1.2.2.2.2.2.1 x.1.1.2.2.2.2.2.2.1 x.1.1.2.2.2.2.2.2.2.1 x.1.2.1.1 x.1.2.1.2.1 x.1.2.1.2.2.1 x.1.2.1.2.2.2.1 x.1.2.2.1, Tryz.f23.results.toList⟩
theorem k108 : FnOK Tryz.prog G 23 e108 := fk cx t108 J108 (lp := P108) Tryz.func23 (by kernel_rfl) (by kernel_rfl) rfl (ng' _ (by kernel_rfl) (nf' n5u' nk')) fun x => by kernel_rfl
def I109 : Sp := ⟨[(0, .agg c'13), (1, oi64), (2, oi64)], [], []⟩
def E109 : SL := [(.ret, ⟨[(6, ob)], [], []⟩)]
noncomputable def e109 : Fe G := ⟨I109, E109, fun x => nof' x.1.1.1 x.1.1.2.1 x.1.2.1 x.1.2.2.1, Tryz.f90.results.toList⟩
theorem k109 : FnOK Tryz.prog G 90 e109 := fk cx tn (jl [(1048579, [(.normal, ⟨[(6, ob)], [], []⟩)])]) (lp := (pl [])) Tryz.func90 (by kernel_rfl) (by kernel_rfl) rfl (an0 (by kernel_rfl)) fun x => by kernel_rfl
def I110 : Sp := ⟨[(0, .agg c'13)], [], []⟩
def E110 : SL := [(.ret, ⟨[(2, .one (.own 32768 63))], [], []⟩)]
def n2u' : Sp := ⟨[(1, op 16), (3, .one (.own 32768 63)), (4, oi64)], [(16, c'13)], []⟩
def n0k' : SL := [(.exit 0, ⟨[(3, .one (.own 32768 63))], [], []⟩)]
def n1v' : Sp := ⟨[(1, op 16), (3, .one (.own 32768 63)), (4, oi64), (5, oi64)], [(16, c'13)], []⟩
def n0y' : SL := [(.exit 2, ⟨[(1, op 16), (3, .one (.own 32768 63)), (4, oi64)], [(16, c'13)], []⟩)]
def J110 : Nat → Option SL := jl []
noncomputable def P110 : Nat → St G → M (Ex × St G) := pl [lpX n2u' n0k' nli', lpX n1v' n0y' nlu']
theorem t110 : ∀ p ∈ [(90, e109)], FnOK Tryz.prog G p.1 p.2 := (tc k109 tn)
theorem n0u' : LoopOK Tryz.prog G 25 (P110 1) (nn' (nj' Tryz.f48) 1) := lk cx t110 J110 2 n1v' n0y' (rfl : nlu' = _) (by kernel_rfl) (an0 (by kernel_rfl)) fun x => by kernel_rfl
theorem n49' : LoopOK Tryz.prog G 25 (P110 0) (nn' (nj' Tryz.f48) 0) := lk cx t110 J110 1 n2u' n0k' (rfl : nli' = _) (by kernel_rfl) (ng' _ (by kernel_rfl) (nf' n0u' nk')) fun x => by kernel_rfl
noncomputable def e110 : Fe G := ⟨I110, E110, fun x => ny6' x.1.1.1 x.1.1.2.1, Tryz.f48.results.toList⟩
theorem k110 : FnOK Tryz.prog G 48 e110 := fk cx t110 J110 (lp := P110) Tryz.func48 (by kernel_rfl) (by kernel_rfl) rfl (ng' _ (by kernel_rfl) (nf' n49' (nf' n0u' nk'))) fun x => by kernel_rfl
def I111 : Sp := ⟨[(0, oro 66), (1, oro 66)], [], []⟩
def E111 : SL := [(.ret, ⟨[(4, ob)], [], []⟩)]
def n04' : Sp := ⟨[(0, oro 66), (1, oro 66), (5, oi64)], [], []⟩
def n2z' : SL := [(.exit 0, ⟨[], [], []⟩), (.ret, ⟨[(4, ob)], [], []⟩)]
def J111 : Nat → Option SL := jl []
noncomputable def P111 : Nat → St G → M (Ex × St G) := pl [lpX n04' n2z' nl1']
theorem n5e' : LoopOK Tryz.prog G 26 (P111 0) (nn' (nj' Tryz.f51) 0) := lk cx tn J111 1 n04' n2z' (rfl : nl1' = _) (by kernel_rfl) (an0 (by kernel_rfl)) fun x => by kernel_rfl
noncomputable def e111 : Fe G := ⟨I111, E111, fun x => nzm' x.1.1 x.1.2.1, Tryz.f51.results.toList⟩
theorem k111 : FnOK Tryz.prog G 51 e111 := fk cx tn J111 (lp := P111) Tryz.func51 (by kernel_rfl) (by kernel_rfl) rfl (ng' _ (by kernel_rfl) (nf' n5e' nk')) fun x => by kernel_rfl
def I112 : Sp := ⟨[(0, .agg c'7), (1, .agg c'7)], [], []⟩
def E112 : SL := [(.ret, ⟨[(4, ob)], [], []⟩)]
def n2i' : Sp := ⟨[(2, op 32), (3, op 48), (5, oi64)], [(32, c'7), (48, c'7)], []⟩
def n2m' : SL := [(.exit 0, ⟨[(2, op 32), (3, op 48)], [(32, c'7), (48, c'7)], []⟩), (.ret, ⟨[(4, ob)], [], []⟩)]
def n0m' : Sp := ⟨[(2, op 32), (3, op 48), (6, oi64)], [(32, c'7), (48, c'7)], []⟩
def n12' : SL := [(.exit 2, ⟨[(2, op 32), (3, op 48)], [(32, c'7), (48, c'7)], []⟩), (.ret, ⟨[(4, ob)], [], []⟩)]
def n14' : Sp := ⟨[(2, op 32), (3, op 48), (7, oi64)], [(32, c'7), (48, c'7)], []⟩
def n1a' : SL := [(.exit 4, ⟨[(2, op 32), (3, op 48)], [(32, c'7), (48, c'7)], []⟩), (.ret, ⟨[(4, ob)], [], []⟩)]
def n1x' : Sp := ⟨[(2, op 32), (3, op 48), (8, oi64)], [(32, c'7), (48, c'7)], []⟩
def n1p' : SL := [(.exit 6, ⟨[], [], []⟩), (.ret, ⟨[(4, ob)], [], []⟩)]
def J112 : Nat → Option SL := jl []
noncomputable def P112 : Nat → St G → M (Ex × St G) := pl [lpX n2i' n2m' nls', lpX n0m' n12' nl6', lpX n14' n1a' nly', lpX n1x' n1p' nl8']
theorem n53' : LoopOK Tryz.prog G 115 (P112 3) (nn' (nj' Tryz.f25) 3) := lk cx tn J112 4 n1x' n1p' (rfl : nl8' = _) (by kernel_rfl) (an0 (by kernel_rfl)) fun x => by kernel_rfl
theorem n6i' : LoopOK Tryz.prog G 115 (P112 2) (nn' (nj' Tryz.f25) 2) := lk cx tn J112 3 n14' n1a' (rfl : nly' = _) (by kernel_rfl) (an0 (by kernel_rfl)) fun x => by kernel_rfl
theorem n5a' : LoopOK Tryz.prog G 115 (P112 1) (nn' (nj' Tryz.f25) 1) := lk cx tn J112 2 n0m' n12' (rfl : nl6' = _) (by kernel_rfl) (an0 (by kernel_rfl)) fun x => by kernel_rfl
theorem n5n' : LoopOK Tryz.prog G 115 (P112 0) (nn' (nj' Tryz.f25) 0) := lk cx tn J112 1 n2i' n2m' (rfl : nls' = _) (by kernel_rfl) (an0 (by kernel_rfl)) fun x => by kernel_rfl
noncomputable def e112 : Fe G := ⟨I112, E112, fun x => nz2' x.1.1.1 x.1.1.2.1 x.1.1.2.2.1 x.1.1.2.2.2.1 x.1.2.1.1 x.1.2.1.2.1 x.1.2.1.2.2.1 x.1.2.1.2.2.2.1, Tryz.f25.results.toList⟩
theorem k112 : FnOK Tryz.prog G 25 e112 := fk cx tn J112 (lp := P112) Tryz.func25 (by kernel_rfl) (by kernel_rfl) rfl (ng' _ (by kernel_rfl) (nf' n5n' (nf' n5a' (nf' n6i' (nf' n53' nk'))))) fun x => by kernel_rfl
def I113 : Sp := ⟨[(0, oi64), (1, .agg c'20), (2, oi64), (3, oi64)], [], []⟩
def E113 : SL := [(.ret, ⟨[(8, ob)], [], []⟩)]
noncomputable def e113 : Fe G := ⟨I113, E113, fun x => nd5' x.1.1 x.1.2.1.1 x.1.2.1.2.1 x.1.2.1.2.2.1 x.1.2.2.1 x.1.2.2.2.1, Tryz.f144.results.toList⟩
theorem k113 : FnOK Tryz.prog G 144 e113 := fk cx tn (jl [(1048579, [(.normal, ⟨[(8, ob)], [], []⟩)]), (1048581, [(.normal, ⟨[(8, ob)], [], []⟩)])]) (lp := (pl [])) Tryz.func144 (by kernel_rfl) (by kernel_rfl) rfl (an0 (by kernel_rfl)) fun x => by kernel_rfl
def I114 : Sp := ⟨[(0, oi64), (1, .agg c'20)], [], []⟩
def E114 : SL := [(.ret, ⟨[(4, oi64)], [], []⟩)]
def n27' : Sp := ⟨[(0, oi64), (3, op 48), (5, oi64), (6, oi64)], [(48, c'20)], []⟩
def n18' : SL := [(.exit 0, ⟨[(5, oi64)], [], []⟩)]
def n0r' : Sp := ⟨[(0, oi64), (3, op 48), (5, oi64), (6, oi64), (7, oi64)], [(48, c'20)], []⟩
def n1r' : SL := [(.exit 2, ⟨[(0, oi64), (3, op 48), (5, oi64), (6, oi64)], [(48, c'20)], []⟩)]
def J114 : Nat → Option SL := jl []
noncomputable def P114 : Nat → St G → M (Ex × St G) := pl [lpX n27' n18' nhw', lpX n0r' n1r' nh1']
theorem t114 : ∀ p ∈ [(144, e113)], FnOK Tryz.prog G p.1 p.2 := (tc k113 tn)
theorem n0g' : LoopOK Tryz.prog G 31 (P114 1) (nn' (nj' Tryz.f124) 1) := lk cx t114 J114 2 n0r' n1r' (rfl : nh1' = _) (by kernel_rfl) (an0 (by kernel_rfl)) fun x => by kernel_rfl
theorem n5z' : LoopOK Tryz.prog G 31 (P114 0) (nn' (nj' Tryz.f124) 0) := lk cx t114 J114 1 n27' n18' (rfl : nhw' = _) (by kernel_rfl) (ng' _ (by kernel_rfl) (nf' n0g' nk')) fun x => by kernel_rfl
noncomputable def e114 : Fe G := ⟨I114, E114, fun x => ngm' x.1.1 x.1.2.1.1 x.1.2.1.2.1 x.1.2.1.2.2.1, Tryz.f124.results.toList⟩
theorem k114 : FnOK Tryz.prog G 124 e114 := fk cx t114 J114 (lp := P114) Tryz.func124 (by kernel_rfl) (by kernel_rfl) rfl (ng' _ (by kernel_rfl) (nf' n5z' (nf' n0g' nk'))) fun x => by kernel_rfl
def I115 : Sp := ⟨[(0, oi64), (1, oi64), (2, oi64), (3, .agg c'20), (4, oi64), (5, oi64)], [], []⟩
def E115 : SL := [(.ret, ⟨[(12, oi64)], [], []⟩)]
def n0l' : Sp := ⟨[(0, oi64), (1, oi64), (2, oi64), (4, oi64), (5, oi64), (9, op 144), (13, oi64), (14, oi64), (15, oi64)], [(144, c'20)], []⟩
def n2e' : SL := [(.exit 0, ⟨[(1, oi64), (2, oi64), (4, oi64), (5, oi64), (13, oi64), (14, oi64)], [], []⟩)]
def J115 : Nat → Option SL := jl [(1048579, [(.normal, ⟨[(0, oi64), (1, oi64), (2, oi64), (4, oi64), (5, oi64), (9, op 144), (64, ob)], [(144, c'20)], []⟩)]), (1048585, [(.normal, ⟨[(0, oi64), (1, oi64), (2, oi64), (4, oi64), (5, oi64), (9, op 144), (13, oi64), (14, oi64), (15, oi64), (91, ob)], [(144, c'20)], []⟩)]), (1048589, [(.normal, ⟨[(1, oi64), (2, oi64), (4, oi64), (5, oi64), (13, oi64), (14, oi64), (108, ob)], [], []⟩)]), (1048591, [(.normal, ⟨[(1, oi64), (2, oi64), (4, oi64), (5, oi64), (13, oi64), (14, oi64), (123, ob)], [], []⟩)]), (1048595, [(.normal, ⟨[(1, oi64), (4, oi64), (5, oi64), (13, oi64), (14, oi64), (151, ob)], [], []⟩)])]
noncomputable def P115 : Nat → St G → M (Ex × St G) := pl [lpX n0l' n2e' ni4']
theorem t115 : ∀ p ∈ [(144, e113)], FnOK Tryz.prog G p.1 p.2 := (tc k113 tn)
theorem n6d' : LoopOK Tryz.prog G 183 (P115 0) (nn' (nj' Tryz.f123) 0) := lk cx t115 J115 1 n0l' n2e' (rfl : ni4' = _) (by kernel_rfl) (an0 (by kernel_rfl)) fun x => by kernel_rfl
noncomputable def e115 : Fe G := ⟨I115, E115, fun x => nec' x.1.1 x.1.2.1 x.1.2.2.1 x.1.2.2.2.1.1 x.1.2.2.2.1.2.1 x.1.2.2.2.1.2.2.1 x.1.2.2.2.2.1 x.1.2.2.2.2.2.1, Tryz.f123.results.toList⟩
theorem k115 : FnOK Tryz.prog G 123 e115 := fk cx t115 J115 (lp := P115) Tryz.func123 (by kernel_rfl) (by kernel_rfl) rfl (ng' _ (by kernel_rfl) (nf' n6d' nk')) fun x => by kernel_rfl
def I116 : Sp := ⟨[(0, .agg c'2), (1, oi64), (2, .agg c'15), (3, oi64), (4, oi64)], [], []⟩
def E116 : SL := [(.ret, ⟨[(10, oi64)], [], []⟩)]
noncomputable def e116 : Fe G := ⟨I116, E116, fun x => nfq' x.1.1.1 x.1.1.2.1 x.1.1.2.2.1 x.1.1.2.2.2.1 x.1.1.2.2.2.2.1 x.1.1.2.2.2.2.2.1 x.1.1.2.2.2.2.2.2.1 x.1.1.2.2.2.2.2.2.2.1 x.1.2.1 x.1.2.2.1.1 x.1.2.2.1.2.1 x.1.2.2.1.2.2.1 x.1.2.2.1.2.2.2.1 x.1.2.2.1.2.2.2.2.1 x.1.2.2.1.2.2.2.2.2.1 x.1.2.2.1.2.2.2.2.2.2.1 x.1.2.2.1.2.2.2.2.2.2.2.1 x.1.2.2.1.2.2.2.2.2.2.2.2.1 x.1.2.2.1.2.2.2.2.2.2.2.2.2.1 x.1.2.2.1.2.2.2.2.2.2.2.2.2.2.1 x.1.2.2.1.2.2.2.2.2.2.2.2.2.2.2.1 x.1.2.2.2.1 x.1.2.2.2.2.1, Tryz.f92.results.toList⟩
theorem k116 : FnOK Tryz.prog G 92 e116 := fk cx (tc k4 (tc k115 (tc k114 tn))) (jl [(7, [(.normal, ⟨[(1, oi64), (3, oi64), (4, oi64), (5, op 80), (7, op 112), (11, oi64)], [(80, c'2), (112, c'15)], []⟩)])]) (lp := (pl [])) Tryz.func92 (by kernel_rfl) (by kernel_rfl) rfl (an0 (by kernel_rfl)) fun x => by kernel_rfl
def I117 : Sp := ⟨[(0, .agg c'21), (1, .agg c'21)], [], []⟩
def E117 : SL := [(.ret, ⟨[(4, ob)], [], []⟩)]
noncomputable def e117 : Fe G := ⟨I117, E117, fun x => nlz' x.1.1.1 x.1.1.2.1 x.1.2.1.1 x.1.2.1.2.1, Tryz.f120.results.toList⟩
theorem k117 : FnOK Tryz.prog G 120 e117 := fk cx tn (jl [(1048577, [(.normal, ⟨[(4, ob)], [], []⟩)])]) (lp := (pl [])) Tryz.func120 (by kernel_rfl) (by kernel_rfl) rfl (an0 (by kernel_rfl)) fun x => by kernel_rfl
def I118 : Sp := ⟨[(0, .agg c'15)], [], []⟩
def E118 : SL := [(.ret, ⟨[(2, ob)], [], []⟩)]
noncomputable def e118 : Fe G := ⟨I118, E118, fun x => nku' x.1.1.1 x.1.1.2.1 x.1.1.2.2.1 x.1.1.2.2.2.1 x.1.1.2.2.2.2.1 x.1.1.2.2.2.2.2.1 x.1.1.2.2.2.2.2.2.1 x.1.1.2.2.2.2.2.2.2.1 x.1.1.2.2.2.2.2.2.2.2.1 x.1.1.2.2.2.2.2.2.2.2.2.1 x.1.1.2.2.2.2.2.2.2.2.2.2.1 x.1.1.2.2.2.2.2.2.2.2.2.2.2.1, Tryz.f122.results.toList⟩
theorem k118 : FnOK Tryz.prog G 122 e118 := fk cx tn (jl [(1048577, [(.normal, ⟨[(2, ob)], [], []⟩)])]) (lp := (pl [])) Tryz.func122 (by kernel_rfl) (by kernel_rfl) rfl (an0 (by kernel_rfl)) fun x => by kernel_rfl
def I119 : Sp := ⟨[(0, .agg c'2), (1, oro 46), (2, oi64), (3, oi64), (4, oi64)], [], []⟩
def E119 : SL := [(.ret, ⟨[(10, op 160)], [(160, c'21)], []⟩)]
noncomputable def e119 : Fe G := ⟨I119, E119, fun x => niu' x.1.1.1 x.1.1.2.1 x.1.1.2.2.1 x.1.1.2.2.2.1 x.1.1.2.2.2.2.1 x.1.1.2.2.2.2.2.1 x.1.1.2.2.2.2.2.2.1 x.1.1.2.2.2.2.2.2.2.1 x.1.2.1 x.1.2.2.1 x.1.2.2.2.1 x.1.2.2.2.2.1, Tryz.f121.results.toList⟩
theorem k119 : FnOK Tryz.prog G 121 e119 := fk cx (tc k118 (tc k116 tn)) (jl [(5, [(.normal, ⟨[(1, oro 46), (2, oi64), (3, oi64), (4, oi64), (5, op 80), (10, op 160), (11, oi64)], [(80, c'2), (160, c'21)], []⟩)])]) (lp := (pl [])) Tryz.func121 (by kernel_rfl) (by kernel_rfl) rfl (an0 (by kernel_rfl)) fun x => by kernel_rfl
def I120 : Sp := ⟨[(0, .agg c'2), (1, oro 46), (2, oi64), (3, oi64), (4, oi64)], [], []⟩
def E120 : SL := [(.ret, ⟨[(10, oi64)], [], []⟩)]
def n1z' : Sp := ⟨[(1, oro 46), (2, oi64), (3, oi64), (4, oi64), (5, op 80), (11, oi64), (12, oi64)], [(80, c'2)], []⟩
def n2k' : SL := [(.exit 0, ⟨[(11, oi64)], [], []⟩)]
def J120 : Nat → Option SL := jl [(1048584, [(.normal, ⟨[(1, oro 46), (2, oi64), (3, oi64), (4, oi64), (5, op 80), (11, oi64), (12, oi64), (57, ob)], [(80, c'2)], []⟩)])]
noncomputable def P120 : Nat → St G → M (Ex × St G) := pl [lpX n1z' n2k' njf']
theorem t120 : ∀ p ∈ [(60, e4), (121, e119), (120, e117)], FnOK Tryz.prog G p.1 p.2 := (tc k4 (tc k119 (tc k117 tn)))
theorem n6g' : LoopOK Tryz.prog G 60 (P120 0) (nn' (nj' Tryz.f119) 0) := lk cx t120 J120 1 n1z' n2k' (rfl : njf' = _) (by kernel_rfl) (an0 (by kernel_rfl)) fun x => by kernel_rfl
noncomputable def e120 : Fe G := ⟨I120, E120, fun x => nim' x.1.1.1 x.1.1.2.1 x.1.1.2.2.1 x.1.1.2.2.2.1 x.1.1.2.2.2.2.1 x.1.1.2.2.2.2.2.1 x.1.1.2.2.2.2.2.2.1 x.1.1.2.2.2.2.2.2.2.1 x.1.2.1 x.1.2.2.1 x.1.2.2.2.1 x.1.2.2.2.2.1, Tryz.f119.results.toList⟩
theorem k120 : FnOK Tryz.prog G 119 e120 := fk cx t120 J120 (lp := P120) Tryz.func119 (by kernel_rfl) (by kernel_rfl) rfl (ng' _ (by kernel_rfl) (nf' n6g' nk')) fun x => by kernel_rfl
def I121 : Sp := ⟨[(0, .agg c'7), (1, oro 3)], [], []⟩
def E121 : SL := [(.ret, ⟨[(4, ob)], [], []⟩)]
def n2h' : Sp := ⟨[(1, oro 3), (2, op 32), (5, oi64)], [(32, c'7)], []⟩
def n2d' : SL := [(.exit 0, ⟨[(1, oro 3), (2, op 32)], [(32, c'7)], []⟩), (.ret, ⟨[(4, ob)], [], []⟩)]
def J121 : Nat → Option SL := jl []
noncomputable def P121 : Nat → St G → M (Ex × St G) := pl [lpX n2h' n2d' nia']
theorem n5l' : LoopOK Tryz.prog G 30 (P121 0) (nn' (nj' Tryz.f44) 0) := lk cx tn J121 1 n2h' n2d' (rfl : nia' = _) (by kernel_rfl) (an0 (by kernel_rfl)) fun x => by kernel_rfl
noncomputable def e121 : Fe G := ⟨I121, E121, fun x => nm0' x.1.1.1 x.1.1.2.1 x.1.1.2.2.1 x.1.1.2.2.2.1 x.1.2.1, Tryz.f44.results.toList⟩
theorem k121 : FnOK Tryz.prog G 44 e121 := fk cx tn J121 (lp := P121) Tryz.func44 (by kernel_rfl) (by kernel_rfl) rfl (ng' _ (by kernel_rfl) (nf' n5l' nk')) fun x => by kernel_rfl
def I122 : Sp := ⟨[(0, .agg c'2), (1, .agg c'6), (2, oi64), (3, oro 46)], [], []⟩
def E122 : SL := [(.ret, ⟨[(8, op 128)], [(128, c'6)], []⟩)]
noncomputable def e122 : Fe G := ⟨I122, E122, fun x => nn8' x.1.1.1 x.1.1.2.1 x.1.1.2.2.1 x.1.1.2.2.2.1 x.1.1.2.2.2.2.1 x.1.1.2.2.2.2.2.1 x.1.1.2.2.2.2.2.2.1 x.1.1.2.2.2.2.2.2.2.1 x.1.2.1.1 x.1.2.1.2.1 x.1.2.1.2.2.1 x.1.2.1.2.2.2.1 x.1.2.1.2.2.2.2.1 x.1.2.2.1 x.1.2.2.2.1, Tryz.f91.results.toList⟩
theorem k122 : FnOK Tryz.prog G 91 e122 := fk cx (tc k120 (tc k119 (tc k117 (tc k118 tn)))) (jl [(1048583, [(.normal, ⟨[(2, oi64), (3, oro 46), (4, op 64), (5, op 80), (8, op 128), (9, oi64), (35, ob)], [(64, c'2), (80, c'6), (128, c'6)], []⟩)]), (1048594, [(.normal, ⟨[(3, oro 46), (5, op 80), (8, op 128), (10, op 160), (11, oi64), (12, ob)], [(80, c'6), (128, c'6), (160, c'15)], []⟩)]), (1048595, [(.normal, ⟨[(5, op 80), (8, op 128), (11, oi64), (141, ob)], [(80, c'6), (128, c'6)], []⟩)])]) (lp := (pl [])) Tryz.func91 (by kernel_rfl) (by kernel_rfl) rfl (an0 (by kernel_rfl)) fun x => by kernel_rfl
def I123 : Sp := ⟨[(0, .agg c'2), (1, .agg c'7), (2, oro 3), (3, oro 46)], [], []⟩
def E123 : SL := [(.ret, ⟨[(8, .one (.own 32768 66)), (9, .one (.own 32769 3)), (10, oi64)], [], []⟩)]
def n1h' : Sp := ⟨[(2, oro 3), (3, oro 46), (4, op 64), (5, op 80), (11, .one (.own 32768 66)), (12, .one (.own 32769 3)), (13, oi64)], [(64, c'2), (80, c'7)], []⟩
def n19' : SL := [(.exit 0, ⟨[(11, .one (.own 32768 66)), (12, .one (.own 32769 3))], [], []⟩)]
def J123 : Nat → Option SL := jl [(16, [(.normal, ⟨[(2, oro 3), (3, oro 46), (4, op 64), (5, op 80), (11, .one (.own 32768 66)), (12, .one (.own 32769 3)), (13, oi64), (14, op 224), (15, op 240)], [(64, c'2), (80, c'7), (224, c'6), (240, c'6)], []⟩)]), (18, [(.normal, ⟨[(2, oro 3), (3, oro 46), (4, op 64), (5, op 80), (11, .one (.own 32768 66)), (12, .one (.own 32769 3)), (13, oi64), (14, op 224), (15, op 240)], [(64, c'2), (80, c'7), (224, c'6), (240, c'6)], []⟩)]), (1048586, [(.normal, ⟨[(2, oro 3), (3, oro 46), (4, op 64), (5, op 80), (11, .one (.own 32768 66)), (12, .one (.own 32769 3)), (13, oi64), (14, op 224), (15, op 240), (66, ob)], [(64, c'2), (80, c'7), (224, c'6), (240, c'6)], []⟩)]), (1048593, [(.normal, ⟨[(2, oro 3), (3, oro 46), (4, op 64), (5, op 80), (11, .one (.own 32768 66)), (12, .one (.own 32769 3)), (13, oi64), (14, op 224), (15, op 240), (105, ob)], [(64, c'2), (80, c'7), (224, c'6), (240, c'6)], []⟩)])]
noncomputable def P123 : Nat → St G → M (Ex × St G) := pl [lpX n1h' n19' nlg']
theorem t123 : ∀ p ∈ [(43, e9), (44, e121), (91, e122), (92, e116)], FnOK Tryz.prog G p.1 p.2 := (tc k9 (tc k121 (tc k122 (tc k116 tn))))
theorem n5c' : LoopOK Tryz.prog G 142 (P123 0) (nn' (nj' Tryz.f50) 0) := lk cx t123 J123 1 n1h' n19' (rfl : nlg' = _) (by kernel_rfl) (an0 (by kernel_rfl)) fun x => by kernel_rfl
noncomputable def e123 : Fe G := ⟨I123, E123, fun x => nzh' x.1.1.1 x.1.1.2.1 x.1.1.2.2.1 x.1.1.2.2.2.1 x.1.1.2.2.2.2.1 x.1.1.2.2.2.2.2.1 x.1.1.2.2.2.2.2.2.1 x.1.1.2.2.2.2.2.2.2.1 x.1.2.1.1 x.1.2.1.2.1 x.1.2.1.2.2.1 x.1.2.1.2.2.2.1 x.1.2.2.1 x.1.2.2.2.1, Tryz.f50.results.toList⟩
theorem k123 : FnOK Tryz.prog G 50 e123 := fk cx t123 J123 (lp := P123) Tryz.func50 (by kernel_rfl) (by kernel_rfl) rfl (ng' _ (by kernel_rfl) (nf' n5c' nk')) fun x => by kernel_rfl
def I124 : Sp := ⟨[(0, oro 3), (1, oro 3)], [], []⟩
def E124 : SL := [(.ret, ⟨[(4, ob)], [], []⟩)]
def n15' : Sp := ⟨[(0, oro 3), (1, oro 3), (5, oi64)], [], []⟩
def n16' : SL := [(.exit 0, ⟨[], [], []⟩), (.ret, ⟨[(4, ob)], [], []⟩)]
def J124 : Nat → Option SL := jl []
noncomputable def P124 : Nat → St G → M (Ex × St G) := pl [lpX n15' n16' nib']
theorem n5s' : LoopOK Tryz.prog G 26 (P124 0) (nn' (nj' Tryz.f52) 0) := lk cx tn J124 1 n15' n16' (rfl : nib' = _) (by kernel_rfl) (an0 (by kernel_rfl)) fun x => by kernel_rfl
noncomputable def e124 : Fe G := ⟨I124, E124, fun x => nsy' x.1.1 x.1.2.1, Tryz.f52.results.toList⟩
theorem k124 : FnOK Tryz.prog G 52 e124 := fk cx tn J124 (lp := P124) Tryz.func52 (by kernel_rfl) (by kernel_rfl) rfl (ng' _ (by kernel_rfl) (nf' n5s' nk')) fun x => by kernel_rfl
def I125 : Sp := ⟨[(0, .agg c'2), (1, .agg c'15)], [], []⟩
def E125 : SL := [(.ret, ⟨[(4, op 64)], [(64, c'13)], []⟩)]
noncomputable def e125 : Fe G := ⟨I125, E125, fun x => nlr' x.1.1.1 x.1.1.2.1 x.1.1.2.2.1 x.1.1.2.2.2.1 x.1.1.2.2.2.2.1 x.1.1.2.2.2.2.2.1 x.1.1.2.2.2.2.2.2.1 x.1.1.2.2.2.2.2.2.2.1 x.1.2.1.1 x.1.2.1.2.1 x.1.2.1.2.2.1 x.1.2.1.2.2.2.1 x.1.2.1.2.2.2.2.1 x.1.2.1.2.2.2.2.2.1 x.1.2.1.2.2.2.2.2.2.1 x.1.2.1.2.2.2.2.2.2.2.1 x.1.2.1.2.2.2.2.2.2.2.2.1 x.1.2.1.2.2.2.2.2.2.2.2.2.1 x.1.2.1.2.2.2.2.2.2.2.2.2.2.1 x.1.2.1.2.2.2.2.2.2.2.2.2.2.2.1, Tryz.f88.results.toList⟩
theorem k125 : FnOK Tryz.prog G 88 e125 := fk cx (tc k19 (tc k20 tn)) (jl []) (lp := (pl [])) Tryz.func88 (by kernel_rfl) (by kernel_rfl) rfl (an0 (by kernel_rfl)) fun x => by kernel_rfl
def I126 : Sp := ⟨[(0, .agg c'2), (1, oro 46), (2, oro 26)], [], []⟩
def E126 : SL := [(.ret, ⟨[(6, op 96), (7, oi64)], [(96, c'16)], []⟩)]
def n1o' : Sp := ⟨[(1, oro 46), (2, oro 26), (3, op 48), (6, op 96), (8, op 128), (9, oi64)], [(48, c'2), (96, c'16), (128, c'17)], []⟩
def n09' : SL := [(.exit 0, ⟨[(6, op 96), (8, op 128)], [(96, c'16), (128, c'17)], []⟩)]
def J126 : Nat → Option SL := jl []
noncomputable def P126 : Nat → St G → M (Ex × St G) := pl [lpX n1o' n09' nkm']
theorem t126 : ∀ p ∈ [(60, e4), (88, e125), (18, e21), (21, e17)], FnOK Tryz.prog G p.1 p.2 := (tc k4 (tc k125 (tc k21 (tc k17 tn))))
theorem n5p' : LoopOK Tryz.prog G 71 (P126 0) (nn' (nj' Tryz.f45) 0) := lk cx t126 J126 1 n1o' n09' (rfl : nkm' = _) (by kernel_rfl) (an0 (by kernel_rfl)) fun x => by kernel_rfl
noncomputable def e126 : Fe G := ⟨I126, E126, fun x => nxo' x.1.1.1 x.1.1.2.1 x.1.1.2.2.1 x.1.1.2.2.2.1 x.1.1.2.2.2.2.1 x.1.1.2.2.2.2.2.1 x.1.1.2.2.2.2.2.2.1 x.1.1.2.2.2.2.2.2.2.1 x.1.2.1 x.1.2.2.1, Tryz.f45.results.toList⟩
theorem k126 : FnOK Tryz.prog G 45 e126 := fk cx t126 J126 (lp := P126) Tryz.func45 (by kernel_rfl) (by kernel_rfl) rfl (ng' _ (by kernel_rfl) (nf' n5p' nk')) fun x => by kernel_rfl
def I127 : Sp := ⟨[(0, .agg c'2), (1, .agg c'7), (2, oro 46)], [], []⟩
def E127 : SL := [(.ret, ⟨[(6, .one (.own 32768 66))], [], []⟩)]
def n0x' : Sp := ⟨[(2, oro 46), (3, op 48), (4, op 64), (7, .one (.own 32768 66)), (8, oi64)], [(48, c'2), (64, c'7)], []⟩
def n2s' : SL := [(.exit 0, ⟨[(7, .one (.own 32768 66))], [], []⟩)]
def n2o' : Sp := ⟨[(2, oro 46), (3, op 48), (4, op 64), (7, .one (.own 32768 66)), (8, oi64), (9, op 144), (10, oi64)], [(48, c'2), (64, c'7), (144, c'6)], []⟩
def n1f' : SL := [(.exit 2, ⟨[(2, oro 46), (3, op 48), (4, op 64), (7, .one (.own 32768 66)), (8, oi64)], [(48, c'2), (64, c'7)], []⟩)]
def J127 : Nat → Option SL := jl []
noncomputable def P127 : Nat → St G → M (Ex × St G) := pl [lpX n0x' n2s' nkf', lpX n2o' n1f' nkl']
theorem t127 : ∀ p ∈ [(43, e9), (88, e125), (90, e109)], FnOK Tryz.prog G p.1 p.2 := (tc k9 (tc k125 (tc k109 tn)))
theorem n11' : LoopOK Tryz.prog G 61 (P127 1) (nn' (nj' Tryz.f47) 1) := lk cx t127 J127 2 n2o' n1f' (rfl : nkl' = _) (by kernel_rfl) (an0 (by kernel_rfl)) fun x => by kernel_rfl
theorem n6c' : LoopOK Tryz.prog G 61 (P127 0) (nn' (nj' Tryz.f47) 0) := lk cx t127 J127 1 n0x' n2s' (rfl : nkf' = _) (by kernel_rfl) (ng' _ (by kernel_rfl) (nf' n11' nk')) fun x => by kernel_rfl
noncomputable def e127 : Fe G := ⟨I127, E127, fun x => nxc' x.1.1.1 x.1.1.2.1 x.1.1.2.2.1 x.1.1.2.2.2.1 x.1.1.2.2.2.2.1 x.1.1.2.2.2.2.2.1 x.1.1.2.2.2.2.2.2.1 x.1.1.2.2.2.2.2.2.2.1 x.1.2.1.1 x.1.2.1.2.1 x.1.2.1.2.2.1 x.1.2.1.2.2.2.1 x.1.2.2.1, Tryz.f47.results.toList⟩
theorem k127 : FnOK Tryz.prog G 47 e127 := fk cx t127 J127 (lp := P127) Tryz.func47 (by kernel_rfl) (by kernel_rfl) rfl (ng' _ (by kernel_rfl) (nf' n6c' (nf' n11' nk'))) fun x => by kernel_rfl
def I128 : Sp := ⟨[(0, .agg c'2), (1, .agg c'7), (2, oro 66)], [], []⟩
def E128 : SL := [(.ret, ⟨[(6, op 96), (7, oi64)], [(96, c'7)], []⟩)]
def n2b' : Sp := ⟨[(2, oro 66), (3, op 48), (4, op 64), (6, op 96), (8, oi64)], [(48, c'2), (64, c'7), (96, c'4)], []⟩
def n20' : SL := [(.exit 0, ⟨[(4, op 64), (6, op 96)], [(64, c'7), (96, c'4)], []⟩), (.ret, ⟨[(6, op 96), (7, oi64)], [(96, c'4)], []⟩)]
def J128 : Nat → Option SL := jl []
noncomputable def P128 : Nat → St G → M (Ex × St G) := pl [lpX n2b' n20' njg']
theorem t128 : ∀ p ∈ [(29, e14)], FnOK Tryz.prog G p.1 p.2 := (tc k14 tn)
theorem n58' : LoopOK Tryz.prog G 33 (P128 0) (nn' (nj' Tryz.f24) 0) := lk cx t128 J128 1 n2b' n20' (rfl : njg' = _) (by kernel_rfl) (an0 (by kernel_rfl)) fun x => by kernel_rfl
noncomputable def e128 : Fe G := ⟨I128, E128, fun x => nwl' x.1.1.1 x.1.1.2.1 x.1.1.2.2.1 x.1.1.2.2.2.1 x.1.1.2.2.2.2.1 x.1.1.2.2.2.2.2.1 x.1.1.2.2.2.2.2.2.1 x.1.1.2.2.2.2.2.2.2.1 x.1.2.1.1 x.1.2.1.2.1 x.1.2.1.2.2.1 x.1.2.1.2.2.2.1 x.1.2.2.1, Tryz.f24.results.toList⟩
theorem k128 : FnOK Tryz.prog G 24 e128 := fk cx t128 J128 (lp := P128) Tryz.func24 (by kernel_rfl) (by kernel_rfl) rfl (ng' _ (by kernel_rfl) (nf' n58' nk')) fun x => by kernel_rfl
end Go.Ovl
