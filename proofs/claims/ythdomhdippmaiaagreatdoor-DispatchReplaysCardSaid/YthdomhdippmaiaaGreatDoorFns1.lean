/- The contracts of the program's functions: part 1. -/
import Derived.Test.YthdomhdippmaiaaGreatDoorSig
import Derived.Test.YthdomhdippmaiaaGreatDoorDefs2
import Derived.Test.YthdomhdippmaiaaGreatDoorHandL
namespace Go.Ovl
open Go Go.Ab Go.Proofs
set_option maxRecDepth 100000
def c'0 : List CSh := [.int .i64, .int .i64, .int .i64, .int .i64, .flt .f64, .flt .f64, .flt .f64, .own 32768 100]
def c'1 : List CSh := [.int .i64, .int .i64, .int .i64, .int .i64, .flt .f64, .flt .f64, .flt .f64, .own 32769 100]
def c'2 : List CSh := [.int .i64, .int .i64, .int .i64, .int .i64, .flt .f64, .flt .f64, .flt .f64, .ro 100]
def c'3 : List CSh := [.int .i64, .int .i64, .int .i64, .int .i64, .int .i64, .int .i64, .int .i64, .int .i64, .int .i64]
def c'4 : List CSh := [.own 32768 3, .own 32769 4, .own 32770 4, .own 32771 63]
def c'5 : List CSh := [.int .u32, .int .u32]
def c'6 : List CSh := [.bool, .bool, .bool, .bool, .int .i64, .int .i64, .int .i64, .int .u32, .int .u32, .int .u32, .int .u32, .int .u32]
def c'7 : List CSh := [.own 32768 26, .own 32769 4, .int .u32, .int .u32]
def c'8 : List CSh := [.own 32770 26, .own 32771 4, .int .u32, .int .u32]
def c'9 : List CSh := [.int .i64, .int .i64, .int .i64, .int .i64, .bool]
def c'10 : List CSh := [.ro 3, .ro 4, .ro 4, .ro 63]
def c'11 : List CSh := [.int .i64, .int .i64, .int .i64, .int .i64, .int .i64]
def c'12 : List CSh := [.own 32768 66, .own 32769 3, .own 32770 4, .own 32771 4, .own 32772 63, .own 32773 3, .own 32774 26, .own 32775 4, .int .u32, .int .u32, .int .u32, .int .u32, .int .i64, .int .i64, .int .i64, .int .i64, .flt .f64, .flt .f64, .flt .f64, .ro 100]
def c'13 : List CSh := [.own 32769 66, .own 32770 3, .own 32771 4, .own 32772 4, .own 32773 63, .own 32774 3, .own 32775 26, .own 32776 4, .int .u32, .int .u32, .int .u32, .int .u32, .int .i64, .int .i64, .int .i64, .int .i64, .flt .f64, .flt .f64, .flt .f64, .ro 100]
def c'14 : List CSh := [.int .u32, .int .u32, .int .u32]
def c'15 : List CSh := [.int .i64, .int .i64]
def c'16 : List CSh := [.int .i64, .int .i64, .int .i64, .int .i64, .flt .f64, .flt .f64, .flt .f64, .ro 100, .ro 46]
def c'17 : List CSh := [.own 32768 66, .own 32769 3, .own 32770 4, .own 32771 4, .own 32772 63, .own 32773 3, .own 32774 26, .own 32775 4, .int .u32, .int .u32, .int .u32, .int .u32]
def c'18 : List CSh := [.own 32776 66, .own 32777 3, .own 32778 4, .own 32779 4, .own 32780 63, .own 32781 3, .own 32782 26, .own 32783 4, .int .u32, .int .u32, .int .u32, .int .u32, .int .i64, .int .i64, .int .i64, .int .i64, .flt .f64, .flt .f64, .flt .f64, .ro 100]
def c'19 : List CSh := [.ro 26, .ro 4, .int .u32, .int .u32]
def c'20 : List CSh := [.ro 66, .ro 3, .ro 4, .ro 4, .ro 63, .ro 3, .ro 26, .ro 4, .int .u32, .int .u32, .int .u32, .int .u32]
def c'21 : List CSh := [.own 32772 3, .own 32773 4, .own 32774 4, .own 32775 63]
def c'22 : List CSh := [.own 32768 3, .own 32769 4, .own 32770 4, .ro 63]
def c'23 : List CSh := [.own 32771 3, .own 32772 4, .own 32773 4, .own 32774 63]
def c'24 : List CSh := [.own 32769 3, .own 32770 4, .own 32771 4, .own 32772 63]
def c'25 : List CSh := [.own 32773 3, .own 32774 4, .own 32775 4, .own 32776 63]
def c'26 : List CSh := [.int .u8, .int .u8, .int .u8, .int .u8]
def c'27 : List CSh := [.int .u8, .int .u8, .ro 5, .ro 5, .int .u32, .int .u32]
theorem cx : Ctx Tryz.prog G := ⟨sigOK, eqOK, hmix⟩
def I0 : Sp := ⟨[(0, oi64), (1, oi64)], [], []⟩
def E0 : SL := [(.ret, ⟨[(4, op 64)], [(64, c'0)], []⟩)]
def S0_0 : Sp := ⟨[(0, oi64), (1, oi64), (4, op 64), (5, op 80), (6, oi64)], [(64, c'0), (80, c'1)], []⟩
def X0_0 : SL := [(.exit 0, ⟨[(4, op 64), (5, op 80)], [(64, c'0), (80, c'1)], []⟩)]
def J0 : Nat → Option SL := jl []
noncomputable def P0 : Nat → St G → M (Ex × St G) := pl [lpX S0_0 X0_0 nfw']
theorem l0_0 : LoopOK Tryz.prog G 24 (P0 0) (nq' (ni' Tryz.f26) 0) := lk cx tn J0 1 S0_0 X0_0 (rfl : nfw' = _) (by kernel_rfl) (an0 (by kernel_rfl)) fun x => by kernel_rfl
noncomputable def e0 : Fe G := ⟨I0, E0, fun x => nio' x.1.1 x.1.2.1, Tryz.f26.results.toList⟩
theorem k0 : FnOK Tryz.prog G 26 e0 := fk cx tn J0 (lp := P0) Tryz.func26 (by kernel_rfl) (by kernel_rfl) rfl (nh' _ (by kernel_rfl) (nf' l0_0 nk')) fun x => by kernel_rfl
def I1 : Sp := ⟨[(0, ou8), (1, ou8)], [], []⟩
def E1 : SL := [(.ret, ⟨[(4, op 64)], [(64, c'0)], []⟩)]
noncomputable def e1 : Fe G := ⟨I1, E1, fun x => nct' x.1.1 x.1.2.1, Tryz.f8.results.toList⟩
theorem k1 : FnOK Tryz.prog G 8 e1 := fk cx (tc k0 tn) (jl []) (lp := (pl [])) Tryz.func8 (by kernel_rfl) (by kernel_rfl) rfl (an0 (by kernel_rfl)) fun x => by kernel_rfl
def I2 : Sp := ⟨[(0, oi64), (1, oi64), (2, oi64)], [], []⟩
def E2 : SL := [(.ret, ⟨[(6, ob)], [], []⟩)]
noncomputable def e2 : Fe G := ⟨I2, E2, fun x => ndi' x.1.1 x.1.2.1 x.1.2.2.1, Tryz.f96.results.toList⟩
theorem k2 : FnOK Tryz.prog G 96 e2 := fk cx tn (jl [(1048577, [(.normal, ⟨[(6, ob)], [], []⟩)])]) (lp := (pl [])) Tryz.func96 (by kernel_rfl) (by kernel_rfl) rfl (an0 (by kernel_rfl)) fun x => by kernel_rfl
def I3 : Sp := ⟨[(0, .agg c'2), (1, .agg c'3)], [], []⟩
def E3 : SL := [(.ret, ⟨[(4, ob)], [], []⟩)]
def S3_0 : Sp := ⟨[(2, op 32), (3, op 48), (5, .one (.own 32768 3)), (6, oi64)], [(32, c'2), (48, c'3)], []⟩
def X3_0 : SL := [(.exit 0, ⟨[(2, op 32), (3, op 48)], [(32, c'2), (48, c'3)], []⟩), (.ret, ⟨[(4, ob)], [], []⟩)]
def J3 : Nat → Option SL := jl [(1048585, [(.normal, ⟨[(4, ob)], [], []⟩)])]
noncomputable def P3 : Nat → St G → M (Ex × St G) := pl [lpX S3_0 X3_0 nh3']
theorem t3 : ∀ p ∈ [(96, e2)], FnOK Tryz.prog G p.1 p.2 := (tc k2 tn)
theorem l3_0 : LoopOK Tryz.prog G 56 (P3 0) (nq' (ni' Tryz.f100) 0) := lk cx t3 J3 1 S3_0 X3_0 (rfl : nh3' = _) (by kernel_rfl) (an0 (by kernel_rfl)) fun x => by kernel_rfl
noncomputable def e3 : Fe G := ⟨I3, E3, fun x => njh' x.1.1.1 x.1.1.2.1 x.1.1.2.2.1 x.1.1.2.2.2.1 x.1.1.2.2.2.2.1 x.1.1.2.2.2.2.2.1 x.1.1.2.2.2.2.2.2.1 x.1.1.2.2.2.2.2.2.2.1 x.1.2.1.1 x.1.2.1.2.1 x.1.2.1.2.2.1 x.1.2.1.2.2.2.1 x.1.2.1.2.2.2.2.1 x.1.2.1.2.2.2.2.2.1 x.1.2.1.2.2.2.2.2.2.1 x.1.2.1.2.2.2.2.2.2.2.1 x.1.2.1.2.2.2.2.2.2.2.2.1, Tryz.f100.results.toList⟩
theorem k3 : FnOK Tryz.prog G 100 e3 := fk cx t3 J3 (lp := P3) Tryz.func100 (by kernel_rfl) (by kernel_rfl) rfl (nh' _ (by kernel_rfl) (nf' l3_0 nk')) fun x => by kernel_rfl
def I4 : Sp := ⟨[(0, .agg c'2)], [], []⟩
def E4 : SL := [(.ret, ⟨[(2, oi64)], [], []⟩)]
def S4_0 : Sp := ⟨[(1, op 16), (3, ob), (4, oi64)], [(16, c'2)], []⟩
def X4_0 : SL := [(.exit 0, ⟨[(1, op 16), (3, ob)], [(16, c'2)], []⟩)]
def J4 : Nat → Option SL := jl [(1048581, [(.normal, ⟨[(1, op 16), (3, ob)], [(16, c'2)], []⟩)]), (1048585, [(.normal, ⟨[(1, op 16), (3, ob), (4, oi64)], [(16, c'2)], []⟩)])]
noncomputable def P4 : Nat → St G → M (Ex × St G) := pl [lpX S4_0 X4_0 nhu']
theorem t4 : ∀ p ∈ [(96, e2), (100, e3)], FnOK Tryz.prog G p.1 p.2 := (tc k2 (tc k3 tn))
theorem l4_0 : LoopOK Tryz.prog G 73 (P4 0) (nq' (ni' Tryz.f60) 0) := lk cx t4 J4 1 S4_0 X4_0 (rfl : nhu' = _) (by kernel_rfl) (an0 (by kernel_rfl)) fun x => by kernel_rfl
noncomputable def e4 : Fe G := ⟨I4, E4, fun x => ncv' x.1.1.1 x.1.1.2.1 x.1.1.2.2.1 x.1.1.2.2.2.1 x.1.1.2.2.2.2.1 x.1.1.2.2.2.2.2.1 x.1.1.2.2.2.2.2.2.1 x.1.1.2.2.2.2.2.2.2.1, Tryz.f60.results.toList⟩
theorem k4 : FnOK Tryz.prog G 60 e4 := fk cx t4 J4 (lp := P4) Tryz.func60 (by kernel_rfl) (by kernel_rfl) rfl (nh' _ (by kernel_rfl) (nf' l4_0 nk')) fun x => by kernel_rfl
def I5 : Sp := ⟨[(0, .agg c'2)], [], []⟩
def E5 : SL := [(.ret, ⟨[(2, op 32)], [(32, c'4)], []⟩)]
noncomputable def e5 : Fe G := ⟨I5, E5, fun x => neo' x.1.1.1 x.1.1.2.1 x.1.1.2.2.1 x.1.1.2.2.2.1 x.1.1.2.2.2.2.1 x.1.1.2.2.2.2.2.1 x.1.1.2.2.2.2.2.2.1 x.1.1.2.2.2.2.2.2.2.1, Tryz.f27.results.toList⟩
theorem k5 : FnOK Tryz.prog G 27 e5 := fk cx (tc k4 tn) (jl []) (lp := (pl [])) Tryz.func27 (by kernel_rfl) (by kernel_rfl) rfl (an0 (by kernel_rfl)) fun x => by kernel_rfl
def I6 : Sp := ⟨[(0, oi64), (1, oi64), (2, oro 3)], [], []⟩
def E6 : SL := [(.ret, ⟨[(6, ob)], [], []⟩)]
def S6_0 : Sp := ⟨[(0, oi64), (1, oi64), (9, oro 3), (10, oi64), (11, oi64)], [], []⟩
def X6_0 : SL := [(.exit 0, ⟨[], [], []⟩), (.ret, ⟨[(6, ob)], [], []⟩)]
def J6 : Nat → Option SL := jl []
noncomputable def P6 : Nat → St G → M (Ex × St G) := pl [lpX S6_0 X6_0 nek']
theorem l6_0 : LoopOK Tryz.prog G 24 (P6 0) (nq' (ni' Tryz.f102) 0) := lk cx tn J6 1 S6_0 X6_0 (rfl : nek' = _) (by kernel_rfl) (an0 (by kernel_rfl)) fun x => by kernel_rfl
noncomputable def e6 : Fe G := ⟨I6, E6, fun x => n1' x.1.1 x.1.2.1 x.1.2.2.1, Tryz.f102.results.toList⟩
theorem k6 : FnOK Tryz.prog G 102 e6 := fk cx tn J6 (lp := P6) Tryz.func102 (by kernel_rfl) (by kernel_rfl) rfl (nh' _ (by kernel_rfl) (nf' l6_0 nk')) fun x => by kernel_rfl
def I7 : Sp := ⟨[(0, .agg c'3), (1, oi64)], [], []⟩
def E7 : SL := [(.ret, ⟨[(4, ob)], [], []⟩)]
noncomputable def e7 : Fe G := ⟨I7, E7, fun x => nf5' x.1.1.1 x.1.1.2.1 x.1.1.2.2.1 x.1.1.2.2.2.1 x.1.1.2.2.2.2.1 x.1.1.2.2.2.2.2.1 x.1.1.2.2.2.2.2.2.1 x.1.1.2.2.2.2.2.2.2.1 x.1.1.2.2.2.2.2.2.2.2.1 x.1.2.1, Tryz.f103.results.toList⟩
theorem k7 : FnOK Tryz.prog G 103 e7 := fk cx (tc k6 tn) (jl [(1048577, [(.normal, ⟨[(4, ob)], [], []⟩)])]) (lp := (pl [])) Tryz.func103 (by kernel_rfl) (by kernel_rfl) rfl (an0 (by kernel_rfl)) fun x => by kernel_rfl
def I8 : Sp := ⟨[(0, .agg c'2)], [], []⟩
def E8 : SL := [(.ret, ⟨[(2, ob)], [], []⟩)]
noncomputable def e8 : Fe G := ⟨I8, E8, fun x => nf4' x.1.1.1 x.1.1.2.1 x.1.1.2.2.1 x.1.1.2.2.2.1 x.1.1.2.2.2.2.1 x.1.1.2.2.2.2.2.1 x.1.1.2.2.2.2.2.2.1 x.1.1.2.2.2.2.2.2.2.1, Tryz.f104.results.toList⟩
theorem k8 : FnOK Tryz.prog G 104 e8 := fk cx tn (jl [(1048577, [(.normal, ⟨[(2, ob)], [], []⟩)])]) (lp := (pl [])) Tryz.func104 (by kernel_rfl) (by kernel_rfl) rfl (an0 (by kernel_rfl)) fun x => by kernel_rfl
def I9 : Sp := ⟨[(0, .agg c'2)], [], []⟩
def E9 : SL := [(.ret, ⟨[(2, oi64)], [], []⟩)]
def S9_0 : Sp := ⟨[(1, op 16), (3, ob), (28, oro 100), (29, oi64), (30, oi64)], [(16, c'2)], []⟩
def X9_0 : SL := [(.exit 0, ⟨[(1, op 16), (3, ob)], [(16, c'2)], []⟩)]
def J9 : Nat → Option SL := jl [(1048581, [(.normal, ⟨[(1, op 16), (3, ob)], [(16, c'2)], []⟩)]), (1048585, [(.normal, ⟨[(1, op 16), (3, ob), (28, oro 100), (29, oi64), (30, oi64)], [(16, c'2)], []⟩)])]
noncomputable def P9 : Nat → St G → M (Ex × St G) := pl [lpX S9_0 X9_0 nex']
theorem t9 : ∀ p ∈ [(102, e6), (103, e7), (104, e8)], FnOK Tryz.prog G p.1 p.2 := (tc k6 (tc k7 (tc k8 tn)))
theorem l9_0 : LoopOK Tryz.prog G 60 (P9 0) (nq' (ni' Tryz.f63) 0) := lk cx t9 J9 1 S9_0 X9_0 (rfl : nex' = _) (by kernel_rfl) (an0 (by kernel_rfl)) fun x => by kernel_rfl
noncomputable def e9 : Fe G := ⟨I9, E9, fun x => nbu' x.1.1.1 x.1.1.2.1 x.1.1.2.2.1 x.1.1.2.2.2.1 x.1.1.2.2.2.2.1 x.1.1.2.2.2.2.2.1 x.1.1.2.2.2.2.2.2.1 x.1.1.2.2.2.2.2.2.2.1, Tryz.f63.results.toList⟩
theorem k9 : FnOK Tryz.prog G 63 e9 := fk cx t9 J9 (lp := P9) Tryz.func63 (by kernel_rfl) (by kernel_rfl) rfl (nh' _ (by kernel_rfl) (nf' l9_0 nk')) fun x => by kernel_rfl
def I10 : Sp := ⟨[(0, .agg c'2)], [], []⟩
def E10 : SL := [(.ret, ⟨[(2, op 32)], [(32, c'5)], []⟩)]
noncomputable def e10 : Fe G := ⟨I10, E10, fun x => ne6' x.1.1.1 x.1.1.2.1 x.1.1.2.2.1 x.1.1.2.2.2.1 x.1.1.2.2.2.2.1 x.1.1.2.2.2.2.2.1 x.1.1.2.2.2.2.2.2.1 x.1.1.2.2.2.2.2.2.2.1, Tryz.f79.results.toList⟩
theorem k10 : FnOK Tryz.prog G 79 e10 := fk cx (tc k9 tn) (jl []) (lp := (pl [])) Tryz.func79 (by kernel_rfl) (by kernel_rfl) rfl (an0 (by kernel_rfl)) fun x => by kernel_rfl
def I11 : Sp := ⟨[(0, .agg c'5), (1, .agg c'5)], [], []⟩
def E11 : SL := [(.ret, ⟨[(4, op 64)], [(64, c'5)], []⟩)]
noncomputable def e11 : Fe G := ⟨I11, E11, fun x => ndq' x.1.1.1 x.1.1.2.1 x.1.2.1.1 x.1.2.1.2.1, Tryz.f78.results.toList⟩
theorem k11 : FnOK Tryz.prog G 78 e11 := fk cx tn (jl []) (lp := (pl [])) Tryz.func78 (by kernel_rfl) (by kernel_rfl) rfl (an0 (by kernel_rfl)) fun x => by kernel_rfl
def I12 : Sp := ⟨[(0, .agg c'2), (1, .agg c'6)], [], []⟩
def E12 : SL := [(.ret, ⟨[(4, op 64)], [(64, c'5)], []⟩)]
noncomputable def e12 : Fe G := ⟨I12, E12, fun x => nee' x.1.1.1 x.1.1.2.1 x.1.1.2.2.1 x.1.1.2.2.2.1 x.1.1.2.2.2.2.1 x.1.1.2.2.2.2.2.1 x.1.1.2.2.2.2.2.2.1 x.1.1.2.2.2.2.2.2.2.1 x.1.2.1.1 x.1.2.1.2.1 x.1.2.1.2.2.1 x.1.2.1.2.2.2.1 x.1.2.1.2.2.2.2.1 x.1.2.1.2.2.2.2.2.1 x.1.2.1.2.2.2.2.2.2.1 x.1.2.1.2.2.2.2.2.2.2.1 x.1.2.1.2.2.2.2.2.2.2.2.1 x.1.2.1.2.2.2.2.2.2.2.2.2.1 x.1.2.1.2.2.2.2.2.2.2.2.2.2.1 x.1.2.1.2.2.2.2.2.2.2.2.2.2.2.1, Tryz.f65.results.toList⟩
theorem k12 : FnOK Tryz.prog G 65 e12 := fk cx (tc k10 (tc k11 tn)) (jl []) (lp := (pl [])) Tryz.func65 (by kernel_rfl) (by kernel_rfl) rfl (an0 (by kernel_rfl)) fun x => by kernel_rfl
def I13 : Sp := ⟨[(0, .agg c'5), (1, .agg c'5)], [], []⟩
def E13 : SL := [(.ret, ⟨[(4, op 64)], [(64, c'5)], []⟩)]
noncomputable def e13 : Fe G := ⟨I13, E13, fun x => net' x.1.1.1 x.1.1.2.1 x.1.2.1.1 x.1.2.1.2.1, Tryz.f64.results.toList⟩
theorem k13 : FnOK Tryz.prog G 64 e13 := fk cx tn (jl []) (lp := (pl [])) Tryz.func64 (by kernel_rfl) (by kernel_rfl) rfl (an0 (by kernel_rfl)) fun x => by kernel_rfl
def I14 : Sp := ⟨[(0, .agg c'5), (1, .agg c'5)], [], []⟩
def E14 : SL := [(.ret, ⟨[(4, op 64)], [(64, c'5)], []⟩)]
noncomputable def e14 : Fe G := ⟨I14, E14, fun x => nd1' x.1.1.1 x.1.1.2.1 x.1.2.1.1 x.1.2.1.2.1, Tryz.f66.results.toList⟩
theorem k14 : FnOK Tryz.prog G 66 e14 := fk cx tn (jl []) (lp := (pl [])) Tryz.func66 (by kernel_rfl) (by kernel_rfl) rfl (an0 (by kernel_rfl)) fun x => by kernel_rfl
def I15 : Sp := ⟨[(0, .agg c'2), (1, oro 46), (2, oro 26)], [], []⟩
def E15 : SL := [(.ret, ⟨[(6, op 96), (7, oi64)], [(96, c'7)], []⟩)]
def S15_0 : Sp := ⟨[(2, oro 26), (3, op 48), (6, op 96), (8, op 128), (32, oro 46), (33, oi64), (34, oi64)], [(48, c'2), (96, c'7), (128, c'8)], []⟩
def X15_0 : SL := [(.exit 0, ⟨[(6, op 96), (8, op 128)], [(96, c'7), (128, c'8)], []⟩)]
def J15 : Nat → Option SL := jl []
noncomputable def P15 : Nat → St G → M (Ex × St G) := pl [lpX S15_0 X15_0 nfd']
theorem t15 : ∀ p ∈ [(63, e9), (65, e12), (64, e13), (66, e14)], FnOK Tryz.prog G p.1 p.2 := (tc k9 (tc k12 (tc k13 (tc k14 tn))))
theorem l15_0 : LoopOK Tryz.prog G 71 (P15 0) (nq' (ni' Tryz.f32) 0) := lk cx t15 J15 1 S15_0 X15_0 (rfl : nfd' = _) (by kernel_rfl) (an0 (by kernel_rfl)) fun x => by kernel_rfl
noncomputable def e15 : Fe G := ⟨I15, E15, fun x => ng3' x.1.1.1 x.1.1.2.1 x.1.1.2.2.1 x.1.1.2.2.2.1 x.1.1.2.2.2.2.1 x.1.1.2.2.2.2.2.1 x.1.1.2.2.2.2.2.2.1 x.1.1.2.2.2.2.2.2.2.1 x.1.2.1 x.1.2.2.1, Tryz.f32.results.toList⟩
theorem k15 : FnOK Tryz.prog G 32 e15 := fk cx t15 J15 (lp := P15) Tryz.func32 (by kernel_rfl) (by kernel_rfl) rfl (nh' _ (by kernel_rfl) (nf' l15_0 nk')) fun x => by kernel_rfl
def I16 : Sp := ⟨[(0, oi64), (1, oi64), (2, oi64)], [], []⟩
def E16 : SL := [(.ret, ⟨[(6, ob)], [], []⟩)]
noncomputable def e16 : Fe G := ⟨I16, E16, fun x => nfc' x.1.1 x.1.2.1 x.1.2.2.1, Tryz.f129.results.toList⟩
theorem k16 : FnOK Tryz.prog G 129 e16 := fk cx (tc k6 tn) (jl [(1048577, [(.normal, ⟨[(6, ob)], [], []⟩)])]) (lp := (pl [])) Tryz.func129 (by kernel_rfl) (by kernel_rfl) rfl (an0 (by kernel_rfl)) fun x => by kernel_rfl
def I17 : Sp := ⟨[(0, .agg c'2), (1, oi64), (2, oi64)], [], []⟩
def E17 : SL := [(.ret, ⟨[(6, ob)], [], []⟩)]
noncomputable def e17 : Fe G := ⟨I17, E17, fun x => nd6' x.1.1.1 x.1.1.2.1 x.1.1.2.2.1 x.1.1.2.2.2.1 x.1.1.2.2.2.2.1 x.1.1.2.2.2.2.2.1 x.1.1.2.2.2.2.2.2.1 x.1.1.2.2.2.2.2.2.2.1 x.1.2.1 x.1.2.2.1, Tryz.f105.results.toList⟩
theorem k17 : FnOK Tryz.prog G 105 e17 := fk cx (tc k9 (tc k16 tn)) (jl [(1048577, [(.normal, ⟨[(6, ob)], [], []⟩)])]) (lp := (pl [])) Tryz.func105 (by kernel_rfl) (by kernel_rfl) rfl (an0 (by kernel_rfl)) fun x => by kernel_rfl
def I18 : Sp := ⟨[(0, .agg c'2), (1, .agg c'9)], [], []⟩
def E18 : SL := [(.ret, ⟨[(4, ob)], [], []⟩)]
noncomputable def e18 : Fe G := ⟨I18, E18, fun x => nh2' x.1.1.1 x.1.1.2.1 x.1.1.2.2.1 x.1.1.2.2.2.1 x.1.1.2.2.2.2.1 x.1.1.2.2.2.2.2.1 x.1.1.2.2.2.2.2.2.1 x.1.1.2.2.2.2.2.2.2.1 x.1.2.1.1 x.1.2.1.2.1 x.1.2.1.2.2.1 x.1.2.1.2.2.2.1 x.1.2.1.2.2.2.2.1, Tryz.f67.results.toList⟩
theorem k18 : FnOK Tryz.prog G 67 e18 := fk cx (tc k17 tn) (jl [(1048577, [(.normal, ⟨[(4, ob)], [], []⟩)])]) (lp := (pl [])) Tryz.func67 (by kernel_rfl) (by kernel_rfl) rfl (an0 (by kernel_rfl)) fun x => by kernel_rfl
def I19 : Sp := ⟨[(0, oi64)], [], []⟩
def E19 : SL := [(.ret, ⟨[(2, ob)], [], []⟩)]
noncomputable def e19 : Fe G := ⟨I19, E19, fun x => ng2' x.1.1, Tryz.f130.results.toList⟩
theorem k19 : FnOK Tryz.prog G 130 e19 := fk cx tn (jl []) (lp := (pl [])) Tryz.func130 (by kernel_rfl) (by kernel_rfl) rfl (an0 (by kernel_rfl)) fun x => by kernel_rfl
def I20 : Sp := ⟨[(0, oi64), (1, oi64)], [], []⟩
def E20 : SL := [(.ret, ⟨[(4, oi64)], [], []⟩)]
noncomputable def e20 : Fe G := ⟨I20, E20, fun x => nd4' x.1.1 x.1.2.1, Tryz.f107.results.toList⟩
theorem k20 : FnOK Tryz.prog G 107 e20 := fk cx (tc k19 tn) (jl []) (lp := (pl [])) Tryz.func107 (by kernel_rfl) (by kernel_rfl) rfl (an0 (by kernel_rfl)) fun x => by kernel_rfl
def I21 : Sp := ⟨[(0, oro 3)], [], []⟩
def E21 : SL := [(.ret, ⟨[(2, oi64)], [], []⟩)]
def S21_0 : Sp := ⟨[(3, oi64), (6, oro 3), (7, oi64), (8, oi64)], [], []⟩
def X21_0 : SL := [(.exit 0, ⟨[(3, oi64)], [], []⟩), (.ret, ⟨[(2, oi64)], [], []⟩)]
def J21 : Nat → Option SL := jl []
noncomputable def P21 : Nat → St G → M (Ex × St G) := pl [lpX S21_0 X21_0 nhj']
theorem l21_0 : LoopOK Tryz.prog G 18 (P21 0) (nq' (ni' Tryz.f106) 0) := lk cx tn J21 1 S21_0 X21_0 (rfl : nhj' = _) (by kernel_rfl) (an0 (by kernel_rfl)) fun x => by kernel_rfl
noncomputable def e21 : Fe G := ⟨I21, E21, fun x => niu' x.1.1, Tryz.f106.results.toList⟩
theorem k21 : FnOK Tryz.prog G 106 e21 := fk cx tn J21 (lp := P21) Tryz.func106 (by kernel_rfl) (by kernel_rfl) rfl (nh' _ (by kernel_rfl) (nf' l21_0 nk')) fun x => by kernel_rfl
def I22 : Sp := ⟨[(0, .agg c'9), (1, .agg c'9)], [], []⟩
def E22 : SL := [(.ret, ⟨[(4, oi64)], [], []⟩)]
noncomputable def e22 : Fe G := ⟨I22, E22, fun x => nep' x.1.1.1 x.1.1.2.1 x.1.1.2.2.1 x.1.1.2.2.2.1 x.1.1.2.2.2.2.1 x.1.2.1.1 x.1.2.1.2.1 x.1.2.1.2.2.1 x.1.2.1.2.2.2.1 x.1.2.1.2.2.2.2.1, Tryz.f68.results.toList⟩
theorem k22 : FnOK Tryz.prog G 68 e22 := fk cx (tc k20 (tc k21 tn)) (jl []) (lp := (pl [])) Tryz.func68 (by kernel_rfl) (by kernel_rfl) rfl (an0 (by kernel_rfl)) fun x => by kernel_rfl
def I23 : Sp := ⟨[(0, .agg c'2), (1, .agg c'10)], [], []⟩
def E23 : SL := [(.ret, ⟨[(4, ob)], [], []⟩)]
def S23_0 : Sp := ⟨[(2, op 32), (3, op 48), (38, oro 3), (39, oi64), (40, oi64)], [(32, c'2), (48, c'10)], []⟩
def X23_0 : SL := [(.exit 0, ⟨[(2, op 32), (3, op 48)], [(32, c'2), (48, c'10)], []⟩), (.ret, ⟨[(4, ob)], [], []⟩)]
def S23_1 : Sp := ⟨[(2, op 32), (3, op 48), (52, oro 63), (53, oi64), (54, oi64)], [(32, c'2), (48, c'10)], []⟩
def X23_1 : SL := [(.exit 2, ⟨[], [], []⟩), (.ret, ⟨[(4, ob)], [], []⟩)]
def J23 : Nat → Option SL := jl [(1048589, [(.normal, ⟨[(2, op 32), (3, op 48), (52, oro 63), (53, oi64), (54, oi64), (77, ob)], [(32, c'2), (48, c'10)], []⟩)])]
noncomputable def P23 : Nat → St G → M (Ex × St G) := pl [lpX S23_0 X23_0 ngx', lpX S23_1 X23_1 ngs']
theorem t23 : ∀ p ∈ [(63, e9), (67, e18), (68, e22)], FnOK Tryz.prog G p.1 p.2 := (tc k9 (tc k18 (tc k22 tn)))
theorem l23_1 : LoopOK Tryz.prog G 79 (P23 1) (nq' (ni' Tryz.f33) 1) := lk cx t23 J23 2 S23_1 X23_1 (rfl : ngs' = _) (by kernel_rfl) (an0 (by kernel_rfl)) fun x => by kernel_rfl
theorem l23_0 : LoopOK Tryz.prog G 79 (P23 0) (nq' (ni' Tryz.f33) 0) := lk cx t23 J23 1 S23_0 X23_0 (rfl : ngx' = _) (by kernel_rfl) (an0 (by kernel_rfl)) fun x => by kernel_rfl
noncomputable def e23 : Fe G := ⟨I23, E23, fun x => ndb' x.1.1.1 x.1.1.2.1 x.1.1.2.2.1 x.1.1.2.2.2.1 x.1.1.2.2.2.2.1 x.1.1.2.2.2.2.2.1 x.1.1.2.2.2.2.2.2.1 x.1.1.2.2.2.2.2.2.2.1 x.1.2.1.1 x.1.2.1.2.1 x.1.2.1.2.2.1 x.1.2.1.2.2.2.1, Tryz.f33.results.toList⟩
theorem k23 : FnOK Tryz.prog G 33 e23 := fk cx t23 J23 (lp := P23) Tryz.func33 (by kernel_rfl) (by kernel_rfl) rfl (nh' _ (by kernel_rfl) (nf' l23_0 (nf' l23_1 nk'))) fun x => by kernel_rfl
def I24 : Sp := ⟨[(0, oi64)], [], []⟩
def E24 : SL := [(.ret, ⟨[(2, ob)], [], []⟩)]
noncomputable def e24 : Fe G := ⟨I24, E24, fun x => ndy' x.1.1, Tryz.f70.results.toList⟩
theorem k24 : FnOK Tryz.prog G 70 e24 := fk cx tn (jl [(1048577, [(.normal, ⟨[(2, ob)], [], []⟩)])]) (lp := (pl [])) Tryz.func70 (by kernel_rfl) (by kernel_rfl) rfl (an0 (by kernel_rfl)) fun x => by kernel_rfl
def I25 : Sp := ⟨[(0, oro 3), (1, .one (.clo 70 [] []))], [], []⟩
def E25 : SL := [(.ret, ⟨[(4, oi64)], [], []⟩)]
def S25_0 : Sp := ⟨[(0, oro 3), (1, .one (.clo 70 [] [])), (7, oi64), (8, oi64)], [], []⟩
def X25_0 : SL := [(.exit 0, ⟨[], [], []⟩), (.ret, ⟨[(4, oi64)], [], []⟩)]
def J25 : Nat → Option SL := jl []
noncomputable def P25 : Nat → St G → M (Ex × St G) := pl [lpX S25_0 X25_0 n5']
theorem t25 : ∀ p ∈ [(70, e24)], FnOK Tryz.prog G p.1 p.2 := (tc k24 tn)
theorem l25_0 : LoopOK Tryz.prog G 19 (P25 0) (nq' (ni' Tryz.f108) 0) := lk cx t25 J25 1 S25_0 X25_0 (rfl : n5' = _) (by kernel_rfl) (an0 (by kernel_rfl)) fun x => by kernel_rfl
noncomputable def e25 : Fe G := ⟨I25, E25, fun x => nbq' x.1.1, Tryz.f108.results.toList⟩
theorem k25 : FnOK Tryz.prog G 108 e25 := fk cx t25 J25 (lp := P25) Tryz.func108 (by kernel_rfl) (by kernel_rfl) rfl (nh' _ (by kernel_rfl) (nf' l25_0 nk')) fun x => by kernel_rfl
def I26 : Sp := ⟨[(0, oro 3), (1, .one (.clo 70 [] []))], [], []⟩
def E26 : SL := [(.ret, ⟨[(4, ob)], [], []⟩)]
noncomputable def e26 : Fe G := ⟨I26, E26, fun x => n2' x.1.1, Tryz.f69.results.toList⟩
theorem k26 : FnOK Tryz.prog G 69 e26 := fk cx (tc k25 tn) (jl []) (lp := (pl [])) Tryz.func69 (by kernel_rfl) (by kernel_rfl) rfl (an0 (by kernel_rfl)) fun x => by kernel_rfl
def I27 : Sp := ⟨[(0, .agg c'10), (1, oro 3)], [], []⟩
def E27 : SL := [(.ret, ⟨[(4, ob)], [], []⟩)]
noncomputable def e27 : Fe G := ⟨I27, E27, fun x => nel' x.1.1.1 x.1.1.2.1 x.1.1.2.2.1 x.1.1.2.2.2.1 x.1.2.1, Tryz.f34.results.toList⟩
theorem k27 : FnOK Tryz.prog G 34 e27 := fk cx (tc k26 tn) (jl [(1048577, [(.normal, ⟨[(4, ob)], [], []⟩)])]) (lp := (pl [])) Tryz.func34 (by kernel_rfl) (by kernel_rfl) rfl (an0 (by kernel_rfl)) fun x => by kernel_rfl
def I28 : Sp := ⟨[(0, oro 3)], [], []⟩
def E28 : SL := [(.ret, ⟨[(2, .one (.own 32768 3))], [], []⟩)]
noncomputable def e28 : Fe G := ⟨I28, E28, fun x => nbn' x.1.1, Tryz.f36.results.toList⟩
theorem s28 : cloFe G 2 3 = e28 := by kernel_rfl
theorem k28 : FnOK Tryz.prog G 36 e28 := s28 ▸ nse' (r := 2) (t := 3) sigOK ⟨_, Tryz.func36, by kernel_rfl, by kernel_rfl⟩ (tS := 34) (size := 1) (bytes := Tryz.t3.bytes) (by kernel_rfl) (by kernel_rfl) (Nat.le_of_ble_eq_true (by kernel_rfl)) (fun w a n c news => nw9' _ rfl (by kernel_rfl) w a n c news) (nyr')
def I29 : Sp := ⟨[(0, oro 4)], [], []⟩
def E29 : SL := [(.ret, ⟨[(2, .one (.own 32768 4))], [], []⟩)]
noncomputable def e29 : Fe G := ⟨I29, E29, fun x => n6' x.1.1, Tryz.f71.results.toList⟩
theorem s29 : cloFe G 2 4 = e29 := by kernel_rfl
theorem k29 : FnOK Tryz.prog G 71 e29 := s29 ▸ nse' (r := 2) (t := 4) sigOK ⟨_, Tryz.func71, by kernel_rfl, by kernel_rfl⟩ (tS := 35) (size := 1) (bytes := Tryz.t4.bytes) (by kernel_rfl) (by kernel_rfl) (Nat.le_of_ble_eq_true (by kernel_rfl)) (fun w a n c news => nxf' _ rfl (by kernel_rfl) w a n c news) (nzg')
def I30 : Sp := ⟨[(0, oro 63)], [], []⟩
def E30 : SL := [(.ret, ⟨[(2, .one (.own 32768 63))], [], []⟩)]
noncomputable def e30 : Fe G := ⟨I30, E30, fun x => n3' x.1.1, Tryz.f72.results.toList⟩
theorem s30 : cloFe G 2 63 = e30 := by kernel_rfl
theorem k30 : FnOK Tryz.prog G 72 e30 := s30 ▸ nse' (r := 2) (t := 63) sigOK ⟨_, Tryz.func72, by kernel_rfl, by kernel_rfl⟩ (tS := 36) (size := 5) (bytes := Tryz.t63.bytes) (by kernel_rfl) (by kernel_rfl) (Nat.le_of_ble_eq_true (by kernel_rfl)) (fun w a n c news => nwu' _ rfl (by kernel_rfl) w a n c news) (ny1')
def I31 : Sp := ⟨[(0, .agg c'10)], [], []⟩
def E31 : SL := [(.ret, ⟨[(2, op 32)], [(32, c'4)], []⟩)]
noncomputable def e31 : Fe G := ⟨I31, E31, fun x => nd5' x.1.1.1 x.1.1.2.1 x.1.1.2.2.1 x.1.1.2.2.2.1, Tryz.f35.results.toList⟩
theorem k31 : FnOK Tryz.prog G 35 e31 := fk cx (tc k28 (tc k29 (tc k30 tn))) (jl []) (lp := (pl [])) Tryz.func35 (by kernel_rfl) (by kernel_rfl) rfl (an0 (by kernel_rfl)) fun x => by kernel_rfl
def I32 : Sp := ⟨[(0, oi64)], [], []⟩
def E32 : SL := [(.ret, ⟨[(2, op 32)], [(32, c'7)], []⟩)]
noncomputable def e32 : Fe G := ⟨I32, E32, fun x => niw' x.1.1, Tryz.f37.results.toList⟩
theorem k32 : FnOK Tryz.prog G 37 e32 := fk cx tn (jl []) (lp := (pl [])) Tryz.func37 (by kernel_rfl) (by kernel_rfl) rfl (an0 (by kernel_rfl)) fun x => by kernel_rfl
def I33 : Sp := ⟨[(0, oi64), (1, oi64)], [], []⟩
def E33 : SL := [(.ret, ⟨[(4, op 64)], [(64, c'5)], []⟩)]
noncomputable def e33 : Fe G := ⟨I33, E33, fun x => ngo' x.1.1 x.1.2.1, Tryz.f81.results.toList⟩
theorem k33 : FnOK Tryz.prog G 81 e33 := fk cx tn (jl [(1048577, [(.normal, ⟨[(0, oi64), (1, oi64), (4, op 64), (10, ob)], [(64, c'5)], []⟩)])]) (lp := (pl [])) Tryz.func81 (by kernel_rfl) (by kernel_rfl) rfl (an0 (by kernel_rfl)) fun x => by kernel_rfl
def I34 : Sp := ⟨[(0, .agg c'5), (1, oi64), (2, oi64)], [], []⟩
def E34 : SL := [(.ret, ⟨[(6, ob)], [], []⟩)]
noncomputable def e34 : Fe G := ⟨I34, E34, fun x => ncw' x.1.1.1 x.1.1.2.1 x.1.2.1 x.1.2.2.1, Tryz.f76.results.toList⟩
theorem k34 : FnOK Tryz.prog G 76 e34 := fk cx (tc k33 (tc k11 tn)) (jl []) (lp := (pl [])) Tryz.func76 (by kernel_rfl) (by kernel_rfl) rfl (an0 (by kernel_rfl)) fun x => by kernel_rfl
def I35 : Sp := ⟨[(0, .agg c'2), (1, .agg c'10), (2, oro 46)], [], []⟩
def E35 : SL := [(.ret, ⟨[(6, .one (.own 32768 66))], [], []⟩)]
def S35_0 : Sp := ⟨[(3, op 48), (4, op 64), (7, op 112), (25, oro 46), (26, oi64), (27, oi64)], [(48, c'2), (64, c'10), (112, c'5)], []⟩
def X35_0 : SL := [(.exit 0, ⟨[(4, op 64), (7, op 112)], [(64, c'10), (112, c'5)], []⟩)]
def S35_1 : Sp := ⟨[(7, op 112), (10, .one (.own 32768 66)), (38, oro 63), (39, oi64), (40, oi64)], [(112, c'5)], []⟩
def X35_1 : SL := [(.exit 2, ⟨[(10, .one (.own 32768 66))], [], []⟩)]
def J35 : Nat → Option SL := jl []
noncomputable def P35 : Nat → St G → M (Ex × St G) := pl [lpX S35_0 X35_0 nfg', lpX S35_1 X35_1 nfe']
theorem t35 : ∀ p ∈ [(33, e23), (65, e12), (66, e14), (76, e34)], FnOK Tryz.prog G p.1 p.2 := (tc k23 (tc k12 (tc k14 (tc k34 tn))))
theorem l35_1 : LoopOK Tryz.prog G 60 (P35 1) (nq' (ni' Tryz.f39) 1) := lk cx t35 J35 2 S35_1 X35_1 (rfl : nfe' = _) (by kernel_rfl) (an0 (by kernel_rfl)) fun x => by kernel_rfl
theorem l35_0 : LoopOK Tryz.prog G 60 (P35 0) (nq' (ni' Tryz.f39) 0) := lk cx t35 J35 1 S35_0 X35_0 (rfl : nfg' = _) (by kernel_rfl) (an0 (by kernel_rfl)) fun x => by kernel_rfl
noncomputable def e35 : Fe G := ⟨I35, E35, fun x => ngr' x.1.1.1 x.1.1.2.1 x.1.1.2.2.1 x.1.1.2.2.2.1 x.1.1.2.2.2.2.1 x.1.1.2.2.2.2.2.1 x.1.1.2.2.2.2.2.2.1 x.1.1.2.2.2.2.2.2.2.1 x.1.2.1.1 x.1.2.1.2.1 x.1.2.1.2.2.1 x.1.2.1.2.2.2.1 x.1.2.2.1, Tryz.f39.results.toList⟩
theorem k35 : FnOK Tryz.prog G 39 e35 := fk cx t35 J35 (lp := P35) Tryz.func39 (by kernel_rfl) (by kernel_rfl) rfl (nh' _ (by kernel_rfl) (nf' l35_0 (nf' l35_1 nk'))) fun x => by kernel_rfl
def I36 : Sp := ⟨[(0, .agg c'9), (1, op 65536), (2, op 65537)], [(65536, [.int .i64]), (65537, [.int .i64])], []⟩
def E36 : SL := [(.ret, ⟨[(4, ob)], [(65536, [.int .i64]), (65537, [.int .i64])], [65536, 65537]⟩)]
noncomputable def e36 : Fe G := ⟨I36, E36, fun x => ne2' x.1.1.1 x.1.1.2.1 x.1.1.2.2.1 x.1.1.2.2.2.1 x.1.1.2.2.2.2.1 x.2.1.1 x.2.2.1.1, Tryz.f110.results.toList⟩
theorem k36 : FnOK Tryz.prog G 110 e36 := fk cx tn (jl [(1048577, [(.normal, ⟨[(4, ob)], [(65536, [.int .i64]), (65537, [.int .i64])], [65536, 65537]⟩)])]) (lp := (pl [])) Tryz.func110 (by kernel_rfl) (by kernel_rfl) rfl (an0 (by kernel_rfl)) fun x => by kernel_rfl
def I37 : Sp := ⟨[(0, oro 63), (1, .one (.clo 110 [] [(65536, 0), (65537, 0)]))], [(65536, [.int .i64]), (65537, [.int .i64])], []⟩
def E37 : SL := [(.ret, ⟨[(4, oi64)], [(65536, [.int .i64]), (65537, [.int .i64])], [65536, 65537]⟩)]
def S37_0 : Sp := ⟨[(0, oro 63), (1, .one (.clo 110 [] [(65536, 0), (65537, 0)])), (7, oi64), (8, oi64)], [(65536, [.int .i64]), (65537, [.int .i64])], [65536, 65537]⟩
def X37_0 : SL := [(.exit 0, ⟨[], [(65536, [.int .i64]), (65537, [.int .i64])], [65536, 65537]⟩), (.ret, ⟨[(4, oi64)], [(65536, [.int .i64]), (65537, [.int .i64])], [65536, 65537]⟩)]
def J37 : Nat → Option SL := jl []
noncomputable def P37 : Nat → St G → M (Ex × St G) := pl [lpX S37_0 X37_0 nx']
theorem t37 : ∀ p ∈ [(110, e36)], FnOK Tryz.prog G p.1 p.2 := (tc k36 tn)
theorem l37_0 : LoopOK Tryz.prog G 19 (P37 0) (nq' (ni' Tryz.f109) 0) := lk cx t37 J37 1 S37_0 X37_0 (rfl : nx' = _) (by kernel_rfl) (an0 (by kernel_rfl)) fun x => by kernel_rfl
noncomputable def e37 : Fe G := ⟨I37, E37, fun x => nbb' x.1.1 x.2.1.1 x.2.2.1.1, Tryz.f109.results.toList⟩
theorem k37 : FnOK Tryz.prog G 109 e37 := fk cx t37 J37 (lp := P37) Tryz.func109 (by kernel_rfl) (by kernel_rfl) rfl (nh' _ (by kernel_rfl) (nf' l37_0 nk')) fun x => by kernel_rfl
def I38 : Sp := ⟨[(0, .agg c'10), (1, oi64), (2, oi64)], [], []⟩
def E38 : SL := [(.ret, ⟨[(6, oi64), (7, ob)], [], []⟩)]
noncomputable def e38 : Fe G := ⟨I38, E38, fun x => nf7' x.1.1.1 x.1.1.2.1 x.1.1.2.2.1 x.1.1.2.2.2.1 x.1.2.1 x.1.2.2.1, Tryz.f73.results.toList⟩
theorem k38 : FnOK Tryz.prog G 73 e38 := fk cx (tc k37 tn) (jl [(1048580, [(.normal, ⟨[(6, oi64), (7, ob)], [], []⟩)])]) (lp := (pl [])) Tryz.func73 (by kernel_rfl) (by kernel_rfl) rfl (an0 (by kernel_rfl)) fun x => by kernel_rfl
def I39 : Sp := ⟨[(0, .one (.own 32768 3)), (1, oi64), (2, oi64)], [], []⟩
def E39 : SL := [(.ret, ⟨[(6, .one (.own 32768 3))], [], []⟩)]
noncomputable def e39 : Fe G := ⟨I39, E39, fun x => ncn' x.1.1 x.1.2.1 x.1.2.2.1, Tryz.f74.results.toList⟩
theorem s39 : delFe G 6 3 = e39 := by kernel_rfl
theorem k39 : FnOK Tryz.prog G 74 e39 := s39 ▸ nvd' (r := 6) (t := 3) sigOK ⟨_, Tryz.func74, by kernel_rfl, by kernel_rfl⟩ (by intro h; cases h) (fun _ => rfl) (nrm')
def I40 : Sp := ⟨[(0, .one (.own 32768 3)), (1, oi64), (2, .one (.own 32769 3))], [], []⟩
def E40 : SL := [(.ret, ⟨[(6, .one (.own 32768 3))], [], []⟩)]
noncomputable def e40 : Fe G := ⟨I40, E40, fun x => ncp' x.1.1 x.1.2.1 x.1.2.2.1, Tryz.f75.results.toList⟩
theorem s40 : insFe G 6 3 = e40 := by kernel_rfl
theorem k40 : FnOK Tryz.prog G 75 e40 := s40 ▸ nu4' (r := 6) (t := 3) sigOK ⟨_, Tryz.func75, by kernel_rfl, by kernel_rfl⟩ (by intro h; cases h) (fun _ => rfl) (nqs')
def I41 : Sp := ⟨[(0, oi64), (1, oi64), (2, oi64)], [], []⟩
def E41 : SL := [(.ret, ⟨[(6, ob)], [], []⟩)]
noncomputable def e41 : Fe G := ⟨I41, E41, fun x => nb1' x.1.1 x.1.2.1 x.1.2.2.1, Tryz.f125.results.toList⟩
theorem k41 : FnOK Tryz.prog G 125 e41 := fk cx tn (jl [(1048577, [(.normal, ⟨[(6, ob)], [], []⟩)])]) (lp := (pl [])) Tryz.func125 (by kernel_rfl) (by kernel_rfl) rfl (an0 (by kernel_rfl)) fun x => by kernel_rfl
def I42 : Sp := ⟨[(0, .agg c'2), (1, .agg c'11)], [], []⟩
def E42 : SL := [(.ret, ⟨[(4, ob)], [], []⟩)]
noncomputable def e42 : Fe G := ⟨I42, E42, fun x => nhi' x.1.1.1 x.1.1.2.1 x.1.1.2.2.1 x.1.1.2.2.2.1 x.1.1.2.2.2.2.1 x.1.1.2.2.2.2.2.1 x.1.1.2.2.2.2.2.2.1 x.1.1.2.2.2.2.2.2.2.1 x.1.2.1.1 x.1.2.1.2.1 x.1.2.1.2.2.1 x.1.2.1.2.2.2.1 x.1.2.1.2.2.2.2.1, Tryz.f97.results.toList⟩
theorem k42 : FnOK Tryz.prog G 97 e42 := fk cx (tc k9 (tc k17 (tc k41 tn))) (jl [(1048580, [(.normal, ⟨[(2, op 32), (3, op 48), (5, ob), (6, ob)], [(32, c'2), (48, c'11)], []⟩)]), (1048584, [(.normal, ⟨[(4, ob)], [], []⟩)]), (1048586, [(.normal, ⟨[(4, ob)], [], []⟩)]), (1048588, [(.normal, ⟨[(4, ob)], [], []⟩)]), (1048590, [(.normal, ⟨[(4, ob)], [], []⟩)]), (1048593, [(.normal, ⟨[(4, ob)], [], []⟩)])]) (lp := (pl [])) Tryz.func97 (by kernel_rfl) (by kernel_rfl) rfl (an0 (by kernel_rfl)) fun x => by kernel_rfl
def I43 : Sp := ⟨[(0, .agg c'10)], [], []⟩
def E43 : SL := [(.ret, ⟨[(2, op 32)], [(32, c'4)], []⟩)]
noncomputable def e43 : Fe G := ⟨I43, E43, fun x => njm' x.1.1.1 x.1.1.2.1 x.1.1.2.2.1 x.1.1.2.2.2.1, Tryz.f98.results.toList⟩
theorem k43 : FnOK Tryz.prog G 98 e43 := fk cx (tc k28 (tc k29 (tc k30 tn))) (jl []) (lp := (pl [])) Tryz.func98 (by kernel_rfl) (by kernel_rfl) rfl (an0 (by kernel_rfl)) fun x => by kernel_rfl
def I44 : Sp := ⟨[(0, oro 63), (1, .agg c'9), (2, .one (.clo 68 [] []))], [], []⟩
def E44 : SL := [(.ret, ⟨[(6, oi64), (7, ob)], [], []⟩)]
def S44_0 : Sp := ⟨[(0, oro 63), (2, .one (.clo 68 [] [])), (4, op 64), (8, oi64), (9, oi64), (10, oi64)], [(64, c'9)], []⟩
def X44_0 : SL := [(.exit 0, ⟨[(0, oro 63), (2, .one (.clo 68 [] [])), (4, op 64), (8, oi64), (9, oi64)], [(64, c'9)], []⟩)]
def J44 : Nat → Option SL := jl [(1048584, [(.normal, ⟨[(6, oi64), (7, ob)], [], []⟩)])]
noncomputable def P44 : Nat → St G → M (Ex × St G) := pl [lpX S44_0 X44_0 nn']
theorem t44 : ∀ p ∈ [(68, e22)], FnOK Tryz.prog G p.1 p.2 := (tc k22 tn)
theorem l44_0 : LoopOK Tryz.prog G 49 (P44 0) (nq' (ni' Tryz.f145) 0) := lk cx t44 J44 1 S44_0 X44_0 (rfl : nn' = _) (by kernel_rfl) (an0 (by kernel_rfl)) fun x => by kernel_rfl
noncomputable def e44 : Fe G := ⟨I44, E44, fun x => n0' x.1.1 x.1.2.1.1 x.1.2.1.2.1 x.1.2.1.2.2.1 x.1.2.1.2.2.2.1 x.1.2.1.2.2.2.2.1, Tryz.f145.results.toList⟩
theorem k44 : FnOK Tryz.prog G 145 e44 := fk cx t44 J44 (lp := P44) Tryz.func145 (by kernel_rfl) (by kernel_rfl) rfl (nh' _ (by kernel_rfl) (nf' l44_0 nk')) fun x => by kernel_rfl
def I45 : Sp := ⟨[(0, .agg c'10), (1, oi64), (2, oi64)], [], []⟩
def E45 : SL := [(.ret, ⟨[(6, oi64), (7, ob)], [], []⟩)]
noncomputable def e45 : Fe G := ⟨I45, E45, fun x => nkl' x.1.1.1 x.1.1.2.1 x.1.1.2.2.1 x.1.1.2.2.2.1 x.1.2.1 x.1.2.2.1, Tryz.f126.results.toList⟩
theorem k45 : FnOK Tryz.prog G 126 e45 := fk cx (tc k44 tn) (jl []) (lp := (pl [])) Tryz.func126 (by kernel_rfl) (by kernel_rfl) rfl (an0 (by kernel_rfl)) fun x => by kernel_rfl
def I46 : Sp := ⟨[(0, .one (.own 32768 63)), (1, oi64), (2, .one (.own 32769 63))], [], []⟩
def E46 : SL := [(.ret, ⟨[(6, .one (.own 32768 63))], [], []⟩)]
noncomputable def e46 : Fe G := ⟨I46, E46, fun x => nca' x.1.1 x.1.2.1 x.1.2.2.1, Tryz.f127.results.toList⟩
theorem s46 : insFe G 6 63 = e46 := by kernel_rfl
theorem k46 : FnOK Tryz.prog G 127 e46 := s46 ▸ nu4' (r := 6) (t := 63) sigOK ⟨_, Tryz.func127, by kernel_rfl, by kernel_rfl⟩ (by intro h; cases h) (fun _ => rfl) (nqf')
def I47 : Sp := ⟨[(0, .one (.own 32768 63)), (1, oi64), (2, oi64)], [], []⟩
def E47 : SL := [(.ret, ⟨[(6, .one (.own 32768 63))], [], []⟩)]
noncomputable def e47 : Fe G := ⟨I47, E47, fun x => nb9' x.1.1 x.1.2.1 x.1.2.2.1, Tryz.f128.results.toList⟩
theorem s47 : delFe G 6 63 = e47 := by kernel_rfl
theorem k47 : FnOK Tryz.prog G 128 e47 := s47 ▸ nvd' (r := 6) (t := 63) sigOK ⟨_, Tryz.func128, by kernel_rfl, by kernel_rfl⟩ (by intro h; cases h) (fun _ => rfl) (np9')
def I48 : Sp := ⟨[(0, op 65536), (1, .agg c'11)], [(65536, c'4)], []⟩
def E48 : SL := [(.normal, ⟨[], [(65536, c'4)], [65536]⟩)]
noncomputable def e48 : Fe G := ⟨I48, E48, fun x => nij' x.1.2.1.1 x.1.2.1.2.1 x.1.2.1.2.2.1 x.1.2.1.2.2.2.1 x.1.2.1.2.2.2.2.1 x.2.1.1 x.2.1.2.1 x.2.1.2.2.1 x.2.1.2.2.2.1, Tryz.f99.results.toList⟩
theorem k48 : FnOK Tryz.prog G 99 e48 := fk cx (tc k45 (tc k46 (tc k47 tn))) (jl []) (lp := (pl [])) Tryz.func99 (by kernel_rfl) (by kernel_rfl) rfl (an0 (by kernel_rfl)) fun x => by kernel_rfl
def I49 : Sp := ⟨[(0, .agg c'2), (1, .agg c'10), (2, .agg c'11)], [], []⟩
def E49 : SL := [(.ret, ⟨[(6, op 96), (7, oi64)], [(96, c'4)], []⟩)]
noncomputable def e49 : Fe G := ⟨I49, E49, fun x => nho' x.1.1.1 x.1.1.2.1 x.1.1.2.2.1 x.1.1.2.2.2.1 x.1.1.2.2.2.2.1 x.1.1.2.2.2.2.2.1 x.1.1.2.2.2.2.2.2.1 x.1.1.2.2.2.2.2.2.2.1 x.1.2.1.1 x.1.2.1.2.1 x.1.2.1.2.2.1 x.1.2.1.2.2.2.1 x.1.2.2.1.1 x.1.2.2.1.2.1 x.1.2.2.1.2.2.1 x.1.2.2.1.2.2.2.1 x.1.2.2.1.2.2.2.2.1, Tryz.f59.results.toList⟩
theorem k49 : FnOK Tryz.prog G 59 e49 := fk cx (tc k23 (tc k42 (tc k43 (tc k48 tn)))) (jl []) (lp := (pl [])) Tryz.func59 (by kernel_rfl) (by kernel_rfl) rfl (an0 (by kernel_rfl)) fun x => by kernel_rfl
def I50 : Sp := ⟨[(0, op 65536), (1, oro 66)], [(65536, c'12)], []⟩
def E50 : SL := [(.normal, ⟨[], [(65536, c'12)], [65536]⟩)]
def S50_0 : Sp := ⟨[(0, op 65536), (10, oro 66), (11, oi64), (12, oi64)], [(65536, c'12)], [65536]⟩
def X50_0 : SL := [(.exit 0, ⟨[], [(65536, c'12)], [65536]⟩)]
def J50 : Nat → Option SL := jl [(9, [(.normal, ⟨[(0, op 65536), (5, op 80), (10, oro 66), (11, oi64), (12, oi64)], [(80, c'11), (65536, c'12)], [65536]⟩)]), (1048580, [(.normal, ⟨[(0, op 65536), (5, op 80), (6, oi64), (7, ob), (10, oro 66), (11, oi64), (12, oi64), (29, ob)], [(80, c'11), (65536, c'12)], [65536]⟩)]), (1048582, [(.normal, ⟨[(0, op 65536), (5, op 80), (6, oi64), (10, oro 66), (11, oi64), (12, oi64), (49, ob)], [(80, c'11), (65536, c'12)], [65536]⟩)])]
noncomputable def P50 : Nat → St G → M (Ex × St G) := pl [lpX S50_0 X50_0 nbs']
theorem t50 : ∀ p ∈ [(73, e38), (74, e39), (75, e40), (59, e49)], FnOK Tryz.prog G p.1 p.2 := (tc k38 (tc k39 (tc k40 (tc k49 tn))))
theorem l50_0 : LoopOK Tryz.prog G 103 (P50 0) (nq' (ni' Tryz.f38) 0) := lk cx t50 J50 1 S50_0 X50_0 (rfl : nbs' = _) (by kernel_rfl) (an0 (by kernel_rfl)) fun x => by kernel_rfl
noncomputable def e50 : Fe G := ⟨I50, E50, fun x => nba' x.1.2.1 x.2.1.1 x.2.1.2.1 x.2.1.2.2.1 x.2.1.2.2.2.1 x.2.1.2.2.2.2.1 x.2.1.2.2.2.2.2.1 x.2.1.2.2.2.2.2.2.1 x.2.1.2.2.2.2.2.2.2.1 x.2.1.2.2.2.2.2.2.2.2.1 x.2.1.2.2.2.2.2.2.2.2.2.1 x.2.1.2.2.2.2.2.2.2.2.2.2.1 x.2.1.2.2.2.2.2.2.2.2.2.2.2.1 x.2.1.2.2.2.2.2.2.2.2.2.2.2.2.1 x.2.1.2.2.2.2.2.2.2.2.2.2.2.2.2.1 x.2.1.2.2.2.2.2.2.2.2.2.2.2.2.2.2.1 x.2.1.2.2.2.2.2.2.2.2.2.2.2.2.2.2.2.1 x.2.1.2.2.2.2.2.2.2.2.2.2.2.2.2.2.2.2.1 x.2.1.2.2.2.2.2.2.2.2.2.2.2.2.2.2.2.2.2.1 x.2.1.2.2.2.2.2.2.2.2.2.2.2.2.2.2.2.2.2.2.1 x.2.1.2.2.2.2.2.2.2.2.2.2.2.2.2.2.2.2.2.2.2.1, Tryz.f38.results.toList⟩
theorem k50 : FnOK Tryz.prog G 38 e50 := fk cx t50 J50 (lp := P50) Tryz.func38 (by kernel_rfl) (by kernel_rfl) rfl (nh' _ (by kernel_rfl) (nf' l50_0 nk')) fun x => by kernel_rfl
def I51 : Sp := ⟨[(0, oro 63)], [], []⟩
def E51 : SL := [(.ret, ⟨[(2, op 32)], [(32, c'5)], []⟩)]
def S51_0 : Sp := ⟨[(2, op 32), (3, op 48), (6, oro 63), (7, oi64), (8, oi64)], [(32, c'5), (48, c'5)], []⟩
def X51_0 : SL := [(.exit 0, ⟨[(2, op 32), (3, op 48)], [(32, c'5), (48, c'5)], []⟩)]
def J51 : Nat → Option SL := jl []
noncomputable def P51 : Nat → St G → M (Ex × St G) := pl [lpX S51_0 X51_0 nit']
theorem t51 : ∀ p ∈ [(81, e33), (66, e14)], FnOK Tryz.prog G p.1 p.2 := (tc k33 (tc k14 tn))
theorem l51_0 : LoopOK Tryz.prog G 21 (P51 0) (nq' (ni' Tryz.f82) 0) := lk cx t51 J51 1 S51_0 X51_0 (rfl : nit' = _) (by kernel_rfl) (an0 (by kernel_rfl)) fun x => by kernel_rfl
noncomputable def e51 : Fe G := ⟨I51, E51, fun x => nkz' x.1.1, Tryz.f82.results.toList⟩
theorem k51 : FnOK Tryz.prog G 82 e51 := fk cx t51 J51 (lp := P51) Tryz.func82 (by kernel_rfl) (by kernel_rfl) rfl (nh' _ (by kernel_rfl) (nf' l51_0 nk')) fun x => by kernel_rfl
def I52 : Sp := ⟨[(0, .agg c'10)], [], []⟩
def E52 : SL := [(.ret, ⟨[(2, op 32)], [(32, c'5)], []⟩)]
noncomputable def e52 : Fe G := ⟨I52, E52, fun x => nig' x.1.1.1 x.1.1.2.1 x.1.1.2.2.1 x.1.1.2.2.2.1, Tryz.f41.results.toList⟩
theorem k52 : FnOK Tryz.prog G 41 e52 := fk cx (tc k51 tn) (jl []) (lp := (pl [])) Tryz.func41 (by kernel_rfl) (by kernel_rfl) rfl (an0 (by kernel_rfl)) fun x => by kernel_rfl
def I53 : Sp := ⟨[(0, .agg c'5)], [], []⟩
def E53 : SL := [(.ret, ⟨[(2, .one (.own 32768 63))], [], []⟩)]
noncomputable def e53 : Fe G := ⟨I53, E53, fun x => nin' x.1.1.1 x.1.1.2.1, Tryz.f77.results.toList⟩
theorem s53 : lstFe G 2 63 (fun u d f k => ncw' u d f k) (fun f d => Entry.mk f d (-1) 0 false) = e53 := by kernel_rfl
theorem k53 : FnOK Tryz.prog G 77 e53 := s53 ▸ n5f' (t := 63) (h := (fun u d f k => ncw' u d f k)) (mk := fun f d => Entry.mk f d (-1) 0 false) sigOK ⟨_, Tryz.func77, by kernel_rfl, by kernel_rfl⟩ (by kernel_rfl) (fun _ _ => by kernel_rfl) (fun w u d hb hh hgl => n20' w u d hb fun p hp w' hw => n1t' (h := (fun u d f k => ncw' u d f k)) ((show e34 = hasFe G 6 (fun u d f k => ncw' u d f k) by kernel_rfl) ▸ k34) (hh p hp) (hgl.below hw) hw.size)
def I54 : Sp := ⟨[(0, .agg c'2), (1, .agg c'10)], [], []⟩
def E54 : SL := [(.ret, ⟨[(4, ob)], [], []⟩)]
noncomputable def e54 : Fe G := ⟨I54, E54, fun x => nky' x.1.1.1 x.1.1.2.1 x.1.1.2.2.1 x.1.1.2.2.2.1 x.1.1.2.2.2.2.1 x.1.1.2.2.2.2.2.1 x.1.1.2.2.2.2.2.2.1 x.1.1.2.2.2.2.2.2.2.1 x.1.2.1.1 x.1.2.1.2.1 x.1.2.1.2.2.1 x.1.2.1.2.2.2.1, Tryz.f80.results.toList⟩
theorem k54 : FnOK Tryz.prog G 80 e54 := fk cx (tc k23 tn) (jl [(1048577, [(.normal, ⟨[(4, ob)], [], []⟩)])]) (lp := (pl [])) Tryz.func80 (by kernel_rfl) (by kernel_rfl) rfl (an0 (by kernel_rfl)) fun x => by kernel_rfl
def I55 : Sp := ⟨[(0, op 65536), (1, .agg c'5), (2, .agg c'5)], [(65536, c'12)], []⟩
def E55 : SL := [(.normal, ⟨[], [(65536, c'12)], [65536]⟩)]
def S55_0 : Sp := ⟨[(0, op 65536), (17, .one (.own 32768 63)), (18, oi64), (19, oi64)], [(65536, c'13)], [65536]⟩
def X55_0 : SL := [(.exit 0, ⟨[], [(65536, c'12)], [65536]⟩)]
def J55 : Nat → Option SL := jl []
noncomputable def P55 : Nat → St G → M (Ex × St G) := pl [lpX S55_0 X55_0 nbz']
theorem t55 : ∀ p ∈ [(79, e10), (78, e11), (64, e13), (77, e53), (80, e54), (38, e50), (81, e33), (66, e14)], FnOK Tryz.prog G p.1 p.2 := (tc k10 (tc k11 (tc k13 (tc k53 (tc k54 (tc k50 (tc k33 (tc k14 tn))))))))
theorem l55_0 : LoopOK Tryz.prog G 57 (P55 0) (nq' (ni' Tryz.f40) 0) := lk cx t55 J55 1 S55_0 X55_0 (rfl : nbz' = _) (by kernel_rfl) (an0 (by kernel_rfl)) fun x => by kernel_rfl
noncomputable def e55 : Fe G := ⟨I55, E55, fun x => nb4' x.1.2.1.1 x.1.2.1.2.1 x.1.2.2.1.1 x.1.2.2.1.2.1 x.2.1.1 x.2.1.2.1 x.2.1.2.2.1 x.2.1.2.2.2.1 x.2.1.2.2.2.2.1 x.2.1.2.2.2.2.2.1 x.2.1.2.2.2.2.2.2.1 x.2.1.2.2.2.2.2.2.2.1 x.2.1.2.2.2.2.2.2.2.2.1 x.2.1.2.2.2.2.2.2.2.2.2.1 x.2.1.2.2.2.2.2.2.2.2.2.2.1 x.2.1.2.2.2.2.2.2.2.2.2.2.2.1 x.2.1.2.2.2.2.2.2.2.2.2.2.2.2.1 x.2.1.2.2.2.2.2.2.2.2.2.2.2.2.2.1 x.2.1.2.2.2.2.2.2.2.2.2.2.2.2.2.2.1 x.2.1.2.2.2.2.2.2.2.2.2.2.2.2.2.2.2.1 x.2.1.2.2.2.2.2.2.2.2.2.2.2.2.2.2.2.2.1 x.2.1.2.2.2.2.2.2.2.2.2.2.2.2.2.2.2.2.2.1 x.2.1.2.2.2.2.2.2.2.2.2.2.2.2.2.2.2.2.2.2.1 x.2.1.2.2.2.2.2.2.2.2.2.2.2.2.2.2.2.2.2.2.2.1, Tryz.f40.results.toList⟩
theorem k55 : FnOK Tryz.prog G 40 e55 := fk cx t55 J55 (lp := P55) Tryz.func40 (by kernel_rfl) (by kernel_rfl) rfl (nh' _ (by kernel_rfl) (nf' l55_0 nk')) fun x => by kernel_rfl
def I56 : Sp := ⟨[(0, oi64)], [], []⟩
def E56 : SL := [(.ret, ⟨[(2, ob)], [], []⟩)]
noncomputable def e56 : Fe G := ⟨I56, E56, fun x => ngt' x.1.1, Tryz.f83.results.toList⟩
theorem k56 : FnOK Tryz.prog G 83 e56 := fk cx tn (jl [(1048577, [(.normal, ⟨[(2, ob)], [], []⟩)])]) (lp := (pl [])) Tryz.func83 (by kernel_rfl) (by kernel_rfl) rfl (an0 (by kernel_rfl)) fun x => by kernel_rfl
def I57 : Sp := ⟨[(0, oro 3), (1, .one (.clo 83 [] []))], [], []⟩
def E57 : SL := [(.ret, ⟨[(4, oi64)], [], []⟩)]
def S57_0 : Sp := ⟨[(0, oro 3), (1, .one (.clo 83 [] [])), (7, oi64), (8, oi64)], [], []⟩
def X57_0 : SL := [(.exit 0, ⟨[], [], []⟩), (.ret, ⟨[(4, oi64)], [], []⟩)]
def J57 : Nat → Option SL := jl []
noncomputable def P57 : Nat → St G → M (Ex × St G) := pl [lpX S57_0 X57_0 nbd']
theorem t57 : ∀ p ∈ [(83, e56)], FnOK Tryz.prog G p.1 p.2 := (tc k56 tn)
theorem l57_0 : LoopOK Tryz.prog G 19 (P57 0) (nq' (ni' Tryz.f108) 0) := lk cx t57 J57 1 S57_0 X57_0 (rfl : nbd' = _) (by kernel_rfl) (an0 (by kernel_rfl)) fun x => by kernel_rfl
noncomputable def e57 : Fe G := ⟨I57, E57, fun x => nbx' x.1.1, Tryz.f108.results.toList⟩
theorem k57 : FnOK Tryz.prog G 108 e57 := fk cx t57 J57 (lp := P57) Tryz.func108 (by kernel_rfl) (by kernel_rfl) rfl (nh' _ (by kernel_rfl) (nf' l57_0 nk')) fun x => by kernel_rfl
def I58 : Sp := ⟨[(0, oro 3), (1, .one (.clo 83 [] []))], [], []⟩
def E58 : SL := [(.ret, ⟨[(4, ob)], [], []⟩)]
noncomputable def e58 : Fe G := ⟨I58, E58, fun x => nbc' x.1.1, Tryz.f69.results.toList⟩
theorem k58 : FnOK Tryz.prog G 69 e58 := fk cx (tc k57 tn) (jl []) (lp := (pl [])) Tryz.func69 (by kernel_rfl) (by kernel_rfl) rfl (an0 (by kernel_rfl)) fun x => by kernel_rfl
def I59 : Sp := ⟨[(0, oi64)], [], []⟩
def E59 : SL := [(.ret, ⟨[(2, ob)], [], []⟩)]
noncomputable def e59 : Fe G := ⟨I59, E59, fun x => ne7' x.1.1, Tryz.f136.results.toList⟩
theorem k59 : FnOK Tryz.prog G 136 e59 := fk cx tn (jl [(1048577, [(.normal, ⟨[(2, ob)], [], []⟩)])]) (lp := (pl [])) Tryz.func136 (by kernel_rfl) (by kernel_rfl) rfl (an0 (by kernel_rfl)) fun x => by kernel_rfl
def I60 : Sp := ⟨[(0, oi64), (1, oi64), (2, oi64)], [], []⟩
def E60 : SL := [(.ret, ⟨[(6, ob)], [], []⟩)]
noncomputable def e60 : Fe G := ⟨I60, E60, fun x => nhz' x.1.1 x.1.2.1 x.1.2.2.1, Tryz.f137.results.toList⟩
theorem k60 : FnOK Tryz.prog G 137 e60 := fk cx tn (jl [(1048577, [(.normal, ⟨[(6, ob)], [], []⟩)])]) (lp := (pl [])) Tryz.func137 (by kernel_rfl) (by kernel_rfl) rfl (an0 (by kernel_rfl)) fun x => by kernel_rfl
def I61 : Sp := ⟨[(0, oi64), (1, .agg c'14)], [], []⟩
def E61 : SL := [(.ret, ⟨[(4, op 64)], [(64, c'14)], []⟩)]
noncomputable def e61 : Fe G := ⟨I61, E61, fun x => nfo' x.1.1 x.1.2.1.1 x.1.2.1.2.1 x.1.2.1.2.2.1, Tryz.f138.results.toList⟩
theorem k61 : FnOK Tryz.prog G 138 e61 := fk cx (tc k11 tn) (jl []) (lp := (pl [])) Tryz.func138 (by kernel_rfl) (by kernel_rfl) rfl (an0 (by kernel_rfl)) fun x => by kernel_rfl
def I62 : Sp := ⟨[(0, ou32)], [], []⟩
def E62 : SL := [(.ret, ⟨[(2, oi64)], [], []⟩)]
noncomputable def e62 : Fe G := ⟨I62, E62, fun x => ncm' x.1.1, Tryz.f139.results.toList⟩
theorem k62 : FnOK Tryz.prog G 139 e62 := fk cx tn (jl []) (lp := (pl [])) Tryz.func139 (by kernel_rfl) (by kernel_rfl) rfl (an0 (by kernel_rfl)) fun x => by kernel_rfl
def I63 : Sp := ⟨[(0, ou32)], [], []⟩
def E63 : SL := [(.ret, ⟨[(2, oi64)], [], []⟩)]
noncomputable def e63 : Fe G := ⟨I63, E63, fun x => ng8' x.1.1, Tryz.f140.results.toList⟩
theorem k63 : FnOK Tryz.prog G 140 e63 := fk cx tn (jl [(5, [(.normal, ⟨[(0, ou32), (2, oi64)], [], []⟩)]), (8, [(.normal, ⟨[(0, ou32), (2, oi64)], [], []⟩)])]) (lp := (pl [])) Tryz.func140 (by kernel_rfl) (by kernel_rfl) rfl (an0 (by kernel_rfl)) fun x => by kernel_rfl
def I64 : Sp := ⟨[(0, .one (.own 32768 3)), (1, op 65536), (2, op 65537)], [(65536, [.int .i64]), (65537, [.int .i64])], []⟩
def E64 : SL := [(.ret, ⟨[(4, oi64)], [(65536, [.int .i64]), (65537, [.int .i64])], [65536, 65537]⟩)]
def S64_0 : Sp := ⟨[(5, oi64), (6, oi64), (13, .one (.own 32768 3)), (14, oi64), (15, oi64)], [(65536, [.int .i64]), (65537, [.int .i64])], [65536, 65537]⟩
def X64_0 : SL := [(.exit 0, ⟨[(5, oi64)], [(65536, [.int .i64]), (65537, [.int .i64])], [65536, 65537]⟩)]
def J64 : Nat → Option SL := jl []
noncomputable def P64 : Nat → St G → M (Ex × St G) := pl [lpX S64_0 X64_0 ndm']
theorem l64_0 : LoopOK Tryz.prog G 31 (P64 0) (nq' (ni' Tryz.f141) 0) := lk cx tn J64 1 S64_0 X64_0 (rfl : ndm' = _) (by kernel_rfl) (an0 (by kernel_rfl)) fun x => by kernel_rfl
noncomputable def e64 : Fe G := ⟨I64, E64, fun x => nr' x.1.1 x.2.1.1 x.2.2.1.1, Tryz.f141.results.toList⟩
theorem k64 : FnOK Tryz.prog G 141 e64 := fk cx tn J64 (lp := P64) Tryz.func141 (by kernel_rfl) (by kernel_rfl) rfl (nh' _ (by kernel_rfl) (nf' l64_0 nk')) fun x => by kernel_rfl
def I65 : Sp := ⟨[(0, oi64), (1, oi64), (2, oi64), (3, .agg c'14), (4, oi64), (5, oi64)], [], []⟩
def E65 : SL := [(.ret, ⟨[(12, oi64)], [], []⟩)]
noncomputable def e65 : Fe G := ⟨I65, E65, fun x => ndl' x.1.1 x.1.2.1 x.1.2.2.1 x.1.2.2.2.1.1 x.1.2.2.2.1.2.1 x.1.2.2.2.1.2.2.1 x.1.2.2.2.2.1 x.1.2.2.2.2.2.1, Tryz.f116.results.toList⟩
theorem k65 : FnOK Tryz.prog G 116 e65 := fk cx (tc k59 (tc k60 (tc k61 (tc k62 (tc k63 (tc k64 tn)))))) (jl [(1048583, [(.normal, ⟨[(2, oi64), (5, oi64), (15, oi64), (16, oi64), (17, .one (.clo 141 [] [(112, 0), (160, 0)])), (18, ob)], [(112, [.int .i64]), (160, [.int .i64])], []⟩)]), (1048584, [(.normal, ⟨[(2, oi64), (5, oi64), (15, oi64), (16, oi64), (17, .one (.clo 141 [] [(112, 0), (160, 0)])), (87, ob)], [(112, [.int .i64]), (160, [.int .i64])], []⟩)]), (1048586, [(.normal, ⟨[(2, oi64), (5, oi64), (15, oi64), (16, oi64), (17, .one (.clo 141 [] [(112, 0), (160, 0)])), (100, ob)], [(112, [.int .i64]), (160, [.int .i64])], []⟩)])]) (lp := (pl [])) Tryz.func116 (by kernel_rfl) (by kernel_rfl) rfl (an0 (by kernel_rfl)) fun x => by kernel_rfl
def I66 : Sp := ⟨[(0, ou32)], [], []⟩
def E66 : SL := [(.ret, ⟨[(2, oi64)], [], []⟩)]
noncomputable def e66 : Fe G := ⟨I66, E66, fun x => ncd' x.1.1, Tryz.f142.results.toList⟩
theorem k66 : FnOK Tryz.prog G 142 e66 := fk cx tn (jl []) (lp := (pl [])) Tryz.func142 (by kernel_rfl) (by kernel_rfl) rfl (an0 (by kernel_rfl)) fun x => by kernel_rfl
def I67 : Sp := ⟨[(0, .agg c'5)], [], []⟩
def E67 : SL := [(.ret, ⟨[(2, oi64)], [], []⟩)]
noncomputable def e67 : Fe G := ⟨I67, E67, fun x => nkc' x.1.1.1 x.1.1.2.1, Tryz.f143.results.toList⟩
theorem k67 : FnOK Tryz.prog G 143 e67 := fk cx (tc k66 tn) (jl []) (lp := (pl [])) Tryz.func143 (by kernel_rfl) (by kernel_rfl) rfl (an0 (by kernel_rfl)) fun x => by kernel_rfl
def I68 : Sp := ⟨[(0, oi64), (1, .agg c'14)], [], []⟩
def E68 : SL := [(.ret, ⟨[(4, oi64)], [], []⟩)]
noncomputable def e68 : Fe G := ⟨I68, E68, fun x => nfp' x.1.1 x.1.2.1.1 x.1.2.1.2.1 x.1.2.1.2.2.1, Tryz.f117.results.toList⟩
theorem k68 : FnOK Tryz.prog G 117 e68 := fk cx (tc k59 (tc k61 (tc k66 (tc k67 tn)))) (jl []) (lp := (pl [])) Tryz.func117 (by kernel_rfl) (by kernel_rfl) rfl (an0 (by kernel_rfl)) fun x => by kernel_rfl
def I69 : Sp := ⟨[(0, .agg c'2), (1, oi64), (2, .agg c'6), (3, oi64), (4, oi64)], [], []⟩
def E69 : SL := [(.ret, ⟨[(10, oi64)], [], []⟩)]
noncomputable def e69 : Fe G := ⟨I69, E69, fun x => nc2' x.1.1.1 x.1.1.2.1 x.1.1.2.2.1 x.1.1.2.2.2.1 x.1.1.2.2.2.2.1 x.1.1.2.2.2.2.2.1 x.1.1.2.2.2.2.2.2.1 x.1.1.2.2.2.2.2.2.2.1 x.1.2.1 x.1.2.2.1.1 x.1.2.2.1.2.1 x.1.2.2.1.2.2.1 x.1.2.2.1.2.2.2.1 x.1.2.2.1.2.2.2.2.1 x.1.2.2.1.2.2.2.2.2.1 x.1.2.2.1.2.2.2.2.2.2.1 x.1.2.2.1.2.2.2.2.2.2.2.1 x.1.2.2.1.2.2.2.2.2.2.2.2.1 x.1.2.2.1.2.2.2.2.2.2.2.2.2.1 x.1.2.2.1.2.2.2.2.2.2.2.2.2.2.1 x.1.2.2.1.2.2.2.2.2.2.2.2.2.2.2.1 x.1.2.2.2.1 x.1.2.2.2.2.1, Tryz.f86.results.toList⟩
theorem k69 : FnOK Tryz.prog G 86 e69 := fk cx (tc k9 (tc k65 (tc k68 tn))) (jl [(7, [(.normal, ⟨[(1, oi64), (3, oi64), (4, oi64), (5, op 80), (7, op 112), (11, oi64)], [(80, c'2), (112, c'6)], []⟩)])]) (lp := (pl [])) Tryz.func86 (by kernel_rfl) (by kernel_rfl) rfl (an0 (by kernel_rfl)) fun x => by kernel_rfl
def I70 : Sp := ⟨[(0, .agg c'6)], [], []⟩
def E70 : SL := [(.ret, ⟨[(2, ob)], [], []⟩)]
noncomputable def e70 : Fe G := ⟨I70, E70, fun x => nd0' x.1.1.1 x.1.1.2.1 x.1.1.2.2.1 x.1.1.2.2.2.1 x.1.1.2.2.2.2.1 x.1.1.2.2.2.2.2.1 x.1.1.2.2.2.2.2.2.1 x.1.1.2.2.2.2.2.2.2.1 x.1.1.2.2.2.2.2.2.2.2.1 x.1.1.2.2.2.2.2.2.2.2.2.1 x.1.1.2.2.2.2.2.2.2.2.2.2.1 x.1.1.2.2.2.2.2.2.2.2.2.2.2.1, Tryz.f135.results.toList⟩
theorem k70 : FnOK Tryz.prog G 135 e70 := fk cx tn (jl [(1048577, [(.normal, ⟨[(2, ob)], [], []⟩)])]) (lp := (pl [])) Tryz.func135 (by kernel_rfl) (by kernel_rfl) rfl (an0 (by kernel_rfl)) fun x => by kernel_rfl
def I71 : Sp := ⟨[(0, .agg c'2), (1, oro 46), (2, oi64), (3, oi64), (4, oi64)], [], []⟩
def E71 : SL := [(.ret, ⟨[(10, op 160)], [(160, c'15)], []⟩)]
noncomputable def e71 : Fe G := ⟨I71, E71, fun x => nev' x.1.1.1 x.1.1.2.1 x.1.1.2.2.1 x.1.1.2.2.2.1 x.1.1.2.2.2.2.1 x.1.1.2.2.2.2.2.1 x.1.1.2.2.2.2.2.2.1 x.1.1.2.2.2.2.2.2.2.1 x.1.2.1 x.1.2.2.1 x.1.2.2.2.1 x.1.2.2.2.2.1, Tryz.f133.results.toList⟩
theorem k71 : FnOK Tryz.prog G 133 e71 := fk cx (tc k69 (tc k70 tn)) (jl []) (lp := (pl [])) Tryz.func133 (by kernel_rfl) (by kernel_rfl) rfl (an0 (by kernel_rfl)) fun x => by kernel_rfl
def I72 : Sp := ⟨[(0, .agg c'15), (1, .agg c'15)], [], []⟩
def E72 : SL := [(.ret, ⟨[(4, ob)], [], []⟩)]
noncomputable def e72 : Fe G := ⟨I72, E72, fun x => ne5' x.1.1.1 x.1.1.2.1 x.1.2.1.1 x.1.2.1.2.1, Tryz.f134.results.toList⟩
theorem k72 : FnOK Tryz.prog G 134 e72 := fk cx tn (jl [(1048579, [(.normal, ⟨[(4, ob)], [], []⟩)])]) (lp := (pl [])) Tryz.func134 (by kernel_rfl) (by kernel_rfl) rfl (an0 (by kernel_rfl)) fun x => by kernel_rfl
def I73 : Sp := ⟨[(0, .agg c'2), (1, oro 46), (2, oi64), (3, oi64), (4, oi64)], [], []⟩
def E73 : SL := [(.ret, ⟨[(10, oi64)], [], []⟩)]
def S73_0 : Sp := ⟨[(1, oro 46), (2, oi64), (3, oi64), (4, oi64), (5, op 80), (11, oi64), (12, op 192), (28, oro 46), (29, oi64), (30, oi64)], [(80, c'2), (192, c'15)], []⟩
def X73_0 : SL := [(.exit 0, ⟨[(11, oi64)], [], []⟩)]
def J73 : Nat → Option SL := jl [(1048585, [(.normal, ⟨[(1, oro 46), (2, oi64), (3, oi64), (4, oi64), (5, op 80), (11, oi64), (12, op 192), (13, oi64), (15, op 240), (28, oro 46), (29, oi64), (30, oi64), (55, ob)], [(80, c'2), (192, c'15), (240, c'15)], []⟩)])]
noncomputable def P73 : Nat → St G → M (Ex × St G) := pl [lpX S73_0 X73_0 nff']
theorem t73 : ∀ p ∈ [(63, e9), (133, e71), (134, e72)], FnOK Tryz.prog G p.1 p.2 := (tc k9 (tc k71 (tc k72 tn)))
theorem l73_0 : LoopOK Tryz.prog G 60 (P73 0) (nq' (ni' Tryz.f114) 0) := lk cx t73 J73 1 S73_0 X73_0 (rfl : nff' = _) (by kernel_rfl) (an0 (by kernel_rfl)) fun x => by kernel_rfl
noncomputable def e73 : Fe G := ⟨I73, E73, fun x => ndu' x.1.1.1 x.1.1.2.1 x.1.1.2.2.1 x.1.1.2.2.2.1 x.1.1.2.2.2.2.1 x.1.1.2.2.2.2.2.1 x.1.1.2.2.2.2.2.2.1 x.1.1.2.2.2.2.2.2.2.1 x.1.2.1 x.1.2.2.1 x.1.2.2.2.1 x.1.2.2.2.2.1, Tryz.f114.results.toList⟩
theorem k73 : FnOK Tryz.prog G 114 e73 := fk cx t73 J73 (lp := P73) Tryz.func114 (by kernel_rfl) (by kernel_rfl) rfl (nh' _ (by kernel_rfl) (nf' l73_0 nk')) fun x => by kernel_rfl
def I74 : Sp := ⟨[(0, .agg c'16), (1, .agg c'9), (2, oi64)], [], []⟩
def E74 : SL := [(.ret, ⟨[(6, oi64)], [], []⟩)]
noncomputable def e74 : Fe G := ⟨I74, E74, fun x => ndn' x.1.1.1 x.1.1.2.1 x.1.1.2.2.1 x.1.1.2.2.2.1 x.1.1.2.2.2.2.1 x.1.1.2.2.2.2.2.1 x.1.1.2.2.2.2.2.2.1 x.1.1.2.2.2.2.2.2.2.1 x.1.1.2.2.2.2.2.2.2.2.1 x.1.2.1.1 x.1.2.1.2.1 x.1.2.1.2.2.1 x.1.2.1.2.2.2.1 x.1.2.1.2.2.2.2.1 x.1.2.2.1, Tryz.f115.results.toList⟩
theorem k74 : FnOK Tryz.prog G 115 e74 := fk cx (tc k73 (tc k71 (tc k72 (tc k70 tn)))) (jl [(1048581, [(.normal, ⟨[(3, op 48), (7, oi64), (8, op 128), (9, ob)], [(48, c'16), (128, c'6)], []⟩)]), (1048582, [(.normal, ⟨[(7, oi64), (78, ob)], [], []⟩)])]) (lp := (pl [])) Tryz.func115 (by kernel_rfl) (by kernel_rfl) rfl (an0 (by kernel_rfl)) fun x => by kernel_rfl
def I75 : Sp := ⟨[(0, .agg c'16), (1, .agg c'9), (2, oi64)], [], []⟩
def E75 : SL := [(.ret, ⟨[(6, op 96)], [(96, c'9)], []⟩)]
noncomputable def e75 : Fe G := ⟨I75, E75, fun x => nde' x.1.1.1 x.1.1.2.1 x.1.1.2.2.1 x.1.1.2.2.2.1 x.1.1.2.2.2.2.1 x.1.1.2.2.2.2.2.1 x.1.1.2.2.2.2.2.2.1 x.1.1.2.2.2.2.2.2.2.1 x.1.1.2.2.2.2.2.2.2.2.1 x.1.2.1.1 x.1.2.1.2.1 x.1.2.1.2.2.1 x.1.2.1.2.2.2.1 x.1.2.1.2.2.2.2.1 x.1.2.2.1, Tryz.f84.results.toList⟩
theorem k75 : FnOK Tryz.prog G 84 e75 := fk cx (tc k73 (tc k74 tn)) (jl [(1048581, [(.normal, ⟨[(2, oi64), (3, op 48), (4, op 64), (6, op 96), (7, oi64), (31, ob)], [(48, c'16), (64, c'9), (96, c'9)], []⟩)]), (1048586, [(.normal, ⟨[(2, oi64), (3, op 48), (4, op 64), (6, op 96), (70, ob)], [(48, c'16), (64, c'9), (96, c'9)], []⟩)])]) (lp := (pl [])) Tryz.func84 (by kernel_rfl) (by kernel_rfl) rfl (an0 (by kernel_rfl)) fun x => by kernel_rfl
def I76 : Sp := ⟨[(0, .agg c'9), (1, .agg c'9)], [], []⟩
def E76 : SL := [(.ret, ⟨[(4, .one (.own 32768 66))], [], []⟩)]
noncomputable def e76 : Fe G := ⟨I76, E76, fun x => nga' x.1.1.1 x.1.1.2.1 x.1.1.2.2.1 x.1.1.2.2.2.1 x.1.1.2.2.2.2.1 x.1.2.1.1 x.1.2.1.2.1 x.1.2.1.2.2.1 x.1.2.1.2.2.2.1 x.1.2.1.2.2.2.2.1, Tryz.f85.results.toList⟩
theorem k76 : FnOK Tryz.prog G 85 e76 := fk cx tn (jl [(8, [(.normal, ⟨[(2, op 32), (3, op 48), (5, .one (.own 32768 66))], [(32, c'9), (48, c'9)], []⟩)]), (1048578, [(.normal, ⟨[(2, op 32), (3, op 48), (5, .one (.own 32768 66)), (18, ob)], [(32, c'9), (48, c'9)], []⟩)])]) (lp := (pl [])) Tryz.func85 (by kernel_rfl) (by kernel_rfl) rfl (an0 (by kernel_rfl)) fun x => by kernel_rfl
def I77 : Sp := ⟨[(0, .agg c'2), (1, .agg c'10), (2, oro 3), (3, oro 46)], [], []⟩
def E77 : SL := [(.ret, ⟨[(8, .one (.own 32768 66)), (9, .one (.own 32769 3)), (10, oi64)], [], []⟩)]
def S77_0 : Sp := ⟨[(2, oro 3), (3, oro 46), (4, op 64), (11, op 176), (12, .one (.own 32768 66)), (13, .one (.own 32769 3)), (48, oro 63), (49, oi64), (50, oi64)], [(64, c'2), (176, c'16)], []⟩
def X77_0 : SL := [(.exit 0, ⟨[(12, .one (.own 32768 66)), (13, .one (.own 32769 3))], [], []⟩)]
def J77 : Nat → Option SL := jl [(1048588, [(.normal, ⟨[(2, oro 3), (3, oro 46), (4, op 64), (11, op 176), (12, .one (.own 32768 66)), (13, .one (.own 32769 3)), (14, oi64), (15, op 240), (16, op 256), (48, oro 63), (49, oi64), (50, oi64), (85, ob)], [(64, c'2), (176, c'16), (240, c'9), (256, c'9)], []⟩)])]
noncomputable def P77 : Nat → St G → M (Ex × St G) := pl [lpX S77_0 X77_0 ngy']
theorem t77 : ∀ p ∈ [(33, e23), (69, e58), (84, e75), (85, e76), (86, e69)], FnOK Tryz.prog G p.1 p.2 := (tc k23 (tc k58 (tc k75 (tc k76 (tc k69 tn)))))
theorem l77_0 : LoopOK Tryz.prog G 114 (P77 0) (nq' (ni' Tryz.f42) 0) := lk cx t77 J77 1 S77_0 X77_0 (rfl : ngy' = _) (by kernel_rfl) (an0 (by kernel_rfl)) fun x => by kernel_rfl
noncomputable def e77 : Fe G := ⟨I77, E77, fun x => ner' x.1.1.1 x.1.1.2.1 x.1.1.2.2.1 x.1.1.2.2.2.1 x.1.1.2.2.2.2.1 x.1.1.2.2.2.2.2.1 x.1.1.2.2.2.2.2.2.1 x.1.1.2.2.2.2.2.2.2.1 x.1.2.1.1 x.1.2.1.2.1 x.1.2.1.2.2.1 x.1.2.1.2.2.2.1 x.1.2.2.1 x.1.2.2.2.1, Tryz.f42.results.toList⟩
theorem k77 : FnOK Tryz.prog G 42 e77 := fk cx t77 J77 (lp := P77) Tryz.func42 (by kernel_rfl) (by kernel_rfl) rfl (nh' _ (by kernel_rfl) (nf' l77_0 nk')) fun x => by kernel_rfl
def I78 : Sp := ⟨[(0, .agg c'2), (1, .agg c'10), (2, oro 3), (3, oro 46), (4, oro 26), (5, .agg c'5), (6, ob)], [], []⟩
def E78 : SL := [(.ret, ⟨[(14, op 224), (15, oi64)], [(224, c'17)], []⟩)]
noncomputable def e78 : Fe G := ⟨I78, E78, fun x => nb0' x.1.1.1 x.1.1.2.1 x.1.1.2.2.1 x.1.1.2.2.2.1 x.1.1.2.2.2.2.1 x.1.1.2.2.2.2.2.1 x.1.1.2.2.2.2.2.2.1 x.1.1.2.2.2.2.2.2.2.1 x.1.2.1.1 x.1.2.1.2.1 x.1.2.1.2.2.1 x.1.2.1.2.2.2.1 x.1.2.2.1 x.1.2.2.2.1 x.1.2.2.2.2.1 x.1.2.2.2.2.2.1.1 x.1.2.2.2.2.2.1.2.1 x.1.2.2.2.2.2.2.1, Tryz.f11.results.toList⟩
theorem k78 : FnOK Tryz.prog G 11 e78 := fk cx (tc k15 (tc k23 (tc k27 (tc k31 (tc k28 (tc k32 (tc k35 (tc k50 (tc k52 (tc k55 (tc k77 tn))))))))))) (jl [(11, [(.normal, ⟨[(3, oro 46), (7, op 112), (14, op 224), (18, op 736)], [(112, c'2), (224, c'17), (736, c'18)], []⟩)])]) (lp := (pl [])) Tryz.func11 (by kernel_rfl) (by kernel_rfl) rfl (an0 (by kernel_rfl)) fun x => by kernel_rfl
def I79 : Sp := ⟨[(0, oro 66), (1, oro 66)], [], []⟩
def E79 : SL := [(.ret, ⟨[(4, ob)], [], []⟩)]
def S79_0 : Sp := ⟨[(0, oro 66), (1, oro 66), (12, oi64), (13, oi64)], [], []⟩
def X79_0 : SL := [(.exit 0, ⟨[], [], []⟩), (.ret, ⟨[(4, ob)], [], []⟩)]
def J79 : Nat → Option SL := jl []
noncomputable def P79 : Nat → St G → M (Ex × St G) := pl [lpX S79_0 X79_0 nb2']
theorem l79_0 : LoopOK Tryz.prog G 26 (P79 0) (nq' (ni' Tryz.f54) 0) := lk cx tn J79 1 S79_0 X79_0 (rfl : nb2' = _) (by kernel_rfl) (an0 (by kernel_rfl)) fun x => by kernel_rfl
noncomputable def e79 : Fe G := ⟨I79, E79, fun x => ndc' x.1.1 x.1.2.1, Tryz.f54.results.toList⟩
theorem k79 : FnOK Tryz.prog G 54 e79 := fk cx tn J79 (lp := P79) Tryz.func54 (by kernel_rfl) (by kernel_rfl) rfl (nh' _ (by kernel_rfl) (nf' l79_0 nk')) fun x => by kernel_rfl
def I80 : Sp := ⟨[(0, oro 3), (1, oro 3)], [], []⟩
def E80 : SL := [(.ret, ⟨[(4, ob)], [], []⟩)]
def S80_0 : Sp := ⟨[(0, oro 3), (1, oro 3), (12, oi64), (13, oi64)], [], []⟩
def X80_0 : SL := [(.exit 0, ⟨[], [], []⟩), (.ret, ⟨[(4, ob)], [], []⟩)]
def J80 : Nat → Option SL := jl []
noncomputable def P80 : Nat → St G → M (Ex × St G) := pl [lpX S80_0 X80_0 ndo']
theorem l80_0 : LoopOK Tryz.prog G 26 (P80 0) (nq' (ni' Tryz.f56) 0) := lk cx tn J80 1 S80_0 X80_0 (rfl : ndo' = _) (by kernel_rfl) (an0 (by kernel_rfl)) fun x => by kernel_rfl
noncomputable def e80 : Fe G := ⟨I80, E80, fun x => nd8' x.1.1 x.1.2.1, Tryz.f56.results.toList⟩
theorem k80 : FnOK Tryz.prog G 56 e80 := fk cx tn J80 (lp := P80) Tryz.func56 (by kernel_rfl) (by kernel_rfl) rfl (nh' _ (by kernel_rfl) (nf' l80_0 nk')) fun x => by kernel_rfl
def I81 : Sp := ⟨[(0, oro 4), (1, oro 4)], [], []⟩
def E81 : SL := [(.ret, ⟨[(4, ob)], [], []⟩)]
def S81_0 : Sp := ⟨[(0, oro 4), (1, oro 4), (12, oi64), (13, oi64)], [], []⟩
def X81_0 : SL := [(.exit 0, ⟨[], [], []⟩), (.ret, ⟨[(4, ob)], [], []⟩)]
def J81 : Nat → Option SL := jl []
noncomputable def P81 : Nat → St G → M (Ex × St G) := pl [lpX S81_0 X81_0 ndd']
theorem l81_0 : LoopOK Tryz.prog G 26 (P81 0) (nq' (ni' Tryz.f93) 0) := lk cx tn J81 1 S81_0 X81_0 (rfl : ndd' = _) (by kernel_rfl) (an0 (by kernel_rfl)) fun x => by kernel_rfl
noncomputable def e81 : Fe G := ⟨I81, E81, fun x => nci' x.1.1 x.1.2.1, Tryz.f93.results.toList⟩
theorem k81 : FnOK Tryz.prog G 93 e81 := fk cx tn J81 (lp := P81) Tryz.func93 (by kernel_rfl) (by kernel_rfl) rfl (nh' _ (by kernel_rfl) (nf' l81_0 nk')) fun x => by kernel_rfl
def I82 : Sp := ⟨[(0, oro 63), (1, oro 63)], [], []⟩
def E82 : SL := [(.ret, ⟨[(4, ob)], [], []⟩)]
def S82_0 : Sp := ⟨[(0, oro 63), (1, oro 63), (12, oi64), (13, oi64)], [], []⟩
def X82_0 : SL := [(.exit 0, ⟨[], [], []⟩), (.ret, ⟨[(4, ob)], [], []⟩)]
def J82 : Nat → Option SL := jl []
noncomputable def P82 : Nat → St G → M (Ex × St G) := pl [lpX S82_0 X82_0 nb6']
theorem l82_0 : LoopOK Tryz.prog G 26 (P82 0) (nq' (ni' Tryz.f94) 0) := lk cx tn J82 1 S82_0 X82_0 (rfl : nb6' = _) (by kernel_rfl) (an0 (by kernel_rfl)) fun x => by kernel_rfl
noncomputable def e82 : Fe G := ⟨I82, E82, fun x => ndj' x.1.1 x.1.2.1, Tryz.f94.results.toList⟩
theorem k82 : FnOK Tryz.prog G 94 e82 := fk cx tn J82 (lp := P82) Tryz.func94 (by kernel_rfl) (by kernel_rfl) rfl (nh' _ (by kernel_rfl) (nf' l82_0 nk')) fun x => by kernel_rfl
def I83 : Sp := ⟨[(0, .agg c'10), (1, .agg c'10)], [], []⟩
def E83 : SL := [(.ret, ⟨[(4, ob)], [], []⟩)]
noncomputable def e83 : Fe G := ⟨I83, E83, fun x => nq9' x.1.1.1 x.1.1.2.1 x.1.1.2.2.1 x.1.1.2.2.2.1 x.1.2.1.1 x.1.2.1.2.1 x.1.2.1.2.2.1 x.1.2.1.2.2.2.1, Tryz.f55.results.toList⟩
theorem k83 : FnOK Tryz.prog G 55 e83 := fk cx (tc k80 (tc k81 (tc k82 tn))) (jl [(1048577, [(.normal, ⟨[(4, ob)], [], []⟩)])]) (lp := (pl [])) Tryz.func55 (by kernel_rfl) (by kernel_rfl) rfl (an0 (by kernel_rfl)) fun x => by kernel_rfl
def I84 : Sp := ⟨[(0, oro 26), (1, oro 26)], [], []⟩
def E84 : SL := [(.ret, ⟨[(4, ob)], [], []⟩)]
def S84_0 : Sp := ⟨[(0, oro 26), (1, oro 26), (12, oi64), (13, oi64)], [], []⟩
def X84_0 : SL := [(.exit 0, ⟨[], [], []⟩), (.ret, ⟨[(4, ob)], [], []⟩)]
def J84 : Nat → Option SL := jl []
noncomputable def P84 : Nat → St G → M (Ex × St G) := pl [lpX S84_0 X84_0 nb5']
theorem l84_0 : LoopOK Tryz.prog G 26 (P84 0) (nq' (ni' Tryz.f95) 0) := lk cx tn J84 1 S84_0 X84_0 (rfl : nb5' = _) (by kernel_rfl) (an0 (by kernel_rfl)) fun x => by kernel_rfl
noncomputable def e84 : Fe G := ⟨I84, E84, fun x => ndk' x.1.1 x.1.2.1, Tryz.f95.results.toList⟩
theorem k84 : FnOK Tryz.prog G 95 e84 := fk cx tn J84 (lp := P84) Tryz.func95 (by kernel_rfl) (by kernel_rfl) rfl (nh' _ (by kernel_rfl) (nf' l84_0 nk')) fun x => by kernel_rfl
def I85 : Sp := ⟨[(0, .agg c'19), (1, .agg c'19)], [], []⟩
def E85 : SL := [(.ret, ⟨[(4, ob)], [], []⟩)]
noncomputable def e85 : Fe G := ⟨I85, E85, fun x => nmz' x.1.1.1 x.1.1.2.1 x.1.1.2.2.1 x.1.1.2.2.2.1 x.1.2.1.1 x.1.2.1.2.1 x.1.2.1.2.2.1 x.1.2.1.2.2.2.1, Tryz.f57.results.toList⟩
theorem k85 : FnOK Tryz.prog G 57 e85 := fk cx (tc k84 (tc k81 tn)) (jl [(1048577, [(.normal, ⟨[(4, ob)], [], []⟩)])]) (lp := (pl [])) Tryz.func57 (by kernel_rfl) (by kernel_rfl) rfl (an0 (by kernel_rfl)) fun x => by kernel_rfl
def I86 : Sp := ⟨[(0, .agg c'20), (1, .agg c'20)], [], []⟩
def E86 : SL := [(.ret, ⟨[(4, ob)], [], []⟩)]
noncomputable def e86 : Fe G := ⟨I86, E86, fun x => ng1' x.1.1.1 x.1.1.2.1 x.1.1.2.2.1 x.1.1.2.2.2.1 x.1.1.2.2.2.2.1 x.1.1.2.2.2.2.2.1 x.1.1.2.2.2.2.2.2.1 x.1.1.2.2.2.2.2.2.2.1 x.1.1.2.2.2.2.2.2.2.2.1 x.1.1.2.2.2.2.2.2.2.2.2.1 x.1.1.2.2.2.2.2.2.2.2.2.2.1 x.1.1.2.2.2.2.2.2.2.2.2.2.2.1 x.1.2.1.1 x.1.2.1.2.1 x.1.2.1.2.2.1 x.1.2.1.2.2.2.1 x.1.2.1.2.2.2.2.1 x.1.2.1.2.2.2.2.2.1 x.1.2.1.2.2.2.2.2.2.1 x.1.2.1.2.2.2.2.2.2.2.1 x.1.2.1.2.2.2.2.2.2.2.2.1 x.1.2.1.2.2.2.2.2.2.2.2.2.1 x.1.2.1.2.2.2.2.2.2.2.2.2.2.1 x.1.2.1.2.2.2.2.2.2.2.2.2.2.2.1, Tryz.f15.results.toList⟩
theorem k86 : FnOK Tryz.prog G 15 e86 := fk cx (tc k79 (tc k83 (tc k80 (tc k85 tn)))) (jl [(1048577, [(.normal, ⟨[(4, ob)], [], []⟩)])]) (lp := (pl [])) Tryz.func15 (by kernel_rfl) (by kernel_rfl) rfl (an0 (by kernel_rfl)) fun x => by kernel_rfl
def I87 : Sp := ⟨[], [], []⟩
def E87 : SL := [(.ret, ⟨[(0, ob)], [], []⟩)]
noncomputable def H87 (h_l10_Building : ((Int × Int × Unit) × Unit) → Option ((Unit × Unit) × (T'0 × Unit))) (h_r10_Initial : ((T'0 × Unit) × Unit) → Option ((Unit × Unit) × (T'5 × Unit))) (h_dispatch_Tick : (T'71 × Unit) → Option ((Unit × Int × Unit) × (T'35 × Unit))) (h_dispatch_Same : ((T'35 × T'35 × Unit) × Unit) → Option ((Bool × Unit) × Unit))  : Option ((Bool × Unit) × Unit) :=
 (h_l10_Building (((9 : Int), (90 : Int), ()), ())).bind fun y1 =>
 let z0 : List (View) := [(View.mk true true false false (0 : Int) (0 : Int) (0 : Int) (0 : Int) (0 : Int) (0 : Int) (0 : Int) (0 : Int)), (View.mk false false false false (0 : Int) (0 : Int) (0 : Int) (0 : Int) (0 : Int) (0 : Int) (0 : Int) (0 : Int))]
 (h_r10_Initial ((y1.2.1, ()), ())).bind fun y2 =>
 (h_dispatch_Tick ((y1.2.1, y2.2.1, ([] : List (Int)), z0, (List.replicate (Int.toNat (2 : Int)) (Calls.mk (0 : Int) (0 : Int))), ((4 : Int), (0 : Int), ()), true, ()), ())).bind fun y3 =>
 bif (inB (0 : Int) (List.length z0)) then
 let z1 : Nat := (Int.toNat (0 : Int))
 let z2 : View := (List.getD z0 z1 (View.mk false false false false (0 : Int) (0 : Int) (0 : Int) (0 : Int) (0 : Int) (0 : Int) (0 : Int) (0 : Int)))
 (h_dispatch_Tick ((y1.2.1, (y3.2.1.2.1, y3.2.1.2.2.1, y3.2.1.2.2.2.1, y3.2.1.2.2.2.2.1, ()), y3.2.1.2.2.2.2.2.1, (List.set z0 z1 (View.mk z2.Ready z2.Serving z2.Legacy z2.Lost z2.Floor z2.Dir z2.Load (4 : Int) (0 : Int) z2.Stops_Car z2.Stops_Hall_Up z2.Stops_Hall_Down)), (List.replicate (Int.toNat (2 : Int)) (Calls.mk (0 : Int) (0 : Int))), ((4 : Int), (0 : Int), ()), true, ()), ())).bind fun y4 =>
 Option.bind (bif (y3.1.2.1 == (0 : Int)) then
 bif (((List.length y3.2.1.1 : Nat) : Int) == (2 : Int)) then
 bif (((List.length y3.2.1.2.2.2.2.1 : Nat) : Int) == (1 : Int)) then
 bif (inB (0 : Int) (List.length y3.2.1.2.2.2.2.1)) then
 let z3 : Entry := (List.getD y3.2.1.2.2.2.2.1 (Int.toNat (0 : Int)) (Entry.mk (0 : Int) (0 : Int) (0 : Int) (0 : Int) false))
 bif ((z3.Floor == (2 : Int)) && ((z3.Dir == (1 : Int)) && ((z3.Car == (0 : Int)) && ((z3.Moves == (0 : Int)) && ((z3.Moved == false) && true))))) then
 bif (y4.1.2.1 == (0 : Int)) then
 bif (((List.length y4.2.1.2.2.2.2.1 : Nat) : Int) == (0 : Int)) then
 bif ((y4.2.1.2.2.2.2.2.2.2.2.1 == (4 : Int)) && ((y4.2.1.2.2.2.2.2.2.2.2.2.1 == (0 : Int)) && true)) then
 (h_dispatch_Same ((y4.2.1, y4.2.1, ()), ())).bind fun y5 =>
 bif y5.1.1 then
 (h_dispatch_Same ((y3.2.1, y4.2.1, ()), ())).bind fun y6 =>
 some (((!y6.1.1), ()), ())
 else
 some ((false, ()), ())
 else
 some ((false, ()), ())
 else
 some ((false, ()), ())
 else
 some ((false, ()), ())
 else
 some ((false, ()), ())
 else
 none
 else
 some ((false, ()), ())
 else
 some ((false, ()), ())
 else
 some ((false, ()), ())) fun y7 =>
 some ((y7.1.1, ()), ())
 else
 none
theorem q87 (h_l10_Building : ((Int × Int × Unit) × Unit) → Option ((Unit × Unit) × (T'0 × Unit))) (h_r10_Initial : ((T'0 × Unit) × Unit) → Option ((Unit × Unit) × (T'5 × Unit))) (h_dispatch_Tick : (T'71 × Unit) → Option ((Unit × Int × Unit) × (T'35 × Unit))) (h_dispatch_Same : ((T'35 × T'35 × Unit) × Unit) → Option ((Bool × Unit) × Unit)) (x : I87.T G) : endI (cfP [(8, Fe.mk (G := G) I1 E1 h_l10_Building Tryz.f8.results.toList), (27, Fe.mk (G := G) I5 E5 h_r10_Initial Tryz.f27.results.toList), (11, Fe.mk (G := G) I78 E78 h_dispatch_Tick Tryz.f11.results.toList), (15, Fe.mk (G := G) I86 E86 h_dispatch_Same Tryz.f15.results.toList)]) (pl []) (jl [(1048584, [(.normal, ⟨[(0, ob)], [], []⟩)])]) 94 (ni' Tryz.f16) I87 E87 x = H87 h_l10_Building h_r10_Initial h_dispatch_Tick h_dispatch_Same  := by kernel_rfl
noncomputable def e87 : Fe G := ⟨I87, E87, fun _ => niv', Tryz.f16.results.toList⟩
theorem k87 : FnOK Tryz.prog G 16 e87 := fk cx (tc k1 (tc k5 (tc k78 (tc k86 tn)))) (jl [(1048584, [(.normal, ⟨[(0, ob)], [], []⟩)])]) (lp := (pl [])) Tryz.func16 (by kernel_rfl) (by kernel_rfl) rfl (an0 (by kernel_rfl)) fun x => (q87 (fun x => nct' x.1.1 x.1.2.1) (fun x => neo' x.1.1.1 x.1.1.2.1 x.1.1.2.2.1 x.1.1.2.2.2.1 x.1.1.2.2.2.2.1 x.1.1.2.2.2.2.2.1 x.1.1.2.2.2.2.2.2.1 x.1.1.2.2.2.2.2.2.2.1) (fun x => nb0' x.1.1.1 x.1.1.2.1 x.1.1.2.2.1 x.1.1.2.2.2.1 x.1.1.2.2.2.2.1 x.1.1.2.2.2.2.2.1 x.1.1.2.2.2.2.2.2.1 x.1.1.2.2.2.2.2.2.2.1 x.1.2.1.1 x.1.2.1.2.1 x.1.2.1.2.2.1 x.1.2.1.2.2.2.1 x.1.2.2.1 x.1.2.2.2.1 x.1.2.2.2.2.1 x.1.2.2.2.2.2.1.1 x.1.2.2.2.2.2.1.2.1 x.1.2.2.2.2.2.2.1) (fun x => ng1' x.1.1.1 x.1.1.2.1 x.1.1.2.2.1 x.1.1.2.2.2.1 x.1.1.2.2.2.2.1 x.1.1.2.2.2.2.2.1 x.1.1.2.2.2.2.2.2.1 x.1.1.2.2.2.2.2.2.2.1 x.1.1.2.2.2.2.2.2.2.2.1 x.1.1.2.2.2.2.2.2.2.2.2.1 x.1.1.2.2.2.2.2.2.2.2.2.2.1 x.1.1.2.2.2.2.2.2.2.2.2.2.2.1 x.1.2.1.1 x.1.2.1.2.1 x.1.2.1.2.2.1 x.1.2.1.2.2.2.1 x.1.2.1.2.2.2.2.1 x.1.2.1.2.2.2.2.2.1 x.1.2.1.2.2.2.2.2.2.1 x.1.2.1.2.2.2.2.2.2.2.1 x.1.2.1.2.2.2.2.2.2.2.2.1 x.1.2.1.2.2.2.2.2.2.2.2.2.1 x.1.2.1.2.2.2.2.2.2.2.2.2.2.1 x.1.2.1.2.2.2.2.2.2.2.2.2.2.2.1) x).trans (by kernel_rfl)
def I88 : Sp := ⟨[(0, .agg c'2), (1, oro 5), (2, oi64)], [], []⟩
def E88 : SL := [(.ret, ⟨[(6, .one (.own 32768 66))], [], []⟩)]
def S88_0 : Sp := ⟨[(1, oro 5), (2, oi64), (7, .one (.own 32768 66)), (8, oi64), (9, oi64), (10, oi64)], [], []⟩
def X88_0 : SL := [(.exit 0, ⟨[(7, .one (.own 32768 66))], [], []⟩)]
def J88 : Nat → Option SL := jl [(18, [(.normal, ⟨[(1, oro 5), (2, oi64), (7, .one (.own 32768 66)), (8, oi64), (9, oi64), (10, oi64), (11, oi64), (13, op 208)], [(208, c'11)], []⟩)]), (20, [(.normal, ⟨[(1, oro 5), (2, oi64), (7, .one (.own 32768 66)), (8, oi64), (9, oi64), (10, oi64), (11, oi64), (13, op 208)], [(208, c'11)], []⟩)])]
noncomputable def P88 : Nat → St G → M (Ex × St G) := pl [lpX S88_0 X88_0 ngu']
theorem l88_0 : LoopOK Tryz.prog G 112 (P88 0) (nq' (ni' Tryz.f28) 0) := lk cx tn J88 1 S88_0 X88_0 (rfl : ngu' = _) (by kernel_rfl) (an0 (by kernel_rfl)) fun x => by kernel_rfl
noncomputable def e88 : Fe G := ⟨I88, E88, fun x => nh1' x.1.1.1 x.1.1.2.1 x.1.1.2.2.1 x.1.1.2.2.2.1 x.1.1.2.2.2.2.1 x.1.1.2.2.2.2.2.1 x.1.1.2.2.2.2.2.2.1 x.1.1.2.2.2.2.2.2.2.1 x.1.2.1 x.1.2.2.1, Tryz.f28.results.toList⟩
theorem k88 : FnOK Tryz.prog G 28 e88 := fk cx tn J88 (lp := P88) Tryz.func28 (by kernel_rfl) (by kernel_rfl) rfl (nh' _ (by kernel_rfl) (nf' l88_0 nk')) fun x => by kernel_rfl
def I89 : Sp := ⟨[(0, .agg c'2), (1, oi64), (2, oi64)], [], []⟩
def E89 : SL := [(.ret, ⟨[(6, ob)], [], []⟩)]
noncomputable def e89 : Fe G := ⟨I89, E89, fun x => neg' x.1.1.1 x.1.1.2.1 x.1.1.2.2.1 x.1.1.2.2.2.1 x.1.1.2.2.2.2.1 x.1.1.2.2.2.2.2.1 x.1.1.2.2.2.2.2.2.1 x.1.1.2.2.2.2.2.2.2.1 x.1.2.1 x.1.2.2.1, Tryz.f58.results.toList⟩
theorem k89 : FnOK Tryz.prog G 58 e89 := fk cx (tc k4 (tc k2 tn)) (jl [(1048579, [(.normal, ⟨[(6, ob)], [], []⟩)])]) (lp := (pl [])) Tryz.func58 (by kernel_rfl) (by kernel_rfl) rfl (an0 (by kernel_rfl)) fun x => by kernel_rfl
def I90 : Sp := ⟨[(0, .agg c'9), (1, .agg c'9)], [], []⟩
def E90 : SL := [(.ret, ⟨[(4, ob)], [], []⟩)]
noncomputable def e90 : Fe G := ⟨I90, E90, fun x => nik' x.1.1.1 x.1.1.2.1 x.1.1.2.2.1 x.1.1.2.2.2.1 x.1.1.2.2.2.2.1 x.1.2.1.1 x.1.2.1.2.1 x.1.2.1.2.2.1 x.1.2.1.2.2.2.1 x.1.2.1.2.2.2.2.1, Tryz.f87.results.toList⟩
theorem k90 : FnOK Tryz.prog G 87 e90 := fk cx tn (jl [(1048577, [(.normal, ⟨[(4, ob)], [], []⟩)])]) (lp := (pl [])) Tryz.func87 (by kernel_rfl) (by kernel_rfl) rfl (an0 (by kernel_rfl)) fun x => by kernel_rfl
def I91 : Sp := ⟨[(0, .agg c'2), (1, .agg c'10)], [], []⟩
def E91 : SL := [(.ret, ⟨[(4, ob)], [], []⟩)]
def S91_0 : Sp := ⟨[(2, op 32), (3, op 48), (5, oi64), (6, oi64)], [(32, c'2), (48, c'10)], []⟩
def X91_0 : SL := [(.exit 0, ⟨[(2, op 32), (3, op 48), (5, oi64)], [(32, c'2), (48, c'10)], []⟩), (.ret, ⟨[(4, ob)], [], []⟩)]
def S91_1 : Sp := ⟨[(2, op 32), (3, op 48), (5, oi64), (7, oi64)], [(32, c'2), (48, c'10)], []⟩
def X91_1 : SL := [(.exit 2, ⟨[], [], []⟩), (.ret, ⟨[(4, ob)], [], []⟩)]
def J91 : Nat → Option SL := jl [(1048589, [(.normal, ⟨[(2, op 32), (3, op 48), (5, oi64), (7, oi64), (109, ob)], [(32, c'2), (48, c'10)], []⟩)])]
noncomputable def P91 : Nat → St G → M (Ex × St G) := pl [lpX S91_0 X91_0 ngw', lpX S91_1 X91_1 ngz']
theorem t91 : ∀ p ∈ [(60, e4), (58, e89), (87, e90)], FnOK Tryz.prog G p.1 p.2 := (tc k4 (tc k89 (tc k90 tn)))
theorem l91_1 : LoopOK Tryz.prog G 110 (P91 1) (nq' (ni' Tryz.f43) 1) := lk cx t91 J91 2 S91_1 X91_1 (rfl : ngz' = _) (by kernel_rfl) (an0 (by kernel_rfl)) fun x => by kernel_rfl
theorem l91_0 : LoopOK Tryz.prog G 110 (P91 0) (nq' (ni' Tryz.f43) 0) := lk cx t91 J91 1 S91_0 X91_0 (rfl : ngw' = _) (by kernel_rfl) (an0 (by kernel_rfl)) fun x => by kernel_rfl
noncomputable def e91 : Fe G := ⟨I91, E91, fun x => nes' x.1.1.1 x.1.1.2.1 x.1.1.2.2.1 x.1.1.2.2.2.1 x.1.1.2.2.2.2.1 x.1.1.2.2.2.2.2.1 x.1.1.2.2.2.2.2.2.1 x.1.1.2.2.2.2.2.2.2.1 x.1.2.1.1 x.1.2.1.2.1 x.1.2.1.2.2.1 x.1.2.1.2.2.2.1, Tryz.f43.results.toList⟩
theorem k91 : FnOK Tryz.prog G 43 e91 := fk cx t91 J91 (lp := P91) Tryz.func43 (by kernel_rfl) (by kernel_rfl) rfl (nh' _ (by kernel_rfl) (nf' l91_0 (nf' l91_1 nk'))) fun x => by kernel_rfl
def I92 : Sp := ⟨[(0, oi64), (1, oi64), (2, oi64)], [], []⟩
def E92 : SL := [(.ret, ⟨[(6, ob)], [], []⟩)]
noncomputable def e92 : Fe G := ⟨I92, E92, fun x => nfa' x.1.1 x.1.2.1 x.1.2.2.1, Tryz.f101.results.toList⟩
theorem k92 : FnOK Tryz.prog G 101 e92 := fk cx tn (jl [(1048577, [(.normal, ⟨[(6, ob)], [], []⟩)])]) (lp := (pl [])) Tryz.func101 (by kernel_rfl) (by kernel_rfl) rfl (an0 (by kernel_rfl)) fun x => by kernel_rfl
def I93 : Sp := ⟨[(0, .agg c'2), (1, .agg c'11)], [], []⟩
def E93 : SL := [(.ret, ⟨[(4, ob)], [], []⟩)]
noncomputable def e93 : Fe G := ⟨I93, E93, fun x => njn' x.1.1.1 x.1.1.2.1 x.1.1.2.2.1 x.1.1.2.2.2.1 x.1.1.2.2.2.2.1 x.1.1.2.2.2.2.2.1 x.1.1.2.2.2.2.2.2.1 x.1.1.2.2.2.2.2.2.2.1 x.1.2.1.1 x.1.2.1.2.1 x.1.2.1.2.2.1 x.1.2.1.2.2.2.1 x.1.2.1.2.2.2.2.1, Tryz.f61.results.toList⟩
theorem k93 : FnOK Tryz.prog G 61 e93 := fk cx (tc k4 (tc k89 (tc k92 tn))) (jl [(1048580, [(.normal, ⟨[(2, op 32), (3, op 48), (5, ob), (6, ob)], [(32, c'2), (48, c'11)], []⟩)]), (1048584, [(.normal, ⟨[(4, ob)], [], []⟩)]), (1048586, [(.normal, ⟨[(4, ob)], [], []⟩)]), (1048588, [(.normal, ⟨[(4, ob)], [], []⟩)]), (1048591, [(.normal, ⟨[(4, ob)], [], []⟩)]), (1048593, [(.normal, ⟨[(4, ob)], [], []⟩)])]) (lp := (pl [])) Tryz.func61 (by kernel_rfl) (by kernel_rfl) rfl (an0 (by kernel_rfl)) fun x => by kernel_rfl
def I94 : Sp := ⟨[(0, .agg c'10), (1, oi64), (2, oi64)], [], []⟩
def E94 : SL := [(.ret, ⟨[(6, oi64)], [], []⟩)]
def S94_0 : Sp := ⟨[(1, oi64), (2, oi64), (3, op 48), (7, oi64)], [(48, c'10)], []⟩
def X94_0 : SL := [(.exit 0, ⟨[], [], []⟩), (.ret, ⟨[(6, oi64)], [], []⟩)]
def J94 : Nat → Option SL := jl [(1048580, [(.normal, ⟨[(1, oi64), (2, oi64), (3, op 48), (7, oi64), (32, ob)], [(48, c'10)], []⟩)])]
noncomputable def P94 : Nat → St G → M (Ex × St G) := pl [lpX S94_0 X94_0 nii']
theorem l94_0 : LoopOK Tryz.prog G 34 (P94 0) (nq' (ni' Tryz.f22) 0) := lk cx tn J94 1 S94_0 X94_0 (rfl : nii' = _) (by kernel_rfl) (an0 (by kernel_rfl)) fun x => by kernel_rfl
noncomputable def e94 : Fe G := ⟨I94, E94, fun x => nkm' x.1.1.1 x.1.1.2.1 x.1.1.2.2.1 x.1.1.2.2.2.1 x.1.2.1 x.1.2.2.1, Tryz.f22.results.toList⟩
theorem k94 : FnOK Tryz.prog G 22 e94 := fk cx tn J94 (lp := P94) Tryz.func22 (by kernel_rfl) (by kernel_rfl) rfl (nh' _ (by kernel_rfl) (nf' l94_0 nk')) fun x => by kernel_rfl
def I95 : Sp := ⟨[(0, oro 63), (1, .agg c'9)], [], []⟩
def E95 : SL := [(.ret, ⟨[(4, .one (.own 32768 63))], [], []⟩)]
def S95_0 : Sp := ⟨[(0, oro 63), (3, op 48), (5, .one (.own 32768 63)), (6, ob), (7, oi64)], [(48, c'9)], []⟩
def X95_0 : SL := [(.exit 0, ⟨[(3, op 48), (5, .one (.own 32768 63)), (6, ob)], [(48, c'9)], []⟩)]
def J95 : Nat → Option SL := jl [(10, [(.normal, ⟨[(0, oro 63), (3, op 48), (5, .one (.own 32768 63)), (6, ob), (7, oi64)], [(48, c'9)], []⟩)]), (1048582, [(.normal, ⟨[(0, oro 63), (3, op 48), (5, .one (.own 32768 63)), (6, ob), (7, oi64), (23, ob)], [(48, c'9)], []⟩)])]
noncomputable def P95 : Nat → St G → M (Ex × St G) := pl [lpX S95_0 X95_0 ngv']
theorem t95 : ∀ p ∈ [(87, e90)], FnOK Tryz.prog G p.1 p.2 := (tc k90 tn)
theorem l95_0 : LoopOK Tryz.prog G 42 (P95 0) (nq' (ni' Tryz.f62) 0) := lk cx t95 J95 1 S95_0 X95_0 (rfl : ngv' = _) (by kernel_rfl) (an0 (by kernel_rfl)) fun x => by kernel_rfl
noncomputable def e95 : Fe G := ⟨I95, E95, fun x => nhw' x.1.1 x.1.2.1.1 x.1.2.1.2.1 x.1.2.1.2.2.1 x.1.2.1.2.2.2.1 x.1.2.1.2.2.2.2.1, Tryz.f62.results.toList⟩
theorem k95 : FnOK Tryz.prog G 62 e95 := fk cx t95 J95 (lp := P95) Tryz.func62 (by kernel_rfl) (by kernel_rfl) rfl (nh' _ (by kernel_rfl) (nf' l95_0 nk')) fun x => by kernel_rfl
def I96 : Sp := ⟨[(0, .agg c'2), (1, .agg c'10), (2, .agg c'11)], [], []⟩
def E96 : SL := [(.ret, ⟨[(6, op 96), (7, oi64)], [(96, c'4)], []⟩)]
noncomputable def e96 : Fe G := ⟨I96, E96, fun x => nhr' x.1.1.1 x.1.1.2.1 x.1.1.2.2.1 x.1.1.2.2.2.1 x.1.1.2.2.2.2.1 x.1.1.2.2.2.2.2.1 x.1.1.2.2.2.2.2.2.1 x.1.1.2.2.2.2.2.2.2.1 x.1.2.1.1 x.1.2.1.2.1 x.1.2.1.2.2.1 x.1.2.1.2.2.2.1 x.1.2.2.1.1 x.1.2.2.1.2.1 x.1.2.2.1.2.2.1 x.1.2.2.1.2.2.2.1 x.1.2.2.1.2.2.2.2.1, Tryz.f29.results.toList⟩
theorem k96 : FnOK Tryz.prog G 29 e96 := fk cx (tc k91 (tc k93 (tc k94 (tc k95 tn)))) (jl [(1048588, [(.normal, ⟨[(4, op 64), (5, op 80), (6, op 96), (8, oi64), (77, ob)], [(64, c'4), (80, c'11), (96, c'21)], []⟩)]), (2097168, [(.normal, ⟨[(4, op 64), (6, op 96), (8, oi64)], [(64, c'22), (96, c'23)], []⟩)])]) (lp := (pl [])) Tryz.func29 (by kernel_rfl) (by kernel_rfl) rfl (an0 (by kernel_rfl)) fun x => by kernel_rfl
def I97 : Sp := ⟨[(0, .agg c'2), (1, oro 5)], [], []⟩
def E97 : SL := [(.ret, ⟨[(4, op 64)], [(64, c'4)], []⟩)]
def S97_0 : Sp := ⟨[(2, op 32), (4, op 64), (5, op 80), (6, .one (.own 32768 66)), (7, oi64)], [(32, c'2), (64, c'24), (80, c'25)], []⟩
def X97_0 : SL := [(.exit 0, ⟨[(4, op 64), (5, op 80)], [(64, c'4), (80, c'21)], []⟩)]
def J97 : Nat → Option SL := jl []
noncomputable def P97 : Nat → St G → M (Ex × St G) := pl [lpX S97_0 X97_0 nhs']
theorem t97 : ∀ p ∈ [(27, e5), (28, e88), (29, e96)], FnOK Tryz.prog G p.1 p.2 := (tc k5 (tc k88 (tc k96 tn)))
theorem l97_0 : LoopOK Tryz.prog G 30 (P97 0) (nq' (ni' Tryz.f9) 0) := lk cx t97 J97 1 S97_0 X97_0 (rfl : nhs' = _) (by kernel_rfl) (an0 (by kernel_rfl)) fun x => by kernel_rfl
noncomputable def e97 : Fe G := ⟨I97, E97, fun x => ngp' x.1.1.1 x.1.1.2.1 x.1.1.2.2.1 x.1.1.2.2.2.1 x.1.1.2.2.2.2.1 x.1.1.2.2.2.2.2.1 x.1.1.2.2.2.2.2.2.1 x.1.1.2.2.2.2.2.2.2.1 x.1.2.1, Tryz.f9.results.toList⟩
theorem k97 : FnOK Tryz.prog G 9 e97 := fk cx t97 J97 (lp := P97) Tryz.func9 (by kernel_rfl) (by kernel_rfl) rfl (nh' _ (by kernel_rfl) (nf' l97_0 nk')) fun x => by kernel_rfl
def I98 : Sp := ⟨[(0, .agg c'2), (1, .agg c'10), (2, oro 66)], [], []⟩
def E98 : SL := [(.ret, ⟨[(6, op 96), (7, oi64)], [(96, c'4)], []⟩)]
def S98_0 : Sp := ⟨[(3, op 48), (4, op 64), (6, op 96), (12, oro 66), (13, oi64), (14, oi64)], [(48, c'2), (64, c'10), (96, c'4)], []⟩
def X98_0 : SL := [(.exit 0, ⟨[(4, op 64), (6, op 96)], [(64, c'10), (96, c'4)], []⟩), (.ret, ⟨[(6, op 96), (7, oi64)], [(96, c'4)], []⟩)]
def J98 : Nat → Option SL := jl []
noncomputable def P98 : Nat → St G → M (Ex × St G) := pl [lpX S98_0 X98_0 ndf']
theorem t98 : ∀ p ∈ [(59, e49), (35, e31)], FnOK Tryz.prog G p.1 p.2 := (tc k49 (tc k31 tn))
theorem l98_0 : LoopOK Tryz.prog G 33 (P98 0) (nq' (ni' Tryz.f23) 0) := lk cx t98 J98 1 S98_0 X98_0 (rfl : ndf' = _) (by kernel_rfl) (an0 (by kernel_rfl)) fun x => by kernel_rfl
noncomputable def e98 : Fe G := ⟨I98, E98, fun x => nch' x.1.1.1 x.1.1.2.1 x.1.1.2.2.1 x.1.1.2.2.2.1 x.1.1.2.2.2.2.1 x.1.1.2.2.2.2.2.1 x.1.1.2.2.2.2.2.2.1 x.1.1.2.2.2.2.2.2.2.1 x.1.2.1.1 x.1.2.1.2.1 x.1.2.1.2.2.1 x.1.2.1.2.2.2.1 x.1.2.2.1, Tryz.f23.results.toList⟩
theorem k98 : FnOK Tryz.prog G 23 e98 := fk cx t98 J98 (lp := P98) Tryz.func23 (by kernel_rfl) (by kernel_rfl) rfl (nh' _ (by kernel_rfl) (nf' l98_0 nk')) fun x => by kernel_rfl
def I99 : Sp := ⟨[(0, .agg c'2), (1, .agg c'10), (2, oro 66)], [], []⟩
def E99 : SL := [(.ret, ⟨[(6, op 96), (7, oi64)], [(96, c'10)], []⟩)]
def S99_0 : Sp := ⟨[(2, oro 66), (3, op 48), (4, op 64), (6, op 96), (8, oi64)], [(48, c'2), (64, c'10), (96, c'4)], []⟩
def X99_0 : SL := [(.exit 0, ⟨[(4, op 64), (6, op 96)], [(64, c'10), (96, c'4)], []⟩), (.ret, ⟨[(6, op 96), (7, oi64)], [(96, c'4)], []⟩)]
def J99 : Nat → Option SL := jl []
noncomputable def P99 : Nat → St G → M (Ex × St G) := pl [lpX S99_0 X99_0 nfy']
theorem t99 : ∀ p ∈ [(29, e96)], FnOK Tryz.prog G p.1 p.2 := (tc k96 tn)
theorem l99_0 : LoopOK Tryz.prog G 33 (P99 0) (nq' (ni' Tryz.f24) 0) := lk cx t99 J99 1 S99_0 X99_0 (rfl : nfy' = _) (by kernel_rfl) (an0 (by kernel_rfl)) fun x => by kernel_rfl
noncomputable def e99 : Fe G := ⟨I99, E99, fun x => nha' x.1.1.1 x.1.1.2.1 x.1.1.2.2.1 x.1.1.2.2.2.1 x.1.1.2.2.2.2.1 x.1.1.2.2.2.2.2.1 x.1.1.2.2.2.2.2.2.1 x.1.1.2.2.2.2.2.2.2.1 x.1.2.1.1 x.1.2.1.2.1 x.1.2.1.2.2.1 x.1.2.1.2.2.2.1 x.1.2.2.1, Tryz.f24.results.toList⟩
theorem k99 : FnOK Tryz.prog G 24 e99 := fk cx t99 J99 (lp := P99) Tryz.func24 (by kernel_rfl) (by kernel_rfl) rfl (nh' _ (by kernel_rfl) (nf' l99_0 nk')) fun x => by kernel_rfl
def I100 : Sp := ⟨[(0, .agg c'10), (1, oro 5)], [], []⟩
def E100 : SL := [(.ret, ⟨[(4, .one (.own 32768 3))], [], []⟩)]
def nzt' : Sp := ⟨[(1, oro 5), (5, .one (.own 32768 3)), (6, oi64)], [], []⟩
def nz5' : SL := [(.exit 0, ⟨[(5, .one (.own 32768 3))], [], []⟩)]
def J100 : Nat → Option SL := jl []
noncomputable def P100 : Nat → St G → M (Ex × St G) := pl [lpX nzt' nz5' ng0']
theorem n5u' : LoopOK Tryz.prog G 33 (P100 0) (nq' (ni' Tryz.f12) 0) := lk cx tn J100 1 nzt' nz5' (rfl : ng0' = _) (by kernel_rfl) (an0 (by kernel_rfl)) fun x => by kernel_rfl
noncomputable def e100 : Fe G := ⟨I100, E100, fun x => nen' x.1.1.1 x.1.1.2.1 x.1.1.2.2.1 x.1.1.2.2.2.1 x.1.2.1, Tryz.f12.results.toList⟩
theorem k100 : FnOK Tryz.prog G 12 e100 := fk cx tn J100 (lp := P100) Tryz.func12 (by kernel_rfl) (by kernel_rfl) rfl (nh' _ (by kernel_rfl) (nf' n5u' nk')) fun x => by kernel_rfl
def I101 : Sp := ⟨[(0, .agg c'2), (1, oro 5)], [], []⟩
def E101 : SL := [(.ret, ⟨[(4, .one (.own 32768 46))], [], []⟩)]
def n0n' : Sp := ⟨[(1, oro 5), (2, op 32), (5, .one (.own 32768 46)), (6, oi64)], [(32, c'2)], []⟩
def n1h' : SL := [(.exit 0, ⟨[(5, .one (.own 32768 46))], [], []⟩)]
def n1x' : Sp := ⟨[(1, oro 5), (2, op 32), (5, .one (.own 32768 46)), (6, oi64), (7, op 112), (8, oi64)], [(32, c'2), (112, c'26)], []⟩
def n0d' : SL := [(.exit 2, ⟨[(1, oro 5), (2, op 32), (5, .one (.own 32768 46)), (6, oi64), (7, op 112)], [(32, c'2), (112, c'26)], []⟩)]
def J101 : Nat → Option SL := jl []
noncomputable def P101 : Nat → St G → M (Ex × St G) := pl [lpX n0n' n1h' nge', lpX n1x' n0d' ngb']
theorem n2d' : LoopOK Tryz.prog G 101 (P101 1) (nq' (ni' Tryz.f30) 1) := lk cx tn J101 2 n1x' n0d' (rfl : ngb' = _) (by kernel_rfl) (an0 (by kernel_rfl)) fun x => by kernel_rfl
theorem n5i' : LoopOK Tryz.prog G 101 (P101 0) (nq' (ni' Tryz.f30) 0) := lk cx tn J101 1 n0n' n1h' (rfl : nge' = _) (by kernel_rfl) (nh' _ (by kernel_rfl) (nf' n2d' nk')) fun x => by kernel_rfl
noncomputable def e101 : Fe G := ⟨I101, E101, fun x => njg' x.1.1.1 x.1.1.2.1 x.1.1.2.2.1 x.1.1.2.2.2.1 x.1.1.2.2.2.2.1 x.1.1.2.2.2.2.2.1 x.1.1.2.2.2.2.2.2.1 x.1.1.2.2.2.2.2.2.2.1 x.1.2.1, Tryz.f30.results.toList⟩
theorem k101 : FnOK Tryz.prog G 30 e101 := fk cx tn J101 (lp := P101) Tryz.func30 (by kernel_rfl) (by kernel_rfl) rfl (nh' _ (by kernel_rfl) (nf' n5i' (nf' n2d' nk'))) fun x => by kernel_rfl
def I102 : Sp := ⟨[(0, oi64), (1, oi64)], [], []⟩
def E102 : SL := [(.ret, ⟨[(4, op 64)], [(64, c'5)], []⟩)]
noncomputable def e102 : Fe G := ⟨I102, E102, fun x => nh8' x.1.1 x.1.2.1, Tryz.f31.results.toList⟩
theorem k102 : FnOK Tryz.prog G 31 e102 := fk cx tn (jl []) (lp := (pl [])) Tryz.func31 (by kernel_rfl) (by kernel_rfl) rfl (an0 (by kernel_rfl)) fun x => by kernel_rfl
def I103 : Sp := ⟨[(0, .agg c'2), (1, oro 5)], [], []⟩
def E103 : SL := [(.ret, ⟨[(4, .one (.own 32768 46))], [], []⟩)]
def n2j' : Sp := ⟨[(1, oro 5), (2, op 32), (5, .one (.own 32768 46)), (6, oi64)], [(32, c'2)], []⟩
def n1n' : SL := [(.exit 0, ⟨[(5, .one (.own 32768 46))], [], []⟩)]
def J103 : Nat → Option SL := jl []
noncomputable def P103 : Nat → St G → M (Ex × St G) := pl [lpX n2j' n1n' nhv']
theorem t103 : ∀ p ∈ [(30, e101), (31, e102)], FnOK Tryz.prog G p.1 p.2 := (tc k101 (tc k102 tn))
theorem n5j' : LoopOK Tryz.prog G 51 (P103 0) (nq' (ni' Tryz.f10) 0) := lk cx t103 J103 1 n2j' n1n' (rfl : nhv' = _) (by kernel_rfl) (an0 (by kernel_rfl)) fun x => by kernel_rfl
noncomputable def e103 : Fe G := ⟨I103, E103, fun x => ngn' x.1.1.1 x.1.1.2.1 x.1.1.2.2.1 x.1.1.2.2.2.1 x.1.1.2.2.2.2.1 x.1.1.2.2.2.2.2.1 x.1.1.2.2.2.2.2.2.1 x.1.1.2.2.2.2.2.2.2.1 x.1.2.1, Tryz.f10.results.toList⟩
theorem k103 : FnOK Tryz.prog G 10 e103 := fk cx t103 J103 (lp := P103) Tryz.func10 (by kernel_rfl) (by kernel_rfl) rfl (nh' _ (by kernel_rfl) (nf' n5j' nk')) fun x => by kernel_rfl
def I104 : Sp := ⟨[(0, .agg c'10), (1, .agg c'10)], [], []⟩
def E104 : SL := [(.ret, ⟨[(4, ob)], [], []⟩)]
def n1v' : Sp := ⟨[(2, op 32), (3, op 48), (5, oi64)], [(32, c'10), (48, c'10)], []⟩
def n0x' : SL := [(.exit 0, ⟨[(2, op 32), (3, op 48)], [(32, c'10), (48, c'10)], []⟩), (.ret, ⟨[(4, ob)], [], []⟩)]
def n1g' : Sp := ⟨[(2, op 32), (3, op 48), (6, oi64)], [(32, c'10), (48, c'10)], []⟩
def n13' : SL := [(.exit 2, ⟨[(2, op 32), (3, op 48)], [(32, c'10), (48, c'10)], []⟩), (.ret, ⟨[(4, ob)], [], []⟩)]
def nzs' : Sp := ⟨[(2, op 32), (3, op 48), (7, oi64)], [(32, c'10), (48, c'10)], []⟩
def n1c' : SL := [(.exit 4, ⟨[(2, op 32), (3, op 48)], [(32, c'10), (48, c'10)], []⟩), (.ret, ⟨[(4, ob)], [], []⟩)]
def n0v' : Sp := ⟨[(2, op 32), (3, op 48), (8, oi64)], [(32, c'10), (48, c'10)], []⟩
def n03' : SL := [(.exit 6, ⟨[], [], []⟩), (.ret, ⟨[(4, ob)], [], []⟩)]
def J104 : Nat → Option SL := jl []
noncomputable def P104 : Nat → St G → M (Ex × St G) := pl [lpX n1v' n0x' nie', lpX n1g' n13' nir', lpX nzs' n1c' ni0', lpX n0v' n03' nip']
theorem n5d' : LoopOK Tryz.prog G 115 (P104 3) (nq' (ni' Tryz.f25) 3) := lk cx tn J104 4 n0v' n03' (rfl : nip' = _) (by kernel_rfl) (an0 (by kernel_rfl)) fun x => by kernel_rfl
theorem n4w' : LoopOK Tryz.prog G 115 (P104 2) (nq' (ni' Tryz.f25) 2) := lk cx tn J104 3 nzs' n1c' (rfl : ni0' = _) (by kernel_rfl) (an0 (by kernel_rfl)) fun x => by kernel_rfl
theorem n5v' : LoopOK Tryz.prog G 115 (P104 1) (nq' (ni' Tryz.f25) 1) := lk cx tn J104 2 n1g' n13' (rfl : nir' = _) (by kernel_rfl) (an0 (by kernel_rfl)) fun x => by kernel_rfl
theorem n5g' : LoopOK Tryz.prog G 115 (P104 0) (nq' (ni' Tryz.f25) 0) := lk cx tn J104 1 n1v' n0x' (rfl : nie' = _) (by kernel_rfl) (an0 (by kernel_rfl)) fun x => by kernel_rfl
noncomputable def e104 : Fe G := ⟨I104, E104, fun x => nf9' x.1.1.1 x.1.1.2.1 x.1.1.2.2.1 x.1.1.2.2.2.1 x.1.2.1.1 x.1.2.1.2.1 x.1.2.1.2.2.1 x.1.2.1.2.2.2.1, Tryz.f25.results.toList⟩
theorem k104 : FnOK Tryz.prog G 25 e104 := fk cx tn J104 (lp := P104) Tryz.func25 (by kernel_rfl) (by kernel_rfl) rfl (nh' _ (by kernel_rfl) (nf' n5g' (nf' n5v' (nf' n4w' (nf' n5d' nk'))))) fun x => by kernel_rfl
def I105 : Sp := ⟨[(0, .agg c'27), (1, oro 66)], [], []⟩
def E105 : SL := [(.ret, ⟨[(4, ob)], [], []⟩)]
noncomputable def H105 (h_l24_sane : (Unit × Unit) → Option ((Bool × Unit) × Unit)) (c_N_0 c_N_1 : Int) (c_L c_K : List (Int)) (c_Press_Up c_Press_Down : Int) (raw : List (Record)) : Option ((Bool × Unit) × Unit) :=
 bif (decide ((100 : Int) < ((List.length raw : Nat) : Int))) then
 (h_l24_sane ((), ())).bind fun y1 =>
 some ((y1.1.1, ()), ())
 else
 (nct' c_N_0 c_N_1).bind fun y2 =>
 (ngp' y2.2.1.1 y2.2.1.2.1 y2.2.1.2.2.1 y2.2.1.2.2.2.1 y2.2.1.2.2.2.2.1 y2.2.1.2.2.2.2.2.1 y2.2.1.2.2.2.2.2.2.1 y2.2.1.2.2.2.2.2.2.2.1 c_L).bind fun y3 =>
 (nch' y2.2.1.1 y2.2.1.2.1 y2.2.1.2.2.1 y2.2.1.2.2.2.1 y2.2.1.2.2.2.2.1 y2.2.1.2.2.2.2.2.1 y2.2.1.2.2.2.2.2.2.1 y2.2.1.2.2.2.2.2.2.2.1 y3.2.1.1 y3.2.1.2.1 y3.2.1.2.2.1 y3.2.1.2.2.2.1 raw).bind fun y4 =>
 Option.bind (some ((raw, c_K, (), (), (), (), y4.1.2.1, ()), ((c_Press_Up, c_Press_Down, ()), y2.2.1, y3.2.1, y4.2.1, ()))) fun y5 =>
 (nha' y5.2.2.1.1 y5.2.2.1.2.1 y5.2.2.1.2.2.1 y5.2.2.1.2.2.2.1 y5.2.2.1.2.2.2.2.1 y5.2.2.1.2.2.2.2.2.1 y5.2.2.1.2.2.2.2.2.2.1 y5.2.2.1.2.2.2.2.2.2.2.1 y5.2.2.2.1.1 y5.2.2.2.1.2.1 y5.2.2.2.1.2.2.1 y5.2.2.2.1.2.2.2.1 y5.1.1).bind fun y6 =>
 (nen' y5.2.2.2.1.1 y5.2.2.2.1.2.1 y5.2.2.2.1.2.2.1 y5.2.2.2.1.2.2.2.1 y5.1.2.1).bind fun y7 =>
 (ngn' y5.2.2.1.1 y5.2.2.1.2.1 y5.2.2.1.2.2.1 y5.2.2.1.2.2.2.1 y5.2.2.1.2.2.2.2.1 y5.2.2.1.2.2.2.2.2.1 y5.2.2.1.2.2.2.2.2.2.1 y5.2.2.1.2.2.2.2.2.2.2.1 y5.1.2.1).bind fun y8 =>
 let z0 : Int := ((List.length y5.2.2.1.2.2.2.2.2.2.2.1 : Nat) : Int)
 bif (((decide ((0 : Int) ≤ z0)) && (decide (z0 ≤ z0))) && (decide (z0 ≤ (2147483648 : Int)))) then
 (nb0' y5.2.2.1.1 y5.2.2.1.2.1 y5.2.2.1.2.2.1 y5.2.2.1.2.2.2.1 y5.2.2.1.2.2.2.2.1 y5.2.2.1.2.2.2.2.2.1 y5.2.2.1.2.2.2.2.2.2.1 y5.2.2.1.2.2.2.2.2.2.2.1 y5.2.2.2.1.1 y5.2.2.2.1.2.1 y5.2.2.2.1.2.2.1 y5.2.2.2.1.2.2.2.1 y7.1.1 y8.1.1 (List.replicate (Int.toNat z0) (Calls.mk (0 : Int) (0 : Int))) y5.2.1.1 y5.2.1.2.1 true).bind fun y9 =>
 (nch' y5.2.2.1.1 y5.2.2.1.2.1 y5.2.2.1.2.2.1 y5.2.2.1.2.2.2.1 y5.2.2.1.2.2.2.2.1 y5.2.2.1.2.2.2.2.2.1 y5.2.2.1.2.2.2.2.2.2.1 y5.2.2.1.2.2.2.2.2.2.2.1 y5.2.2.2.1.1 y5.2.2.2.1.2.1 y5.2.2.2.1.2.2.1 y5.2.2.2.1.2.2.2.1 y9.2.1.1).bind fun y10 =>
 Option.bind (bif (y5.1.2.2.2.2.2.2.1 == y6.1.2.1) then
 (nf9' y5.2.2.2.2.1.1 y5.2.2.2.2.1.2.1 y5.2.2.2.2.1.2.2.1 y5.2.2.2.2.1.2.2.2.1 y6.2.1.1 y6.2.1.2.1 y6.2.1.2.2.1 y6.2.1.2.2.2.1).bind fun y11 =>
 bif y11.1.1 then
 bif (y9.1.2.1 == (0 : Int)) then
 bif (y10.1.2.1 == (0 : Int)) then
 (nf9' y10.2.1.1 y10.2.1.2.1 y10.2.1.2.2.1 y10.2.1.2.2.2.1 y9.2.1.2.1 y9.2.1.2.2.1 y9.2.1.2.2.2.1 y9.2.1.2.2.2.2.1).bind fun y12 =>
 bif y12.1.1 then
 bif (((List.length y9.2.1.2.2.2.2.2.1 : Nat) : Int) == ((List.length y9.2.1.2.2.2.2.1 : Nat) : Int)) then
 (h_l24_sane ((), ())).bind fun y13 =>
 some ((y13.1.1, ()), ())
 else
 some ((false, ()), ())
 else
 some ((false, ()), ())
 else
 some ((false, ()), ())
 else
 some ((false, ()), ())
 else
 some ((false, ()), ())
 else
 some ((false, ()), ())) fun y14 =>
 some ((y14.1.1, ()), ())
 else
 none
theorem q105 (h_l24_sane : (Unit × Unit) → Option ((Bool × Unit) × Unit)) (x : I105.T G) : endI (cfP [(16, Fe.mk (G := G) I87 E87 h_l24_sane Tryz.f16.results.toList), (8, e1), (9, e97), (23, e98), (24, e99), (12, e100), (10, e103), (11, e78), (25, e104)]) (pl []) (jl [(1048586, [(.normal, ⟨[(4, ob)], [], []⟩)]), (2097159, [(.normal, ⟨[(1, oro 66), (7, oro 5), (8, op 128), (9, op 144), (10, op 160), (11, op 176), (12, oi64)], [(128, c'5), (144, c'2), (160, c'10), (176, c'4)], []⟩)])]) 113 (ni' Tryz.f7) I105 E105 x = H105 h_l24_sane x.1.1.1 x.1.1.2.1 x.1.1.2.2.1 x.1.1.2.2.2.1 x.1.1.2.2.2.2.1 x.1.1.2.2.2.2.2.1 x.1.2.1 := by kernel_rfl
noncomputable def e105 : Fe G := ⟨I105, E105, fun x => F_l24_DispatchReplays x.1.1.1 x.1.1.2.1 x.1.1.2.2.1 x.1.1.2.2.2.1 x.1.1.2.2.2.2.1 x.1.1.2.2.2.2.2.1 x.1.2.1, Tryz.f7.results.toList⟩
theorem k105 : FnOK Tryz.prog G 7 e105 := fk cx (tc k87 (tc k1 (tc k97 (tc k98 (tc k99 (tc k100 (tc k103 (tc k78 (tc k104 tn))))))))) (jl [(1048586, [(.normal, ⟨[(4, ob)], [], []⟩)]), (2097159, [(.normal, ⟨[(1, oro 66), (7, oro 5), (8, op 128), (9, op 144), (10, op 160), (11, op 176), (12, oi64)], [(128, c'5), (144, c'2), (160, c'10), (176, c'4)], []⟩)])]) (lp := (pl [])) Tryz.func7 (by kernel_rfl) (by kernel_rfl) rfl (an0 (by kernel_rfl)) fun x => (q105 (fun _ => niv' ) x).trans (by kernel_rfl)
def I106 : Sp := ⟨[(0, .agg c'2)], [], []⟩
def E106 : SL := [(.ret, ⟨[(2, op 32)], [(32, c'5)], []⟩)]
def n01' : Sp := ⟨[(1, op 16), (2, op 32), (3, op 48), (4, oi64)], [(16, c'2), (32, c'5), (48, c'5)], []⟩
def n1a' : SL := [(.exit 0, ⟨[(2, op 32), (3, op 48)], [(32, c'5), (48, c'5)], []⟩)]
def J106 : Nat → Option SL := jl [(8, [(.normal, ⟨[(1, op 16), (2, op 32), (3, op 48), (4, oi64)], [(16, c'2), (32, c'5), (48, c'5)], []⟩)])]
noncomputable def P106 : Nat → St G → M (Ex × St G) := pl [lpX n01' n1a' nll']
theorem t106 : ∀ p ∈ [(58, e89)], FnOK Tryz.prog G p.1 p.2 := (tc k89 tn)
theorem n5s' : LoopOK Tryz.prog G 30 (P106 0) (nq' (ni' Tryz.f20) 0) := lk cx t106 J106 1 n01' n1a' (rfl : nll' = _) (by kernel_rfl) (an0 (by kernel_rfl)) fun x => by kernel_rfl
noncomputable def e106 : Fe G := ⟨I106, E106, fun x => nr0' x.1.1.1 x.1.1.2.1 x.1.1.2.2.1 x.1.1.2.2.2.1 x.1.1.2.2.2.2.1 x.1.1.2.2.2.2.2.1 x.1.1.2.2.2.2.2.2.1 x.1.1.2.2.2.2.2.2.2.1, Tryz.f20.results.toList⟩
theorem k106 : FnOK Tryz.prog G 20 e106 := fk cx t106 J106 (lp := P106) Tryz.func20 (by kernel_rfl) (by kernel_rfl) rfl (nh' _ (by kernel_rfl) (nf' n5s' nk')) fun x => by kernel_rfl
def I107 : Sp := ⟨[(0, .agg c'5), (1, .agg c'5)], [], []⟩
def E107 : SL := [(.ret, ⟨[(4, op 64)], [(64, c'5)], []⟩)]
noncomputable def e107 : Fe G := ⟨I107, E107, fun x => nrh' x.1.1.1 x.1.1.2.1 x.1.2.1.1 x.1.2.1.2.1, Tryz.f19.results.toList⟩
theorem k107 : FnOK Tryz.prog G 19 e107 := fk cx tn (jl []) (lp := (pl [])) Tryz.func19 (by kernel_rfl) (by kernel_rfl) rfl (an0 (by kernel_rfl)) fun x => by kernel_rfl
def I108 : Sp := ⟨[(0, .agg c'5), (1, oi64), (2, oi64)], [], []⟩
def E108 : SL := [(.ret, ⟨[(6, ob)], [], []⟩)]
noncomputable def e108 : Fe G := ⟨I108, E108, fun x => nok' x.1.1.1 x.1.1.2.1 x.1.2.1 x.1.2.2.1, Tryz.f90.results.toList⟩
theorem k108 : FnOK Tryz.prog G 90 e108 := fk cx tn (jl [(1048579, [(.normal, ⟨[(6, ob)], [], []⟩)])]) (lp := (pl [])) Tryz.func90 (by kernel_rfl) (by kernel_rfl) rfl (an0 (by kernel_rfl)) fun x => by kernel_rfl
def I109 : Sp := ⟨[(0, .agg c'5)], [], []⟩
def E109 : SL := [(.ret, ⟨[(2, .one (.own 32768 63))], [], []⟩)]
def n11' : Sp := ⟨[(1, op 16), (3, .one (.own 32768 63)), (4, oi64)], [(16, c'5)], []⟩
def n0h' : SL := [(.exit 0, ⟨[(3, .one (.own 32768 63))], [], []⟩)]
def n1o' : Sp := ⟨[(1, op 16), (3, .one (.own 32768 63)), (4, oi64), (5, oi64)], [(16, c'5)], []⟩
def n1y' : SL := [(.exit 2, ⟨[(1, op 16), (3, .one (.own 32768 63)), (4, oi64)], [(16, c'5)], []⟩)]
def J109 : Nat → Option SL := jl []
noncomputable def P109 : Nat → St G → M (Ex × St G) := pl [lpX n11' n0h' nle', lpX n1o' n1y' nlv']
theorem t109 : ∀ p ∈ [(90, e108)], FnOK Tryz.prog G p.1 p.2 := (tc k108 tn)
theorem n1z' : LoopOK Tryz.prog G 25 (P109 1) (nq' (ni' Tryz.f48) 1) := lk cx t109 J109 2 n1o' n1y' (rfl : nlv' = _) (by kernel_rfl) (an0 (by kernel_rfl)) fun x => by kernel_rfl
theorem n5w' : LoopOK Tryz.prog G 25 (P109 0) (nq' (ni' Tryz.f48) 0) := lk cx t109 J109 1 n11' n0h' (rfl : nle' = _) (by kernel_rfl) (nh' _ (by kernel_rfl) (nf' n1z' nk')) fun x => by kernel_rfl
noncomputable def e109 : Fe G := ⟨I109, E109, fun x => nzd' x.1.1.1 x.1.1.2.1, Tryz.f48.results.toList⟩
theorem k109 : FnOK Tryz.prog G 48 e109 := fk cx t109 J109 (lp := P109) Tryz.func48 (by kernel_rfl) (by kernel_rfl) rfl (nh' _ (by kernel_rfl) (nf' n5w' (nf' n1z' nk'))) fun x => by kernel_rfl
def I110 : Sp := ⟨[(0, .agg c'5), (1, .agg c'5)], [], []⟩
def E110 : SL := [(.ret, ⟨[(4, op 64)], [(64, c'5)], []⟩)]
noncomputable def e110 : Fe G := ⟨I110, E110, fun x => nmd' x.1.1.1 x.1.1.2.1 x.1.2.1.1 x.1.2.1.2.1, Tryz.f18.results.toList⟩
theorem k110 : FnOK Tryz.prog G 18 e110 := fk cx tn (jl []) (lp := (pl [])) Tryz.func18 (by kernel_rfl) (by kernel_rfl) rfl (an0 (by kernel_rfl)) fun x => by kernel_rfl
def I111 : Sp := ⟨[(0, .agg c'5), (1, .agg c'5)], [], []⟩
def E111 : SL := [(.ret, ⟨[(4, op 64)], [(64, c'5)], []⟩)]
noncomputable def e111 : Fe G := ⟨I111, E111, fun x => nmh' x.1.1.1 x.1.1.2.1 x.1.2.1.1 x.1.2.1.2.1, Tryz.f21.results.toList⟩
theorem k111 : FnOK Tryz.prog G 21 e111 := fk cx tn (jl []) (lp := (pl [])) Tryz.func21 (by kernel_rfl) (by kernel_rfl) rfl (an0 (by kernel_rfl)) fun x => by kernel_rfl
def I112 : Sp := ⟨[(0, oro 63)], [], []⟩
def E112 : SL := [(.ret, ⟨[(2, op 32)], [(32, c'5)], []⟩)]
def n0e' : Sp := ⟨[(0, oro 63), (2, op 32), (3, op 48), (4, oi64)], [(32, c'5), (48, c'5)], []⟩
def nzw' : SL := [(.exit 0, ⟨[(2, op 32), (3, op 48)], [(32, c'5), (48, c'5)], []⟩)]
def J112 : Nat → Option SL := jl []
noncomputable def P112 : Nat → St G → M (Ex × St G) := pl [lpX n0e' nzw' nnp']
theorem t112 : ∀ p ∈ [(31, e102), (21, e111)], FnOK Tryz.prog G p.1 p.2 := (tc k102 (tc k111 tn))
theorem n4u' : LoopOK Tryz.prog G 25 (P112 0) (nq' (ni' Tryz.f17) 0) := lk cx t112 J112 1 n0e' nzw' (rfl : nnp' = _) (by kernel_rfl) (an0 (by kernel_rfl)) fun x => by kernel_rfl
noncomputable def e112 : Fe G := ⟨I112, E112, fun x => n3q' x.1.1, Tryz.f17.results.toList⟩
theorem k112 : FnOK Tryz.prog G 17 e112 := fk cx t112 J112 (lp := P112) Tryz.func17 (by kernel_rfl) (by kernel_rfl) rfl (nh' _ (by kernel_rfl) (nf' n4u' nk')) fun x => by kernel_rfl
def I113 : Sp := ⟨[(0, oro 66), (1, oro 66)], [], []⟩
def E113 : SL := [(.ret, ⟨[(4, ob)], [], []⟩)]
def n1q' : Sp := ⟨[(0, oro 66), (1, oro 66), (5, oi64)], [], []⟩
def n0q' : SL := [(.exit 0, ⟨[], [], []⟩), (.ret, ⟨[(4, ob)], [], []⟩)]
def J113 : Nat → Option SL := jl []
noncomputable def P113 : Nat → St G → M (Ex × St G) := pl [lpX n1q' n0q' nlf']
theorem n41' : LoopOK Tryz.prog G 26 (P113 0) (nq' (ni' Tryz.f51) 0) := lk cx tn J113 1 n1q' n0q' (rfl : nlf' = _) (by kernel_rfl) (an0 (by kernel_rfl)) fun x => by kernel_rfl
noncomputable def e113 : Fe G := ⟨I113, E113, fun x => nyv' x.1.1 x.1.2.1, Tryz.f51.results.toList⟩
theorem k113 : FnOK Tryz.prog G 51 e113 := fk cx tn J113 (lp := P113) Tryz.func51 (by kernel_rfl) (by kernel_rfl) rfl (nh' _ (by kernel_rfl) (nf' n41' nk')) fun x => by kernel_rfl
def I114 : Sp := ⟨[(0, oi64), (1, .agg c'14), (2, oi64), (3, oi64)], [], []⟩
def E114 : SL := [(.ret, ⟨[(8, ob)], [], []⟩)]
noncomputable def e114 : Fe G := ⟨I114, E114, fun x => ndz' x.1.1 x.1.2.1.1 x.1.2.1.2.1 x.1.2.1.2.2.1 x.1.2.2.1 x.1.2.2.2.1, Tryz.f144.results.toList⟩
theorem k114 : FnOK Tryz.prog G 144 e114 := fk cx tn (jl [(1048579, [(.normal, ⟨[(8, ob)], [], []⟩)]), (1048581, [(.normal, ⟨[(8, ob)], [], []⟩)])]) (lp := (pl [])) Tryz.func144 (by kernel_rfl) (by kernel_rfl) rfl (an0 (by kernel_rfl)) fun x => by kernel_rfl
def I115 : Sp := ⟨[(0, oi64), (1, .agg c'14)], [], []⟩
def E115 : SL := [(.ret, ⟨[(4, oi64)], [], []⟩)]
def n05' : Sp := ⟨[(0, oi64), (3, op 48), (5, oi64), (6, oi64)], [(48, c'14)], []⟩
def n14' : SL := [(.exit 0, ⟨[(5, oi64)], [], []⟩)]
def n1e' : Sp := ⟨[(0, oi64), (3, op 48), (5, oi64), (6, oi64), (7, oi64)], [(48, c'14)], []⟩
def n09' : SL := [(.exit 2, ⟨[(0, oi64), (3, op 48), (5, oi64), (6, oi64)], [(48, c'14)], []⟩)]
def J115 : Nat → Option SL := jl []
noncomputable def P115 : Nat → St G → M (Ex × St G) := pl [lpX n05' n14' nhy', lpX n1e' n09' nhx']
theorem t115 : ∀ p ∈ [(144, e114)], FnOK Tryz.prog G p.1 p.2 := (tc k114 tn)
theorem n0i' : LoopOK Tryz.prog G 31 (P115 1) (nq' (ni' Tryz.f124) 1) := lk cx t115 J115 2 n1e' n09' (rfl : nhx' = _) (by kernel_rfl) (an0 (by kernel_rfl)) fun x => by kernel_rfl
theorem n5e' : LoopOK Tryz.prog G 31 (P115 0) (nq' (ni' Tryz.f124) 0) := lk cx t115 J115 1 n05' n14' (rfl : nhy' = _) (by kernel_rfl) (nh' _ (by kernel_rfl) (nf' n0i' nk')) fun x => by kernel_rfl
noncomputable def e115 : Fe G := ⟨I115, E115, fun x => ngi' x.1.1 x.1.2.1.1 x.1.2.1.2.1 x.1.2.1.2.2.1, Tryz.f124.results.toList⟩
theorem k115 : FnOK Tryz.prog G 124 e115 := fk cx t115 J115 (lp := P115) Tryz.func124 (by kernel_rfl) (by kernel_rfl) rfl (nh' _ (by kernel_rfl) (nf' n5e' (nf' n0i' nk'))) fun x => by kernel_rfl
def I116 : Sp := ⟨[(0, oi64), (1, oi64), (2, oi64), (3, .agg c'14), (4, oi64), (5, oi64)], [], []⟩
def E116 : SL := [(.ret, ⟨[(12, oi64)], [], []⟩)]
def n1s' : Sp := ⟨[(0, oi64), (1, oi64), (2, oi64), (4, oi64), (5, oi64), (9, op 144), (13, oi64), (14, oi64), (15, oi64)], [(144, c'14)], []⟩
def n1r' : SL := [(.exit 0, ⟨[(1, oi64), (2, oi64), (4, oi64), (5, oi64), (13, oi64), (14, oi64)], [], []⟩)]
def J116 : Nat → Option SL := jl [(1048579, [(.normal, ⟨[(0, oi64), (1, oi64), (2, oi64), (4, oi64), (5, oi64), (9, op 144), (64, ob)], [(144, c'14)], []⟩)]), (1048585, [(.normal, ⟨[(0, oi64), (1, oi64), (2, oi64), (4, oi64), (5, oi64), (9, op 144), (13, oi64), (14, oi64), (15, oi64), (91, ob)], [(144, c'14)], []⟩)]), (1048589, [(.normal, ⟨[(1, oi64), (2, oi64), (4, oi64), (5, oi64), (13, oi64), (14, oi64), (108, ob)], [], []⟩)]), (1048591, [(.normal, ⟨[(1, oi64), (2, oi64), (4, oi64), (5, oi64), (13, oi64), (14, oi64), (123, ob)], [], []⟩)]), (1048595, [(.normal, ⟨[(1, oi64), (4, oi64), (5, oi64), (13, oi64), (14, oi64), (151, ob)], [], []⟩)])]
noncomputable def P116 : Nat → St G → M (Ex × St G) := pl [lpX n1s' n1r' nih']
theorem t116 : ∀ p ∈ [(144, e114)], FnOK Tryz.prog G p.1 p.2 := (tc k114 tn)
theorem n47' : LoopOK Tryz.prog G 183 (P116 0) (nq' (ni' Tryz.f123) 0) := lk cx t116 J116 1 n1s' n1r' (rfl : nih' = _) (by kernel_rfl) (an0 (by kernel_rfl)) fun x => by kernel_rfl
noncomputable def e116 : Fe G := ⟨I116, E116, fun x => nd7' x.1.1 x.1.2.1 x.1.2.2.1 x.1.2.2.2.1.1 x.1.2.2.2.1.2.1 x.1.2.2.2.1.2.2.1 x.1.2.2.2.2.1 x.1.2.2.2.2.2.1, Tryz.f123.results.toList⟩
theorem k116 : FnOK Tryz.prog G 123 e116 := fk cx t116 J116 (lp := P116) Tryz.func123 (by kernel_rfl) (by kernel_rfl) rfl (nh' _ (by kernel_rfl) (nf' n47' nk')) fun x => by kernel_rfl
def I117 : Sp := ⟨[(0, .agg c'2), (1, oi64), (2, .agg c'6), (3, oi64), (4, oi64)], [], []⟩
def E117 : SL := [(.ret, ⟨[(10, oi64)], [], []⟩)]
noncomputable def e117 : Fe G := ⟨I117, E117, fun x => nfi' x.1.1.1 x.1.1.2.1 x.1.1.2.2.1 x.1.1.2.2.2.1 x.1.1.2.2.2.2.1 x.1.1.2.2.2.2.2.1 x.1.1.2.2.2.2.2.2.1 x.1.1.2.2.2.2.2.2.2.1 x.1.2.1 x.1.2.2.1.1 x.1.2.2.1.2.1 x.1.2.2.1.2.2.1 x.1.2.2.1.2.2.2.1 x.1.2.2.1.2.2.2.2.1 x.1.2.2.1.2.2.2.2.2.1 x.1.2.2.1.2.2.2.2.2.2.1 x.1.2.2.1.2.2.2.2.2.2.2.1 x.1.2.2.1.2.2.2.2.2.2.2.2.1 x.1.2.2.1.2.2.2.2.2.2.2.2.2.1 x.1.2.2.1.2.2.2.2.2.2.2.2.2.2.1 x.1.2.2.1.2.2.2.2.2.2.2.2.2.2.2.1 x.1.2.2.2.1 x.1.2.2.2.2.1, Tryz.f92.results.toList⟩
theorem k117 : FnOK Tryz.prog G 92 e117 := fk cx (tc k4 (tc k116 (tc k115 tn))) (jl [(7, [(.normal, ⟨[(1, oi64), (3, oi64), (4, oi64), (5, op 80), (7, op 112), (11, oi64)], [(80, c'2), (112, c'6)], []⟩)])]) (lp := (pl [])) Tryz.func92 (by kernel_rfl) (by kernel_rfl) rfl (an0 (by kernel_rfl)) fun x => by kernel_rfl
def I118 : Sp := ⟨[(0, .agg c'15), (1, .agg c'15)], [], []⟩
def E118 : SL := [(.ret, ⟨[(4, ob)], [], []⟩)]
noncomputable def e118 : Fe G := ⟨I118, E118, fun x => nlu' x.1.1.1 x.1.1.2.1 x.1.2.1.1 x.1.2.1.2.1, Tryz.f120.results.toList⟩
theorem k118 : FnOK Tryz.prog G 120 e118 := fk cx tn (jl [(1048577, [(.normal, ⟨[(4, ob)], [], []⟩)])]) (lp := (pl [])) Tryz.func120 (by kernel_rfl) (by kernel_rfl) rfl (an0 (by kernel_rfl)) fun x => by kernel_rfl
def I119 : Sp := ⟨[(0, .agg c'6)], [], []⟩
def E119 : SL := [(.ret, ⟨[(2, ob)], [], []⟩)]
noncomputable def e119 : Fe G := ⟨I119, E119, fun x => nkw' x.1.1.1 x.1.1.2.1 x.1.1.2.2.1 x.1.1.2.2.2.1 x.1.1.2.2.2.2.1 x.1.1.2.2.2.2.2.1 x.1.1.2.2.2.2.2.2.1 x.1.1.2.2.2.2.2.2.2.1 x.1.1.2.2.2.2.2.2.2.2.1 x.1.1.2.2.2.2.2.2.2.2.2.1 x.1.1.2.2.2.2.2.2.2.2.2.2.1 x.1.1.2.2.2.2.2.2.2.2.2.2.2.1, Tryz.f122.results.toList⟩
theorem k119 : FnOK Tryz.prog G 122 e119 := fk cx tn (jl [(1048577, [(.normal, ⟨[(2, ob)], [], []⟩)])]) (lp := (pl [])) Tryz.func122 (by kernel_rfl) (by kernel_rfl) rfl (an0 (by kernel_rfl)) fun x => by kernel_rfl
def I120 : Sp := ⟨[(0, .agg c'2), (1, oro 46), (2, oi64), (3, oi64), (4, oi64)], [], []⟩
def E120 : SL := [(.ret, ⟨[(10, op 160)], [(160, c'15)], []⟩)]
noncomputable def e120 : Fe G := ⟨I120, E120, fun x => nil' x.1.1.1 x.1.1.2.1 x.1.1.2.2.1 x.1.1.2.2.2.1 x.1.1.2.2.2.2.1 x.1.1.2.2.2.2.2.1 x.1.1.2.2.2.2.2.2.1 x.1.1.2.2.2.2.2.2.2.1 x.1.2.1 x.1.2.2.1 x.1.2.2.2.1 x.1.2.2.2.2.1, Tryz.f121.results.toList⟩
theorem k120 : FnOK Tryz.prog G 121 e120 := fk cx (tc k119 (tc k117 tn)) (jl [(5, [(.normal, ⟨[(1, oro 46), (2, oi64), (3, oi64), (4, oi64), (5, op 80), (10, op 160), (11, oi64)], [(80, c'2), (160, c'15)], []⟩)])]) (lp := (pl [])) Tryz.func121 (by kernel_rfl) (by kernel_rfl) rfl (an0 (by kernel_rfl)) fun x => by kernel_rfl
def I121 : Sp := ⟨[(0, .agg c'2), (1, oro 46), (2, oi64), (3, oi64), (4, oi64)], [], []⟩
def E121 : SL := [(.ret, ⟨[(10, oi64)], [], []⟩)]
def n0t' : Sp := ⟨[(1, oro 46), (2, oi64), (3, oi64), (4, oi64), (5, op 80), (11, oi64), (12, oi64)], [(80, c'2)], []⟩
def n0s' : SL := [(.exit 0, ⟨[(11, oi64)], [], []⟩)]
def J121 : Nat → Option SL := jl [(1048584, [(.normal, ⟨[(1, oro 46), (2, oi64), (3, oi64), (4, oi64), (5, op 80), (11, oi64), (12, oi64), (57, ob)], [(80, c'2)], []⟩)])]
noncomputable def P121 : Nat → St G → M (Ex × St G) := pl [lpX n0t' n0s' ni2']
theorem t121 : ∀ p ∈ [(60, e4), (121, e120), (120, e118)], FnOK Tryz.prog G p.1 p.2 := (tc k4 (tc k120 (tc k118 tn)))
theorem n49' : LoopOK Tryz.prog G 60 (P121 0) (nq' (ni' Tryz.f119) 0) := lk cx t121 J121 1 n0t' n0s' (rfl : ni2' = _) (by kernel_rfl) (an0 (by kernel_rfl)) fun x => by kernel_rfl
noncomputable def e121 : Fe G := ⟨I121, E121, fun x => niy' x.1.1.1 x.1.1.2.1 x.1.1.2.2.1 x.1.1.2.2.2.1 x.1.1.2.2.2.2.1 x.1.1.2.2.2.2.2.1 x.1.1.2.2.2.2.2.2.1 x.1.1.2.2.2.2.2.2.2.1 x.1.2.1 x.1.2.2.1 x.1.2.2.2.1 x.1.2.2.2.2.1, Tryz.f119.results.toList⟩
theorem k121 : FnOK Tryz.prog G 119 e121 := fk cx t121 J121 (lp := P121) Tryz.func119 (by kernel_rfl) (by kernel_rfl) rfl (nh' _ (by kernel_rfl) (nf' n49' nk')) fun x => by kernel_rfl
def I122 : Sp := ⟨[(0, .agg c'10), (1, oro 3)], [], []⟩
def E122 : SL := [(.ret, ⟨[(4, ob)], [], []⟩)]
def n1f' : Sp := ⟨[(1, oro 3), (2, op 32), (5, oi64)], [(32, c'10)], []⟩
def n2h' : SL := [(.exit 0, ⟨[(1, oro 3), (2, op 32)], [(32, c'10)], []⟩), (.ret, ⟨[(4, ob)], [], []⟩)]
def J122 : Nat → Option SL := jl []
noncomputable def P122 : Nat → St G → M (Ex × St G) := pl [lpX n1f' n2h' nh6']
theorem n5p' : LoopOK Tryz.prog G 30 (P122 0) (nq' (ni' Tryz.f44) 0) := lk cx tn J122 1 n1f' n2h' (rfl : nh6' = _) (by kernel_rfl) (an0 (by kernel_rfl)) fun x => by kernel_rfl
noncomputable def e122 : Fe G := ⟨I122, E122, fun x => nms' x.1.1.1 x.1.1.2.1 x.1.1.2.2.1 x.1.1.2.2.2.1 x.1.2.1, Tryz.f44.results.toList⟩
theorem k122 : FnOK Tryz.prog G 44 e122 := fk cx tn J122 (lp := P122) Tryz.func44 (by kernel_rfl) (by kernel_rfl) rfl (nh' _ (by kernel_rfl) (nf' n5p' nk')) fun x => by kernel_rfl
def I123 : Sp := ⟨[(0, .agg c'2), (1, .agg c'9), (2, oi64), (3, oro 46)], [], []⟩
def E123 : SL := [(.ret, ⟨[(8, op 128)], [(128, c'9)], []⟩)]
noncomputable def e123 : Fe G := ⟨I123, E123, fun x => nnt' x.1.1.1 x.1.1.2.1 x.1.1.2.2.1 x.1.1.2.2.2.1 x.1.1.2.2.2.2.1 x.1.1.2.2.2.2.2.1 x.1.1.2.2.2.2.2.2.1 x.1.1.2.2.2.2.2.2.2.1 x.1.2.1.1 x.1.2.1.2.1 x.1.2.1.2.2.1 x.1.2.1.2.2.2.1 x.1.2.1.2.2.2.2.1 x.1.2.2.1 x.1.2.2.2.1, Tryz.f91.results.toList⟩
theorem k123 : FnOK Tryz.prog G 91 e123 := fk cx (tc k121 (tc k120 (tc k118 (tc k119 tn)))) (jl [(1048583, [(.normal, ⟨[(2, oi64), (3, oro 46), (4, op 64), (5, op 80), (8, op 128), (9, oi64), (35, ob)], [(64, c'2), (80, c'9), (128, c'9)], []⟩)]), (1048594, [(.normal, ⟨[(3, oro 46), (5, op 80), (8, op 128), (10, op 160), (11, oi64), (12, ob)], [(80, c'9), (128, c'9), (160, c'6)], []⟩)]), (1048595, [(.normal, ⟨[(5, op 80), (8, op 128), (11, oi64), (141, ob)], [(80, c'9), (128, c'9)], []⟩)])]) (lp := (pl [])) Tryz.func91 (by kernel_rfl) (by kernel_rfl) rfl (an0 (by kernel_rfl)) fun x => by kernel_rfl
def I124 : Sp := ⟨[(0, .agg c'2), (1, .agg c'10), (2, oro 3), (3, oro 46)], [], []⟩
def E124 : SL := [(.ret, ⟨[(8, .one (.own 32768 66)), (9, .one (.own 32769 3)), (10, oi64)], [], []⟩)]
def n0p' : Sp := ⟨[(2, oro 3), (3, oro 46), (4, op 64), (5, op 80), (11, .one (.own 32768 66)), (12, .one (.own 32769 3)), (13, oi64)], [(64, c'2), (80, c'10)], []⟩
def nz4' : SL := [(.exit 0, ⟨[(11, .one (.own 32768 66)), (12, .one (.own 32769 3))], [], []⟩)]
def J124 : Nat → Option SL := jl [(16, [(.normal, ⟨[(2, oro 3), (3, oro 46), (4, op 64), (5, op 80), (11, .one (.own 32768 66)), (12, .one (.own 32769 3)), (13, oi64), (14, op 224), (15, op 240)], [(64, c'2), (80, c'10), (224, c'9), (240, c'9)], []⟩)]), (18, [(.normal, ⟨[(2, oro 3), (3, oro 46), (4, op 64), (5, op 80), (11, .one (.own 32768 66)), (12, .one (.own 32769 3)), (13, oi64), (14, op 224), (15, op 240)], [(64, c'2), (80, c'10), (224, c'9), (240, c'9)], []⟩)]), (1048586, [(.normal, ⟨[(2, oro 3), (3, oro 46), (4, op 64), (5, op 80), (11, .one (.own 32768 66)), (12, .one (.own 32769 3)), (13, oi64), (14, op 224), (15, op 240), (66, ob)], [(64, c'2), (80, c'10), (224, c'9), (240, c'9)], []⟩)]), (1048593, [(.normal, ⟨[(2, oro 3), (3, oro 46), (4, op 64), (5, op 80), (11, .one (.own 32768 66)), (12, .one (.own 32769 3)), (13, oi64), (14, op 224), (15, op 240), (105, ob)], [(64, c'2), (80, c'10), (224, c'9), (240, c'9)], []⟩)])]
noncomputable def P124 : Nat → St G → M (Ex × St G) := pl [lpX n0p' nz4' nlq']
theorem t124 : ∀ p ∈ [(43, e91), (44, e122), (91, e123), (92, e117)], FnOK Tryz.prog G p.1 p.2 := (tc k91 (tc k122 (tc k123 (tc k117 tn))))
theorem n40' : LoopOK Tryz.prog G 142 (P124 0) (nq' (ni' Tryz.f50) 0) := lk cx t124 J124 1 n0p' nz4' (rfl : nlq' = _) (by kernel_rfl) (an0 (by kernel_rfl)) fun x => by kernel_rfl
noncomputable def e124 : Fe G := ⟨I124, E124, fun x => nyy' x.1.1.1 x.1.1.2.1 x.1.1.2.2.1 x.1.1.2.2.2.1 x.1.1.2.2.2.2.1 x.1.1.2.2.2.2.2.1 x.1.1.2.2.2.2.2.2.1 x.1.1.2.2.2.2.2.2.2.1 x.1.2.1.1 x.1.2.1.2.1 x.1.2.1.2.2.1 x.1.2.1.2.2.2.1 x.1.2.2.1 x.1.2.2.2.1, Tryz.f50.results.toList⟩
theorem k124 : FnOK Tryz.prog G 50 e124 := fk cx t124 J124 (lp := P124) Tryz.func50 (by kernel_rfl) (by kernel_rfl) rfl (nh' _ (by kernel_rfl) (nf' n40' nk')) fun x => by kernel_rfl
def I125 : Sp := ⟨[(0, oro 3), (1, oro 3)], [], []⟩
def E125 : SL := [(.ret, ⟨[(4, ob)], [], []⟩)]
def n0b' : Sp := ⟨[(0, oro 3), (1, oro 3), (5, oi64)], [], []⟩
def nz3' : SL := [(.exit 0, ⟨[], [], []⟩), (.ret, ⟨[(4, ob)], [], []⟩)]
def J125 : Nat → Option SL := jl []
noncomputable def P125 : Nat → St G → M (Ex × St G) := pl [lpX n0b' nz3' nh5']
theorem n5l' : LoopOK Tryz.prog G 26 (P125 0) (nq' (ni' Tryz.f52) 0) := lk cx tn J125 1 n0b' nz3' (rfl : nh5' = _) (by kernel_rfl) (an0 (by kernel_rfl)) fun x => by kernel_rfl
noncomputable def e125 : Fe G := ⟨I125, E125, fun x => nsc' x.1.1 x.1.2.1, Tryz.f52.results.toList⟩
theorem k125 : FnOK Tryz.prog G 52 e125 := fk cx tn J125 (lp := P125) Tryz.func52 (by kernel_rfl) (by kernel_rfl) rfl (nh' _ (by kernel_rfl) (nf' n5l' nk')) fun x => by kernel_rfl
def I126 : Sp := ⟨[(0, .agg c'2), (1, .agg c'6)], [], []⟩
def E126 : SL := [(.ret, ⟨[(4, op 64)], [(64, c'5)], []⟩)]
noncomputable def e126 : Fe G := ⟨I126, E126, fun x => nlx' x.1.1.1 x.1.1.2.1 x.1.1.2.2.1 x.1.1.2.2.2.1 x.1.1.2.2.2.2.1 x.1.1.2.2.2.2.2.1 x.1.1.2.2.2.2.2.2.1 x.1.1.2.2.2.2.2.2.2.1 x.1.2.1.1 x.1.2.1.2.1 x.1.2.1.2.2.1 x.1.2.1.2.2.2.1 x.1.2.1.2.2.2.2.1 x.1.2.1.2.2.2.2.2.1 x.1.2.1.2.2.2.2.2.2.1 x.1.2.1.2.2.2.2.2.2.2.1 x.1.2.1.2.2.2.2.2.2.2.2.1 x.1.2.1.2.2.2.2.2.2.2.2.2.1 x.1.2.1.2.2.2.2.2.2.2.2.2.2.1 x.1.2.1.2.2.2.2.2.2.2.2.2.2.2.1, Tryz.f88.results.toList⟩
theorem k126 : FnOK Tryz.prog G 88 e126 := fk cx (tc k106 (tc k107 tn)) (jl []) (lp := (pl [])) Tryz.func88 (by kernel_rfl) (by kernel_rfl) rfl (an0 (by kernel_rfl)) fun x => by kernel_rfl
def I127 : Sp := ⟨[(0, .agg c'2), (1, oro 46), (2, oro 26)], [], []⟩
def E127 : SL := [(.ret, ⟨[(6, op 96), (7, oi64)], [(96, c'7)], []⟩)]
def n07' : Sp := ⟨[(1, oro 46), (2, oro 26), (3, op 48), (6, op 96), (8, op 128), (9, oi64)], [(48, c'2), (96, c'7), (128, c'8)], []⟩
def n12' : SL := [(.exit 0, ⟨[(6, op 96), (8, op 128)], [(96, c'7), (128, c'8)], []⟩)]
def J127 : Nat → Option SL := jl []
noncomputable def P127 : Nat → St G → M (Ex × St G) := pl [lpX n07' n12' nkf']
theorem t127 : ∀ p ∈ [(60, e4), (88, e126), (18, e110), (21, e111)], FnOK Tryz.prog G p.1 p.2 := (tc k4 (tc k126 (tc k110 (tc k111 tn))))
theorem n5z' : LoopOK Tryz.prog G 71 (P127 0) (nq' (ni' Tryz.f45) 0) := lk cx t127 J127 1 n07' n12' (rfl : nkf' = _) (by kernel_rfl) (an0 (by kernel_rfl)) fun x => by kernel_rfl
noncomputable def e127 : Fe G := ⟨I127, E127, fun x => nw5' x.1.1.1 x.1.1.2.1 x.1.1.2.2.1 x.1.1.2.2.2.1 x.1.1.2.2.2.2.1 x.1.1.2.2.2.2.2.1 x.1.1.2.2.2.2.2.2.1 x.1.1.2.2.2.2.2.2.2.1 x.1.2.1 x.1.2.2.1, Tryz.f45.results.toList⟩
theorem k127 : FnOK Tryz.prog G 45 e127 := fk cx t127 J127 (lp := P127) Tryz.func45 (by kernel_rfl) (by kernel_rfl) rfl (nh' _ (by kernel_rfl) (nf' n5z' nk')) fun x => by kernel_rfl
def I128 : Sp := ⟨[(0, .agg c'2), (1, .agg c'10), (2, oro 46)], [], []⟩
def E128 : SL := [(.ret, ⟨[(6, .one (.own 32768 66))], [], []⟩)]
def n0l' : Sp := ⟨[(2, oro 46), (3, op 48), (4, op 64), (7, .one (.own 32768 66)), (8, oi64)], [(48, c'2), (64, c'10)], []⟩
def n0r' : SL := [(.exit 0, ⟨[(7, .one (.own 32768 66))], [], []⟩)]
def nz6' : Sp := ⟨[(2, oro 46), (3, op 48), (4, op 64), (7, .one (.own 32768 66)), (8, oi64), (9, op 144), (10, oi64)], [(48, c'2), (64, c'10), (144, c'9)], []⟩
def n0o' : SL := [(.exit 2, ⟨[(2, oro 46), (3, op 48), (4, op 64), (7, .one (.own 32768 66)), (8, oi64)], [(48, c'2), (64, c'10)], []⟩)]
def J128 : Nat → Option SL := jl []
noncomputable def P128 : Nat → St G → M (Ex × St G) := pl [lpX n0l' n0r' nkb', lpX nz6' n0o' nkh']
theorem t128 : ∀ p ∈ [(43, e91), (88, e126), (90, e108)], FnOK Tryz.prog G p.1 p.2 := (tc k91 (tc k126 (tc k108 tn)))
theorem n0a' : LoopOK Tryz.prog G 61 (P128 1) (nq' (ni' Tryz.f47) 1) := lk cx t128 J128 2 nz6' n0o' (rfl : nkh' = _) (by kernel_rfl) (an0 (by kernel_rfl)) fun x => by kernel_rfl
theorem n45' : LoopOK Tryz.prog G 61 (P128 0) (nq' (ni' Tryz.f47) 0) := lk cx t128 J128 1 n0l' n0r' (rfl : nkb' = _) (by kernel_rfl) (nh' _ (by kernel_rfl) (nf' n0a' nk')) fun x => by kernel_rfl
noncomputable def e128 : Fe G := ⟨I128, E128, fun x => nw6' x.1.1.1 x.1.1.2.1 x.1.1.2.2.1 x.1.1.2.2.2.1 x.1.1.2.2.2.2.1 x.1.1.2.2.2.2.2.1 x.1.1.2.2.2.2.2.2.1 x.1.1.2.2.2.2.2.2.2.1 x.1.2.1.1 x.1.2.1.2.1 x.1.2.1.2.2.1 x.1.2.1.2.2.2.1 x.1.2.2.1, Tryz.f47.results.toList⟩
theorem k128 : FnOK Tryz.prog G 47 e128 := fk cx t128 J128 (lp := P128) Tryz.func47 (by kernel_rfl) (by kernel_rfl) rfl (nh' _ (by kernel_rfl) (nf' n45' (nf' n0a' nk'))) fun x => by kernel_rfl
end Go.Ovl
