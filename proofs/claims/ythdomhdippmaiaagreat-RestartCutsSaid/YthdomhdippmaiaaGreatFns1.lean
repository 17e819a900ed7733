/- The contracts of the program's functions: part 1. -/
import Derived.Test.YthdomhdippmaiaaGreatSig
import Derived.Test.YthdomhdippmaiaaGreatDefs1
import Derived.Test.YthdomhdippmaiaaGreatHand
namespace Go.Ovl
open Go Go.Ab Go.Proofs
set_option maxRecDepth 100000
def c'0 : List CSh := [.int .i64, .int .i64, .int .i64, .int .i64, .flt .f64, .flt .f64, .flt .f64, .own 32768 103]
def c'1 : List CSh := [.int .i64, .int .i64, .int .i64, .int .i64, .flt .f64, .flt .f64, .flt .f64, .own 32769 103]
def c'2 : List CSh := [.int .i64, .int .i64, .int .i64, .int .i64, .flt .f64, .flt .f64, .flt .f64, .ro 103]
def c'3 : List CSh := [.int .i64, .int .i64, .int .i64, .int .i64, .int .i64, .int .i64, .int .i64, .int .i64, .int .i64]
def c'4 : List CSh := [.own 32768 3, .own 32769 4, .own 32770 4, .own 32771 98]
def c'5 : List CSh := [.int .i64, .int .i64, .int .i64, .int .i64, .int .i64]
def c'6 : List CSh := [.int .i64, .int .i64, .int .i64, .int .i64, .bool]
def c'7 : List CSh := [.ro 3, .ro 4, .ro 4, .ro 98]
def c'8 : List CSh := [.own 32772 3, .own 32773 4, .own 32774 4, .own 32775 98]
def c'9 : List CSh := [.own 32768 3, .own 32769 4, .own 32770 4, .ro 98]
def c'10 : List CSh := [.own 32771 3, .own 32772 4, .own 32773 4, .own 32774 98]
def c'11 : List CSh := [.own 32769 3, .own 32770 4, .own 32771 4, .own 32772 98]
def c'12 : List CSh := [.own 32773 3, .own 32774 4, .own 32775 4, .own 32776 98]
def c'13 : List CSh := [.str, .str, .int .i64]
def c'14 : List CSh := [.np 65536 171, .own 32768 5]
def c'15 : List CSh := [.np 65536 171, .ro 5]
def c'16 : List CSh := [.np 176 171, .own 32769 5]
def c'17 : List CSh := [.np 176 171, .own 32768 5]
def c'18 : List CSh := [.int .i64, .int .i64, .int .i64, .own 32768 137, .int .i64, .bool]
def c'19 : List CSh := [.own 32768 3, .own 32769 4, .own 32770 4, .own 32771 98, .str, .str, .int .i64, .own 32772 78, .own 32773 62, .own 32774 71, .own 32775 80, .own 32776 3, .own 32777 82, .int .i64, .int .i64, .int .i64]
def c'20 : List CSh := [.own 32778 3, .own 32779 4, .own 32780 4, .own 32781 98, .str, .str, .int .i64, .own 32782 78, .own 32783 62, .own 32784 71, .own 32785 80, .own 32786 3, .own 32787 82, .int .i64, .int .i64, .int .i64]
def c'21 : List CSh := [.int .i64, .int .i64, .int .i64, .ro 137, .int .i64, .bool]
def c'22 : List CSh := [.ro 3, .ro 4, .ro 4, .ro 98, .str, .str, .int .i64, .ro 78, .ro 62, .ro 71, .ro 80, .ro 3, .ro 82, .int .i64, .int .i64, .int .i64]
def c'23 : List CSh := [.int .u32, .bool, .bool, .bool, .bool, .int .i64, .int .i64, .int .i64, .int .i64, .int .i64, .int .i64, .int .i64, .int .i64, .int .i64, .int .i64, .int .i64, .int .i64, .int .i64, .int .i64, .int .i64, .int .i64, .int .i64, .int .i64, .int .i64, .int .i64, .int .i64, .int .i64, .int .i64, .int .i64, .int .i64, .int .i64, .int .i64, .int .i64, .int .i64, .int .i64, .int .i64, .int .i64, .int .i64, .int .i64, .int .i64, .int .i64]
def c'24 : List CSh := [.int .i64, .int .i64, .int .i64, .int .i64, .int .i64, .int .i64, .int .i64, .int .i64, .int .i64, .int .i64, .int .i64, .int .i64, .int .i64, .int .i64, .int .i64, .int .i64, .int .i64, .int .i64, .int .i64, .int .i64, .int .i64, .int .i64, .int .i64, .int .i64, .int .i64, .int .i64, .int .i64, .int .i64, .int .i64, .int .i64, .int .i64, .int .i64, .int .i64, .int .i64, .int .i64, .int .i64]
def c'25 : List CSh := [.int .i64, .int .i64, .int .i64]
def c'26 : List CSh := [.int .i64, .int .i64]
def c'27 : List CSh := [.int .i64, .int .i64, .int .i64, .bool, .int .i64]
def c'28 : List CSh := [.int .i64, .int .i64, .int .i64, .int .i64, .int .i64, .bool, .int .i64, .int .i64, .int .i64, .int .i64, .int .u32, .int .i64, .int .i64, .bool]
theorem cx : Ctx Tryz.prog G := ⟨sigOK, eqOK, hmix⟩
def I0 : Sp := ⟨[(0, oi64), (1, oi64)], [], []⟩
def E0 : SL := [(.ret, ⟨[(4, op 64)], [(64, c'0)], []⟩)]
def S0_0 : Sp := ⟨[(0, oi64), (1, oi64), (4, op 64), (5, op 80), (6, oi64)], [(64, c'0), (80, c'1)], []⟩
def X0_0 : SL := [(.exit 0, ⟨[(4, op 64), (5, op 80)], [(64, c'0), (80, c'1)], []⟩)]
def J0 : Nat → Option SL := jl []
noncomputable def P0 : Nat → St G → M (Ex × St G) := pl [lpX S0_0 X0_0 nf5']
theorem l0_0 : LoopOK Tryz.prog G 24 (P0 0) (nr' (ng' Tryz.f22) 0) := lk cx tn J0 1 S0_0 X0_0 (rfl : nf5' = _) (by kernel_rfl) (an0 (by kernel_rfl)) fun x => by kernel_rfl
noncomputable def e0 : Fe G := ⟨I0, E0, fun x => nit' x.1.1 x.1.2.1, Tryz.f22.results.toList⟩
theorem k0 : FnOK Tryz.prog G 22 e0 := fk cx tn J0 (lp := P0) Tryz.func22 (by kernel_rfl) (by kernel_rfl) rfl (np' _ (by kernel_rfl) (nh' l0_0 nw')) fun x => by kernel_rfl
def I1 : Sp := ⟨[(0, ou8), (1, ou8)], [], []⟩
def E1 : SL := [(.ret, ⟨[(4, op 64)], [(64, c'0)], []⟩)]
noncomputable def e1 : Fe G := ⟨I1, E1, fun x => ncz' x.1.1 x.1.2.1, Tryz.f7.results.toList⟩
theorem k1 : FnOK Tryz.prog G 7 e1 := fk cx (tc k0 tn) (jl []) (lp := (pl [])) Tryz.func7 (by kernel_rfl) (by kernel_rfl) rfl (an0 (by kernel_rfl)) fun x => by kernel_rfl
def I2 : Sp := ⟨[(0, oi64), (1, oi64), (2, oi64)], [], []⟩
def E2 : SL := [(.ret, ⟨[(6, ob)], [], []⟩)]
noncomputable def e2 : Fe G := ⟨I2, E2, fun x => ndx' x.1.1 x.1.2.1 x.1.2.2.1, Tryz.f94.results.toList⟩
theorem k2 : FnOK Tryz.prog G 94 e2 := fk cx tn (jl [(1048577, [(.normal, ⟨[(6, ob)], [], []⟩)])]) (lp := (pl [])) Tryz.func94 (by kernel_rfl) (by kernel_rfl) rfl (an0 (by kernel_rfl)) fun x => by kernel_rfl
def I3 : Sp := ⟨[(0, .agg c'2), (1, .agg c'3)], [], []⟩
def E3 : SL := [(.ret, ⟨[(4, ob)], [], []⟩)]
def S3_0 : Sp := ⟨[(2, op 32), (3, op 48), (5, .one (.own 32768 3)), (6, oi64)], [(32, c'2), (48, c'3)], []⟩
def X3_0 : SL := [(.exit 0, ⟨[(2, op 32), (3, op 48)], [(32, c'2), (48, c'3)], []⟩), (.ret, ⟨[(4, ob)], [], []⟩)]
def J3 : Nat → Option SL := jl [(1048585, [(.normal, ⟨[(4, ob)], [], []⟩)])]
noncomputable def P3 : Nat → St G → M (Ex × St G) := pl [lpX S3_0 X3_0 nia']
theorem t3 : ∀ p ∈ [(94, e2)], FnOK Tryz.prog G p.1 p.2 := (tc k2 tn)
theorem l3_0 : LoopOK Tryz.prog G 56 (P3 0) (nr' (ng' Tryz.f95) 0) := lk cx t3 J3 1 S3_0 X3_0 (rfl : nia' = _) (by kernel_rfl) (an0 (by kernel_rfl)) fun x => by kernel_rfl
noncomputable def e3 : Fe G := ⟨I3, E3, fun x => nj0' x.1.1.1 x.1.1.2.1 x.1.1.2.2.1 x.1.1.2.2.2.1 x.1.1.2.2.2.2.1 x.1.1.2.2.2.2.2.1 x.1.1.2.2.2.2.2.2.1 x.1.1.2.2.2.2.2.2.2.1 x.1.2.1.1 x.1.2.1.2.1 x.1.2.1.2.2.1 x.1.2.1.2.2.2.1 x.1.2.1.2.2.2.2.1 x.1.2.1.2.2.2.2.2.1 x.1.2.1.2.2.2.2.2.2.1 x.1.2.1.2.2.2.2.2.2.2.1 x.1.2.1.2.2.2.2.2.2.2.2.1, Tryz.f95.results.toList⟩
theorem k3 : FnOK Tryz.prog G 95 e3 := fk cx t3 J3 (lp := P3) Tryz.func95 (by kernel_rfl) (by kernel_rfl) rfl (np' _ (by kernel_rfl) (nh' l3_0 nw')) fun x => by kernel_rfl
def I4 : Sp := ⟨[(0, .agg c'2)], [], []⟩
def E4 : SL := [(.ret, ⟨[(2, oi64)], [], []⟩)]
def S4_0 : Sp := ⟨[(1, op 16), (3, ob), (4, oi64)], [(16, c'2)], []⟩
def X4_0 : SL := [(.exit 0, ⟨[(1, op 16), (3, ob)], [(16, c'2)], []⟩)]
def J4 : Nat → Option SL := jl [(1048581, [(.normal, ⟨[(1, op 16), (3, ob)], [(16, c'2)], []⟩)]), (1048585, [(.normal, ⟨[(1, op 16), (3, ob), (4, oi64)], [(16, c'2)], []⟩)])]
noncomputable def P4 : Nat → St G → M (Ex × St G) := pl [lpX S4_0 X4_0 nh7']
theorem t4 : ∀ p ∈ [(94, e2), (95, e3)], FnOK Tryz.prog G p.1 p.2 := (tc k2 (tc k3 tn))
theorem l4_0 : LoopOK Tryz.prog G 73 (P4 0) (nr' (ng' Tryz.f54) 0) := lk cx t4 J4 1 S4_0 X4_0 (rfl : nh7' = _) (by kernel_rfl) (an0 (by kernel_rfl)) fun x => by kernel_rfl
noncomputable def e4 : Fe G := ⟨I4, E4, fun x => nfj' x.1.1.1 x.1.1.2.1 x.1.1.2.2.1 x.1.1.2.2.2.1 x.1.1.2.2.2.2.1 x.1.1.2.2.2.2.2.1 x.1.1.2.2.2.2.2.2.1 x.1.1.2.2.2.2.2.2.2.1, Tryz.f54.results.toList⟩
theorem k4 : FnOK Tryz.prog G 54 e4 := fk cx t4 J4 (lp := P4) Tryz.func54 (by kernel_rfl) (by kernel_rfl) rfl (np' _ (by kernel_rfl) (nh' l4_0 nw')) fun x => by kernel_rfl
def I5 : Sp := ⟨[(0, .agg c'2)], [], []⟩
def E5 : SL := [(.ret, ⟨[(2, op 32)], [(32, c'4)], []⟩)]
noncomputable def e5 : Fe G := ⟨I5, E5, fun x => nh6' x.1.1.1 x.1.1.2.1 x.1.1.2.2.1 x.1.1.2.2.2.1 x.1.1.2.2.2.2.1 x.1.1.2.2.2.2.2.1 x.1.1.2.2.2.2.2.2.1 x.1.1.2.2.2.2.2.2.2.1, Tryz.f23.results.toList⟩
theorem k5 : FnOK Tryz.prog G 23 e5 := fk cx (tc k4 tn) (jl []) (lp := (pl [])) Tryz.func23 (by kernel_rfl) (by kernel_rfl) rfl (an0 (by kernel_rfl)) fun x => by kernel_rfl
def I6 : Sp := ⟨[(0, .agg c'2), (1, oro 5), (2, oi64)], [], []⟩
def E6 : SL := [(.ret, ⟨[(6, .one (.own 32768 92))], [], []⟩)]
def S6_0 : Sp := ⟨[(1, oro 5), (2, oi64), (7, .one (.own 32768 92)), (8, oi64), (9, oi64), (10, oi64)], [], []⟩
def X6_0 : SL := [(.exit 0, ⟨[(7, .one (.own 32768 92))], [], []⟩)]
def J6 : Nat → Option SL := jl [(18, [(.normal, ⟨[(1, oro 5), (2, oi64), (7, .one (.own 32768 92)), (8, oi64), (9, oi64), (10, oi64), (11, oi64), (13, op 208)], [(208, c'5)], []⟩)]), (20, [(.normal, ⟨[(1, oro 5), (2, oi64), (7, .one (.own 32768 92)), (8, oi64), (9, oi64), (10, oi64), (11, oi64), (13, op 208)], [(208, c'5)], []⟩)])]
noncomputable def P6 : Nat → St G → M (Ex × St G) := pl [lpX S6_0 X6_0 ng7']
theorem l6_0 : LoopOK Tryz.prog G 112 (P6 0) (nr' (ng' Tryz.f24) 0) := lk cx tn J6 1 S6_0 X6_0 (rfl : ng7' = _) (by kernel_rfl) (an0 (by kernel_rfl)) fun x => by kernel_rfl
noncomputable def e6 : Fe G := ⟨I6, E6, fun x => nh5' x.1.1.1 x.1.1.2.1 x.1.1.2.2.1 x.1.1.2.2.2.1 x.1.1.2.2.2.2.1 x.1.1.2.2.2.2.2.1 x.1.1.2.2.2.2.2.2.1 x.1.1.2.2.2.2.2.2.2.1 x.1.2.1 x.1.2.2.1, Tryz.f24.results.toList⟩
theorem k6 : FnOK Tryz.prog G 24 e6 := fk cx tn J6 (lp := P6) Tryz.func24 (by kernel_rfl) (by kernel_rfl) rfl (np' _ (by kernel_rfl) (nh' l6_0 nw')) fun x => by kernel_rfl
def I7 : Sp := ⟨[(0, .agg c'2), (1, oi64), (2, oi64)], [], []⟩
def E7 : SL := [(.ret, ⟨[(6, ob)], [], []⟩)]
noncomputable def e7 : Fe G := ⟨I7, E7, fun x => nhf' x.1.1.1 x.1.1.2.1 x.1.1.2.2.1 x.1.1.2.2.2.1 x.1.1.2.2.2.2.1 x.1.1.2.2.2.2.2.1 x.1.1.2.2.2.2.2.2.1 x.1.1.2.2.2.2.2.2.2.1 x.1.2.1 x.1.2.2.1, Tryz.f72.results.toList⟩
theorem k7 : FnOK Tryz.prog G 72 e7 := fk cx (tc k4 (tc k2 tn)) (jl [(1048579, [(.normal, ⟨[(6, ob)], [], []⟩)])]) (lp := (pl [])) Tryz.func72 (by kernel_rfl) (by kernel_rfl) rfl (an0 (by kernel_rfl)) fun x => by kernel_rfl
def I8 : Sp := ⟨[(0, .agg c'6), (1, .agg c'6)], [], []⟩
def E8 : SL := [(.ret, ⟨[(4, ob)], [], []⟩)]
noncomputable def e8 : Fe G := ⟨I8, E8, fun x => ni4' x.1.1.1 x.1.1.2.1 x.1.1.2.2.1 x.1.1.2.2.2.1 x.1.1.2.2.2.2.1 x.1.2.1.1 x.1.2.1.2.1 x.1.2.1.2.2.1 x.1.2.1.2.2.2.1 x.1.2.1.2.2.2.2.1, Tryz.f73.results.toList⟩
theorem k8 : FnOK Tryz.prog G 73 e8 := fk cx tn (jl [(1048577, [(.normal, ⟨[(4, ob)], [], []⟩)])]) (lp := (pl [])) Tryz.func73 (by kernel_rfl) (by kernel_rfl) rfl (an0 (by kernel_rfl)) fun x => by kernel_rfl
def I9 : Sp := ⟨[(0, .agg c'2), (1, .agg c'7)], [], []⟩
def E9 : SL := [(.ret, ⟨[(4, ob)], [], []⟩)]
def S9_0 : Sp := ⟨[(2, op 32), (3, op 48), (5, oi64), (6, oi64)], [(32, c'2), (48, c'7)], []⟩
def X9_0 : SL := [(.exit 0, ⟨[(2, op 32), (3, op 48), (5, oi64)], [(32, c'2), (48, c'7)], []⟩), (.ret, ⟨[(4, ob)], [], []⟩)]
def S9_1 : Sp := ⟨[(2, op 32), (3, op 48), (5, oi64), (7, oi64)], [(32, c'2), (48, c'7)], []⟩
def X9_1 : SL := [(.exit 2, ⟨[], [], []⟩), (.ret, ⟨[(4, ob)], [], []⟩)]
def J9 : Nat → Option SL := jl [(1048589, [(.normal, ⟨[(2, op 32), (3, op 48), (5, oi64), (7, oi64), (109, ob)], [(32, c'2), (48, c'7)], []⟩)])]
noncomputable def P9 : Nat → St G → M (Ex × St G) := pl [lpX S9_0 X9_0 nhd', lpX S9_1 X9_1 ng6']
theorem t9 : ∀ p ∈ [(54, e4), (72, e7), (73, e8)], FnOK Tryz.prog G p.1 p.2 := (tc k4 (tc k7 (tc k8 tn)))
theorem l9_1 : LoopOK Tryz.prog G 110 (P9 1) (nr' (ng' Tryz.f27) 1) := lk cx t9 J9 2 S9_1 X9_1 (rfl : ng6' = _) (by kernel_rfl) (an0 (by kernel_rfl)) fun x => by kernel_rfl
theorem l9_0 : LoopOK Tryz.prog G 110 (P9 0) (nr' (ng' Tryz.f27) 0) := lk cx t9 J9 1 S9_0 X9_0 (rfl : nhd' = _) (by kernel_rfl) (an0 (by kernel_rfl)) fun x => by kernel_rfl
noncomputable def e9 : Fe G := ⟨I9, E9, fun x => ngp' x.1.1.1 x.1.1.2.1 x.1.1.2.2.1 x.1.1.2.2.2.1 x.1.1.2.2.2.2.1 x.1.1.2.2.2.2.2.1 x.1.1.2.2.2.2.2.2.1 x.1.1.2.2.2.2.2.2.2.1 x.1.2.1.1 x.1.2.1.2.1 x.1.2.1.2.2.1 x.1.2.1.2.2.2.1, Tryz.f27.results.toList⟩
theorem k9 : FnOK Tryz.prog G 27 e9 := fk cx t9 J9 (lp := P9) Tryz.func27 (by kernel_rfl) (by kernel_rfl) rfl (np' _ (by kernel_rfl) (nh' l9_0 (nh' l9_1 nw'))) fun x => by kernel_rfl
def I10 : Sp := ⟨[(0, oi64), (1, oi64), (2, oi64)], [], []⟩
def E10 : SL := [(.ret, ⟨[(6, ob)], [], []⟩)]
noncomputable def e10 : Fe G := ⟨I10, E10, fun x => nfi' x.1.1 x.1.2.1 x.1.2.2.1, Tryz.f103.results.toList⟩
theorem k10 : FnOK Tryz.prog G 103 e10 := fk cx tn (jl [(1048577, [(.normal, ⟨[(6, ob)], [], []⟩)])]) (lp := (pl [])) Tryz.func103 (by kernel_rfl) (by kernel_rfl) rfl (an0 (by kernel_rfl)) fun x => by kernel_rfl
def I11 : Sp := ⟨[(0, .agg c'2), (1, .agg c'5)], [], []⟩
def E11 : SL := [(.ret, ⟨[(4, ob)], [], []⟩)]
noncomputable def e11 : Fe G := ⟨I11, E11, fun x => nhw' x.1.1.1 x.1.1.2.1 x.1.1.2.2.1 x.1.1.2.2.2.1 x.1.1.2.2.2.2.1 x.1.1.2.2.2.2.2.1 x.1.1.2.2.2.2.2.2.1 x.1.1.2.2.2.2.2.2.2.1 x.1.2.1.1 x.1.2.1.2.1 x.1.2.1.2.2.1 x.1.2.1.2.2.2.1 x.1.2.1.2.2.2.2.1, Tryz.f68.results.toList⟩
theorem k11 : FnOK Tryz.prog G 68 e11 := fk cx (tc k4 (tc k7 (tc k10 tn))) (jl [(1048580, [(.normal, ⟨[(2, op 32), (3, op 48), (5, ob), (6, ob)], [(32, c'2), (48, c'5)], []⟩)]), (1048584, [(.normal, ⟨[(4, ob)], [], []⟩)]), (1048586, [(.normal, ⟨[(4, ob)], [], []⟩)]), (1048588, [(.normal, ⟨[(4, ob)], [], []⟩)]), (1048591, [(.normal, ⟨[(4, ob)], [], []⟩)]), (1048593, [(.normal, ⟨[(4, ob)], [], []⟩)])]) (lp := (pl [])) Tryz.func68 (by kernel_rfl) (by kernel_rfl) rfl (an0 (by kernel_rfl)) fun x => by kernel_rfl
def I12 : Sp := ⟨[(0, .agg c'7), (1, oi64), (2, oi64)], [], []⟩
def E12 : SL := [(.ret, ⟨[(6, oi64)], [], []⟩)]
def S12_0 : Sp := ⟨[(1, oi64), (2, oi64), (3, op 48), (7, oi64)], [(48, c'7)], []⟩
def X12_0 : SL := [(.exit 0, ⟨[], [], []⟩), (.ret, ⟨[(6, oi64)], [], []⟩)]
def J12 : Nat → Option SL := jl [(1048580, [(.normal, ⟨[(1, oi64), (2, oi64), (3, op 48), (7, oi64), (32, ob)], [(48, c'7)], []⟩)])]
noncomputable def P12 : Nat → St G → M (Ex × St G) := pl [lpX S12_0 X12_0 njd']
theorem l12_0 : LoopOK Tryz.prog G 34 (P12 0) (nr' (ng' Tryz.f69) 0) := lk cx tn J12 1 S12_0 X12_0 (rfl : njd' = _) (by kernel_rfl) (an0 (by kernel_rfl)) fun x => by kernel_rfl
noncomputable def e12 : Fe G := ⟨I12, E12, fun x => nkt' x.1.1.1 x.1.1.2.1 x.1.1.2.2.1 x.1.1.2.2.2.1 x.1.2.1 x.1.2.2.1, Tryz.f69.results.toList⟩
theorem k12 : FnOK Tryz.prog G 69 e12 := fk cx tn J12 (lp := P12) Tryz.func69 (by kernel_rfl) (by kernel_rfl) rfl (np' _ (by kernel_rfl) (nh' l12_0 nw')) fun x => by kernel_rfl
def I13 : Sp := ⟨[(0, oro 98), (1, .agg c'6)], [], []⟩
def E13 : SL := [(.ret, ⟨[(4, .one (.own 32768 98))], [], []⟩)]
def S13_0 : Sp := ⟨[(0, oro 98), (3, op 48), (5, .one (.own 32768 98)), (6, ob), (7, oi64)], [(48, c'6)], []⟩
def X13_0 : SL := [(.exit 0, ⟨[(3, op 48), (5, .one (.own 32768 98)), (6, ob)], [(48, c'6)], []⟩)]
def J13 : Nat → Option SL := jl [(10, [(.normal, ⟨[(0, oro 98), (3, op 48), (5, .one (.own 32768 98)), (6, ob), (7, oi64)], [(48, c'6)], []⟩)]), (1048582, [(.normal, ⟨[(0, oro 98), (3, op 48), (5, .one (.own 32768 98)), (6, ob), (7, oi64), (23, ob)], [(48, c'6)], []⟩)])]
noncomputable def P13 : Nat → St G → M (Ex × St G) := pl [lpX S13_0 X13_0 ng9']
theorem t13 : ∀ p ∈ [(73, e8)], FnOK Tryz.prog G p.1 p.2 := (tc k8 tn)
theorem l13_0 : LoopOK Tryz.prog G 42 (P13 0) (nr' (ng' Tryz.f70) 0) := lk cx t13 J13 1 S13_0 X13_0 (rfl : ng9' = _) (by kernel_rfl) (an0 (by kernel_rfl)) fun x => by kernel_rfl
noncomputable def e13 : Fe G := ⟨I13, E13, fun x => nh8' x.1.1 x.1.2.1.1 x.1.2.1.2.1 x.1.2.1.2.2.1 x.1.2.1.2.2.2.1 x.1.2.1.2.2.2.2.1, Tryz.f70.results.toList⟩
theorem k13 : FnOK Tryz.prog G 70 e13 := fk cx t13 J13 (lp := P13) Tryz.func70 (by kernel_rfl) (by kernel_rfl) rfl (np' _ (by kernel_rfl) (nh' l13_0 nw')) fun x => by kernel_rfl
def I14 : Sp := ⟨[(0, .agg c'2), (1, .agg c'7), (2, .agg c'5)], [], []⟩
def E14 : SL := [(.ret, ⟨[(6, op 96), (7, oi64)], [(96, c'4)], []⟩)]
noncomputable def e14 : Fe G := ⟨I14, E14, fun x => njy' x.1.1.1 x.1.1.2.1 x.1.1.2.2.1 x.1.1.2.2.2.1 x.1.1.2.2.2.2.1 x.1.1.2.2.2.2.2.1 x.1.1.2.2.2.2.2.2.1 x.1.1.2.2.2.2.2.2.2.1 x.1.2.1.1 x.1.2.1.2.1 x.1.2.1.2.2.1 x.1.2.1.2.2.2.1 x.1.2.2.1.1 x.1.2.2.1.2.1 x.1.2.2.1.2.2.1 x.1.2.2.1.2.2.2.1 x.1.2.2.1.2.2.2.2.1, Tryz.f25.results.toList⟩
theorem k14 : FnOK Tryz.prog G 25 e14 := fk cx (tc k9 (tc k11 (tc k12 (tc k13 tn)))) (jl [(1048588, [(.normal, ⟨[(4, op 64), (5, op 80), (6, op 96), (8, oi64), (77, ob)], [(64, c'4), (80, c'5), (96, c'8)], []⟩)]), (2097168, [(.normal, ⟨[(4, op 64), (6, op 96), (8, oi64)], [(64, c'9), (96, c'10)], []⟩)])]) (lp := (pl [])) Tryz.func25 (by kernel_rfl) (by kernel_rfl) rfl (an0 (by kernel_rfl)) fun x => by kernel_rfl
def I15 : Sp := ⟨[(0, .agg c'2), (1, oro 5)], [], []⟩
def E15 : SL := [(.ret, ⟨[(4, op 64)], [(64, c'4)], []⟩)]
def S15_0 : Sp := ⟨[(2, op 32), (4, op 64), (5, op 80), (6, .one (.own 32768 92)), (7, oi64)], [(32, c'2), (64, c'11), (80, c'12)], []⟩
def X15_0 : SL := [(.exit 0, ⟨[(4, op 64), (5, op 80)], [(64, c'4), (80, c'8)], []⟩)]
def J15 : Nat → Option SL := jl []
noncomputable def P15 : Nat → St G → M (Ex × St G) := pl [lpX S15_0 X15_0 nid']
theorem t15 : ∀ p ∈ [(23, e5), (24, e6), (25, e14)], FnOK Tryz.prog G p.1 p.2 := (tc k5 (tc k6 (tc k14 tn)))
theorem l15_0 : LoopOK Tryz.prog G 30 (P15 0) (nr' (ng' Tryz.f8) 0) := lk cx t15 J15 1 S15_0 X15_0 (rfl : nid' = _) (by kernel_rfl) (an0 (by kernel_rfl)) fun x => by kernel_rfl
noncomputable def e15 : Fe G := ⟨I15, E15, fun x => nh2' x.1.1.1 x.1.1.2.1 x.1.1.2.2.1 x.1.1.2.2.2.1 x.1.1.2.2.2.2.1 x.1.1.2.2.2.2.2.1 x.1.1.2.2.2.2.2.2.1 x.1.1.2.2.2.2.2.2.2.1 x.1.2.1, Tryz.f8.results.toList⟩
theorem k15 : FnOK Tryz.prog G 8 e15 := fk cx t15 J15 (lp := P15) Tryz.func8 (by kernel_rfl) (by kernel_rfl) rfl (np' _ (by kernel_rfl) (nh' l15_0 nw')) fun x => by kernel_rfl
def I16 : Sp := ⟨[(0, ob)], [], []⟩
def E16 : SL := [(.ret, ⟨[(2, oi64)], [], []⟩)]
noncomputable def e16 : Fe G := ⟨I16, E16, fun x => nip' x.1.1, Tryz.f28.results.toList⟩
theorem k16 : FnOK Tryz.prog G 28 e16 := fk cx tn (jl []) (lp := (pl [])) Tryz.func28 (by kernel_rfl) (by kernel_rfl) rfl (an0 (by kernel_rfl)) fun x => by kernel_rfl
def I17 : Sp := ⟨[(0, .agg c'2), (1, .agg c'7)], [], []⟩
def E17 : SL := [(.ret, ⟨[(4, .one (.own 32768 92))], [], []⟩)]
def S17_0 : Sp := ⟨[(3, op 48), (5, .one (.own 32768 92)), (6, oi64)], [(48, c'7)], []⟩
def X17_0 : SL := [(.exit 0, ⟨[(3, op 48), (5, .one (.own 32768 92))], [(48, c'7)], []⟩)]
def S17_1 : Sp := ⟨[(3, op 48), (5, .one (.own 32768 92)), (7, oi64)], [(48, c'7)], []⟩
def X17_1 : SL := [(.exit 2, ⟨[(5, .one (.own 32768 92))], [], []⟩)]
def J17 : Nat → Option SL := jl []
noncomputable def P17 : Nat → St G → M (Ex × St G) := pl [lpX S17_0 X17_0 ngn', lpX S17_1 X17_1 ngc']
theorem t17 : ∀ p ∈ [(27, e9), (28, e16)], FnOK Tryz.prog G p.1 p.2 := (tc k9 (tc k16 tn))
theorem l17_1 : LoopOK Tryz.prog G 84 (P17 1) (nr' (ng' Tryz.f10) 1) := lk cx t17 J17 2 S17_1 X17_1 (rfl : ngc' = _) (by kernel_rfl) (an0 (by kernel_rfl)) fun x => by kernel_rfl
theorem l17_0 : LoopOK Tryz.prog G 84 (P17 0) (nr' (ng' Tryz.f10) 0) := lk cx t17 J17 1 S17_0 X17_0 (rfl : ngn' = _) (by kernel_rfl) (an0 (by kernel_rfl)) fun x => by kernel_rfl
noncomputable def e17 : Fe G := ⟨I17, E17, fun x => nfw' x.1.1.1 x.1.1.2.1 x.1.1.2.2.1 x.1.1.2.2.2.1 x.1.1.2.2.2.2.1 x.1.1.2.2.2.2.2.1 x.1.1.2.2.2.2.2.2.1 x.1.1.2.2.2.2.2.2.2.1 x.1.2.1.1 x.1.2.1.2.1 x.1.2.1.2.2.1 x.1.2.1.2.2.2.1, Tryz.f10.results.toList⟩
theorem k17 : FnOK Tryz.prog G 10 e17 := fk cx t17 J17 (lp := P17) Tryz.func10 (by kernel_rfl) (by kernel_rfl) rfl (np' _ (by kernel_rfl) (nh' l17_0 (nh' l17_1 nw'))) fun x => by kernel_rfl
def I18 : Sp := ⟨[(0, os)], [], []⟩
def E18 : SL := [(.ret, ⟨[(2, ou8)], [], []⟩)]
def S18_0 : Sp := ⟨[(0, os), (3, oi64), (4, oi64)], [], []⟩
def X18_0 : SL := [(.exit 0, ⟨[(3, oi64)], [], []⟩)]
def S18_1 : Sp := ⟨[(0, os), (3, oi64), (4, oi64), (5, oi64)], [], []⟩
def X18_1 : SL := [(.exit 2, ⟨[(0, os), (3, oi64), (4, oi64)], [], []⟩)]
def J18 : Nat → Option SL := jl []
noncomputable def P18 : Nat → St G → M (Ex × St G) := pl [lpX S18_0 X18_0 njg', lpX S18_1 X18_1 nir']
theorem l18_1 : LoopOK Tryz.prog G 33 (P18 1) (nr' (ng' Tryz.f71) 1) := lk cx tn J18 2 S18_1 X18_1 (rfl : nir' = _) (by kernel_rfl) (an0 (by kernel_rfl)) fun x => by kernel_rfl
theorem l18_0 : LoopOK Tryz.prog G 33 (P18 0) (nr' (ng' Tryz.f71) 0) := lk cx tn J18 1 S18_0 X18_0 (rfl : njg' = _) (by kernel_rfl) (np' _ (by kernel_rfl) (nh' l18_1 nw')) fun x => by kernel_rfl
noncomputable def e18 : Fe G := ⟨I18, E18, fun x => nk2' x.1.1, Tryz.f71.results.toList⟩
theorem k18 : FnOK Tryz.prog G 71 e18 := fk cx tn J18 (lp := P18) Tryz.func71 (by kernel_rfl) (by kernel_rfl) rfl (np' _ (by kernel_rfl) (nh' l18_0 (nh' l18_1 nw'))) fun x => by kernel_rfl
def I19 : Sp := ⟨[(0, .agg c'2), (1, .agg c'5)], [], []⟩
def E19 : SL := [(.ret, ⟨[(4, os), (5, oi64)], [], []⟩)]
noncomputable def e19 : Fe G := ⟨I19, E19, fun x => ni0' x.1.1.1 x.1.1.2.1 x.1.1.2.2.1 x.1.1.2.2.2.1 x.1.1.2.2.2.2.1 x.1.1.2.2.2.2.2.1 x.1.1.2.2.2.2.2.2.1 x.1.1.2.2.2.2.2.2.2.1 x.1.2.1.1 x.1.2.1.2.1 x.1.2.1.2.2.1 x.1.2.1.2.2.2.1 x.1.2.1.2.2.2.2.1, Tryz.f26.results.toList⟩
theorem k19 : FnOK Tryz.prog G 26 e19 := fk cx (tc k11 (tc k18 tn)) (jl []) (lp := (pl [])) Tryz.func26 (by kernel_rfl) (by kernel_rfl) rfl (an0 (by kernel_rfl)) fun x => by kernel_rfl
def I20 : Sp := ⟨[(0, .agg c'2), (1, oro 92)], [], []⟩
def E20 : SL := [(.ret, ⟨[(4, os)], [], []⟩)]
def S20_0 : Sp := ⟨[(1, oro 92), (2, op 32), (5, os), (6, oi64)], [(32, c'2)], []⟩
def X20_0 : SL := [(.exit 0, ⟨[(5, os)], [], []⟩)]
def J20 : Nat → Option SL := jl []
noncomputable def P20 : Nat → St G → M (Ex × St G) := pl [lpX S20_0 X20_0 nii']
theorem t20 : ∀ p ∈ [(26, e19)], FnOK Tryz.prog G p.1 p.2 := (tc k19 tn)
theorem l20_0 : LoopOK Tryz.prog G 28 (P20 0) (nr' (ng' Tryz.f9) 0) := lk cx t20 J20 1 S20_0 X20_0 (rfl : nii' = _) (by kernel_rfl) (an0 (by kernel_rfl)) fun x => by kernel_rfl
noncomputable def e20 : Fe G := ⟨I20, E20, fun x => nhz' x.1.1.1 x.1.1.2.1 x.1.1.2.2.1 x.1.1.2.2.2.1 x.1.1.2.2.2.2.1 x.1.1.2.2.2.2.2.1 x.1.1.2.2.2.2.2.2.1 x.1.1.2.2.2.2.2.2.2.1 x.1.2.1, Tryz.f9.results.toList⟩
theorem k20 : FnOK Tryz.prog G 9 e20 := fk cx t20 J20 (lp := P20) Tryz.func9 (by kernel_rfl) (by kernel_rfl) rfl (np' _ (by kernel_rfl) (nh' l20_0 nw')) fun x => by kernel_rfl
def I21 : Sp := ⟨[(0, oi64), (1, oi64), (2, oro 3)], [], []⟩
def E21 : SL := [(.ret, ⟨[(6, ob)], [], []⟩)]
def S21_0 : Sp := ⟨[(0, oi64), (1, oi64), (9, oro 3), (10, oi64), (11, oi64)], [], []⟩
def X21_0 : SL := [(.exit 0, ⟨[], [], []⟩), (.ret, ⟨[(6, ob)], [], []⟩)]
def J21 : Nat → Option SL := jl []
noncomputable def P21 : Nat → St G → M (Ex × St G) := pl [lpX S21_0 X21_0 nes']
theorem l21_0 : LoopOK Tryz.prog G 24 (P21 0) (nr' (ng' Tryz.f91) 0) := lk cx tn J21 1 S21_0 X21_0 (rfl : nes' = _) (by kernel_rfl) (an0 (by kernel_rfl)) fun x => by kernel_rfl
noncomputable def e21 : Fe G := ⟨I21, E21, fun x => n9' x.1.1 x.1.2.1 x.1.2.2.1, Tryz.f91.results.toList⟩
theorem k21 : FnOK Tryz.prog G 91 e21 := fk cx tn J21 (lp := P21) Tryz.func91 (by kernel_rfl) (by kernel_rfl) rfl (np' _ (by kernel_rfl) (nh' l21_0 nw')) fun x => by kernel_rfl
def I22 : Sp := ⟨[(0, .agg c'3), (1, oi64)], [], []⟩
def E22 : SL := [(.ret, ⟨[(4, ob)], [], []⟩)]
noncomputable def e22 : Fe G := ⟨I22, E22, fun x => ngf' x.1.1.1 x.1.1.2.1 x.1.1.2.2.1 x.1.1.2.2.2.1 x.1.1.2.2.2.2.1 x.1.1.2.2.2.2.2.1 x.1.1.2.2.2.2.2.2.1 x.1.1.2.2.2.2.2.2.2.1 x.1.1.2.2.2.2.2.2.2.2.1 x.1.2.1, Tryz.f92.results.toList⟩
theorem k22 : FnOK Tryz.prog G 92 e22 := fk cx (tc k21 tn) (jl [(1048577, [(.normal, ⟨[(4, ob)], [], []⟩)])]) (lp := (pl [])) Tryz.func92 (by kernel_rfl) (by kernel_rfl) rfl (an0 (by kernel_rfl)) fun x => by kernel_rfl
def I23 : Sp := ⟨[(0, .agg c'2)], [], []⟩
def E23 : SL := [(.ret, ⟨[(2, ob)], [], []⟩)]
noncomputable def e23 : Fe G := ⟨I23, E23, fun x => ngk' x.1.1.1 x.1.1.2.1 x.1.1.2.2.1 x.1.1.2.2.2.1 x.1.1.2.2.2.2.1 x.1.1.2.2.2.2.2.1 x.1.1.2.2.2.2.2.2.1 x.1.1.2.2.2.2.2.2.2.1, Tryz.f93.results.toList⟩
theorem k23 : FnOK Tryz.prog G 93 e23 := fk cx tn (jl [(1048577, [(.normal, ⟨[(2, ob)], [], []⟩)])]) (lp := (pl [])) Tryz.func93 (by kernel_rfl) (by kernel_rfl) rfl (an0 (by kernel_rfl)) fun x => by kernel_rfl
def I24 : Sp := ⟨[(0, .agg c'2)], [], []⟩
def E24 : SL := [(.ret, ⟨[(2, oi64)], [], []⟩)]
def S24_0 : Sp := ⟨[(1, op 16), (3, ob), (28, oro 103), (29, oi64), (30, oi64)], [(16, c'2)], []⟩
def X24_0 : SL := [(.exit 0, ⟨[(1, op 16), (3, ob)], [(16, c'2)], []⟩)]
def J24 : Nat → Option SL := jl [(1048581, [(.normal, ⟨[(1, op 16), (3, ob)], [(16, c'2)], []⟩)]), (1048585, [(.normal, ⟨[(1, op 16), (3, ob), (28, oro 103), (29, oi64), (30, oi64)], [(16, c'2)], []⟩)])]
noncomputable def P24 : Nat → St G → M (Ex × St G) := pl [lpX S24_0 X24_0 nfc']
theorem t24 : ∀ p ∈ [(91, e21), (92, e22), (93, e23)], FnOK Tryz.prog G p.1 p.2 := (tc k21 (tc k22 (tc k23 tn)))
theorem l24_0 : LoopOK Tryz.prog G 60 (P24 0) (nr' (ng' Tryz.f53) 0) := lk cx t24 J24 1 S24_0 X24_0 (rfl : nfc' = _) (by kernel_rfl) (an0 (by kernel_rfl)) fun x => by kernel_rfl
noncomputable def e24 : Fe G := ⟨I24, E24, fun x => nb4' x.1.1.1 x.1.1.2.1 x.1.1.2.2.1 x.1.1.2.2.2.1 x.1.1.2.2.2.2.1 x.1.1.2.2.2.2.2.1 x.1.1.2.2.2.2.2.2.1 x.1.1.2.2.2.2.2.2.2.1, Tryz.f53.results.toList⟩
theorem k24 : FnOK Tryz.prog G 53 e24 := fk cx t24 J24 (lp := P24) Tryz.func53 (by kernel_rfl) (by kernel_rfl) rfl (np' _ (by kernel_rfl) (nh' l24_0 nw')) fun x => by kernel_rfl
def I25 : Sp := ⟨[(0, .agg c'2)], [], []⟩
def E25 : SL := [(.ret, ⟨[(2, op 32)], [(32, c'4)], []⟩)]
noncomputable def e25 : Fe G := ⟨I25, E25, fun x => nie' x.1.1.1 x.1.1.2.1 x.1.1.2.2.1 x.1.1.2.2.2.1 x.1.1.2.2.2.2.1 x.1.1.2.2.2.2.2.1 x.1.1.2.2.2.2.2.2.1 x.1.1.2.2.2.2.2.2.2.1, Tryz.f112.results.toList⟩
theorem k25 : FnOK Tryz.prog G 112 e25 := fk cx (tc k24 tn) (jl []) (lp := (pl [])) Tryz.func112 (by kernel_rfl) (by kernel_rfl) rfl (an0 (by kernel_rfl)) fun x => by kernel_rfl
def I26 : Sp := ⟨[(0, .agg c'13)], [], []⟩
def E26 : SL := [(.ret, ⟨[(2, os)], [], []⟩)]
noncomputable def e26 : Fe G := ⟨I26, E26, fun x => ng5' x.1.1.1 x.1.1.2.1 x.1.1.2.2.1, Tryz.f114.results.toList⟩
theorem k26 : FnOK Tryz.prog G 114 e26 := fk cx tn (jl []) (lp := (pl [])) Tryz.func114 (by kernel_rfl) (by kernel_rfl) rfl (an0 (by kernel_rfl)) fun x => by kernel_rfl
def I27 : Sp := ⟨[(0, os)], [], []⟩
def E27 : SL := [(.ret, ⟨[(2, ou8)], [], []⟩)]
def S27_0 : Sp := ⟨[(0, os), (3, ou8), (7, oi64), (8, oi64)], [], []⟩
def X27_0 : SL := [(.exit 0, ⟨[(3, ou8)], [], []⟩)]
def S27_1 : Sp := ⟨[(0, os), (3, ou8), (7, oi64), (8, oi64), (16, oi64)], [], []⟩
def X27_1 : SL := [(.exit 2, ⟨[(0, os), (3, ou8), (7, oi64), (8, oi64)], [], []⟩)]
def J27 : Nat → Option SL := jl []
noncomputable def P27 : Nat → St G → M (Ex × St G) := pl [lpX S27_0 X27_0 niw', lpX S27_1 X27_1 ni2']
theorem l27_1 : LoopOK Tryz.prog G 28 (P27 1) (nr' (ng' Tryz.f140) 1) := lk cx tn J27 2 S27_1 X27_1 (rfl : ni2' = _) (by kernel_rfl) (an0 (by kernel_rfl)) fun x => by kernel_rfl
theorem l27_0 : LoopOK Tryz.prog G 28 (P27 0) (nr' (ng' Tryz.f140) 0) := lk cx tn J27 1 S27_0 X27_0 (rfl : niw' = _) (by kernel_rfl) (np' _ (by kernel_rfl) (nh' l27_1 nw')) fun x => by kernel_rfl
noncomputable def e27 : Fe G := ⟨I27, E27, fun x => niu' x.1.1, Tryz.f140.results.toList⟩
theorem k27 : FnOK Tryz.prog G 140 e27 := fk cx tn J27 (lp := P27) Tryz.func140 (by kernel_rfl) (by kernel_rfl) rfl (np' _ (by kernel_rfl) (nh' l27_0 (nh' l27_1 nw'))) fun x => by kernel_rfl
def I28 : Sp := ⟨[(0, oi64), (1, oi64), (2, oi64)], [], []⟩
def E28 : SL := [(.ret, ⟨[(6, ob)], [], []⟩)]
noncomputable def e28 : Fe G := ⟨I28, E28, fun x => nfo' x.1.1 x.1.2.1 x.1.2.2.1, Tryz.f107.results.toList⟩
theorem k28 : FnOK Tryz.prog G 107 e28 := fk cx (tc k21 tn) (jl [(1048577, [(.normal, ⟨[(6, ob)], [], []⟩)])]) (lp := (pl [])) Tryz.func107 (by kernel_rfl) (by kernel_rfl) rfl (an0 (by kernel_rfl)) fun x => by kernel_rfl
def I29 : Sp := ⟨[(0, .agg c'2), (1, oi64), (2, oi64)], [], []⟩
def E29 : SL := [(.ret, ⟨[(6, ob)], [], []⟩)]
noncomputable def e29 : Fe G := ⟨I29, E29, fun x => ndm' x.1.1.1 x.1.1.2.1 x.1.1.2.2.1 x.1.1.2.2.2.1 x.1.1.2.2.2.2.1 x.1.1.2.2.2.2.2.1 x.1.1.2.2.2.2.2.2.1 x.1.1.2.2.2.2.2.2.2.1 x.1.2.1 x.1.2.2.1, Tryz.f81.results.toList⟩
theorem k29 : FnOK Tryz.prog G 81 e29 := fk cx (tc k24 (tc k28 tn)) (jl [(1048577, [(.normal, ⟨[(6, ob)], [], []⟩)])]) (lp := (pl [])) Tryz.func81 (by kernel_rfl) (by kernel_rfl) rfl (an0 (by kernel_rfl)) fun x => by kernel_rfl
def I30 : Sp := ⟨[(0, oi64), (1, oi64), (2, oi64)], [], []⟩
def E30 : SL := [(.ret, ⟨[(6, ob)], [], []⟩)]
noncomputable def e30 : Fe G := ⟨I30, E30, fun x => ncl' x.1.1 x.1.2.1 x.1.2.2.1, Tryz.f151.results.toList⟩
theorem k30 : FnOK Tryz.prog G 151 e30 := fk cx tn (jl [(1048577, [(.normal, ⟨[(6, ob)], [], []⟩)])]) (lp := (pl [])) Tryz.func151 (by kernel_rfl) (by kernel_rfl) rfl (an0 (by kernel_rfl)) fun x => by kernel_rfl
def I31 : Sp := ⟨[(0, .agg c'2), (1, .agg c'5)], [], []⟩
def E31 : SL := [(.ret, ⟨[(4, ob)], [], []⟩)]
noncomputable def e31 : Fe G := ⟨I31, E31, fun x => nf6' x.1.1.1 x.1.1.2.1 x.1.1.2.2.1 x.1.1.2.2.2.1 x.1.1.2.2.2.2.1 x.1.1.2.2.2.2.2.1 x.1.1.2.2.2.2.2.2.1 x.1.1.2.2.2.2.2.2.2.1 x.1.2.1.1 x.1.2.1.2.1 x.1.2.1.2.2.1 x.1.2.1.2.2.2.1 x.1.2.1.2.2.2.2.1, Tryz.f139.results.toList⟩
theorem k31 : FnOK Tryz.prog G 139 e31 := fk cx (tc k24 (tc k29 (tc k30 tn))) (jl [(1048580, [(.normal, ⟨[(2, op 32), (3, op 48), (5, ob), (6, ob)], [(32, c'2), (48, c'5)], []⟩)]), (1048584, [(.normal, ⟨[(4, ob)], [], []⟩)]), (1048586, [(.normal, ⟨[(4, ob)], [], []⟩)]), (1048588, [(.normal, ⟨[(4, ob)], [], []⟩)]), (1048590, [(.normal, ⟨[(4, ob)], [], []⟩)]), (1048593, [(.normal, ⟨[(4, ob)], [], []⟩)])]) (lp := (pl [])) Tryz.func139 (by kernel_rfl) (by kernel_rfl) rfl (an0 (by kernel_rfl)) fun x => by kernel_rfl
def I32 : Sp := ⟨[(0, .agg c'2), (1, os)], [], []⟩
def E32 : SL := [(.ret, ⟨[(4, op 64), (5, oi64)], [(64, c'5)], []⟩)]
noncomputable def e32 : Fe G := ⟨I32, E32, fun x => nhc' x.1.1.1 x.1.1.2.1 x.1.1.2.2.1 x.1.1.2.2.2.1 x.1.1.2.2.2.2.1 x.1.1.2.2.2.2.2.1 x.1.1.2.2.2.2.2.2.1 x.1.1.2.2.2.2.2.2.2.1 x.1.2.1, Tryz.f132.results.toList⟩
theorem k32 : FnOK Tryz.prog G 132 e32 := fk cx (tc k24 (tc k27 (tc k31 tn))) (jl []) (lp := (pl [])) Tryz.func132 (by kernel_rfl) (by kernel_rfl) rfl (an0 (by kernel_rfl)) fun x => by kernel_rfl
def I33 : Sp := ⟨[(0, .agg c'2), (1, os)], [], []⟩
def E33 : SL := [(.ret, ⟨[(4, .one (.own 32768 92)), (5, oi64)], [], []⟩)]
def S33_0 : Sp := ⟨[(1, os), (2, op 32), (6, .one (.own 32768 92)), (7, oi64)], [(32, c'2)], []⟩
def X33_0 : SL := [(.exit 0, ⟨[(6, .one (.own 32768 92)), (7, oi64)], [], []⟩)]
def J33 : Nat → Option SL := jl []
noncomputable def P33 : Nat → St G → M (Ex × St G) := pl [lpX S33_0 X33_0 nhb']
theorem t33 : ∀ p ∈ [(132, e32)], FnOK Tryz.prog G p.1 p.2 := (tc k32 tn)
theorem l33_0 : LoopOK Tryz.prog G 35 (P33 0) (nr' (ng' Tryz.f113) 0) := lk cx t33 J33 1 S33_0 X33_0 (rfl : nhb' = _) (by kernel_rfl) (an0 (by kernel_rfl)) fun x => by kernel_rfl
noncomputable def e33 : Fe G := ⟨I33, E33, fun x => nic' x.1.1.1 x.1.1.2.1 x.1.1.2.2.1 x.1.1.2.2.2.1 x.1.1.2.2.2.2.1 x.1.1.2.2.2.2.2.1 x.1.1.2.2.2.2.2.2.1 x.1.1.2.2.2.2.2.2.2.1 x.1.2.1, Tryz.f113.results.toList⟩
theorem k33 : FnOK Tryz.prog G 113 e33 := fk cx t33 J33 (lp := P33) Tryz.func113 (by kernel_rfl) (by kernel_rfl) rfl (np' _ (by kernel_rfl) (nh' l33_0 nw')) fun x => by kernel_rfl
def I34 : Sp := ⟨[(0, oi64)], [], []⟩
def E34 : SL := [(.ret, ⟨[(2, ob)], [], []⟩)]
noncomputable def e34 : Fe G := ⟨I34, E34, fun x => ng2' x.1.1, Tryz.f131.results.toList⟩
theorem k34 : FnOK Tryz.prog G 131 e34 := fk cx tn (jl []) (lp := (pl [])) Tryz.func131 (by kernel_rfl) (by kernel_rfl) rfl (an0 (by kernel_rfl)) fun x => by kernel_rfl
def I35 : Sp := ⟨[(0, oi64), (1, oi64)], [], []⟩
def E35 : SL := [(.ret, ⟨[(4, oi64)], [], []⟩)]
noncomputable def e35 : Fe G := ⟨I35, E35, fun x => nc0' x.1.1 x.1.2.1, Tryz.f109.results.toList⟩
theorem k35 : FnOK Tryz.prog G 109 e35 := fk cx (tc k34 tn) (jl []) (lp := (pl [])) Tryz.func109 (by kernel_rfl) (by kernel_rfl) rfl (an0 (by kernel_rfl)) fun x => by kernel_rfl
def I36 : Sp := ⟨[(0, oro 3)], [], []⟩
def E36 : SL := [(.ret, ⟨[(2, oi64)], [], []⟩)]
def S36_0 : Sp := ⟨[(3, oi64), (6, oro 3), (7, oi64), (8, oi64)], [], []⟩
def X36_0 : SL := [(.exit 0, ⟨[(3, oi64)], [], []⟩), (.ret, ⟨[(2, oi64)], [], []⟩)]
def J36 : Nat → Option SL := jl []
noncomputable def P36 : Nat → St G → M (Ex × St G) := pl [lpX S36_0 X36_0 nhl']
theorem l36_0 : LoopOK Tryz.prog G 18 (P36 0) (nr' (ng' Tryz.f108) 0) := lk cx tn J36 1 S36_0 X36_0 (rfl : nhl' = _) (by kernel_rfl) (an0 (by kernel_rfl)) fun x => by kernel_rfl
noncomputable def e36 : Fe G := ⟨I36, E36, fun x => nhk' x.1.1, Tryz.f108.results.toList⟩
theorem k36 : FnOK Tryz.prog G 108 e36 := fk cx tn J36 (lp := P36) Tryz.func108 (by kernel_rfl) (by kernel_rfl) rfl (np' _ (by kernel_rfl) (nh' l36_0 nw')) fun x => by kernel_rfl
def I37 : Sp := ⟨[(0, .agg c'6), (1, .agg c'6)], [], []⟩
def E37 : SL := [(.ret, ⟨[(4, oi64)], [], []⟩)]
noncomputable def e37 : Fe G := ⟨I37, E37, fun x => ney' x.1.1.1 x.1.1.2.1 x.1.1.2.2.1 x.1.1.2.2.2.1 x.1.1.2.2.2.2.1 x.1.2.1.1 x.1.2.1.2.1 x.1.2.1.2.2.1 x.1.2.1.2.2.2.1 x.1.2.1.2.2.2.2.1, Tryz.f105.results.toList⟩
theorem k37 : FnOK Tryz.prog G 105 e37 := fk cx (tc k35 (tc k36 tn)) (jl []) (lp := (pl [])) Tryz.func105 (by kernel_rfl) (by kernel_rfl) rfl (an0 (by kernel_rfl)) fun x => by kernel_rfl
def I38 : Sp := ⟨[(0, oro 98), (1, .agg c'6), (2, .one (.clo 105 [] []))], [], []⟩
def E38 : SL := [(.ret, ⟨[(6, oi64), (7, ob)], [], []⟩)]
def S38_0 : Sp := ⟨[(0, oro 98), (2, .one (.clo 105 [] [])), (4, op 64), (8, oi64), (9, oi64), (10, oi64)], [(64, c'6)], []⟩
def X38_0 : SL := [(.exit 0, ⟨[(0, oro 98), (2, .one (.clo 105 [] [])), (4, op 64), (8, oi64), (9, oi64)], [(64, c'6)], []⟩)]
def J38 : Nat → Option SL := jl [(1048584, [(.normal, ⟨[(6, oi64), (7, ob)], [], []⟩)])]
noncomputable def P38 : Nat → St G → M (Ex × St G) := pl [lpX S38_0 X38_0 ns']
theorem t38 : ∀ p ∈ [(105, e37)], FnOK Tryz.prog G p.1 p.2 := (tc k37 tn)
theorem l38_0 : LoopOK Tryz.prog G 49 (P38 0) (nr' (ng' Tryz.f148) 0) := lk cx t38 J38 1 S38_0 X38_0 (rfl : ns' = _) (by kernel_rfl) (an0 (by kernel_rfl)) fun x => by kernel_rfl
noncomputable def e38 : Fe G := ⟨I38, E38, fun x => n5' x.1.1 x.1.2.1.1 x.1.2.1.2.1 x.1.2.1.2.2.1 x.1.2.1.2.2.2.1 x.1.2.1.2.2.2.2.1, Tryz.f148.results.toList⟩
theorem k38 : FnOK Tryz.prog G 148 e38 := fk cx t38 J38 (lp := P38) Tryz.func148 (by kernel_rfl) (by kernel_rfl) rfl (np' _ (by kernel_rfl) (nh' l38_0 nw')) fun x => by kernel_rfl
def I39 : Sp := ⟨[(0, .agg c'7), (1, oi64), (2, oi64)], [], []⟩
def E39 : SL := [(.ret, ⟨[(6, oi64), (7, ob)], [], []⟩)]
noncomputable def e39 : Fe G := ⟨I39, E39, fun x => nku' x.1.1.1 x.1.1.2.1 x.1.1.2.2.1 x.1.1.2.2.2.1 x.1.2.1 x.1.2.2.1, Tryz.f133.results.toList⟩
theorem k39 : FnOK Tryz.prog G 133 e39 := fk cx (tc k38 tn) (jl []) (lp := (pl [])) Tryz.func133 (by kernel_rfl) (by kernel_rfl) rfl (an0 (by kernel_rfl)) fun x => by kernel_rfl
def I40 : Sp := ⟨[(0, .one (.own 32768 98)), (1, oi64), (2, .one (.own 32769 98))], [], []⟩
def E40 : SL := [(.ret, ⟨[(6, .one (.own 32768 98))], [], []⟩)]
noncomputable def e40 : Fe G := ⟨I40, E40, fun x => ncp' x.1.1 x.1.2.1 x.1.2.2.1, Tryz.f134.results.toList⟩
theorem s40 : insFe G 6 98 = e40 := by kernel_rfl
theorem k40 : FnOK Tryz.prog G 134 e40 := s40 ▸ n1z' (r := 6) (t := 98) sigOK ⟨_, Tryz.func134, by kernel_rfl, by kernel_rfl⟩ (by intro h; cases h) (fun _ => rfl) (nqd')
def I41 : Sp := ⟨[(0, .one (.own 32768 98)), (1, oi64), (2, oi64)], [], []⟩
def E41 : SL := [(.ret, ⟨[(6, .one (.own 32768 98))], [], []⟩)]
noncomputable def e41 : Fe G := ⟨I41, E41, fun x => ncq' x.1.1 x.1.2.1 x.1.2.2.1, Tryz.f135.results.toList⟩
theorem s41 : delFe G 6 98 = e41 := by kernel_rfl
theorem k41 : FnOK Tryz.prog G 135 e41 := s41 ▸ n09' (r := 6) (t := 98) sigOK ⟨_, Tryz.func135, by kernel_rfl, by kernel_rfl⟩ (by intro h; cases h) (fun _ => rfl) (nqc')
def I42 : Sp := ⟨[(0, op 65536), (1, .agg c'5)], [(65536, c'4)], []⟩
def E42 : SL := [(.normal, ⟨[], [(65536, c'4)], [65536]⟩)]
noncomputable def e42 : Fe G := ⟨I42, E42, fun x => nje' x.1.2.1.1 x.1.2.1.2.1 x.1.2.1.2.2.1 x.1.2.1.2.2.2.1 x.1.2.1.2.2.2.2.1 x.2.1.1 x.2.1.2.1 x.2.1.2.2.1 x.2.1.2.2.2.1, Tryz.f115.results.toList⟩
theorem k42 : FnOK Tryz.prog G 115 e42 := fk cx (tc k39 (tc k40 (tc k41 tn))) (jl []) (lp := (pl [])) Tryz.func115 (by kernel_rfl) (by kernel_rfl) rfl (an0 (by kernel_rfl)) fun x => by kernel_rfl
def I43 : Sp := ⟨[(0, .agg c'2), (1, .agg c'13)], [], []⟩
def E43 : SL := [(.ret, ⟨[(4, op 64)], [(64, c'4)], []⟩)]
def S43_0 : Sp := ⟨[(4, op 64), (5, op 80), (19, .one (.own 32768 92)), (20, oi64), (21, oi64)], [(64, c'11), (80, c'12)], []⟩
def X43_0 : SL := [(.exit 0, ⟨[(4, op 64), (5, op 80)], [(64, c'4), (80, c'8)], []⟩)]
def J43 : Nat → Option SL := jl []
noncomputable def P43 : Nat → St G → M (Ex × St G) := pl [lpX S43_0 X43_0 nho']
theorem t43 : ∀ p ∈ [(112, e25), (114, e26), (113, e33), (115, e42)], FnOK Tryz.prog G p.1 p.2 := (tc k25 (tc k26 (tc k33 (tc k42 tn))))
theorem l43_0 : LoopOK Tryz.prog G 29 (P43 0) (nr' (ng' Tryz.f86) 0) := lk cx t43 J43 1 S43_0 X43_0 (rfl : nho' = _) (by kernel_rfl) (an0 (by kernel_rfl)) fun x => by kernel_rfl
noncomputable def e43 : Fe G := ⟨I43, E43, fun x => niy' x.1.1.1 x.1.1.2.1 x.1.1.2.2.1 x.1.1.2.2.2.1 x.1.1.2.2.2.2.1 x.1.1.2.2.2.2.2.1 x.1.1.2.2.2.2.2.2.1 x.1.1.2.2.2.2.2.2.2.1 x.1.2.1.1 x.1.2.1.2.1 x.1.2.1.2.2.1, Tryz.f86.results.toList⟩
theorem k43 : FnOK Tryz.prog G 86 e43 := fk cx t43 J43 (lp := P43) Tryz.func86 (by kernel_rfl) (by kernel_rfl) rfl (np' _ (by kernel_rfl) (nh' l43_0 nw')) fun x => by kernel_rfl
def I44 : Sp := ⟨[(0, oi64), (1, .agg c'13)], [], []⟩
def E44 : SL := [(.ret, ⟨[(4, ob)], [], []⟩)]
noncomputable def e44 : Fe G := ⟨I44, E44, fun x => nc5' x.1.1 x.1.2.1.1 x.1.2.1.2.1 x.1.2.1.2.2.1, Tryz.f30.results.toList⟩
theorem k44 : FnOK Tryz.prog G 30 e44 := fk cx tn (jl [(1048577, [(.normal, ⟨[(4, ob)], [], []⟩)])]) (lp := (pl [])) Tryz.func30 (by kernel_rfl) (by kernel_rfl) rfl (an0 (by kernel_rfl)) fun x => by kernel_rfl
def I45 : Sp := ⟨[(0, .agg c'2), (1, .agg c'6)], [], []⟩
def E45 : SL := [(.ret, ⟨[(4, ob)], [], []⟩)]
noncomputable def e45 : Fe G := ⟨I45, E45, fun x => nig' x.1.1.1 x.1.1.2.1 x.1.1.2.2.1 x.1.1.2.2.2.1 x.1.1.2.2.2.2.1 x.1.1.2.2.2.2.2.1 x.1.1.2.2.2.2.2.2.1 x.1.1.2.2.2.2.2.2.2.1 x.1.2.1.1 x.1.2.1.2.1 x.1.2.1.2.2.1 x.1.2.1.2.2.2.1 x.1.2.1.2.2.2.2.1, Tryz.f104.results.toList⟩
theorem k45 : FnOK Tryz.prog G 104 e45 := fk cx (tc k29 tn) (jl [(1048577, [(.normal, ⟨[(4, ob)], [], []⟩)])]) (lp := (pl [])) Tryz.func104 (by kernel_rfl) (by kernel_rfl) rfl (an0 (by kernel_rfl)) fun x => by kernel_rfl
def I46 : Sp := ⟨[(0, .agg c'2), (1, .agg c'7)], [], []⟩
def E46 : SL := [(.ret, ⟨[(4, ob)], [], []⟩)]
def S46_0 : Sp := ⟨[(2, op 32), (3, op 48), (38, oro 3), (39, oi64), (40, oi64)], [(32, c'2), (48, c'7)], []⟩
def X46_0 : SL := [(.exit 0, ⟨[(2, op 32), (3, op 48)], [(32, c'2), (48, c'7)], []⟩), (.ret, ⟨[(4, ob)], [], []⟩)]
def S46_1 : Sp := ⟨[(2, op 32), (3, op 48), (52, oro 98), (53, oi64), (54, oi64)], [(32, c'2), (48, c'7)], []⟩
def X46_1 : SL := [(.exit 2, ⟨[], [], []⟩), (.ret, ⟨[(4, ob)], [], []⟩)]
def J46 : Nat → Option SL := jl [(1048589, [(.normal, ⟨[(2, op 32), (3, op 48), (52, oro 98), (53, oi64), (54, oi64), (77, ob)], [(32, c'2), (48, c'7)], []⟩)])]
noncomputable def P46 : Nat → St G → M (Ex × St G) := pl [lpX S46_0 X46_0 ng3', lpX S46_1 X46_1 ng1']
theorem t46 : ∀ p ∈ [(53, e24), (104, e45), (105, e37)], FnOK Tryz.prog G p.1 p.2 := (tc k24 (tc k45 (tc k37 tn)))
theorem l46_1 : LoopOK Tryz.prog G 79 (P46 1) (nr' (ng' Tryz.f74) 1) := lk cx t46 J46 2 S46_1 X46_1 (rfl : ng1' = _) (by kernel_rfl) (an0 (by kernel_rfl)) fun x => by kernel_rfl
theorem l46_0 : LoopOK Tryz.prog G 79 (P46 0) (nr' (ng' Tryz.f74) 0) := lk cx t46 J46 1 S46_0 X46_0 (rfl : ng3' = _) (by kernel_rfl) (an0 (by kernel_rfl)) fun x => by kernel_rfl
noncomputable def e46 : Fe G := ⟨I46, E46, fun x => ne1' x.1.1.1 x.1.1.2.1 x.1.1.2.2.1 x.1.1.2.2.2.1 x.1.1.2.2.2.2.1 x.1.1.2.2.2.2.2.1 x.1.1.2.2.2.2.2.2.1 x.1.1.2.2.2.2.2.2.2.1 x.1.2.1.1 x.1.2.1.2.1 x.1.2.1.2.2.1 x.1.2.1.2.2.2.1, Tryz.f74.results.toList⟩
theorem k46 : FnOK Tryz.prog G 74 e46 := fk cx t46 J46 (lp := P46) Tryz.func74 (by kernel_rfl) (by kernel_rfl) rfl (np' _ (by kernel_rfl) (nh' l46_0 (nh' l46_1 nw'))) fun x => by kernel_rfl
def I47 : Sp := ⟨[(0, oi64), (1, oi64), (2, op 65536), (3, op 65537)], [(65536, [.own 32768 92]), (65537, [.int .i64])], []⟩
def E47 : SL := [(.normal, ⟨[], [(65536, [.own 32768 92]), (65537, [.int .i64])], [65536, 65537]⟩)]
noncomputable def e47 : Fe G := ⟨I47, E47, fun x => nen' x.1.1 x.1.2.1 x.2.1.1 x.2.2.1.1, Tryz.f136.results.toList⟩
theorem k47 : FnOK Tryz.prog G 136 e47 := fk cx tn (jl []) (lp := (pl [])) Tryz.func136 (by kernel_rfl) (by kernel_rfl) rfl (an0 (by kernel_rfl)) fun x => by kernel_rfl
def I48 : Sp := ⟨[(0, ob)], [], []⟩
def E48 : SL := [(.ret, ⟨[(2, oi64)], [], []⟩)]
noncomputable def e48 : Fe G := ⟨I48, E48, fun x => nfx' x.1.1, Tryz.f137.results.toList⟩
theorem k48 : FnOK Tryz.prog G 137 e48 := fk cx tn (jl []) (lp := (pl [])) Tryz.func137 (by kernel_rfl) (by kernel_rfl) rfl (an0 (by kernel_rfl)) fun x => by kernel_rfl
def I49 : Sp := ⟨[(0, oi64), (1, oi64), (2, oi64), (3, op 65536), (4, op 65537)], [(65536, [.own 32768 92]), (65537, c'6)], []⟩
def E49 : SL := [(.normal, ⟨[], [(65536, [.own 32768 92]), (65537, c'6)], [65536, 65537]⟩)]
noncomputable def e49 : Fe G := ⟨I49, E49, fun x => nep' x.1.1 x.1.2.1 x.1.2.2.1 x.2.1.1 x.2.2.1.1 x.2.2.1.2.1 x.2.2.1.2.2.1 x.2.2.1.2.2.2.1 x.2.2.1.2.2.2.2.1, Tryz.f138.results.toList⟩
theorem k49 : FnOK Tryz.prog G 138 e49 := fk cx tn (jl []) (lp := (pl [])) Tryz.func138 (by kernel_rfl) (by kernel_rfl) rfl (an0 (by kernel_rfl)) fun x => by kernel_rfl
def I50 : Sp := ⟨[(0, .agg c'2), (1, .agg c'7)], [], []⟩
def E50 : SL := [(.ret, ⟨[(4, .one (.own 32768 92))], [], []⟩)]
def S50_0 : Sp := ⟨[(3, op 48), (5, op 80), (17, oi64), (18, oi64)], [(48, c'7), (80, [.own 32768 92])], []⟩
def X50_0 : SL := [(.exit 0, ⟨[(3, op 48), (5, op 80)], [(48, c'7), (80, [.own 32768 92])], []⟩)]
def S50_1 : Sp := ⟨[(5, op 80), (47, oro 98), (48, oi64), (49, oi64)], [(80, [.own 32768 92])], []⟩
def X50_1 : SL := [(.exit 2, ⟨[(5, op 80)], [(80, [.own 32768 92])], []⟩)]
def J50 : Nat → Option SL := jl []
noncomputable def P50 : Nat → St G → M (Ex × St G) := pl [lpX S50_0 X50_0 ngm', lpX S50_1 X50_1 ngl']
theorem t50 : ∀ p ∈ [(74, e46), (136, e47), (137, e48), (138, e49)], FnOK Tryz.prog G p.1 p.2 := (tc k46 (tc k47 (tc k48 (tc k49 tn))))
theorem l50_1 : LoopOK Tryz.prog G 69 (P50 1) (nr' (ng' Tryz.f116) 1) := lk cx t50 J50 2 S50_1 X50_1 (rfl : ngl' = _) (by kernel_rfl) (an0 (by kernel_rfl)) fun x => by kernel_rfl
theorem l50_0 : LoopOK Tryz.prog G 69 (P50 0) (nr' (ng' Tryz.f116) 0) := lk cx t50 J50 1 S50_0 X50_0 (rfl : ngm' = _) (by kernel_rfl) (an0 (by kernel_rfl)) fun x => by kernel_rfl
noncomputable def e50 : Fe G := ⟨I50, E50, fun x => nht' x.1.1.1 x.1.1.2.1 x.1.1.2.2.1 x.1.1.2.2.2.1 x.1.1.2.2.2.2.1 x.1.1.2.2.2.2.2.1 x.1.1.2.2.2.2.2.2.1 x.1.1.2.2.2.2.2.2.2.1 x.1.2.1.1 x.1.2.1.2.1 x.1.2.1.2.2.1 x.1.2.1.2.2.2.1, Tryz.f116.results.toList⟩
theorem k50 : FnOK Tryz.prog G 116 e50 := fk cx t50 J50 (lp := P50) Tryz.func116 (by kernel_rfl) (by kernel_rfl) rfl (np' _ (by kernel_rfl) (nh' l50_0 (nh' l50_1 nw'))) fun x => by kernel_rfl
def I51 : Sp := ⟨[(0, .agg c'2), (1, .agg c'5)], [], []⟩
def E51 : SL := [(.ret, ⟨[(4, os), (5, oi64)], [], []⟩)]
noncomputable def e51 : Fe G := ⟨I51, E51, fun x => ng4' x.1.1.1 x.1.1.2.1 x.1.1.2.2.1 x.1.1.2.2.2.1 x.1.1.2.2.2.2.1 x.1.1.2.2.2.2.2.1 x.1.1.2.2.2.2.2.2.1 x.1.1.2.2.2.2.2.2.2.1 x.1.2.1.1 x.1.2.1.2.1 x.1.2.1.2.2.1 x.1.2.1.2.2.2.1 x.1.2.1.2.2.2.2.1, Tryz.f117.results.toList⟩
theorem k51 : FnOK Tryz.prog G 117 e51 := fk cx (tc k31 (tc k27 tn)) (jl []) (lp := (pl [])) Tryz.func117 (by kernel_rfl) (by kernel_rfl) rfl (an0 (by kernel_rfl)) fun x => by kernel_rfl
def I52 : Sp := ⟨[(0, op 65536), (1, os)], [(65536, c'14)], []⟩
def E52 : SL := [(.ret, ⟨[(4, oi64), (5, .one (.nili))], [(65536, c'14)], [65536]⟩)]
noncomputable def e52 : Fe G := ⟨I52, E52, fun x => ncy' x.1.2.1 x.2.1.2.1, Tryz.f118.results.toList⟩
theorem s52 : wsFe G 4 5 171 5 (fun b => (b.toNat : Int)) = e52 := by kernel_rfl
theorem k52 : FnOK Tryz.prog G 118 e52 := s52 ▸ n17' (tb := 171) (te := 5) sigOK ⟨_, Tryz.func118, by kernel_rfl, by kernel_rfl⟩ (by intro h; cases h) (fun _ => rfl) (by kernel_rfl) (r0 := 4) (r1 := 5) (by decide) (ofB := fun b => (b.toNat : Int)) (fun _ => rfl) (fun b w a0 v ha hb n xs ho hne s h => nwn' b w a0 v ha hb n xs ho hne s h)
def I53 : Sp := ⟨[(0, oi64), (1, .agg c'13), (2, oi64), (3, oi64)], [], []⟩
def E53 : SL := [(.ret, ⟨[(8, oi64)], [], []⟩)]
noncomputable def e53 : Fe G := ⟨I53, E53, fun x => new' x.1.1 x.1.2.1.1 x.1.2.1.2.1 x.1.2.1.2.2.1 x.1.2.2.1 x.1.2.2.2.1, Tryz.f144.results.toList⟩
theorem k53 : FnOK Tryz.prog G 144 e53 := fk cx (tc k44 tn) (jl [(1048579, [(.normal, ⟨[(3, oi64), (14, ob)], [], []⟩)])]) (lp := (pl [])) Tryz.func144 (by kernel_rfl) (by kernel_rfl) rfl (an0 (by kernel_rfl)) fun x => by kernel_rfl
def I54 : Sp := ⟨[(0, op 65536), (1, op 65537)], [(65536, c'13), (65537, [.int .i64])], []⟩
def E54 : SL := [(.normal, ⟨[], [(65536, c'13), (65537, [.int .i64])], [65536, 65537]⟩)]
noncomputable def e54 : Fe G := ⟨I54, E54, fun x => niz' x.2.1.1 x.2.1.2.1 x.2.1.2.2.1 x.2.2.1.1, Tryz.f143.results.toList⟩
theorem k54 : FnOK Tryz.prog G 143 e54 := fk cx tn (jl []) (lp := (pl [])) Tryz.func143 (by kernel_rfl) (by kernel_rfl) rfl (an0 (by kernel_rfl)) fun x => by kernel_rfl
def I55 : Sp := ⟨[(0, oi64), (1, .agg c'13), (2, oi64), (3, oi64), (4, .one (.clo 143 [] [(65536, 0)]))], [(65536, [.int .i64])], []⟩
def E55 : SL := [(.ret, ⟨[(10, op 160), (11, oi64), (12, oi64)], [(160, c'13), (65536, [.int .i64])], [65536]⟩)]
noncomputable def e55 : Fe G := ⟨I55, E55, fun x => nd9' x.1.1 x.1.2.1.1 x.1.2.1.2.1 x.1.2.1.2.2.1 x.1.2.2.1 x.1.2.2.2.1 x.2.1.1, Tryz.f142.results.toList⟩
theorem k55 : FnOK Tryz.prog G 142 e55 := fk cx (tc k53 (tc k54 tn)) (jl []) (lp := (pl [])) Tryz.func142 (by kernel_rfl) (by kernel_rfl) rfl (an0 (by kernel_rfl)) fun x => by kernel_rfl
def I56 : Sp := ⟨[(0, oi64), (1, .agg c'13), (2, oi64), (3, oi64)], [], []⟩
def E56 : SL := [(.ret, ⟨[(8, op 128), (9, oi64), (10, oi64)], [(128, c'13)], []⟩)]
noncomputable def e56 : Fe G := ⟨I56, E56, fun x => nif' x.1.1 x.1.2.1.1 x.1.2.1.2.1 x.1.2.1.2.2.1 x.1.2.2.1 x.1.2.2.2.1, Tryz.f119.results.toList⟩
theorem k56 : FnOK Tryz.prog G 119 e56 := fk cx (tc k55 tn) (jl []) (lp := (pl [])) Tryz.func119 (by kernel_rfl) (by kernel_rfl) rfl (an0 (by kernel_rfl)) fun x => by kernel_rfl
def I57 : Sp := ⟨[(0, op 65536)], [(65536, c'14)], []⟩
def E57 : SL := [(.ret, ⟨[(2, os)], [(65536, c'15)], [65536]⟩)]
noncomputable def e57 : Fe G := ⟨I57, E57, fun x => ndk' x.2.1.2.1, Tryz.f121.results.toList⟩
theorem s57 : stFe G 2 171 5 = e57 := by kernel_rfl
theorem k57 : FnOK Tryz.prog G 121 e57 := s57 ▸ n1l' (tb := 171) (te := 5) sigOK ⟨_, Tryz.func121, by kernel_rfl, by kernel_rfl⟩ (by intro h; cases h) (by kernel_rfl) (r0 := 2) (fun _ => rfl) (fun b w a0 g0 cap cur l h0 hb hg hn hc h63 hx => nwq' b w a0 g0 cap cur l h0 hb hg hn hc h63 hx)
def I58 : Sp := ⟨[(0, oi64), (1, .agg c'13), (2, oi64), (3, os), (4, oi64)], [], []⟩
def E58 : SL := [(.ret, ⟨[(10, op 160), (11, oi64), (12, oi64)], [(160, c'13)], []⟩)]
noncomputable def e58 : Fe G := ⟨I58, E58, fun x => nh3' x.1.1 x.1.2.1.1 x.1.2.1.2.1 x.1.2.1.2.2.1 x.1.2.2.1 x.1.2.2.2.1 x.1.2.2.2.2.1, Tryz.f120.results.toList⟩
theorem k58 : FnOK Tryz.prog G 120 e58 := fk cx (tc k53 tn) (jl []) (lp := (pl [])) Tryz.func120 (by kernel_rfl) (by kernel_rfl) rfl (an0 (by kernel_rfl)) fun x => by kernel_rfl
def I59 : Sp := ⟨[(0, op 65536), (1, op 65537)], [(65536, c'13), (65537, [.int .i64])], []⟩
def E59 : SL := [(.normal, ⟨[], [(65536, c'13), (65537, [.int .i64])], [65536, 65537]⟩)]
noncomputable def e59 : Fe G := ⟨I59, E59, fun x => nik' x.2.1.1 x.2.1.2.1 x.2.1.2.2.1 x.2.2.1.1, Tryz.f145.results.toList⟩
theorem k59 : FnOK Tryz.prog G 145 e59 := fk cx tn (jl []) (lp := (pl [])) Tryz.func145 (by kernel_rfl) (by kernel_rfl) rfl (an0 (by kernel_rfl)) fun x => by kernel_rfl
def I60 : Sp := ⟨[(0, oi64), (1, .agg c'13), (2, oi64), (3, oi64), (4, .one (.clo 145 [] [(65536, 0)]))], [(65536, [.int .i64])], []⟩
def E60 : SL := [(.ret, ⟨[(10, op 160), (11, oi64), (12, oi64)], [(160, c'13), (65536, [.int .i64])], [65536]⟩)]
noncomputable def e60 : Fe G := ⟨I60, E60, fun x => nd3' x.1.1 x.1.2.1.1 x.1.2.1.2.1 x.1.2.1.2.2.1 x.1.2.2.1 x.1.2.2.2.1 x.2.1.1, Tryz.f142.results.toList⟩
theorem k60 : FnOK Tryz.prog G 142 e60 := fk cx (tc k53 (tc k59 tn)) (jl []) (lp := (pl [])) Tryz.func142 (by kernel_rfl) (by kernel_rfl) rfl (an0 (by kernel_rfl)) fun x => by kernel_rfl
def I61 : Sp := ⟨[(0, oi64), (1, .agg c'13), (2, oi64), (3, oi64)], [], []⟩
def E61 : SL := [(.ret, ⟨[(8, op 128), (9, oi64), (10, oi64)], [(128, c'13)], []⟩)]
noncomputable def e61 : Fe G := ⟨I61, E61, fun x => nhp' x.1.1 x.1.2.1.1 x.1.2.1.2.1 x.1.2.1.2.2.1 x.1.2.2.1 x.1.2.2.2.1, Tryz.f122.results.toList⟩
theorem k61 : FnOK Tryz.prog G 122 e61 := fk cx (tc k60 tn) (jl []) (lp := (pl [])) Tryz.func122 (by kernel_rfl) (by kernel_rfl) rfl (an0 (by kernel_rfl)) fun x => by kernel_rfl
def I62 : Sp := ⟨[(0, .agg c'2), (1, .agg c'13), (2, .agg c'7), (3, oi64)], [], []⟩
def E62 : SL := [(.ret, ⟨[(8, op 128), (9, oi64), (10, oi64)], [(128, c'13)], []⟩)]
def S62_0 : Sp := ⟨[(3, oi64), (4, op 64), (5, op 80), (8, op 128), (11, op 176), (36, .one (.own 32768 92)), (37, oi64), (38, oi64)], [(64, c'2), (80, c'13), (128, c'13), (176, c'16)], []⟩
def X62_0 : SL := [(.exit 0, ⟨[(3, oi64), (4, op 64), (5, op 80), (8, op 128), (11, op 176)], [(64, c'2), (80, c'13), (128, c'13), (176, c'17)], []⟩)]
def J62 : Nat → Option SL := jl [(15, [(.normal, ⟨[(3, oi64), (4, op 64), (5, op 80), (8, op 128), (16, oi64), (17, oi64)], [(64, c'2), (80, c'13), (128, c'13)], []⟩)])]
noncomputable def P62 : Nat → St G → M (Ex × St G) := pl [lpX S62_0 X62_0 nha']
theorem t62 : ∀ p ∈ [(30, e44), (74, e46), (116, e50), (117, e51), (118, e52), (119, e56), (121, e57), (120, e58), (122, e61)], FnOK Tryz.prog G p.1 p.2 := (tc k44 (tc k46 (tc k50 (tc k51 (tc k52 (tc k56 (tc k57 (tc k58 (tc k61 tn)))))))))
theorem l62_0 : LoopOK Tryz.prog G 92 (P62 0) (nr' (ng' Tryz.f87) 0) := lk cx t62 J62 1 S62_0 X62_0 (rfl : nha' = _) (by kernel_rfl) (an0 (by kernel_rfl)) fun x => by kernel_rfl
noncomputable def e62 : Fe G := ⟨I62, E62, fun x => nih' x.1.1.1 x.1.1.2.1 x.1.1.2.2.1 x.1.1.2.2.2.1 x.1.1.2.2.2.2.1 x.1.1.2.2.2.2.2.1 x.1.1.2.2.2.2.2.2.1 x.1.1.2.2.2.2.2.2.2.1 x.1.2.1.1 x.1.2.1.2.1 x.1.2.1.2.2.1 x.1.2.2.1.1 x.1.2.2.1.2.1 x.1.2.2.1.2.2.1 x.1.2.2.1.2.2.2.1 x.1.2.2.2.1, Tryz.f87.results.toList⟩
theorem k62 : FnOK Tryz.prog G 87 e62 := fk cx t62 J62 (lp := P62) Tryz.func87 (by kernel_rfl) (by kernel_rfl) rfl (np' _ (by kernel_rfl) (nh' l62_0 nw')) fun x => by kernel_rfl
def I63 : Sp := ⟨[(0, .agg c'2), (1, .agg c'13), (2, oi64)], [], []⟩
def E63 : SL := [(.ret, ⟨[(6, op 96), (7, op 112), (8, oi64), (9, oi64)], [(96, c'13), (112, c'4)], []⟩)]
noncomputable def e63 : Fe G := ⟨I63, E63, fun x => nh9' x.1.1.1 x.1.1.2.1 x.1.1.2.2.1 x.1.1.2.2.2.1 x.1.1.2.2.2.2.1 x.1.1.2.2.2.2.2.1 x.1.1.2.2.2.2.2.2.1 x.1.1.2.2.2.2.2.2.2.1 x.1.2.1.1 x.1.2.1.2.1 x.1.2.1.2.2.1 x.1.2.2.1, Tryz.f51.results.toList⟩
theorem k63 : FnOK Tryz.prog G 51 e63 := fk cx (tc k43 (tc k62 tn)) (jl []) (lp := (pl [])) Tryz.func51 (by kernel_rfl) (by kernel_rfl) rfl (an0 (by kernel_rfl)) fun x => by kernel_rfl
def I64 : Sp := ⟨[(0, .agg c'2), (1, .agg c'7)], [], []⟩
def E64 : SL := [(.ret, ⟨[(4, ob)], [], []⟩)]
noncomputable def e64 : Fe G := ⟨I64, E64, fun x => neg' x.1.1.1 x.1.1.2.1 x.1.1.2.2.1 x.1.1.2.2.2.1 x.1.1.2.2.2.2.1 x.1.1.2.2.2.2.2.1 x.1.1.2.2.2.2.2.2.1 x.1.1.2.2.2.2.2.2.2.1 x.1.2.1.1 x.1.2.1.2.1 x.1.2.1.2.2.1 x.1.2.1.2.2.2.1, Tryz.f29.results.toList⟩
theorem k64 : FnOK Tryz.prog G 29 e64 := fk cx (tc k46 tn) (jl [(1048577, [(.normal, ⟨[(4, ob)], [], []⟩)])]) (lp := (pl [])) Tryz.func29 (by kernel_rfl) (by kernel_rfl) rfl (an0 (by kernel_rfl)) fun x => by kernel_rfl
def I65 : Sp := ⟨[(0, oro 3)], [], []⟩
def E65 : SL := [(.ret, ⟨[(2, .one (.own 32768 3))], [], []⟩)]
noncomputable def e65 : Fe G := ⟨I65, E65, fun x => nee' x.1.1, Tryz.f75.results.toList⟩
theorem s65 : cloFe G 2 3 = e65 := by kernel_rfl
theorem k65 : FnOK Tryz.prog G 75 e65 := s65 ▸ nr7' (r := 2) (t := 3) sigOK ⟨_, Tryz.func75, by kernel_rfl, by kernel_rfl⟩ (tS := 33) (size := 1) (bytes := Tryz.t3.bytes) (by kernel_rfl) (by kernel_rfl) (Nat.le_of_ble_eq_true (by kernel_rfl)) (fun w a n c news => nwi' _ rfl (by kernel_rfl) w a n c news) (nx5')
def I66 : Sp := ⟨[(0, oro 4)], [], []⟩
def E66 : SL := [(.ret, ⟨[(2, .one (.own 32768 4))], [], []⟩)]
noncomputable def e66 : Fe G := ⟨I66, E66, fun x => nc4' x.1.1, Tryz.f76.results.toList⟩
theorem s66 : cloFe G 2 4 = e66 := by kernel_rfl
theorem k66 : FnOK Tryz.prog G 76 e66 := s66 ▸ nr7' (r := 2) (t := 4) sigOK ⟨_, Tryz.func76, by kernel_rfl, by kernel_rfl⟩ (tS := 34) (size := 1) (bytes := Tryz.t4.bytes) (by kernel_rfl) (by kernel_rfl) (Nat.le_of_ble_eq_true (by kernel_rfl)) (fun w a n c news => nwy' _ rfl (by kernel_rfl) w a n c news) (nx1')
def I67 : Sp := ⟨[(0, oro 98)], [], []⟩
def E67 : SL := [(.ret, ⟨[(2, .one (.own 32768 98))], [], []⟩)]
noncomputable def e67 : Fe G := ⟨I67, E67, fun x => ncv' x.1.1, Tryz.f77.results.toList⟩
theorem s67 : cloFe G 2 98 = e67 := by kernel_rfl
theorem k67 : FnOK Tryz.prog G 77 e67 := s67 ▸ nr7' (r := 2) (t := 98) sigOK ⟨_, Tryz.func77, by kernel_rfl, by kernel_rfl⟩ (tS := 35) (size := 5) (bytes := Tryz.t98.bytes) (by kernel_rfl) (by kernel_rfl) (Nat.le_of_ble_eq_true (by kernel_rfl)) (fun w a n c news => nwu' _ rfl (by kernel_rfl) w a n c news) (nyb')
def I68 : Sp := ⟨[(0, .agg c'7)], [], []⟩
def E68 : SL := [(.ret, ⟨[(2, op 32)], [(32, c'4)], []⟩)]
noncomputable def e68 : Fe G := ⟨I68, E68, fun x => neo' x.1.1.1 x.1.1.2.1 x.1.1.2.2.1 x.1.1.2.2.2.1, Tryz.f31.results.toList⟩
theorem k68 : FnOK Tryz.prog G 31 e68 := fk cx (tc k65 (tc k66 (tc k67 tn))) (jl []) (lp := (pl [])) Tryz.func31 (by kernel_rfl) (by kernel_rfl) rfl (an0 (by kernel_rfl)) fun x => by kernel_rfl
def I69 : Sp := ⟨[], [], []⟩
def E69 : SL := [(.ret, ⟨[(0, op 0)], [(0, c'18)], []⟩)]
noncomputable def e69 : Fe G := ⟨I69, E69, fun _ => nf9', Tryz.f32.results.toList⟩
theorem k69 : FnOK Tryz.prog G 32 e69 := fk cx tn (jl []) (lp := (pl [])) Tryz.func32 (by kernel_rfl) (by kernel_rfl) rfl (an0 (by kernel_rfl)) fun x => by kernel_rfl
def I70 : Sp := ⟨[(0, .agg c'2), (1, .agg c'7), (2, .agg c'13)], [], []⟩
def E70 : SL := [(.ret, ⟨[(6, op 96), (7, oi64)], [(96, c'19)], []⟩)]
def S70_0 : Sp := ⟨[(3, op 48), (4, op 64), (6, op 96), (9, op 144), (42, oi64), (43, oi64)], [(48, c'2), (64, c'7), (96, c'19), (144, c'20)], []⟩
def X70_0 : SL := [(.exit 0, ⟨[(3, op 48), (4, op 64), (6, op 96), (9, op 144)], [(48, c'2), (64, c'7), (96, c'19), (144, c'20)], []⟩)]
def S70_1 : Sp := ⟨[(3, op 48), (6, op 96), (9, op 144), (53, oro 98), (54, oi64), (55, oi64)], [(48, c'2), (96, c'19), (144, c'20)], []⟩
def X70_1 : SL := [(.exit 2, ⟨[(6, op 96), (9, op 144)], [(96, c'19), (144, c'20)], []⟩)]
def J70 : Nat → Option SL := jl [(16, [(.normal, ⟨[(3, op 48), (6, op 96), (9, op 144), (12, oi64), (53, oro 98), (54, oi64), (55, oi64)], [(48, c'2), (96, c'19), (144, c'20)], []⟩)])]
noncomputable def P70 : Nat → St G → M (Ex × St G) := pl [lpX S70_0 X70_0 nec', lpX S70_1 X70_1 neb']
theorem t70 : ∀ p ∈ [(29, e64), (30, e44), (31, e68), (32, e69)], FnOK Tryz.prog G p.1 p.2 := (tc k64 (tc k44 (tc k68 (tc k69 tn))))
noncomputable def n3j' (_h_belief_New : (Unit × Unit) → Option ((Unit × Unit) × (T'42 × Unit))) (s53 : List (Entry)) (s54 s55 b_Floors b_Debounce b_Room b_Park : Int) (b_Empty b_Full b_Over : Nat) (b_Cars : List (Car)) (b6_Image_Phases : List (Int)) (b6_Image_Flags b6_Image_Leaving : List (Bool)) (b6_Image_Entries : List (Entry)) (b6_Store_Halves_0 b6_Store_Halves_1 : ByteArray) (b6_Store_Select : Int) (b6_Contacts : List (Debounced)) (b6_Beliefs : List (Belief)) (b6_Cars : List (NewCar)) (b6_Loads : List (Loaded)) (b6_Expect : List (Int)) (b6_Lit : List (Calls)) (b6_Tick b6_Faults b6_Refused : Int) (out_Image_Phases : List (Int)) (out_Image_Flags out_Image_Leaving : List (Bool)) (out_Image_Entries : List (Entry)) (out_Store_Halves_0 out_Store_Halves_1 : ByteArray) (out_Store_Select : Int) (out_Contacts : List (Debounced)) (out_Beliefs : List (Belief)) (out_Cars : List (NewCar)) (out_Loads : List (Loaded)) (out_Expect : List (Int)) (out_Lit : List (Calls)) (out_Tick out_Faults out_Refused : Int) : Option (Sum (T'47 × T'48) ((Unit × Unit × Unit) × (T'43 × T'43 × Unit))) :=
 bif (decide (s55 < s54)) then
 bif (inB s55 (List.length s53)) then
 let z0 : Entry := (List.getD s53 (Int.toNat s55) (Entry.mk (0 : Int) (0 : Int) (0 : Int) (0 : Int) false))
 Option.bind (bif (decide ((0 : Int) ≤ z0.Car)) then
 bif (inB z0.Car (List.length b_Cars)) then
 some (((), (), (), (List.getD b_Cars (Int.toNat z0.Car) (Car.mk (0 : Int) (0 : Int) (0 : Int) (0 : Int) (0 : Int) (0 : Int) (0 : Int) (0 : Int) (0 : Int))).Deadline, s53, s54, s55, ()), ((b_Floors, b_Debounce, b_Room, b_Park, b_Empty, b_Full, b_Over, b_Cars, ()), (b6_Image_Phases, b6_Image_Flags, b6_Image_Leaving, b6_Image_Entries, b6_Store_Halves_0, b6_Store_Halves_1, b6_Store_Select, b6_Contacts, b6_Beliefs, b6_Cars, b6_Loads, b6_Expect, b6_Lit, b6_Tick, b6_Faults, b6_Refused, ()), (out_Image_Phases, out_Image_Flags, out_Image_Leaving, out_Image_Entries, out_Store_Halves_0, out_Store_Halves_1, out_Store_Select, out_Contacts, out_Beliefs, out_Cars, out_Loads, out_Expect, out_Lit, out_Tick, out_Faults, out_Refused, ()), ()))
 else
 none
 else
 some (((), (), (), (0 : Int), s53, s54, s55, ()), ((b_Floors, b_Debounce, b_Room, b_Park, b_Empty, b_Full, b_Over, b_Cars, ()), (b6_Image_Phases, b6_Image_Flags, b6_Image_Leaving, b6_Image_Entries, b6_Store_Halves_0, b6_Store_Halves_1, b6_Store_Select, b6_Contacts, b6_Beliefs, b6_Cars, b6_Loads, b6_Expect, b6_Lit, b6_Tick, b6_Faults, b6_Refused, ()), (out_Image_Phases, out_Image_Flags, out_Image_Leaving, out_Image_Entries, out_Store_Halves_0, out_Store_Halves_1, out_Store_Select, out_Contacts, out_Beliefs, out_Cars, out_Loads, out_Expect, out_Lit, out_Tick, out_Faults, out_Refused, ()), ()))) fun y1 =>
 let z1 : List (Int) := [y1.1.2.2.2.1]
 bif (Nat.ble ((List.length y1.2.2.2.1.2.2.2.2.2.2.2.2.2.2.2.1) + (List.length z1)) 2147483648) then
 some (Sum.inl (((), (), (), y1.1.2.2.2.2.1, y1.1.2.2.2.2.2.1, (IntKind.i64.wrap (y1.1.2.2.2.2.2.2.1 + (1 : Int))), ()), (y1.2.1, y1.2.2.1, (y1.2.2.2.1.1, y1.2.2.2.1.2.1, y1.2.2.2.1.2.2.1, y1.2.2.2.1.2.2.2.1, y1.2.2.2.1.2.2.2.2.1, y1.2.2.2.1.2.2.2.2.2.1, y1.2.2.2.1.2.2.2.2.2.2.1, y1.2.2.2.1.2.2.2.2.2.2.2.1, y1.2.2.2.1.2.2.2.2.2.2.2.2.1, y1.2.2.2.1.2.2.2.2.2.2.2.2.2.1, y1.2.2.2.1.2.2.2.2.2.2.2.2.2.2.1, (y1.2.2.2.1.2.2.2.2.2.2.2.2.2.2.2.1 ++ z1), y1.2.2.2.1.2.2.2.2.2.2.2.2.2.2.2.2.1, y1.2.2.2.1.2.2.2.2.2.2.2.2.2.2.2.2.2.1, y1.2.2.2.1.2.2.2.2.2.2.2.2.2.2.2.2.2.2.1, y1.2.2.2.1.2.2.2.2.2.2.2.2.2.2.2.2.2.2.2.1, ()), ())))
 else
 none
 else
 none
 else
 some (Sum.inr (((), (), ()), ((b6_Image_Phases, b6_Image_Flags, b6_Image_Leaving, b6_Image_Entries, b6_Store_Halves_0, b6_Store_Halves_1, b6_Store_Select, b6_Contacts, b6_Beliefs, b6_Cars, b6_Loads, b6_Expect, b6_Lit, b6_Tick, b6_Faults, b6_Refused, ()), (out_Image_Phases, out_Image_Flags, out_Image_Leaving, out_Image_Entries, out_Store_Halves_0, out_Store_Halves_1, out_Store_Select, out_Contacts, out_Beliefs, out_Cars, out_Loads, out_Expect, out_Lit, out_Tick, out_Faults, out_Refused, ()), ())))
theorem g70_1 (h_belief_New : (Unit × Unit) → Option ((Unit × Unit) × (T'42 × Unit))) (x : S70_1.T G) : rndI (cfP [(29, e64), (30, e44), (31, e68), (32, Fe.mk (G := G) I69 E69 h_belief_New Tryz.f32.results.toList)]) P70 J70 77 2 (nr' (ng' Tryz.f11) 1) S70_1 X70_1 x = n3j' h_belief_New x.1.2.2.2.1 x.1.2.2.2.2.1 x.1.2.2.2.2.2.1 x.2.1.1 x.2.1.2.1 x.2.1.2.2.1 x.2.1.2.2.2.1 x.2.1.2.2.2.2.1 x.2.1.2.2.2.2.2.1 x.2.1.2.2.2.2.2.2.1 x.2.1.2.2.2.2.2.2.2.1 x.2.2.1.1 x.2.2.1.2.1 x.2.2.1.2.2.1 x.2.2.1.2.2.2.1 x.2.2.1.2.2.2.2.1 x.2.2.1.2.2.2.2.2.1 x.2.2.1.2.2.2.2.2.2.1 x.2.2.1.2.2.2.2.2.2.2.1 x.2.2.1.2.2.2.2.2.2.2.2.1 x.2.2.1.2.2.2.2.2.2.2.2.2.1 x.2.2.1.2.2.2.2.2.2.2.2.2.2.1 x.2.2.1.2.2.2.2.2.2.2.2.2.2.2.1 x.2.2.1.2.2.2.2.2.2.2.2.2.2.2.2.1 x.2.2.1.2.2.2.2.2.2.2.2.2.2.2.2.2.1 x.2.2.1.2.2.2.2.2.2.2.2.2.2.2.2.2.2.1 x.2.2.1.2.2.2.2.2.2.2.2.2.2.2.2.2.2.2.1 x.2.2.2.1.1 x.2.2.2.1.2.1 x.2.2.2.1.2.2.1 x.2.2.2.1.2.2.2.1 x.2.2.2.1.2.2.2.2.1 x.2.2.2.1.2.2.2.2.2.1 x.2.2.2.1.2.2.2.2.2.2.1 x.2.2.2.1.2.2.2.2.2.2.2.1 x.2.2.2.1.2.2.2.2.2.2.2.2.1 x.2.2.2.1.2.2.2.2.2.2.2.2.2.1 x.2.2.2.1.2.2.2.2.2.2.2.2.2.2.1 x.2.2.2.1.2.2.2.2.2.2.2.2.2.2.2.1 x.2.2.2.1.2.2.2.2.2.2.2.2.2.2.2.2.1 x.2.2.2.1.2.2.2.2.2.2.2.2.2.2.2.2.2.1 x.2.2.2.1.2.2.2.2.2.2.2.2.2.2.2.2.2.2.1 x.2.2.2.1.2.2.2.2.2.2.2.2.2.2.2.2.2.2.2.1 := by kernel_rfl
theorem l70_1 : LoopOK Tryz.prog G 77 (P70 1) (nr' (ng' Tryz.f11) 1) := lk cx t70 J70 2 S70_1 X70_1 (rfl : neb' = _) (by kernel_rfl) (an0 (by kernel_rfl)) fun x => (g70_1 (fun _ => nf9' ) x).trans (by kernel_rfl)
noncomputable def n3r' (h_belief_New : (Unit × Unit) → Option ((Unit × Unit) × (T'42 × Unit))) (s42 s43 b_Floors b_Debounce b_Room b_Park : Int) (b_Empty b_Full b_Over : Nat) (b_Cars : List (Car)) (m_Phases : List (Int)) (m_Flags m_Leaving : List (Bool)) (m_Entries : List (Entry)) (b6_Image_Phases : List (Int)) (b6_Image_Flags b6_Image_Leaving : List (Bool)) (b6_Image_Entries : List (Entry)) (b6_Store_Halves_0 b6_Store_Halves_1 : ByteArray) (b6_Store_Select : Int) (b6_Contacts : List (Debounced)) (b6_Beliefs : List (Belief)) (b6_Cars : List (NewCar)) (b6_Loads : List (Loaded)) (b6_Expect : List (Int)) (b6_Lit : List (Calls)) (b6_Tick b6_Faults b6_Refused : Int) (out_Image_Phases : List (Int)) (out_Image_Flags out_Image_Leaving : List (Bool)) (out_Image_Entries : List (Entry)) (out_Store_Halves_0 out_Store_Halves_1 : ByteArray) (out_Store_Select : Int) (out_Contacts : List (Debounced)) (out_Beliefs : List (Belief)) (out_Cars : List (NewCar)) (out_Loads : List (Loaded)) (out_Expect : List (Int)) (out_Lit : List (Calls)) (out_Tick out_Faults out_Refused : Int) : Option (Sum (T'44 × T'45) (T'46 × T'45)) :=
 bif (decide (s43 < s42)) then
 (h_belief_New ((), ())).bind fun y1 =>
 let z0 : List (Belief) := [(Belief.mk y1.2.1.1 y1.2.1.2.1 y1.2.1.2.2.1 y1.2.1.2.2.2.1 y1.2.1.2.2.2.2.1 y1.2.1.2.2.2.2.2.1)]
 bif (Nat.ble ((List.length out_Beliefs) + (List.length z0)) 2147483648) then
 some (Sum.inl (((), (), (), (), s42, (IntKind.i64.wrap (s43 + (1 : Int))), ()), ((b_Floors, b_Debounce, b_Room, b_Park, b_Empty, b_Full, b_Over, b_Cars, ()), (m_Phases, m_Flags, m_Leaving, m_Entries, ()), (b6_Image_Phases, b6_Image_Flags, b6_Image_Leaving, b6_Image_Entries, b6_Store_Halves_0, b6_Store_Halves_1, b6_Store_Select, b6_Contacts, b6_Beliefs, b6_Cars, b6_Loads, b6_Expect, b6_Lit, b6_Tick, b6_Faults, b6_Refused, ()), (out_Image_Phases, out_Image_Flags, out_Image_Leaving, out_Image_Entries, out_Store_Halves_0, out_Store_Halves_1, out_Store_Select, out_Contacts, (out_Beliefs ++ z0), out_Cars, out_Loads, out_Expect, out_Lit, out_Tick, out_Faults, out_Refused, ()), ())))
 else
 none
 else
 some (Sum.inr (((), (), (), (), ()), ((b_Floors, b_Debounce, b_Room, b_Park, b_Empty, b_Full, b_Over, b_Cars, ()), (m_Phases, m_Flags, m_Leaving, m_Entries, ()), (b6_Image_Phases, b6_Image_Flags, b6_Image_Leaving, b6_Image_Entries, b6_Store_Halves_0, b6_Store_Halves_1, b6_Store_Select, b6_Contacts, b6_Beliefs, b6_Cars, b6_Loads, b6_Expect, b6_Lit, b6_Tick, b6_Faults, b6_Refused, ()), (out_Image_Phases, out_Image_Flags, out_Image_Leaving, out_Image_Entries, out_Store_Halves_0, out_Store_Halves_1, out_Store_Select, out_Contacts, out_Beliefs, out_Cars, out_Loads, out_Expect, out_Lit, out_Tick, out_Faults, out_Refused, ()), ())))
theorem g70_0 (h_belief_New : (Unit × Unit) → Option ((Unit × Unit) × (T'42 × Unit))) (x : S70_0.T G) : rndI (cfP [(29, e64), (30, e44), (31, e68), (32, Fe.mk (G := G) I69 E69 h_belief_New Tryz.f32.results.toList)]) P70 J70 77 1 (nr' (ng' Tryz.f11) 0) S70_0 X70_0 x = n3r' h_belief_New x.1.2.2.2.2.1 x.1.2.2.2.2.2.1 x.2.1.1 x.2.1.2.1 x.2.1.2.2.1 x.2.1.2.2.2.1 x.2.1.2.2.2.2.1 x.2.1.2.2.2.2.2.1 x.2.1.2.2.2.2.2.2.1 x.2.1.2.2.2.2.2.2.2.1 x.2.2.1.1 x.2.2.1.2.1 x.2.2.1.2.2.1 x.2.2.1.2.2.2.1 x.2.2.2.1.1 x.2.2.2.1.2.1 x.2.2.2.1.2.2.1 x.2.2.2.1.2.2.2.1 x.2.2.2.1.2.2.2.2.1 x.2.2.2.1.2.2.2.2.2.1 x.2.2.2.1.2.2.2.2.2.2.1 x.2.2.2.1.2.2.2.2.2.2.2.1 x.2.2.2.1.2.2.2.2.2.2.2.2.1 x.2.2.2.1.2.2.2.2.2.2.2.2.2.1 x.2.2.2.1.2.2.2.2.2.2.2.2.2.2.1 x.2.2.2.1.2.2.2.2.2.2.2.2.2.2.2.1 x.2.2.2.1.2.2.2.2.2.2.2.2.2.2.2.2.1 x.2.2.2.1.2.2.2.2.2.2.2.2.2.2.2.2.2.1 x.2.2.2.1.2.2.2.2.2.2.2.2.2.2.2.2.2.2.1 x.2.2.2.1.2.2.2.2.2.2.2.2.2.2.2.2.2.2.2.1 x.2.2.2.2.1.1 x.2.2.2.2.1.2.1 x.2.2.2.2.1.2.2.1 x.2.2.2.2.1.2.2.2.1 x.2.2.2.2.1.2.2.2.2.1 x.2.2.2.2.1.2.2.2.2.2.1 x.2.2.2.2.1.2.2.2.2.2.2.1 x.2.2.2.2.1.2.2.2.2.2.2.2.1 x.2.2.2.2.1.2.2.2.2.2.2.2.2.1 x.2.2.2.2.1.2.2.2.2.2.2.2.2.2.1 x.2.2.2.2.1.2.2.2.2.2.2.2.2.2.2.1 x.2.2.2.2.1.2.2.2.2.2.2.2.2.2.2.2.1 x.2.2.2.2.1.2.2.2.2.2.2.2.2.2.2.2.2.1 x.2.2.2.2.1.2.2.2.2.2.2.2.2.2.2.2.2.2.1 x.2.2.2.2.1.2.2.2.2.2.2.2.2.2.2.2.2.2.2.1 x.2.2.2.2.1.2.2.2.2.2.2.2.2.2.2.2.2.2.2.2.1 := by kernel_rfl
theorem l70_0 : LoopOK Tryz.prog G 77 (P70 0) (nr' (ng' Tryz.f11) 0) := lk cx t70 J70 1 S70_0 X70_0 (rfl : nec' = _) (by kernel_rfl) (an0 (by kernel_rfl)) fun x => (g70_0 (fun _ => nf9' ) x).trans (by kernel_rfl)
noncomputable def H70 (_h_belief_New : (Unit × Unit) → Option ((Unit × Unit) × (T'42 × Unit))) (b_Floors b_Debounce b_Room b_Park : Int) (b_Empty b_Full b_Over : Nat) (b_Cars : List (Car)) (m_Phases : List (Int)) (m_Flags m_Leaving : List (Bool)) (m_Entries : List (Entry)) (s_Halves_0 s_Halves_1 : ByteArray) (s_Select : Int) : Option ((Unit × Int × Unit) × (T'43 × Unit)) :=
 (neg' b_Floors b_Debounce b_Room b_Park b_Empty b_Full b_Over b_Cars m_Phases m_Flags m_Leaving m_Entries).bind fun y1 =>
 bif (!y1.1.1) then
 some (((), (1 : Int), ()), ((([] : List (Int)), ([] : List (Bool)), ([] : List (Bool)), ([] : List (Entry)), (ByteArray.mk (Array.mk [])), (ByteArray.mk (Array.mk [])), (0 : Int), ([] : List (Debounced)), ([] : List (Belief)), ([] : List (NewCar)), ([] : List (Loaded)), ([] : List (Int)), ([] : List (Calls)), (0 : Int), (0 : Int), (0 : Int), ()), ()))
 else
 (nc5' b_Room s_Halves_0 s_Halves_1 s_Select).bind fun y2 =>
 bif (!y2.1.1) then
 some (((), (1 : Int), ()), ((([] : List (Int)), ([] : List (Bool)), ([] : List (Bool)), ([] : List (Entry)), (ByteArray.mk (Array.mk [])), (ByteArray.mk (Array.mk [])), (0 : Int), ([] : List (Debounced)), ([] : List (Belief)), ([] : List (NewCar)), ([] : List (Loaded)), ([] : List (Int)), ([] : List (Calls)), (0 : Int), (0 : Int), (0 : Int), ()), ()))
 else
 let z0 : Int := ((List.length b_Cars : Nat) : Int)
 (neo' m_Phases m_Flags m_Leaving m_Entries).bind fun y3 =>
 bif (((decide ((0 : Int) ≤ z0)) && (decide (z0 ≤ z0))) && (decide (z0 ≤ (2147483648 : Int)))) then
 bif (((decide ((0 : Int) ≤ z0)) && (decide (z0 ≤ z0))) && (decide (z0 ≤ (2147483648 : Int)))) then
 bif (((decide ((0 : Int) ≤ z0)) && (decide (z0 ≤ z0))) && (decide (z0 ≤ (2147483648 : Int)))) then
 bif (((decide ((0 : Int) ≤ z0)) && (decide (z0 ≤ z0))) && (decide (z0 ≤ (2147483648 : Int)))) then
 (nec' (((), (), (), (), ((List.length b_Cars : Nat) : Int), (0 : Int), ()), ((b_Floors, b_Debounce, b_Room, b_Park, b_Empty, b_Full, b_Over, b_Cars, ()), (m_Phases, m_Flags, m_Leaving, m_Entries, ()), (([] : List (Int)), ([] : List (Bool)), ([] : List (Bool)), ([] : List (Entry)), (ByteArray.mk (Array.mk [])), (ByteArray.mk (Array.mk [])), (0 : Int), ([] : List (Debounced)), ([] : List (Belief)), ([] : List (NewCar)), ([] : List (Loaded)), ([] : List (Int)), ([] : List (Calls)), (0 : Int), (0 : Int), (0 : Int), ()), (y3.2.1.1, y3.2.1.2.1, y3.2.1.2.2.1, y3.2.1.2.2.2.1, s_Halves_0, s_Halves_1, s_Select, (List.replicate (Int.toNat z0) (Debounced.mk (0 : Int) false false false false (0 : Int) (0 : Int) (0 : Int) (0 : Int) (0 : Int) (0 : Int) (0 : Int) (0 : Int) (0 : Int) (0 : Int) (0 : Int) (0 : Int) (0 : Int) (0 : Int) (0 : Int) (0 : Int) (0 : Int) (0 : Int) (0 : Int) (0 : Int) (0 : Int) (0 : Int) (0 : Int) (0 : Int) (0 : Int) (0 : Int) (0 : Int) (0 : Int) (0 : Int) (0 : Int) (0 : Int) (0 : Int) (0 : Int) (0 : Int) (0 : Int) (0 : Int))), ([] : List (Belief)), (List.replicate (Int.toNat z0) (NewCar.mk (0 : Int) (0 : Int) (0 : Int) (0 : Int) (0 : Int) false (0 : Int) (0 : Int) (0 : Int) (0 : Int) (0 : Int) (0 : Int) (0 : Int) false)), (List.replicate (Int.toNat z0) (Loaded.mk (0 : Int))), ([] : List (Int)), (List.replicate (Int.toNat z0) (Calls.mk (0 : Int) (0 : Int))), (0 : Int), (0 : Int), (0 : Int), ()), ()))).bind fun y4 =>
 (neb' (((), (), (), y4.2.2.1.2.2.2.1, ((List.length y4.2.2.1.2.2.2.1 : Nat) : Int), (0 : Int), ()), (y4.2.1, y4.2.2.2.1, y4.2.2.2.2.1, ()))).bind fun y5 =>
 some (((), (0 : Int), ()), (y5.2.2.1, ()))
 else
 none
 else
 none
 else
 none
 else
 none
theorem q70 (h_belief_New : (Unit × Unit) → Option ((Unit × Unit) × (T'42 × Unit))) (x : I70.T G) : endI (cfP [(29, e64), (30, e44), (31, e68), (32, Fe.mk (G := G) I69 E69 h_belief_New Tryz.f32.results.toList)]) P70 J70 77 (ng' Tryz.f11) I70 E70 x = H70 h_belief_New x.1.1.1 x.1.1.2.1 x.1.1.2.2.1 x.1.1.2.2.2.1 x.1.1.2.2.2.2.1 x.1.1.2.2.2.2.2.1 x.1.1.2.2.2.2.2.2.1 x.1.1.2.2.2.2.2.2.2.1 x.1.2.1.1 x.1.2.1.2.1 x.1.2.1.2.2.1 x.1.2.1.2.2.2.1 x.1.2.2.1.1 x.1.2.2.1.2.1 x.1.2.2.1.2.2.1 := by kernel_rfl
noncomputable def e70 : Fe G := ⟨I70, E70, fun x => ng8' x.1.1.1 x.1.1.2.1 x.1.1.2.2.1 x.1.1.2.2.2.1 x.1.1.2.2.2.2.1 x.1.1.2.2.2.2.2.1 x.1.1.2.2.2.2.2.2.1 x.1.1.2.2.2.2.2.2.2.1 x.1.2.1.1 x.1.2.1.2.1 x.1.2.1.2.2.1 x.1.2.1.2.2.2.1 x.1.2.2.1.1 x.1.2.2.1.2.1 x.1.2.2.1.2.2.1, Tryz.f11.results.toList⟩
theorem k70 : FnOK Tryz.prog G 11 e70 := fk cx t70 J70 (lp := P70) Tryz.func11 (by kernel_rfl) (by kernel_rfl) rfl (np' _ (by kernel_rfl) (nh' l70_0 (nh' l70_1 nw'))) fun x => (q70 (fun _ => nf9' ) x).trans (by kernel_rfl)
def I71 : Sp := ⟨[(0, .agg c'2), (1, .agg c'13), (2, oi64)], [], []⟩
def E71 : SL := [(.ret, ⟨[(6, op 96), (7, oi64), (8, oi64)], [(96, c'19)], []⟩)]
noncomputable def e71 : Fe G := ⟨I71, E71, fun x => ncd' x.1.1.1 x.1.1.2.1 x.1.1.2.2.1 x.1.1.2.2.2.1 x.1.1.2.2.2.2.1 x.1.1.2.2.2.2.2.1 x.1.1.2.2.2.2.2.2.1 x.1.1.2.2.2.2.2.2.2.1 x.1.2.1.1 x.1.2.1.2.1 x.1.2.1.2.2.1 x.1.2.2.1, Tryz.f15.results.toList⟩
theorem k71 : FnOK Tryz.prog G 15 e71 := fk cx (tc k63 (tc k70 tn)) (jl [(2097156, [(.normal, ⟨[(3, op 48), (4, op 64), (6, op 96), (9, op 144), (10, oi64)], [(48, c'2), (64, c'13), (96, c'19), (144, c'7)], []⟩)])]) (lp := (pl [])) Tryz.func15 (by kernel_rfl) (by kernel_rfl) rfl (an0 (by kernel_rfl)) fun x => by kernel_rfl
def I72 : Sp := ⟨[(0, .agg c'2)], [], []⟩
def E72 : SL := [(.ret, ⟨[(2, op 32), (3, oi64)], [(32, c'19)], []⟩)]
noncomputable def e72 : Fe G := ⟨I72, E72, fun x => ne5' x.1.1.1 x.1.1.2.1 x.1.1.2.2.1 x.1.1.2.2.2.1 x.1.1.2.2.2.2.1 x.1.1.2.2.2.2.2.1 x.1.1.2.2.2.2.2.2.1 x.1.1.2.2.2.2.2.2.2.1, Tryz.f17.results.toList⟩
theorem k72 : FnOK Tryz.prog G 17 e72 := fk cx (tc k24 (tc k71 tn)) (jl []) (lp := (pl [])) Tryz.func17 (by kernel_rfl) (by kernel_rfl) rfl (an0 (by kernel_rfl)) fun x => by kernel_rfl
def I73 : Sp := ⟨[(0, oro 78), (1, oro 78)], [], []⟩
def E73 : SL := [(.ret, ⟨[(4, ob)], [], []⟩)]
def S73_0 : Sp := ⟨[(0, oro 78), (1, oro 78), (12, oi64), (13, oi64)], [], []⟩
def X73_0 : SL := [(.exit 0, ⟨[], [], []⟩), (.ret, ⟨[(4, ob)], [], []⟩)]
def J73 : Nat → Option SL := jl []
noncomputable def P73 : Nat → St G → M (Ex × St G) := pl [lpX S73_0 X73_0 nbm']
theorem l73_0 : LoopOK Tryz.prog G 26 (P73 0) (nr' (ng' Tryz.f60) 0) := lk cx tn J73 1 S73_0 X73_0 (rfl : nbm' = _) (by kernel_rfl) (an0 (by kernel_rfl)) fun x => by kernel_rfl
noncomputable def e73 : Fe G := ⟨I73, E73, fun x => nbn' x.1.1 x.1.2.1, Tryz.f60.results.toList⟩
theorem k73 : FnOK Tryz.prog G 60 e73 := fk cx tn J73 (lp := P73) Tryz.func60 (by kernel_rfl) (by kernel_rfl) rfl (np' _ (by kernel_rfl) (nh' l73_0 nw')) fun x => by kernel_rfl
def I74 : Sp := ⟨[(0, oro 137), (1, oro 137)], [], []⟩
def E74 : SL := [(.ret, ⟨[(4, ob)], [], []⟩)]
def S74_0 : Sp := ⟨[(0, oro 137), (1, oro 137), (12, oi64), (13, oi64)], [], []⟩
def X74_0 : SL := [(.exit 0, ⟨[], [], []⟩), (.ret, ⟨[(4, ob)], [], []⟩)]
def J74 : Nat → Option SL := jl []
noncomputable def P74 : Nat → St G → M (Ex × St G) := pl [lpX S74_0 X74_0 nb9']
theorem l74_0 : LoopOK Tryz.prog G 26 (P74 0) (nr' (ng' Tryz.f100) 0) := lk cx tn J74 1 S74_0 X74_0 (rfl : nb9' = _) (by kernel_rfl) (an0 (by kernel_rfl)) fun x => by kernel_rfl
noncomputable def e74 : Fe G := ⟨I74, E74, fun x => nch' x.1.1 x.1.2.1, Tryz.f100.results.toList⟩
theorem k74 : FnOK Tryz.prog G 100 e74 := fk cx tn J74 (lp := P74) Tryz.func100 (by kernel_rfl) (by kernel_rfl) rfl (np' _ (by kernel_rfl) (nh' l74_0 nw')) fun x => by kernel_rfl
def I75 : Sp := ⟨[(0, .agg c'21), (1, .agg c'21)], [], []⟩
def E75 : SL := [(.ret, ⟨[(4, ob)], [], []⟩)]
noncomputable def e75 : Fe G := ⟨I75, E75, fun x => nh4' x.1.1.1 x.1.1.2.1 x.1.1.2.2.1 x.1.1.2.2.2.1 x.1.1.2.2.2.2.1 x.1.1.2.2.2.2.2.1 x.1.2.1.1 x.1.2.1.2.1 x.1.2.1.2.2.1 x.1.2.1.2.2.2.1 x.1.2.1.2.2.2.2.1 x.1.2.1.2.2.2.2.2.1, Tryz.f62.results.toList⟩
theorem k75 : FnOK Tryz.prog G 62 e75 := fk cx (tc k74 tn) (jl [(1048577, [(.normal, ⟨[(4, ob)], [], []⟩)])]) (lp := (pl [])) Tryz.func62 (by kernel_rfl) (by kernel_rfl) rfl (an0 (by kernel_rfl)) fun x => by kernel_rfl
def I76 : Sp := ⟨[(0, oro 62), (1, oro 62), (2, .one (.clo 62 [] []))], [], []⟩
def E76 : SL := [(.ret, ⟨[(6, ob)], [], []⟩)]
def S76_0 : Sp := ⟨[(1, oro 62), (2, .one (.clo 62 [] [])), (15, oro 62), (16, oi64), (17, oi64)], [], []⟩
def X76_0 : SL := [(.exit 0, ⟨[], [], []⟩), (.ret, ⟨[(6, ob)], [], []⟩)]
def J76 : Nat → Option SL := jl []
noncomputable def P76 : Nat → St G → M (Ex × St G) := pl [lpX S76_0 X76_0 ni']
theorem t76 : ∀ p ∈ [(62, e75)], FnOK Tryz.prog G p.1 p.2 := (tc k75 tn)
theorem l76_0 : LoopOK Tryz.prog G 32 (P76 0) (nr' (ng' Tryz.f61) 0) := lk cx t76 J76 1 S76_0 X76_0 (rfl : ni' = _) (by kernel_rfl) (an0 (by kernel_rfl)) fun x => by kernel_rfl
noncomputable def e76 : Fe G := ⟨I76, E76, fun x => nj' x.1.1 x.1.2.1, Tryz.f61.results.toList⟩
theorem k76 : FnOK Tryz.prog G 61 e76 := fk cx t76 J76 (lp := P76) Tryz.func61 (by kernel_rfl) (by kernel_rfl) rfl (np' _ (by kernel_rfl) (nh' l76_0 nw')) fun x => by kernel_rfl
def I77 : Sp := ⟨[(0, oro 71), (1, oro 71)], [], []⟩
def E77 : SL := [(.ret, ⟨[(4, ob)], [], []⟩)]
def S77_0 : Sp := ⟨[(0, oro 71), (1, oro 71), (12, oi64), (13, oi64)], [], []⟩
def X77_0 : SL := [(.exit 0, ⟨[], [], []⟩), (.ret, ⟨[(4, ob)], [], []⟩)]
def J77 : Nat → Option SL := jl []
noncomputable def P77 : Nat → St G → M (Ex × St G) := pl [lpX S77_0 X77_0 nbu']
theorem l77_0 : LoopOK Tryz.prog G 26 (P77 0) (nr' (ng' Tryz.f63) 0) := lk cx tn J77 1 S77_0 X77_0 (rfl : nbu' = _) (by kernel_rfl) (an0 (by kernel_rfl)) fun x => by kernel_rfl
noncomputable def e77 : Fe G := ⟨I77, E77, fun x => nb1' x.1.1 x.1.2.1, Tryz.f63.results.toList⟩
theorem k77 : FnOK Tryz.prog G 63 e77 := fk cx tn J77 (lp := P77) Tryz.func63 (by kernel_rfl) (by kernel_rfl) rfl (np' _ (by kernel_rfl) (nh' l77_0 nw')) fun x => by kernel_rfl
def I78 : Sp := ⟨[(0, oro 80), (1, oro 80)], [], []⟩
def E78 : SL := [(.ret, ⟨[(4, ob)], [], []⟩)]
def S78_0 : Sp := ⟨[(0, oro 80), (1, oro 80), (12, oi64), (13, oi64)], [], []⟩
def X78_0 : SL := [(.exit 0, ⟨[], [], []⟩), (.ret, ⟨[(4, ob)], [], []⟩)]
def J78 : Nat → Option SL := jl []
noncomputable def P78 : Nat → St G → M (Ex × St G) := pl [lpX S78_0 X78_0 nbt']
theorem l78_0 : LoopOK Tryz.prog G 26 (P78 0) (nr' (ng' Tryz.f64) 0) := lk cx tn J78 1 S78_0 X78_0 (rfl : nbt' = _) (by kernel_rfl) (an0 (by kernel_rfl)) fun x => by kernel_rfl
noncomputable def e78 : Fe G := ⟨I78, E78, fun x => nb2' x.1.1 x.1.2.1, Tryz.f64.results.toList⟩
theorem k78 : FnOK Tryz.prog G 64 e78 := fk cx tn J78 (lp := P78) Tryz.func64 (by kernel_rfl) (by kernel_rfl) rfl (np' _ (by kernel_rfl) (nh' l78_0 nw')) fun x => by kernel_rfl
def I79 : Sp := ⟨[(0, oro 82), (1, oro 82)], [], []⟩
def E79 : SL := [(.ret, ⟨[(4, ob)], [], []⟩)]
def S79_0 : Sp := ⟨[(0, oro 82), (1, oro 82), (12, oi64), (13, oi64)], [], []⟩
def X79_0 : SL := [(.exit 0, ⟨[], [], []⟩), (.ret, ⟨[(4, ob)], [], []⟩)]
def J79 : Nat → Option SL := jl []
noncomputable def P79 : Nat → St G → M (Ex × St G) := pl [lpX S79_0 X79_0 nb3']
theorem l79_0 : LoopOK Tryz.prog G 26 (P79 0) (nr' (ng' Tryz.f65) 0) := lk cx tn J79 1 S79_0 X79_0 (rfl : nb3' = _) (by kernel_rfl) (an0 (by kernel_rfl)) fun x => by kernel_rfl
noncomputable def e79 : Fe G := ⟨I79, E79, fun x => nb8' x.1.1 x.1.2.1, Tryz.f65.results.toList⟩
theorem k79 : FnOK Tryz.prog G 65 e79 := fk cx tn J79 (lp := P79) Tryz.func65 (by kernel_rfl) (by kernel_rfl) rfl (np' _ (by kernel_rfl) (nh' l79_0 nw')) fun x => by kernel_rfl
def I80 : Sp := ⟨[(0, oro 3), (1, oro 3)], [], []⟩
def E80 : SL := [(.ret, ⟨[(4, ob)], [], []⟩)]
def S80_0 : Sp := ⟨[(0, oro 3), (1, oro 3), (12, oi64), (13, oi64)], [], []⟩
def X80_0 : SL := [(.exit 0, ⟨[], [], []⟩), (.ret, ⟨[(4, ob)], [], []⟩)]
def J80 : Nat → Option SL := jl []
noncomputable def P80 : Nat → St G → M (Ex × St G) := pl [lpX S80_0 X80_0 nc1']
theorem l80_0 : LoopOK Tryz.prog G 26 (P80 0) (nr' (ng' Tryz.f67) 0) := lk cx tn J80 1 S80_0 X80_0 (rfl : nc1' = _) (by kernel_rfl) (an0 (by kernel_rfl)) fun x => by kernel_rfl
noncomputable def e80 : Fe G := ⟨I80, E80, fun x => nct' x.1.1 x.1.2.1, Tryz.f67.results.toList⟩
theorem k80 : FnOK Tryz.prog G 67 e80 := fk cx tn J80 (lp := P80) Tryz.func67 (by kernel_rfl) (by kernel_rfl) rfl (np' _ (by kernel_rfl) (nh' l80_0 nw')) fun x => by kernel_rfl
def I81 : Sp := ⟨[(0, oro 4), (1, oro 4)], [], []⟩
def E81 : SL := [(.ret, ⟨[(4, ob)], [], []⟩)]
def S81_0 : Sp := ⟨[(0, oro 4), (1, oro 4), (12, oi64), (13, oi64)], [], []⟩
def X81_0 : SL := [(.exit 0, ⟨[], [], []⟩), (.ret, ⟨[(4, ob)], [], []⟩)]
def J81 : Nat → Option SL := jl []
noncomputable def P81 : Nat → St G → M (Ex × St G) := pl [lpX S81_0 X81_0 ncx']
theorem l81_0 : LoopOK Tryz.prog G 26 (P81 0) (nr' (ng' Tryz.f101) 0) := lk cx tn J81 1 S81_0 X81_0 (rfl : ncx' = _) (by kernel_rfl) (an0 (by kernel_rfl)) fun x => by kernel_rfl
noncomputable def e81 : Fe G := ⟨I81, E81, fun x => ncm' x.1.1 x.1.2.1, Tryz.f101.results.toList⟩
theorem k81 : FnOK Tryz.prog G 101 e81 := fk cx tn J81 (lp := P81) Tryz.func101 (by kernel_rfl) (by kernel_rfl) rfl (np' _ (by kernel_rfl) (nh' l81_0 nw')) fun x => by kernel_rfl
def I82 : Sp := ⟨[(0, oro 98), (1, oro 98)], [], []⟩
def E82 : SL := [(.ret, ⟨[(4, ob)], [], []⟩)]
def S82_0 : Sp := ⟨[(0, oro 98), (1, oro 98), (12, oi64), (13, oi64)], [], []⟩
def X82_0 : SL := [(.exit 0, ⟨[], [], []⟩), (.ret, ⟨[(4, ob)], [], []⟩)]
def J82 : Nat → Option SL := jl []
noncomputable def P82 : Nat → St G → M (Ex × St G) := pl [lpX S82_0 X82_0 nb0']
theorem l82_0 : LoopOK Tryz.prog G 26 (P82 0) (nr' (ng' Tryz.f102) 0) := lk cx tn J82 1 S82_0 X82_0 (rfl : nb0' = _) (by kernel_rfl) (an0 (by kernel_rfl)) fun x => by kernel_rfl
noncomputable def e82 : Fe G := ⟨I82, E82, fun x => nca' x.1.1 x.1.2.1, Tryz.f102.results.toList⟩
theorem k82 : FnOK Tryz.prog G 102 e82 := fk cx tn J82 (lp := P82) Tryz.func102 (by kernel_rfl) (by kernel_rfl) rfl (np' _ (by kernel_rfl) (nh' l82_0 nw')) fun x => by kernel_rfl
def I83 : Sp := ⟨[(0, .agg c'7), (1, .agg c'7)], [], []⟩
def E83 : SL := [(.ret, ⟨[(4, ob)], [], []⟩)]
noncomputable def e83 : Fe G := ⟨I83, E83, fun x => nkr' x.1.1.1 x.1.1.2.1 x.1.1.2.2.1 x.1.1.2.2.2.1 x.1.2.1.1 x.1.2.1.2.1 x.1.2.1.2.2.1 x.1.2.1.2.2.2.1, Tryz.f66.results.toList⟩
theorem k83 : FnOK Tryz.prog G 66 e83 := fk cx (tc k80 (tc k81 (tc k82 tn))) (jl [(1048577, [(.normal, ⟨[(4, ob)], [], []⟩)])]) (lp := (pl [])) Tryz.func66 (by kernel_rfl) (by kernel_rfl) rfl (an0 (by kernel_rfl)) fun x => by kernel_rfl
def I84 : Sp := ⟨[(0, .agg c'22), (1, .agg c'22)], [], []⟩
def E84 : SL := [(.ret, ⟨[(4, ob)], [], []⟩)]
noncomputable def e84 : Fe G := ⟨I84, E84, fun x => nfq' x.1.1.1 x.1.1.2.1 x.1.1.2.2.1 x.1.1.2.2.2.1 x.1.1.2.2.2.2.1 x.1.1.2.2.2.2.2.1 x.1.1.2.2.2.2.2.2.1 x.1.1.2.2.2.2.2.2.2.1 x.1.1.2.2.2.2.2.2.2.2.1 x.1.1.2.2.2.2.2.2.2.2.2.1 x.1.1.2.2.2.2.2.2.2.2.2.2.1 x.1.1.2.2.2.2.2.2.2.2.2.2.2.1 x.1.1.2.2.2.2.2.2.2.2.2.2.2.2.1 x.1.1.2.2.2.2.2.2.2.2.2.2.2.2.2.1 x.1.1.2.2.2.2.2.2.2.2.2.2.2.2.2.2.1 x.1.1.2.2.2.2.2.2.2.2.2.2.2.2.2.2.2.1 x.1.2.1.1 x.1.2.1.2.1 x.1.2.1.2.2.1 x.1.2.1.2.2.2.1 x.1.2.1.2.2.2.2.1 x.1.2.1.2.2.2.2.2.1 x.1.2.1.2.2.2.2.2.2.1 x.1.2.1.2.2.2.2.2.2.2.1 x.1.2.1.2.2.2.2.2.2.2.2.1 x.1.2.1.2.2.2.2.2.2.2.2.2.1 x.1.2.1.2.2.2.2.2.2.2.2.2.2.1 x.1.2.1.2.2.2.2.2.2.2.2.2.2.2.1 x.1.2.1.2.2.2.2.2.2.2.2.2.2.2.2.1 x.1.2.1.2.2.2.2.2.2.2.2.2.2.2.2.2.1 x.1.2.1.2.2.2.2.2.2.2.2.2.2.2.2.2.2.1 x.1.2.1.2.2.2.2.2.2.2.2.2.2.2.2.2.2.2.1, Tryz.f20.results.toList⟩
theorem k84 : FnOK Tryz.prog G 20 e84 := fk cx (tc k73 (tc k76 (tc k77 (tc k78 (tc k79 (tc k83 (tc k80 tn))))))) (jl [(1048577, [(.normal, ⟨[(2, op 32), (3, op 48), (5, ob)], [(32, c'22), (48, c'22)], []⟩)]), (1048578, [(.normal, ⟨[(4, ob)], [], []⟩)])]) (lp := (pl [])) Tryz.func20 (by kernel_rfl) (by kernel_rfl) rfl (an0 (by kernel_rfl)) fun x => by kernel_rfl
def I85 : Sp := ⟨[], [], []⟩
def E85 : SL := [(.ret, ⟨[(0, ob)], [], []⟩)]
noncomputable def H85 (h_l10_Building : ((Int × Int × Unit) × Unit) → Option ((Unit × Unit) × (T'0 × Unit))) (h_restart_Start : ((T'0 × Unit) × Unit) → Option ((Unit × Int × Unit) × (T'43 × Unit))) (h_restart_Boot : ((T'0 × T'37 × Int × Unit) × Unit) → Option ((Unit × Int × Int × Unit) × (T'43 × Unit))) (h_restart_Same : ((T'43 × T'43 × Unit) × Unit) → Option ((Bool × Unit) × Unit))  : Option ((Bool × Unit) × Unit) :=
 (h_l10_Building (((9 : Int), (90 : Int), ()), ())).bind fun y1 =>
 Option.bind (some (((), ()), (y1.2.1, ()))) fun y2 =>
 (h_restart_Start ((y2.2.1, ()), ())).bind fun y3 =>
 (h_restart_Boot ((y2.2.1, (y3.2.1.2.2.2.2.1, y3.2.1.2.2.2.2.2.1, y3.2.1.2.2.2.2.2.2.1, ()), (100 : Int), ()), ())).bind fun y4 =>
 (h_restart_Boot ((y2.2.1, (y3.2.1.2.2.2.2.1, y3.2.1.2.2.2.2.2.1, y3.2.1.2.2.2.2.2.2.1, ()), (0 : Int), ()), ())).bind fun y5 =>
 Option.bind (bif (y3.1.2.1 == (0 : Int)) then
 bif (((List.length y3.2.1.2.2.2.2.2.2.2.2.1 : Nat) : Int) == (2 : Int)) then
 bif (inB (1 : Int) (List.length y3.2.1.2.2.2.2.2.2.2.2.1)) then
 bif ((List.getD y3.2.1.2.2.2.2.2.2.2.2.1 (Int.toNat (1 : Int)) (Belief.mk (0 : Int) (0 : Int) (0 : Int) [] (0 : Int) false)).Floor == (-1 : Int)) then
 bif (((List.length y3.2.1.1 : Nat) : Int) == (2 : Int)) then
 bif (y4.1.2.2.1 == (0 : Int)) then
 bif (y4.1.2.1 == (62 : Int)) then
 (h_restart_Same ((y4.2.1, y4.2.1, ()), ())).bind fun y6 =>
 bif y6.1.1 then
 some (((y5.1.2.2.1 == (8 : Int)), ()), ())
 else
 some ((false, ()), ())
 else
 some ((false, ()), ())
 else
 some ((false, ()), ())
 else
 some ((false, ()), ())
 else
 some ((false, ()), ())
 else
 none
 else
 some ((false, ()), ())
 else
 some ((false, ()), ())) fun y7 =>
 some ((y7.1.1, ()), ())
theorem q85 (h_l10_Building : ((Int × Int × Unit) × Unit) → Option ((Unit × Unit) × (T'0 × Unit))) (h_restart_Start : ((T'0 × Unit) × Unit) → Option ((Unit × Int × Unit) × (T'43 × Unit))) (h_restart_Boot : ((T'0 × T'37 × Int × Unit) × Unit) → Option ((Unit × Int × Int × Unit) × (T'43 × Unit))) (h_restart_Same : ((T'43 × T'43 × Unit) × Unit) → Option ((Bool × Unit) × Unit)) (x : I85.T G) : endI (cfP [(7, Fe.mk (G := G) I1 E1 h_l10_Building Tryz.f7.results.toList), (17, Fe.mk (G := G) I72 E72 h_restart_Start Tryz.f17.results.toList), (15, Fe.mk (G := G) I71 E71 h_restart_Boot Tryz.f15.results.toList), (20, Fe.mk (G := G) I84 E84 h_restart_Same Tryz.f20.results.toList)]) (pl []) (jl [(1048581, [(.normal, ⟨[(0, ob)], [], []⟩)]), (2097154, [(.normal, ⟨[(1, op 16)], [(16, c'2)], []⟩)])]) 72 (ng' Tryz.f6) I85 E85 x = H85 h_l10_Building h_restart_Start h_restart_Boot h_restart_Same  := by kernel_rfl
noncomputable def e85 : Fe G := ⟨I85, E85, fun _ => ngd', Tryz.f6.results.toList⟩
theorem k85 : FnOK Tryz.prog G 6 e85 := fk cx (tc k1 (tc k72 (tc k71 (tc k84 tn)))) (jl [(1048581, [(.normal, ⟨[(0, ob)], [], []⟩)]), (2097154, [(.normal, ⟨[(1, op 16)], [(16, c'2)], []⟩)])]) (lp := (pl [])) Tryz.func6 (by kernel_rfl) (by kernel_rfl) rfl (an0 (by kernel_rfl)) fun x => (q85 (fun x => ncz' x.1.1 x.1.2.1) (fun x => ne5' x.1.1.1 x.1.1.2.1 x.1.1.2.2.1 x.1.1.2.2.2.1 x.1.1.2.2.2.2.1 x.1.1.2.2.2.2.2.1 x.1.1.2.2.2.2.2.2.1 x.1.1.2.2.2.2.2.2.2.1) (fun x => ncd' x.1.1.1 x.1.1.2.1 x.1.1.2.2.1 x.1.1.2.2.2.1 x.1.1.2.2.2.2.1 x.1.1.2.2.2.2.2.1 x.1.1.2.2.2.2.2.2.1 x.1.1.2.2.2.2.2.2.2.1 x.1.2.1.1 x.1.2.1.2.1 x.1.2.1.2.2.1 x.1.2.2.1) (fun x => nfq' x.1.1.1 x.1.1.2.1 x.1.1.2.2.1 x.1.1.2.2.2.1 x.1.1.2.2.2.2.1 x.1.1.2.2.2.2.2.1 x.1.1.2.2.2.2.2.2.1 x.1.1.2.2.2.2.2.2.2.1 x.1.1.2.2.2.2.2.2.2.2.1 x.1.1.2.2.2.2.2.2.2.2.2.1 x.1.1.2.2.2.2.2.2.2.2.2.2.1 x.1.1.2.2.2.2.2.2.2.2.2.2.2.1 x.1.1.2.2.2.2.2.2.2.2.2.2.2.2.1 x.1.1.2.2.2.2.2.2.2.2.2.2.2.2.2.1 x.1.1.2.2.2.2.2.2.2.2.2.2.2.2.2.2.1 x.1.1.2.2.2.2.2.2.2.2.2.2.2.2.2.2.2.1 x.1.2.1.1 x.1.2.1.2.1 x.1.2.1.2.2.1 x.1.2.1.2.2.2.1 x.1.2.1.2.2.2.2.1 x.1.2.1.2.2.2.2.2.1 x.1.2.1.2.2.2.2.2.2.1 x.1.2.1.2.2.2.2.2.2.2.1 x.1.2.1.2.2.2.2.2.2.2.2.1 x.1.2.1.2.2.2.2.2.2.2.2.2.1 x.1.2.1.2.2.2.2.2.2.2.2.2.2.1 x.1.2.1.2.2.2.2.2.2.2.2.2.2.2.1 x.1.2.1.2.2.2.2.2.2.2.2.2.2.2.2.1 x.1.2.1.2.2.2.2.2.2.2.2.2.2.2.2.2.1 x.1.2.1.2.2.2.2.2.2.2.2.2.2.2.2.2.2.1 x.1.2.1.2.2.2.2.2.2.2.2.2.2.2.2.2.2.2.1) x).trans (by kernel_rfl)
def I86 : Sp := ⟨[(0, .agg c'7), (1, .agg c'7)], [], []⟩
def E86 : SL := [(.ret, ⟨[(4, ob)], [], []⟩)]
def S86_0 : Sp := ⟨[(2, op 32), (3, op 48), (5, oi64)], [(32, c'7), (48, c'7)], []⟩
def X86_0 : SL := [(.exit 0, ⟨[(2, op 32), (3, op 48)], [(32, c'7), (48, c'7)], []⟩), (.ret, ⟨[(4, ob)], [], []⟩)]
def S86_1 : Sp := ⟨[(2, op 32), (3, op 48), (6, oi64)], [(32, c'7), (48, c'7)], []⟩
def X86_1 : SL := [(.exit 2, ⟨[(2, op 32), (3, op 48)], [(32, c'7), (48, c'7)], []⟩), (.ret, ⟨[(4, ob)], [], []⟩)]
def S86_2 : Sp := ⟨[(2, op 32), (3, op 48), (7, oi64)], [(32, c'7), (48, c'7)], []⟩
def X86_2 : SL := [(.exit 4, ⟨[(2, op 32), (3, op 48)], [(32, c'7), (48, c'7)], []⟩), (.ret, ⟨[(4, ob)], [], []⟩)]
def S86_3 : Sp := ⟨[(2, op 32), (3, op 48), (8, oi64)], [(32, c'7), (48, c'7)], []⟩
def X86_3 : SL := [(.exit 6, ⟨[], [], []⟩), (.ret, ⟨[(4, ob)], [], []⟩)]
def J86 : Nat → Option SL := jl []
noncomputable def P86 : Nat → St G → M (Ex × St G) := pl [lpX S86_0 X86_0 njh', lpX S86_1 X86_1 ni1', lpX S86_2 X86_2 nja', lpX S86_3 X86_3 niv']
theorem l86_3 : LoopOK Tryz.prog G 115 (P86 3) (nr' (ng' Tryz.f21) 3) := lk cx tn J86 4 S86_3 X86_3 (rfl : niv' = _) (by kernel_rfl) (an0 (by kernel_rfl)) fun x => by kernel_rfl
theorem l86_2 : LoopOK Tryz.prog G 115 (P86 2) (nr' (ng' Tryz.f21) 2) := lk cx tn J86 3 S86_2 X86_2 (rfl : nja' = _) (by kernel_rfl) (an0 (by kernel_rfl)) fun x => by kernel_rfl
theorem l86_1 : LoopOK Tryz.prog G 115 (P86 1) (nr' (ng' Tryz.f21) 1) := lk cx tn J86 2 S86_1 X86_1 (rfl : ni1' = _) (by kernel_rfl) (an0 (by kernel_rfl)) fun x => by kernel_rfl
theorem l86_0 : LoopOK Tryz.prog G 115 (P86 0) (nr' (ng' Tryz.f21) 0) := lk cx tn J86 1 S86_0 X86_0 (rfl : njh' = _) (by kernel_rfl) (an0 (by kernel_rfl)) fun x => by kernel_rfl
noncomputable def e86 : Fe G := ⟨I86, E86, fun x => ne8' x.1.1.1 x.1.1.2.1 x.1.1.2.2.1 x.1.1.2.2.2.1 x.1.2.1.1 x.1.2.1.2.1 x.1.2.1.2.2.1 x.1.2.1.2.2.2.1, Tryz.f21.results.toList⟩
theorem k86 : FnOK Tryz.prog G 21 e86 := fk cx tn J86 (lp := P86) Tryz.func21 (by kernel_rfl) (by kernel_rfl) rfl (np' _ (by kernel_rfl) (nh' l86_0 (nh' l86_1 (nh' l86_2 (nh' l86_3 nw'))))) fun x => by kernel_rfl
def I87 : Sp := ⟨[(0, oi64)], [], []⟩
def E87 : SL := [(.ret, ⟨[(2, ob)], [], []⟩)]
noncomputable def e87 : Fe G := ⟨I87, E87, fun x => nfe' x.1.1, Tryz.f79.results.toList⟩
theorem k87 : FnOK Tryz.prog G 79 e87 := fk cx tn (jl [(1048577, [(.normal, ⟨[(2, ob)], [], []⟩)])]) (lp := (pl [])) Tryz.func79 (by kernel_rfl) (by kernel_rfl) rfl (an0 (by kernel_rfl)) fun x => by kernel_rfl
def I88 : Sp := ⟨[(0, oro 3), (1, .one (.clo 79 [] []))], [], []⟩
def E88 : SL := [(.ret, ⟨[(4, oi64)], [], []⟩)]
def S88_0 : Sp := ⟨[(0, oro 3), (1, .one (.clo 79 [] [])), (7, oi64), (8, oi64)], [], []⟩
def X88_0 : SL := [(.exit 0, ⟨[], [], []⟩), (.ret, ⟨[(4, oi64)], [], []⟩)]
def J88 : Nat → Option SL := jl []
noncomputable def P88 : Nat → St G → M (Ex × St G) := pl [lpX S88_0 X88_0 nbk']
theorem t88 : ∀ p ∈ [(79, e87)], FnOK Tryz.prog G p.1 p.2 := (tc k87 tn)
theorem l88_0 : LoopOK Tryz.prog G 19 (P88 0) (nr' (ng' Tryz.f106) 0) := lk cx t88 J88 1 S88_0 X88_0 (rfl : nbk' = _) (by kernel_rfl) (an0 (by kernel_rfl)) fun x => by kernel_rfl
noncomputable def e88 : Fe G := ⟨I88, E88, fun x => ncc' x.1.1, Tryz.f106.results.toList⟩
theorem k88 : FnOK Tryz.prog G 106 e88 := fk cx t88 J88 (lp := P88) Tryz.func106 (by kernel_rfl) (by kernel_rfl) rfl (np' _ (by kernel_rfl) (nh' l88_0 nw')) fun x => by kernel_rfl
def I89 : Sp := ⟨[(0, oro 3), (1, .one (.clo 79 [] []))], [], []⟩
def E89 : SL := [(.ret, ⟨[(4, ob)], [], []⟩)]
noncomputable def e89 : Fe G := ⟨I89, E89, fun x => nbz' x.1.1, Tryz.f78.results.toList⟩
theorem k89 : FnOK Tryz.prog G 78 e89 := fk cx (tc k88 tn) (jl []) (lp := (pl [])) Tryz.func78 (by kernel_rfl) (by kernel_rfl) rfl (an0 (by kernel_rfl)) fun x => by kernel_rfl
def I90 : Sp := ⟨[(0, oro 3)], [], []⟩
def E90 : SL := [(.ret, ⟨[(2, ob)], [], []⟩)]
noncomputable def e90 : Fe G := ⟨I90, E90, fun x => ner' x.1.1, Tryz.f39.results.toList⟩
theorem k90 : FnOK Tryz.prog G 39 e90 := fk cx (tc k89 tn) (jl []) (lp := (pl [])) Tryz.func39 (by kernel_rfl) (by kernel_rfl) rfl (an0 (by kernel_rfl)) fun x => by kernel_rfl
def I91 : Sp := ⟨[(0, oi64), (1, .agg c'23)], [], []⟩
def E91 : SL := [(.ret, ⟨[(4, ob)], [], []⟩)]
def S91_0 : Sp := ⟨[(0, oi64), (14, .agg c'24), (15, oi64)], [], []⟩
def X91_0 : SL := [(.exit 0, ⟨[], [], []⟩), (.ret, ⟨[(4, ob)], [], []⟩)]
def J91 : Nat → Option SL := jl []
noncomputable def P91 : Nat → St G → M (Ex × St G) := pl [lpX S91_0 X91_0 net']
theorem l91_0 : LoopOK Tryz.prog G 26 (P91 0) (nr' (ng' Tryz.f42) 0) := lk cx tn J91 1 S91_0 X91_0 (rfl : net' = _) (by kernel_rfl) (an0 (by kernel_rfl)) fun x => by kernel_rfl
noncomputable def e91 : Fe G := ⟨I91, E91, fun x => nfn' x.1.1 x.1.2.1.1 x.1.2.1.2.1 x.1.2.1.2.2.1 x.1.2.1.2.2.2.1 x.1.2.1.2.2.2.2.1 x.1.2.1.2.2.2.2.2.1 x.1.2.1.2.2.2.2.2.2.1 x.1.2.1.2.2.2.2.2.2.2.1 x.1.2.1.2.2.2.2.2.2.2.2.1 x.1.2.1.2.2.2.2.2.2.2.2.2.1 x.1.2.1.2.2.2.2.2.2.2.2.2.2.1 x.1.2.1.2.2.2.2.2.2.2.2.2.2.2.1 x.1.2.1.2.2.2.2.2.2.2.2.2.2.2.2.1 x.1.2.1.2.2.2.2.2.2.2.2.2.2.2.2.2.1 x.1.2.1.2.2.2.2.2.2.2.2.2.2.2.2.2.2.1 x.1.2.1.2.2.2.2.2.2.2.2.2.2.2.2.2.2.2.1 x.1.2.1.2.2.2.2.2.2.2.2.2.2.2.2.2.2.2.2.1 x.1.2.1.2.2.2.2.2.2.2.2.2.2.2.2.2.2.2.2.2.1 x.1.2.1.2.2.2.2.2.2.2.2.2.2.2.2.2.2.2.2.2.2.1 x.1.2.1.2.2.2.2.2.2.2.2.2.2.2.2.2.2.2.2.2.2.2.1 x.1.2.1.2.2.2.2.2.2.2.2.2.2.2.2.2.2.2.2.2.2.2.2.1 x.1.2.1.2.2.2.2.2.2.2.2.2.2.2.2.2.2.2.2.2.2.2.2.2.1 x.1.2.1.2.2.2.2.2.2.2.2.2.2.2.2.2.2.2.2.2.2.2.2.2.2.1 x.1.2.1.2.2.2.2.2.2.2.2.2.2.2.2.2.2.2.2.2.2.2.2.2.2.2.1 x.1.2.1.2.2.2.2.2.2.2.2.2.2.2.2.2.2.2.2.2.2.2.2.2.2.2.2.1 x.1.2.1.2.2.2.2.2.2.2.2.2.2.2.2.2.2.2.2.2.2.2.2.2.2.2.2.2.1 x.1.2.1.2.2.2.2.2.2.2.2.2.2.2.2.2.2.2.2.2.2.2.2.2.2.2.2.2.2.1 x.1.2.1.2.2.2.2.2.2.2.2.2.2.2.2.2.2.2.2.2.2.2.2.2.2.2.2.2.2.2.1 x.1.2.1.2.2.2.2.2.2.2.2.2.2.2.2.2.2.2.2.2.2.2.2.2.2.2.2.2.2.2.2.1 x.1.2.1.2.2.2.2.2.2.2.2.2.2.2.2.2.2.2.2.2.2.2.2.2.2.2.2.2.2.2.2.2.1 x.1.2.1.2.2.2.2.2.2.2.2.2.2.2.2.2.2.2.2.2.2.2.2.2.2.2.2.2.2.2.2.2.2.1 x.1.2.1.2.2.2.2.2.2.2.2.2.2.2.2.2.2.2.2.2.2.2.2.2.2.2.2.2.2.2.2.2.2.2.1 x.1.2.1.2.2.2.2.2.2.2.2.2.2.2.2.2.2.2.2.2.2.2.2.2.2.2.2.2.2.2.2.2.2.2.2.1 x.1.2.1.2.2.2.2.2.2.2.2.2.2.2.2.2.2.2.2.2.2.2.2.2.2.2.2.2.2.2.2.2.2.2.2.2.1 x.1.2.1.2.2.2.2.2.2.2.2.2.2.2.2.2.2.2.2.2.2.2.2.2.2.2.2.2.2.2.2.2.2.2.2.2.2.1 x.1.2.1.2.2.2.2.2.2.2.2.2.2.2.2.2.2.2.2.2.2.2.2.2.2.2.2.2.2.2.2.2.2.2.2.2.2.2.1 x.1.2.1.2.2.2.2.2.2.2.2.2.2.2.2.2.2.2.2.2.2.2.2.2.2.2.2.2.2.2.2.2.2.2.2.2.2.2.2.1 x.1.2.1.2.2.2.2.2.2.2.2.2.2.2.2.2.2.2.2.2.2.2.2.2.2.2.2.2.2.2.2.2.2.2.2.2.2.2.2.2.1 x.1.2.1.2.2.2.2.2.2.2.2.2.2.2.2.2.2.2.2.2.2.2.2.2.2.2.2.2.2.2.2.2.2.2.2.2.2.2.2.2.2.1 x.1.2.1.2.2.2.2.2.2.2.2.2.2.2.2.2.2.2.2.2.2.2.2.2.2.2.2.2.2.2.2.2.2.2.2.2.2.2.2.2.2.2.1 x.1.2.1.2.2.2.2.2.2.2.2.2.2.2.2.2.2.2.2.2.2.2.2.2.2.2.2.2.2.2.2.2.2.2.2.2.2.2.2.2.2.2.2.1, Tryz.f42.results.toList⟩
theorem k91 : FnOK Tryz.prog G 42 e91 := fk cx tn J91 (lp := P91) Tryz.func42 (by kernel_rfl) (by kernel_rfl) rfl (np' _ (by kernel_rfl) (nh' l91_0 nw')) fun x => by kernel_rfl
def I92 : Sp := ⟨[(0, oi64), (1, .agg c'23), (2, op 65536)], [(65536, c'2)], []⟩
def E92 : SL := [(.ret, ⟨[(5, ob)], [(65536, c'2)], [65536]⟩)]
noncomputable def e92 : Fe G := ⟨I92, E92, fun x => ndy' x.1.1 x.1.2.1.1 x.1.2.1.2.1 x.1.2.1.2.2.1 x.1.2.1.2.2.2.1 x.1.2.1.2.2.2.2.1 x.1.2.1.2.2.2.2.2.1 x.1.2.1.2.2.2.2.2.2.1 x.1.2.1.2.2.2.2.2.2.2.1 x.1.2.1.2.2.2.2.2.2.2.2.1 x.1.2.1.2.2.2.2.2.2.2.2.2.1 x.1.2.1.2.2.2.2.2.2.2.2.2.2.1 x.1.2.1.2.2.2.2.2.2.2.2.2.2.2.1 x.1.2.1.2.2.2.2.2.2.2.2.2.2.2.2.1 x.1.2.1.2.2.2.2.2.2.2.2.2.2.2.2.2.1 x.1.2.1.2.2.2.2.2.2.2.2.2.2.2.2.2.2.1 x.1.2.1.2.2.2.2.2.2.2.2.2.2.2.2.2.2.2.1 x.1.2.1.2.2.2.2.2.2.2.2.2.2.2.2.2.2.2.2.1 x.1.2.1.2.2.2.2.2.2.2.2.2.2.2.2.2.2.2.2.2.1 x.1.2.1.2.2.2.2.2.2.2.2.2.2.2.2.2.2.2.2.2.2.1 x.1.2.1.2.2.2.2.2.2.2.2.2.2.2.2.2.2.2.2.2.2.2.1 x.1.2.1.2.2.2.2.2.2.2.2.2.2.2.2.2.2.2.2.2.2.2.2.1 x.1.2.1.2.2.2.2.2.2.2.2.2.2.2.2.2.2.2.2.2.2.2.2.2.1 x.1.2.1.2.2.2.2.2.2.2.2.2.2.2.2.2.2.2.2.2.2.2.2.2.2.1 x.1.2.1.2.2.2.2.2.2.2.2.2.2.2.2.2.2.2.2.2.2.2.2.2.2.2.1 x.1.2.1.2.2.2.2.2.2.2.2.2.2.2.2.2.2.2.2.2.2.2.2.2.2.2.2.1 x.1.2.1.2.2.2.2.2.2.2.2.2.2.2.2.2.2.2.2.2.2.2.2.2.2.2.2.2.1 x.1.2.1.2.2.2.2.2.2.2.2.2.2.2.2.2.2.2.2.2.2.2.2.2.2.2.2.2.2.1 x.1.2.1.2.2.2.2.2.2.2.2.2.2.2.2.2.2.2.2.2.2.2.2.2.2.2.2.2.2.2.1 x.1.2.1.2.2.2.2.2.2.2.2.2.2.2.2.2.2.2.2.2.2.2.2.2.2.2.2.2.2.2.2.1 x.1.2.1.2.2.2.2.2.2.2.2.2.2.2.2.2.2.2.2.2.2.2.2.2.2.2.2.2.2.2.2.2.1 x.1.2.1.2.2.2.2.2.2.2.2.2.2.2.2.2.2.2.2.2.2.2.2.2.2.2.2.2.2.2.2.2.2.1 x.1.2.1.2.2.2.2.2.2.2.2.2.2.2.2.2.2.2.2.2.2.2.2.2.2.2.2.2.2.2.2.2.2.2.1 x.1.2.1.2.2.2.2.2.2.2.2.2.2.2.2.2.2.2.2.2.2.2.2.2.2.2.2.2.2.2.2.2.2.2.2.1 x.1.2.1.2.2.2.2.2.2.2.2.2.2.2.2.2.2.2.2.2.2.2.2.2.2.2.2.2.2.2.2.2.2.2.2.2.1 x.1.2.1.2.2.2.2.2.2.2.2.2.2.2.2.2.2.2.2.2.2.2.2.2.2.2.2.2.2.2.2.2.2.2.2.2.2.1 x.1.2.1.2.2.2.2.2.2.2.2.2.2.2.2.2.2.2.2.2.2.2.2.2.2.2.2.2.2.2.2.2.2.2.2.2.2.2.1 x.1.2.1.2.2.2.2.2.2.2.2.2.2.2.2.2.2.2.2.2.2.2.2.2.2.2.2.2.2.2.2.2.2.2.2.2.2.2.2.1 x.1.2.1.2.2.2.2.2.2.2.2.2.2.2.2.2.2.2.2.2.2.2.2.2.2.2.2.2.2.2.2.2.2.2.2.2.2.2.2.2.1 x.1.2.1.2.2.2.2.2.2.2.2.2.2.2.2.2.2.2.2.2.2.2.2.2.2.2.2.2.2.2.2.2.2.2.2.2.2.2.2.2.2.1 x.1.2.1.2.2.2.2.2.2.2.2.2.2.2.2.2.2.2.2.2.2.2.2.2.2.2.2.2.2.2.2.2.2.2.2.2.2.2.2.2.2.2.1 x.1.2.1.2.2.2.2.2.2.2.2.2.2.2.2.2.2.2.2.2.2.2.2.2.2.2.2.2.2.2.2.2.2.2.2.2.2.2.2.2.2.2.2.1 x.2.1.1 x.2.1.2.1 x.2.1.2.2.1 x.2.1.2.2.2.1 x.2.1.2.2.2.2.1 x.2.1.2.2.2.2.2.1 x.2.1.2.2.2.2.2.2.1 x.2.1.2.2.2.2.2.2.2.1, Tryz.f41.results.toList⟩
theorem k92 : FnOK Tryz.prog G 41 e92 := fk cx (tc k91 tn) (jl []) (lp := (pl [])) Tryz.func41 (by kernel_rfl) (by kernel_rfl) rfl (an0 (by kernel_rfl)) fun x => by kernel_rfl
def I93 : Sp := ⟨[(0, oro 78), (1, oi64), (2, .one (.clo 41 [] [(65536, 0)]))], [(65536, c'2)], []⟩
def E93 : SL := [(.ret, ⟨[(6, ob)], [(65536, c'2)], [65536]⟩)]
def S93_0 : Sp := ⟨[(2, .one (.clo 41 [] [(65536, 0)])), (13, oro 78), (14, oi64), (15, oi64)], [(65536, c'2)], [65536]⟩
def X93_0 : SL := [(.exit 0, ⟨[], [(65536, c'2)], [65536]⟩), (.ret, ⟨[(6, ob)], [(65536, c'2)], [65536]⟩)]
def J93 : Nat → Option SL := jl []
noncomputable def P93 : Nat → St G → M (Ex × St G) := pl [lpX S93_0 X93_0 n4']
theorem t93 : ∀ p ∈ [(41, e92)], FnOK Tryz.prog G p.1 p.2 := (tc k92 tn)
theorem l93_0 : LoopOK Tryz.prog G 26 (P93 0) (nr' (ng' Tryz.f40) 0) := lk cx t93 J93 1 S93_0 X93_0 (rfl : n4' = _) (by kernel_rfl) (an0 (by kernel_rfl)) fun x => by kernel_rfl
noncomputable def e93 : Fe G := ⟨I93, E93, fun x => n6' x.1.1 x.1.2.1 x.2.1.1 x.2.1.2.1 x.2.1.2.2.1 x.2.1.2.2.2.1 x.2.1.2.2.2.2.1 x.2.1.2.2.2.2.2.1 x.2.1.2.2.2.2.2.2.1 x.2.1.2.2.2.2.2.2.2.1, Tryz.f40.results.toList⟩
theorem k93 : FnOK Tryz.prog G 40 e93 := fk cx t93 J93 (lp := P93) Tryz.func40 (by kernel_rfl) (by kernel_rfl) rfl (np' _ (by kernel_rfl) (nh' l93_0 nw')) fun x => by kernel_rfl
def I94 : Sp := ⟨[(0, oi64), (1, oi64), (2, oi64)], [], []⟩
def E94 : SL := [(.ret, ⟨[(6, ob)], [], []⟩)]
noncomputable def e94 : Fe G := ⟨I94, E94, fun x => ncu' x.1.1 x.1.2.1 x.1.2.2.1, Tryz.f80.results.toList⟩
theorem k94 : FnOK Tryz.prog G 80 e94 := fk cx tn (jl [(1048577, [(.normal, ⟨[(6, ob)], [], []⟩)])]) (lp := (pl [])) Tryz.func80 (by kernel_rfl) (by kernel_rfl) rfl (an0 (by kernel_rfl)) fun x => by kernel_rfl
def I95 : Sp := ⟨[(0, .agg c'25), (1, .agg c'25)], [], []⟩
def E95 : SL := [(.ret, ⟨[(4, oi64)], [], []⟩)]
noncomputable def e95 : Fe G := ⟨I95, E95, fun x => ngg' x.1.1.1 x.1.1.2.1 x.1.1.2.2.1 x.1.2.1.1 x.1.2.1.2.1 x.1.2.1.2.2.1, Tryz.f82.results.toList⟩
theorem k95 : FnOK Tryz.prog G 82 e95 := fk cx (tc k35 (tc k36 tn)) (jl []) (lp := (pl [])) Tryz.func82 (by kernel_rfl) (by kernel_rfl) rfl (an0 (by kernel_rfl)) fun x => by kernel_rfl
def I96 : Sp := ⟨[(0, .agg c'2), (1, oi64), (2, .agg c'21)], [], []⟩
def E96 : SL := [(.ret, ⟨[(6, ob)], [], []⟩)]
def S96_0 : Sp := ⟨[(1, oi64), (3, op 48), (5, op 80), (59, oro 137), (60, oi64), (61, oi64)], [(48, c'2), (80, c'21)], []⟩
def X96_0 : SL := [(.exit 0, ⟨[], [], []⟩), (.ret, ⟨[(6, ob)], [], []⟩)]
def J96 : Nat → Option SL := jl [(1048577, [(.normal, ⟨[(1, oi64), (3, op 48), (5, op 80), (57, ob)], [(48, c'2), (80, c'21)], []⟩)]), (1048582, [(.normal, ⟨[(1, oi64), (3, op 48), (5, op 80), (59, oro 137), (60, oi64), (61, oi64), (99, ob)], [(48, c'2), (80, c'21)], []⟩)])]
noncomputable def P96 : Nat → St G → M (Ex × St G) := pl [lpX S96_0 X96_0 nfg']
theorem t96 : ∀ p ∈ [(53, e24), (80, e94), (81, e29), (82, e95)], FnOK Tryz.prog G p.1 p.2 := (tc k24 (tc k94 (tc k29 (tc k95 tn))))
theorem l96_0 : LoopOK Tryz.prog G 101 (P96 0) (nr' (ng' Tryz.f45) 0) := lk cx t96 J96 1 S96_0 X96_0 (rfl : nfg' = _) (by kernel_rfl) (an0 (by kernel_rfl)) fun x => by kernel_rfl
noncomputable def e96 : Fe G := ⟨I96, E96, fun x => ngi' x.1.1.1 x.1.1.2.1 x.1.1.2.2.1 x.1.1.2.2.2.1 x.1.1.2.2.2.2.1 x.1.1.2.2.2.2.2.1 x.1.1.2.2.2.2.2.2.1 x.1.1.2.2.2.2.2.2.2.1 x.1.2.1 x.1.2.2.1.1 x.1.2.2.1.2.1 x.1.2.2.1.2.2.1 x.1.2.2.1.2.2.2.1 x.1.2.2.1.2.2.2.2.1 x.1.2.2.1.2.2.2.2.2.1, Tryz.f45.results.toList⟩
theorem k96 : FnOK Tryz.prog G 45 e96 := fk cx t96 J96 (lp := P96) Tryz.func45 (by kernel_rfl) (by kernel_rfl) rfl (np' _ (by kernel_rfl) (nh' l96_0 nw')) fun x => by kernel_rfl
def I97 : Sp := ⟨[(0, oi64), (1, .agg c'21), (2, op 65536)], [(65536, c'2)], []⟩
def E97 : SL := [(.ret, ⟨[(5, ob)], [(65536, c'2)], [65536]⟩)]
noncomputable def e97 : Fe G := ⟨I97, E97, fun x => nds' x.1.1 x.1.2.1.1 x.1.2.1.2.1 x.1.2.1.2.2.1 x.1.2.1.2.2.2.1 x.1.2.1.2.2.2.2.1 x.1.2.1.2.2.2.2.2.1 x.2.1.1 x.2.1.2.1 x.2.1.2.2.1 x.2.1.2.2.2.1 x.2.1.2.2.2.2.1 x.2.1.2.2.2.2.2.1 x.2.1.2.2.2.2.2.2.1 x.2.1.2.2.2.2.2.2.2.1, Tryz.f44.results.toList⟩
theorem k97 : FnOK Tryz.prog G 44 e97 := fk cx (tc k96 tn) (jl []) (lp := (pl [])) Tryz.func44 (by kernel_rfl) (by kernel_rfl) rfl (an0 (by kernel_rfl)) fun x => by kernel_rfl
def I98 : Sp := ⟨[(0, oro 62), (1, oi64), (2, .one (.clo 44 [] [(65536, 0)]))], [(65536, c'2)], []⟩
def E98 : SL := [(.ret, ⟨[(6, ob)], [(65536, c'2)], [65536]⟩)]
def S98_0 : Sp := ⟨[(2, .one (.clo 44 [] [(65536, 0)])), (13, oro 62), (14, oi64), (15, oi64)], [(65536, c'2)], [65536]⟩
def X98_0 : SL := [(.exit 0, ⟨[], [(65536, c'2)], [65536]⟩), (.ret, ⟨[(6, ob)], [(65536, c'2)], [65536]⟩)]
def J98 : Nat → Option SL := jl []
noncomputable def P98 : Nat → St G → M (Ex × St G) := pl [lpX S98_0 X98_0 nbd']
theorem t98 : ∀ p ∈ [(44, e97)], FnOK Tryz.prog G p.1 p.2 := (tc k97 tn)
theorem l98_0 : LoopOK Tryz.prog G 26 (P98 0) (nr' (ng' Tryz.f43) 0) := lk cx t98 J98 1 S98_0 X98_0 (rfl : nbd' = _) (by kernel_rfl) (an0 (by kernel_rfl)) fun x => by kernel_rfl
noncomputable def e98 : Fe G := ⟨I98, E98, fun x => nbf' x.1.1 x.1.2.1 x.2.1.1 x.2.1.2.1 x.2.1.2.2.1 x.2.1.2.2.2.1 x.2.1.2.2.2.2.1 x.2.1.2.2.2.2.2.1 x.2.1.2.2.2.2.2.2.1 x.2.1.2.2.2.2.2.2.2.1, Tryz.f43.results.toList⟩
theorem k98 : FnOK Tryz.prog G 43 e98 := fk cx t98 J98 (lp := P98) Tryz.func43 (by kernel_rfl) (by kernel_rfl) rfl (np' _ (by kernel_rfl) (nh' l98_0 nw')) fun x => by kernel_rfl
def I99 : Sp := ⟨[(0, .agg c'26)], [], []⟩
def E99 : SL := [(.ret, ⟨[(2, ob)], [], []⟩)]
noncomputable def e99 : Fe G := ⟨I99, E99, fun x => ned' x.1.1.1 x.1.1.2.1, Tryz.f83.results.toList⟩
theorem k99 : FnOK Tryz.prog G 83 e99 := fk cx tn (jl [(1048577, [(.normal, ⟨[(2, ob)], [], []⟩)])]) (lp := (pl [])) Tryz.func83 (by kernel_rfl) (by kernel_rfl) rfl (an0 (by kernel_rfl)) fun x => by kernel_rfl
def I100 : Sp := ⟨[(0, oi64)], [], []⟩
def E100 : SL := [(.ret, ⟨[(2, ob)], [], []⟩)]
noncomputable def e100 : Fe G := ⟨I100, E100, fun x => neh' x.1.1, Tryz.f110.results.toList⟩
theorem k100 : FnOK Tryz.prog G 110 e100 := fk cx tn (jl [(1048577, [(.normal, ⟨[(2, ob)], [], []⟩)])]) (lp := (pl [])) Tryz.func110 (by kernel_rfl) (by kernel_rfl) rfl (an0 (by kernel_rfl)) fun x => by kernel_rfl
def I101 : Sp := ⟨[(0, .agg c'27)], [], []⟩
def E101 : SL := [(.ret, ⟨[(2, ob)], [], []⟩)]
noncomputable def e101 : Fe G := ⟨I101, E101, fun x => nhu' x.1.1.1 x.1.1.2.1 x.1.1.2.2.1 x.1.1.2.2.2.1 x.1.1.2.2.2.2.1, Tryz.f84.results.toList⟩
theorem k101 : FnOK Tryz.prog G 84 e101 := fk cx (tc k100 tn) (jl [(1048579, [(.normal, ⟨[(2, ob)], [], []⟩)])]) (lp := (pl [])) Tryz.func84 (by kernel_rfl) (by kernel_rfl) rfl (an0 (by kernel_rfl)) fun x => by kernel_rfl
def I102 : Sp := ⟨[(0, oi64), (1, oi64), (2, oi64)], [], []⟩
def E102 : SL := [(.ret, ⟨[(6, oi64), (7, ob)], [], []⟩)]
noncomputable def e102 : Fe G := ⟨I102, E102, fun x => nis' x.1.1 x.1.2.1 x.1.2.2.1, Tryz.f111.results.toList⟩
theorem k102 : FnOK Tryz.prog G 111 e102 := fk cx tn (jl [(1048577, [(.normal, ⟨[(0, oi64), (1, oi64), (2, oi64), (14, ob)], [], []⟩)]), (1048580, [(.normal, ⟨[(6, oi64), (7, ob)], [], []⟩)])]) (lp := (pl [])) Tryz.func111 (by kernel_rfl) (by kernel_rfl) rfl (an0 (by kernel_rfl)) fun x => by kernel_rfl
def I103 : Sp := ⟨[(0, oi64), (1, .agg c'25)], [], []⟩
def E103 : SL := [(.ret, ⟨[(4, ob)], [], []⟩)]
noncomputable def e103 : Fe G := ⟨I103, E103, fun x => ngj' x.1.1 x.1.2.1.1 x.1.2.1.2.1 x.1.2.1.2.2.1, Tryz.f85.results.toList⟩
theorem k103 : FnOK Tryz.prog G 85 e103 := fk cx (tc k102 tn) (jl []) (lp := (pl [])) Tryz.func85 (by kernel_rfl) (by kernel_rfl) rfl (an0 (by kernel_rfl)) fun x => by kernel_rfl
def I104 : Sp := ⟨[(0, .agg c'2), (1, .agg c'28)], [], []⟩
def E104 : SL := [(.ret, ⟨[(4, ob)], [], []⟩)]
noncomputable def e104 : Fe G := ⟨I104, E104, fun x => ngh' x.1.1.1 x.1.1.2.1 x.1.1.2.2.1 x.1.1.2.2.2.1 x.1.1.2.2.2.2.1 x.1.1.2.2.2.2.2.1 x.1.1.2.2.2.2.2.2.1 x.1.1.2.2.2.2.2.2.2.1 x.1.2.1.1 x.1.2.1.2.1 x.1.2.1.2.2.1 x.1.2.1.2.2.2.1 x.1.2.1.2.2.2.2.1 x.1.2.1.2.2.2.2.2.1 x.1.2.1.2.2.2.2.2.2.1 x.1.2.1.2.2.2.2.2.2.2.1 x.1.2.1.2.2.2.2.2.2.2.2.1 x.1.2.1.2.2.2.2.2.2.2.2.2.1 x.1.2.1.2.2.2.2.2.2.2.2.2.2.1 x.1.2.1.2.2.2.2.2.2.2.2.2.2.2.1 x.1.2.1.2.2.2.2.2.2.2.2.2.2.2.2.1 x.1.2.1.2.2.2.2.2.2.2.2.2.2.2.2.2.1, Tryz.f48.results.toList⟩
theorem k104 : FnOK Tryz.prog G 48 e104 := fk cx (tc k24 (tc k99 (tc k101 (tc k103 tn)))) (jl [(1048577, [(.normal, ⟨[(2, op 32), (3, op 48), (16, ob)], [(32, c'2), (48, c'28)], []⟩)]), (1048579, [(.normal, ⟨[(2, op 32), (3, op 48), (46, ob)], [(32, c'2), (48, c'28)], []⟩)]), (1048581, [(.normal, ⟨[(4, ob)], [], []⟩)])]) (lp := (pl [])) Tryz.func48 (by kernel_rfl) (by kernel_rfl) rfl (an0 (by kernel_rfl)) fun x => by kernel_rfl
def I105 : Sp := ⟨[(0, oi64), (1, .agg c'28), (2, op 65536)], [(65536, c'2)], []⟩
def E105 : SL := [(.ret, ⟨[(5, ob)], [(65536, c'2)], [65536]⟩)]
noncomputable def e105 : Fe G := ⟨I105, E105, fun x => ndz' x.1.1 x.1.2.1.1 x.1.2.1.2.1 x.1.2.1.2.2.1 x.1.2.1.2.2.2.1 x.1.2.1.2.2.2.2.1 x.1.2.1.2.2.2.2.2.1 x.1.2.1.2.2.2.2.2.2.1 x.1.2.1.2.2.2.2.2.2.2.1 x.1.2.1.2.2.2.2.2.2.2.2.1 x.1.2.1.2.2.2.2.2.2.2.2.2.1 x.1.2.1.2.2.2.2.2.2.2.2.2.2.1 x.1.2.1.2.2.2.2.2.2.2.2.2.2.2.1 x.1.2.1.2.2.2.2.2.2.2.2.2.2.2.2.1 x.1.2.1.2.2.2.2.2.2.2.2.2.2.2.2.2.1 x.2.1.1 x.2.1.2.1 x.2.1.2.2.1 x.2.1.2.2.2.1 x.2.1.2.2.2.2.1 x.2.1.2.2.2.2.2.1 x.2.1.2.2.2.2.2.2.1 x.2.1.2.2.2.2.2.2.2.1, Tryz.f47.results.toList⟩
theorem k105 : FnOK Tryz.prog G 47 e105 := fk cx (tc k104 tn) (jl []) (lp := (pl [])) Tryz.func47 (by kernel_rfl) (by kernel_rfl) rfl (an0 (by kernel_rfl)) fun x => by kernel_rfl
def I106 : Sp := ⟨[(0, oro 71), (1, oi64), (2, .one (.clo 47 [] [(65536, 0)]))], [(65536, c'2)], []⟩
def E106 : SL := [(.ret, ⟨[(6, ob)], [(65536, c'2)], [65536]⟩)]
def n0o' : Sp := ⟨[(2, .one (.clo 47 [] [(65536, 0)])), (13, oro 71), (14, oi64), (15, oi64)], [(65536, c'2)], [65536]⟩
def nzn' : SL := [(.exit 0, ⟨[], [(65536, c'2)], [65536]⟩), (.ret, ⟨[(6, ob)], [(65536, c'2)], [65536]⟩)]
def J106 : Nat → Option SL := jl []
noncomputable def P106 : Nat → St G → M (Ex × St G) := pl [lpX n0o' nzn' nbc']
theorem t106 : ∀ p ∈ [(47, e105)], FnOK Tryz.prog G p.1 p.2 := (tc k105 tn)
theorem n2y' : LoopOK Tryz.prog G 26 (P106 0) (nr' (ng' Tryz.f46) 0) := lk cx t106 J106 1 n0o' nzn' (rfl : nbc' = _) (by kernel_rfl) (an0 (by kernel_rfl)) fun x => by kernel_rfl
noncomputable def e106 : Fe G := ⟨I106, E106, fun x => nbg' x.1.1 x.1.2.1 x.2.1.1 x.2.1.2.1 x.2.1.2.2.1 x.2.1.2.2.2.1 x.2.1.2.2.2.2.1 x.2.1.2.2.2.2.2.1 x.2.1.2.2.2.2.2.2.1 x.2.1.2.2.2.2.2.2.2.1, Tryz.f46.results.toList⟩
theorem k106 : FnOK Tryz.prog G 46 e106 := fk cx t106 J106 (lp := P106) Tryz.func46 (by kernel_rfl) (by kernel_rfl) rfl (np' _ (by kernel_rfl) (nh' n2y' nw')) fun x => by kernel_rfl
def I107 : Sp := ⟨[(0, oi64), (1, .agg [.int .i64])], [], []⟩
def E107 : SL := [(.ret, ⟨[(4, ob)], [], []⟩)]
noncomputable def e107 : Fe G := ⟨I107, E107, fun x => nfs' x.1.1 x.1.2.1.1, Tryz.f50.results.toList⟩
theorem k107 : FnOK Tryz.prog G 50 e107 := fk cx tn (jl [(1048577, [(.normal, ⟨[(4, ob)], [], []⟩)])]) (lp := (pl [])) Tryz.func50 (by kernel_rfl) (by kernel_rfl) rfl (an0 (by kernel_rfl)) fun x => by kernel_rfl
def I108 : Sp := ⟨[(0, oro 80), (1, oi64), (2, .one (.clo 50 [] []))], [], []⟩
def E108 : SL := [(.ret, ⟨[(6, ob)], [], []⟩)]
def nzl' : Sp := ⟨[(2, .one (.clo 50 [] [])), (13, oro 80), (14, oi64), (15, oi64)], [], []⟩
def nzq' : SL := [(.exit 0, ⟨[], [], []⟩), (.ret, ⟨[(6, ob)], [], []⟩)]
def J108 : Nat → Option SL := jl []
noncomputable def P108 : Nat → St G → M (Ex × St G) := pl [lpX nzl' nzq' nbl']
theorem t108 : ∀ p ∈ [(50, e107)], FnOK Tryz.prog G p.1 p.2 := (tc k107 tn)
theorem n3e' : LoopOK Tryz.prog G 26 (P108 0) (nr' (ng' Tryz.f49) 0) := lk cx t108 J108 1 nzl' nzq' (rfl : nbl' = _) (by kernel_rfl) (an0 (by kernel_rfl)) fun x => by kernel_rfl
noncomputable def e108 : Fe G := ⟨I108, E108, fun x => nbo' x.1.1 x.1.2.1, Tryz.f49.results.toList⟩
theorem k108 : FnOK Tryz.prog G 49 e108 := fk cx t108 J108 (lp := P108) Tryz.func49 (by kernel_rfl) (by kernel_rfl) rfl (np' _ (by kernel_rfl) (nh' n3e' nw')) fun x => by kernel_rfl
def I109 : Sp := ⟨[(0, .agg c'2), (1, .agg c'22)], [], []⟩
def E109 : SL := [(.ret, ⟨[(4, ob)], [], []⟩)]
noncomputable def e109 : Fe G := ⟨I109, E109, fun x => ndr' x.1.1.1 x.1.1.2.1 x.1.1.2.2.1 x.1.1.2.2.2.1 x.1.1.2.2.2.2.1 x.1.1.2.2.2.2.2.1 x.1.1.2.2.2.2.2.2.1 x.1.1.2.2.2.2.2.2.2.1 x.1.2.1.1 x.1.2.1.2.1 x.1.2.1.2.2.1 x.1.2.1.2.2.2.1 x.1.2.1.2.2.2.2.1 x.1.2.1.2.2.2.2.2.1 x.1.2.1.2.2.2.2.2.2.1 x.1.2.1.2.2.2.2.2.2.2.1 x.1.2.1.2.2.2.2.2.2.2.2.1 x.1.2.1.2.2.2.2.2.2.2.2.2.1 x.1.2.1.2.2.2.2.2.2.2.2.2.2.1 x.1.2.1.2.2.2.2.2.2.2.2.2.2.2.1 x.1.2.1.2.2.2.2.2.2.2.2.2.2.2.2.1 x.1.2.1.2.2.2.2.2.2.2.2.2.2.2.2.2.1 x.1.2.1.2.2.2.2.2.2.2.2.2.2.2.2.2.2.1 x.1.2.1.2.2.2.2.2.2.2.2.2.2.2.2.2.2.2.1, Tryz.f14.results.toList⟩
theorem k109 : FnOK Tryz.prog G 14 e109 := fk cx (tc k64 (tc k44 (tc k90 (tc k93 (tc k98 (tc k106 (tc k108 tn))))))) (jl [(1048584, [(.normal, ⟨[(4, ob)], [], []⟩)])]) (lp := (pl [])) Tryz.func14 (by kernel_rfl) (by kernel_rfl) rfl (an0 (by kernel_rfl)) fun x => by kernel_rfl
def I110 : Sp := ⟨[(0, .agg [.int .u8, .int .u8]), (1, oro 5), (2, oro 5)], [], []⟩
def E110 : SL := [(.ret, ⟨[(6, ob)], [], []⟩)]
def S110_0 : Sp := ⟨[(2, oro 5), (7, op 112), (8, op 128), (10, op 160), (11, oi64)], [(112, c'2), (128, c'4), (160, c'13)], []⟩
def nvx' : SL := [(.exit 0, ⟨[(7, op 112), (8, op 128), (10, op 160)], [(112, c'2), (128, c'4), (160, c'13)], []⟩), (.ret, ⟨[(6, ob)], [], []⟩)]
def J110 : Nat → Option SL := jl [(1048594, [(.normal, ⟨[(6, ob)], [], []⟩)])]
noncomputable def P110 : Nat → St G → M (Ex × St G) := pl [lpX S110_0 nvx' nc8']
theorem t110 : ∀ p ∈ [(7, e1), (8, e15), (10, e17), (9, e20), (6, e85), (15, e71), (21, e86), (14, e109)], FnOK Tryz.prog G p.1 p.2 := (tc k1 (tc k15 (tc k17 (tc k20 (tc k85 (tc k71 (tc k86 (tc k109 tn))))))))
noncomputable def n2c' (_h_l26_sane : (Unit × Unit) → Option ((Bool × Unit) × Unit)) (cuts : List (Int)) (i b_Floors b_Debounce b_Room b_Park : Int) (b_Empty b_Full b_Over : Nat) (b_Cars : List (Car)) (m_Phases : List (Int)) (m_Flags m_Leaving : List (Bool)) (m_Entries : List (Entry)) (s_Halves_0 s_Halves_1 : ByteArray) (s_Select : Int) : Option (Sum (T'65 × (T'0 × T'5 × T'37 × Unit)) ((T'66 × (T'0 × T'5 × T'37 × Unit)) ⊕ ((Bool × Unit) × Unit))) :=
 bif (decide (i < ((List.length cuts : Nat) : Int))) then
 bif (decide (i < (10 : Int))) then
 bif (inB i (List.length cuts)) then
 (ncd' b_Floors b_Debounce b_Room b_Park b_Empty b_Full b_Over b_Cars s_Halves_0 s_Halves_1 s_Select (IntKind.i64.wrap (List.getD cuts (Int.toNat i) (0 : Int)))).bind fun y1 =>
 bif (y1.1.2.2.1 == (0 : Int)) then
 (ne8' y1.2.1.1 y1.2.1.2.1 y1.2.1.2.2.1 y1.2.1.2.2.2.1 m_Phases m_Flags m_Leaving m_Entries).bind fun y2 =>
 bif (!y2.1.1) then
 some (Sum.inr (Sum.inr ((false, ()), ())))
 else
 bif (decide (y1.1.2.1 < (0 : Int))) then
 some (Sum.inr (Sum.inr ((false, ()), ())))
 else
 some (Sum.inl ((cuts, (), (), (), (IntKind.i64.wrap (i + (1 : Int))), ()), ((b_Floors, b_Debounce, b_Room, b_Park, b_Empty, b_Full, b_Over, b_Cars, ()), (m_Phases, m_Flags, m_Leaving, m_Entries, ()), (y1.2.1.2.2.2.2.1, y1.2.1.2.2.2.2.2.1, y1.2.1.2.2.2.2.2.2.1, ()), ())))
 else
 bif (y1.1.2.2.1 != (8 : Int)) then
 some (Sum.inr (Sum.inr ((false, ()), ())))
 else
 bif (y1.1.2.1 != (0 : Int)) then
 some (Sum.inr (Sum.inr ((false, ()), ())))
 else
 bif (((List.length y1.2.1.1 : Nat) : Int) != (0 : Int)) then
 some (Sum.inr (Sum.inr ((false, ()), ())))
 else
 some (Sum.inl ((cuts, (), (), (), (IntKind.i64.wrap (i + (1 : Int))), ()), ((b_Floors, b_Debounce, b_Room, b_Park, b_Empty, b_Full, b_Over, b_Cars, ()), (m_Phases, m_Flags, m_Leaving, m_Entries, ()), (y1.2.1.2.2.2.2.1, y1.2.1.2.2.2.2.2.1, y1.2.1.2.2.2.2.2.2.1, ()), ())))
 else
 none
 else
 some (Sum.inr (Sum.inl (((), (), (), ()), ((b_Floors, b_Debounce, b_Room, b_Park, b_Empty, b_Full, b_Over, b_Cars, ()), (m_Phases, m_Flags, m_Leaving, m_Entries, ()), (s_Halves_0, s_Halves_1, s_Select, ()), ()))))
 else
 some (Sum.inr (Sum.inl (((), (), (), ()), ((b_Floors, b_Debounce, b_Room, b_Park, b_Empty, b_Full, b_Over, b_Cars, ()), (m_Phases, m_Flags, m_Leaving, m_Entries, ()), (s_Halves_0, s_Halves_1, s_Select, ()), ()))))
theorem n26' (h_l26_sane : (Unit × Unit) → Option ((Bool × Unit) × Unit)) (x : S110_0.T G) : rndI (cfP [(7, e1), (8, e15), (10, e17), (9, e20), (6, Fe.mk (G := G) I85 E85 h_l26_sane Tryz.f6.results.toList), (15, e71), (21, e86), (14, e109)]) P110 J110 111 1 (nr' (ng' Tryz.f5) 0) S110_0 nvx' x = n2c' h_l26_sane x.1.1 x.1.2.2.2.2.1 x.2.1.1 x.2.1.2.1 x.2.1.2.2.1 x.2.1.2.2.2.1 x.2.1.2.2.2.2.1 x.2.1.2.2.2.2.2.1 x.2.1.2.2.2.2.2.2.1 x.2.1.2.2.2.2.2.2.2.1 x.2.2.1.1 x.2.2.1.2.1 x.2.2.1.2.2.1 x.2.2.1.2.2.2.1 x.2.2.2.1.1 x.2.2.2.1.2.1 x.2.2.2.1.2.2.1 := by kernel_rfl
theorem n20' : LoopOK Tryz.prog G 111 (P110 0) (nr' (ng' Tryz.f5) 0) := lk cx t110 J110 1 S110_0 nvx' (rfl : nc8' = _) (by kernel_rfl) (an0 (by kernel_rfl)) fun x => (n26' (fun _ => ngd' ) x).trans (by kernel_rfl)
noncomputable def H110 (h_l26_sane : (Unit × Unit) → Option ((Bool × Unit) × Unit)) (n_f0 n_f1 : Int) (l cuts : List (Int)) : Option ((Bool × Unit) × Unit) :=
 (ncz' n_f0 (250 : Int)).bind fun y1 =>
 (nh2' y1.2.1.1 y1.2.1.2.1 y1.2.1.2.2.1 y1.2.1.2.2.2.1 y1.2.1.2.2.2.2.1 y1.2.1.2.2.2.2.2.1 y1.2.1.2.2.2.2.2.2.1 y1.2.1.2.2.2.2.2.2.2.1 l).bind fun y2 =>
 (nfw' y1.2.1.1 y1.2.1.2.1 y1.2.1.2.2.1 y1.2.1.2.2.2.1 y1.2.1.2.2.2.2.1 y1.2.1.2.2.2.2.2.1 y1.2.1.2.2.2.2.2.2.1 y1.2.1.2.2.2.2.2.2.2.1 y2.2.1.1 y2.2.1.2.1 y2.2.1.2.2.1 y2.2.1.2.2.2.1).bind fun y3 =>
 (nhz' y1.2.1.1 y1.2.1.2.1 y1.2.1.2.2.1 y1.2.1.2.2.2.1 y1.2.1.2.2.2.2.1 y1.2.1.2.2.2.2.2.1 y1.2.1.2.2.2.2.2.2.1 y1.2.1.2.2.2.2.2.2.2.1 y3.1.1).bind fun y4 =>
 bif (decide (y1.2.1.2.2.1 < (IntKind.i64.wrap (((ByteArray.size y4.1.1 : Nat) : Int) + (6 : Int))))) then
 (h_l26_sane ((), ())).bind fun y5 =>
 some ((y5.1.1, ()), ())
 else
 bif (Nat.ble ((ByteArray.size y4.1.1) + (ByteArray.size (ByteArray.mk (Array.mk [(1 : UInt8), (2 : UInt8)])))) 4611686018427387904) then
 (nc8' ((cuts, (), (), (), (0 : Int), ()), (y1.2.1, y2.2.1, ((y4.1.1 ++ (ByteArray.mk (Array.mk [(1 : UInt8), (2 : UInt8)]))), (ByteArray.mk (Array.mk [(111 : UInt8), (108 : UInt8), (100 : UInt8)])), (0 : Int), ()), ()))).bind fun y6 =>
 (match y6 with
 | .inl y7 =>
 (ncd' y7.2.1.1 y7.2.1.2.1 y7.2.1.2.2.1 y7.2.1.2.2.2.1 y7.2.1.2.2.2.2.1 y7.2.1.2.2.2.2.2.1 y7.2.1.2.2.2.2.2.2.1 y7.2.1.2.2.2.2.2.2.2.1 y7.2.2.2.1.1 y7.2.2.2.1.2.1 y7.2.2.2.1.2.2.1 (1048576 : Int)).bind fun y8 =>
 Option.bind (bif (y8.1.2.2.1 == (0 : Int)) then
 (ne8' y8.2.1.1 y8.2.1.2.1 y8.2.1.2.2.1 y8.2.1.2.2.2.1 y7.2.2.1.1 y7.2.2.1.2.1 y7.2.2.1.2.2.1 y7.2.2.1.2.2.2.1).bind fun y9 =>
 bif y9.1.1 then
 (ndr' y7.2.1.1 y7.2.1.2.1 y7.2.1.2.2.1 y7.2.1.2.2.2.1 y7.2.1.2.2.2.2.1 y7.2.1.2.2.2.2.2.1 y7.2.1.2.2.2.2.2.2.1 y7.2.1.2.2.2.2.2.2.2.1 y8.2.1.1 y8.2.1.2.1 y8.2.1.2.2.1 y8.2.1.2.2.2.1 y8.2.1.2.2.2.2.1 y8.2.1.2.2.2.2.2.1 y8.2.1.2.2.2.2.2.2.1 y8.2.1.2.2.2.2.2.2.2.1 y8.2.1.2.2.2.2.2.2.2.2.1 y8.2.1.2.2.2.2.2.2.2.2.2.1 y8.2.1.2.2.2.2.2.2.2.2.2.2.1 y8.2.1.2.2.2.2.2.2.2.2.2.2.2.1 y8.2.1.2.2.2.2.2.2.2.2.2.2.2.2.1 y8.2.1.2.2.2.2.2.2.2.2.2.2.2.2.2.1 y8.2.1.2.2.2.2.2.2.2.2.2.2.2.2.2.2.1 y8.2.1.2.2.2.2.2.2.2.2.2.2.2.2.2.2.2.1).bind fun y10 =>
 bif y10.1.1 then
 (h_l26_sane ((), ())).bind fun y11 =>
 some ((y11.1.1, ()), ())
 else
 some ((false, ()), ())
 else
 some ((false, ()), ())
 else
 some ((false, ()), ())) fun y12 =>
 some ((y12.1.1, ()), ())
 | .inr y7 =>
 some ((y7.1.1, ()), ()))
 else
 none
theorem q110 (h_l26_sane : (Unit × Unit) → Option ((Bool × Unit) × Unit)) (x : I110.T G) : endI (cfP [(7, e1), (8, e15), (10, e17), (9, e20), (6, Fe.mk (G := G) I85 E85 h_l26_sane Tryz.f6.results.toList), (15, e71), (21, e86), (14, e109)]) P110 J110 111 (ng' Tryz.f5) I110 E110 x = H110 h_l26_sane x.1.1.1 x.1.1.2.1 x.1.2.1 x.1.2.2.1 := by kernel_rfl
noncomputable def e110 : Fe G := ⟨I110, E110, fun x => F_l26_RestartCuts x.1.1.1 x.1.1.2.1 x.1.2.1 x.1.2.2.1, Tryz.f5.results.toList⟩
theorem k110 : FnOK Tryz.prog G 5 e110 := fk cx t110 J110 (lp := P110) Tryz.func5 (by kernel_rfl) (by kernel_rfl) rfl (np' _ (by kernel_rfl) (nh' n20' nw')) fun x => (q110 (fun _ => ngd' ) x).trans (by kernel_rfl)
def I111 : Sp := ⟨[(0, .agg c'21), (1, .agg c'21)], [], []⟩
def E111 : SL := [(.ret, ⟨[(4, ob)], [], []⟩)]
def nz8' : Sp := ⟨[(2, op 32), (3, op 48), (5, oi64)], [(32, c'21), (48, c'21)], []⟩
def nzk' : SL := [(.exit 0, ⟨[], [], []⟩), (.ret, ⟨[(4, ob)], [], []⟩)]
def J111 : Nat → Option SL := jl []
noncomputable def P111 : Nat → St G → M (Ex × St G) := pl [lpX nz8' nzk' nll']
theorem n3k' : LoopOK Tryz.prog G 66 (P111 0) (nr' (ng' Tryz.f38) 0) := lk cx tn J111 1 nz8' nzk' (rfl : nll' = _) (by kernel_rfl) (an0 (by kernel_rfl)) fun x => by kernel_rfl
noncomputable def e111 : Fe G := ⟨I111, E111, fun x => nrz' x.1.1.1 x.1.1.2.1 x.1.1.2.2.1 x.1.1.2.2.2.1 x.1.1.2.2.2.2.1 x.1.1.2.2.2.2.2.1 x.1.2.1.1 x.1.2.1.2.1 x.1.2.1.2.2.1 x.1.2.1.2.2.2.1 x.1.2.1.2.2.2.2.1 x.1.2.1.2.2.2.2.2.1, Tryz.f38.results.toList⟩
theorem k111 : FnOK Tryz.prog G 38 e111 := fk cx tn J111 (lp := P111) Tryz.func38 (by kernel_rfl) (by kernel_rfl) rfl (np' _ (by kernel_rfl) (nh' n3k' nw')) fun x => by kernel_rfl
def I112 : Sp := ⟨[(0, oro 3), (1, oro 3)], [], []⟩
def E112 : SL := [(.ret, ⟨[(4, ob)], [], []⟩)]
def nzz' : Sp := ⟨[(0, oro 3), (1, oro 3), (5, oi64)], [], []⟩
def nzv' : SL := [(.exit 0, ⟨[], [], []⟩), (.ret, ⟨[(4, ob)], [], []⟩)]
def J112 : Nat → Option SL := jl []
noncomputable def P112 : Nat → St G → M (Ex × St G) := pl [lpX nzz' nzv' nij']
theorem n3i' : LoopOK Tryz.prog G 26 (P112 0) (nr' (ng' Tryz.f37) 0) := lk cx tn J112 1 nzz' nzv' (rfl : nij' = _) (by kernel_rfl) (an0 (by kernel_rfl)) fun x => by kernel_rfl
noncomputable def e112 : Fe G := ⟨I112, E112, fun x => nm2' x.1.1 x.1.2.1, Tryz.f37.results.toList⟩
theorem k112 : FnOK Tryz.prog G 37 e112 := fk cx tn J112 (lp := P112) Tryz.func37 (by kernel_rfl) (by kernel_rfl) rfl (np' _ (by kernel_rfl) (nh' n3i' nw')) fun x => by kernel_rfl
def I113 : Sp := ⟨[(0, oro 82), (1, oro 82)], [], []⟩
def E113 : SL := [(.ret, ⟨[(4, ob)], [], []⟩)]
def nzt' : Sp := ⟨[(0, oro 82), (1, oro 82), (5, oi64)], [], []⟩
def nzy' : SL := [(.exit 0, ⟨[], [], []⟩), (.ret, ⟨[(4, ob)], [], []⟩)]
def J113 : Nat → Option SL := jl []
noncomputable def P113 : Nat → St G → M (Ex × St G) := pl [lpX nzt' nzy' nhv']
theorem n2t' : LoopOK Tryz.prog G 26 (P113 0) (nr' (ng' Tryz.f36) 0) := lk cx tn J113 1 nzt' nzy' (rfl : nhv' = _) (by kernel_rfl) (an0 (by kernel_rfl)) fun x => by kernel_rfl
noncomputable def e113 : Fe G := ⟨I113, E113, fun x => nl3' x.1.1 x.1.2.1, Tryz.f36.results.toList⟩
theorem k113 : FnOK Tryz.prog G 36 e113 := fk cx tn J113 (lp := P113) Tryz.func36 (by kernel_rfl) (by kernel_rfl) rfl (np' _ (by kernel_rfl) (nh' n2t' nw')) fun x => by kernel_rfl
def I114 : Sp := ⟨[(0, .agg c'22), (1, .agg c'22)], [], []⟩
def E114 : SL := [(.ret, ⟨[(4, ob)], [], []⟩)]
def nzo' : Sp := ⟨[(2, op 32), (3, op 48), (5, oi64)], [(32, c'22), (48, c'22)], []⟩
def nzb' : SL := [(.exit 0, ⟨[(2, op 32), (3, op 48)], [(32, c'22), (48, c'22)], []⟩), (.ret, ⟨[(4, ob)], [], []⟩)]
def nyy' : Sp := ⟨[(2, op 32), (3, op 48), (6, oi64)], [(32, c'22), (48, c'22)], []⟩
def nzw' : SL := [(.exit 2, ⟨[(2, op 32), (3, op 48)], [(32, c'22), (48, c'22)], []⟩), (.ret, ⟨[(4, ob)], [], []⟩)]
def n0p' : Sp := ⟨[(2, op 32), (3, op 48), (7, oi64)], [(32, c'22), (48, c'22)], []⟩
def n0m' : SL := [(.exit 4, ⟨[(2, op 32), (3, op 48)], [(32, c'22), (48, c'22)], []⟩), (.ret, ⟨[(4, ob)], [], []⟩)]
def n0w' : Sp := ⟨[(2, op 32), (3, op 48), (8, oi64)], [(32, c'22), (48, c'22)], []⟩
def nzh' : SL := [(.exit 6, ⟨[], [], []⟩), (.ret, ⟨[(4, ob)], [], []⟩)]
def J114 : Nat → Option SL := jl []
noncomputable def P114 : Nat → St G → M (Ex × St G) := pl [lpX nzo' nzb' nli', lpX nyy' nzw' nls', lpX n0p' n0m' nlf', lpX n0w' nzh' nlu']
theorem t114 : ∀ p ∈ [(21, e86), (36, e113), (37, e112), (38, e111)], FnOK Tryz.prog G p.1 p.2 := (tc k86 (tc k113 (tc k112 (tc k111 tn))))
theorem n3a' : LoopOK Tryz.prog G 168 (P114 3) (nr' (ng' Tryz.f13) 3) := lk cx t114 J114 4 n0w' nzh' (rfl : nlu' = _) (by kernel_rfl) (an0 (by kernel_rfl)) fun x => by kernel_rfl
theorem n3f' : LoopOK Tryz.prog G 168 (P114 2) (nr' (ng' Tryz.f13) 2) := lk cx t114 J114 3 n0p' n0m' (rfl : nlf' = _) (by kernel_rfl) (an0 (by kernel_rfl)) fun x => by kernel_rfl
theorem n3s' : LoopOK Tryz.prog G 168 (P114 1) (nr' (ng' Tryz.f13) 1) := lk cx t114 J114 2 nyy' nzw' (rfl : nls' = _) (by kernel_rfl) (an0 (by kernel_rfl)) fun x => by kernel_rfl
theorem n3c' : LoopOK Tryz.prog G 168 (P114 0) (nr' (ng' Tryz.f13) 0) := lk cx t114 J114 1 nzo' nzb' (rfl : nli' = _) (by kernel_rfl) (an0 (by kernel_rfl)) fun x => by kernel_rfl
noncomputable def e114 : Fe G := ⟨I114, E114, fun x => nx3' x.1.1.1 x.1.1.2.1 x.1.1.2.2.1 x.1.1.2.2.2.1 x.1.1.2.2.2.2.1 x.1.1.2.2.2.2.2.1 x.1.1.2.2.2.2.2.2.1 x.1.1.2.2.2.2.2.2.2.1 x.1.1.2.2.2.2.2.2.2.2.1 x.1.1.2.2.2.2.2.2.2.2.2.1 x.1.1.2.2.2.2.2.2.2.2.2.2.1 x.1.1.2.2.2.2.2.2.2.2.2.2.2.1 x.1.1.2.2.2.2.2.2.2.2.2.2.2.2.1 x.1.1.2.2.2.2.2.2.2.2.2.2.2.2.2.1 x.1.1.2.2.2.2.2.2.2.2.2.2.2.2.2.2.1 x.1.1.2.2.2.2.2.2.2.2.2.2.2.2.2.2.2.1 x.1.2.1.1 x.1.2.1.2.1 x.1.2.1.2.2.1 x.1.2.1.2.2.2.1 x.1.2.1.2.2.2.2.1 x.1.2.1.2.2.2.2.2.1 x.1.2.1.2.2.2.2.2.2.1 x.1.2.1.2.2.2.2.2.2.2.1 x.1.2.1.2.2.2.2.2.2.2.2.1 x.1.2.1.2.2.2.2.2.2.2.2.2.1 x.1.2.1.2.2.2.2.2.2.2.2.2.2.1 x.1.2.1.2.2.2.2.2.2.2.2.2.2.2.1 x.1.2.1.2.2.2.2.2.2.2.2.2.2.2.2.1 x.1.2.1.2.2.2.2.2.2.2.2.2.2.2.2.2.1 x.1.2.1.2.2.2.2.2.2.2.2.2.2.2.2.2.2.1 x.1.2.1.2.2.2.2.2.2.2.2.2.2.2.2.2.2.2.1, Tryz.f13.results.toList⟩
theorem k114 : FnOK Tryz.prog G 13 e114 := fk cx t114 J114 (lp := P114) Tryz.func13 (by kernel_rfl) (by kernel_rfl) rfl (np' _ (by kernel_rfl) (nh' n3c' (nh' n3s' (nh' n3f' (nh' n3a' nw'))))) fun x => by kernel_rfl
end Go.Ovl
