/- The contracts of the program's functions: part 1. -/
import Derived.Test.YthdomhdippmaiaaSig
import Derived.Test.YthdomhdippmaiaaDefs1
import Derived.Test.YthdomhdippmaiaaHand
namespace Go.Ovl
open Go Go.Ab Go.Proofs
set_option maxRecDepth 100000
def c'0 : List CSh := [.int .i64, .int .i64, .int .i64, .int .i64, .flt .f64, .flt .f64, .flt .f64, .own 32768 100]
def c'1 : List CSh := [.int .i64, .int .i64, .int .i64, .int .i64, .flt .f64, .flt .f64, .flt .f64, .own 32769 100]
def c'2 : List CSh := [.int .i64, .int .i64, .int .i64, .int .i64, .flt .f64, .flt .f64, .flt .f64, .ro 100]
def c'3 : List CSh := [.int .i64, .int .i64, .int .i64, .int .i64, .int .i64, .int .i64, .int .i64, .int .i64, .int .i64]
def c'4 : List CSh := [.own 32768 3, .own 32769 4, .own 32770 4, .own 32771 98]
def c'5 : List CSh := [.int .i64, .int .i64, .int .i64, .int .i64, .int .i64]
def c'6 : List CSh := [.int .i64, .int .i64, .int .i64, .int .i64, .bool]
def c'7 : List CSh := [.ro 3, .ro 4, .ro 4, .ro 98]
def c'8 : List CSh := [.own 32772 3, .own 32773 4, .own 32774 4, .own 32775 98]
def c'9 : List CSh := [.own 32768 3, .own 32769 4, .own 32770 4, .ro 98]
def c'10 : List CSh := [.own 32771 3, .own 32772 4, .own 32773 4, .own 32774 98]
def c'11 : List CSh := [.own 32769 3, .own 32770 4, .own 32771 4, .own 32772 98]
def c'12 : List CSh := [.own 32773 3, .own 32774 4, .own 32775 4, .own 32776 98]
def c'13 : List CSh := [.str, .str, .int .i64]
def c'14 : List CSh := [.np 65536 133, .own 32768 5]
def c'15 : List CSh := [.np 65536 133, .ro 5]
def c'16 : List CSh := [.np 176 133, .own 32769 5]
def c'17 : List CSh := [.np 176 133, .own 32768 5]
def c'18 : List CSh := [.int .i64, .int .i64, .int .i64, .own 32768 189, .int .i64, .bool]
def c'19 : List CSh := [.own 32768 3, .own 32769 4, .own 32770 4, .own 32771 98, .str, .str, .int .i64, .own 32772 81, .own 32773 84, .own 32774 92, .own 32775 94, .own 32776 3, .own 32777 96, .int .i64, .int .i64, .int .i64]
def c'20 : List CSh := [.own 32778 3, .own 32779 4, .own 32780 4, .own 32781 98, .str, .str, .int .i64, .own 32782 81, .own 32783 84, .own 32784 92, .own 32785 94, .own 32786 3, .own 32787 96, .int .i64, .int .i64, .int .i64]
def c'21 : List CSh := [.int .i64, .int .i64, .int .i64, .ro 189, .int .i64, .bool]
def c'22 : List CSh := [.ro 3, .ro 4, .ro 4, .ro 98, .str, .str, .int .i64, .ro 81, .ro 84, .ro 92, .ro 94, .ro 3, .ro 96, .int .i64, .int .i64, .int .i64]
theorem cx : Ctx Try.prog G := ⟨sigOK, eqOK, hmix⟩
def I0 : Sp := ⟨[(0, oi64), (1, oi64)], [], []⟩
def E0 : SL := [(.ret, ⟨[(4, op 64)], [(64, c'0)], []⟩)]
def S0_0 : Sp := ⟨[(0, oi64), (1, oi64), (4, op 64), (5, op 80), (6, oi64)], [(64, c'0), (80, c'1)], []⟩
def X0_0 : SL := [(.exit 0, ⟨[(4, op 64), (5, op 80)], [(64, c'0), (80, c'1)], []⟩)]
def J0 : Nat → Option SL := jl []
noncomputable def P0 : Nat → St G → M (Ex × St G) := pl [lpX S0_0 X0_0 nfu']
theorem l0_0 : LoopOK Try.prog G 24 (P0 0) (ns' (nk' Try.f39) 0) := lk cx tn J0 1 S0_0 X0_0 (rfl : nfu' = _) (by kernel_rfl) (an0 (by kernel_rfl)) fun x => by kernel_rfl
noncomputable def e0 : Fe G := ⟨I0, E0, fun x => nic' x.1.1 x.1.2.1, Try.f39.results.toList⟩
theorem k0 : FnOK Try.prog G 39 e0 := fk cx tn J0 (lp := P0) Try.func39 (by kernel_rfl) (by kernel_rfl) rfl (nr' _ (by kernel_rfl) (nn' l0_0 nz')) fun x => by kernel_rfl
def I1 : Sp := ⟨[(0, ou8), (1, ou8)], [], []⟩
def E1 : SL := [(.ret, ⟨[(4, op 64)], [(64, c'0)], []⟩)]
noncomputable def e1 : Fe G := ⟨I1, E1, fun x => nbr' x.1.1 x.1.2.1, Try.f9.results.toList⟩
theorem k1 : FnOK Try.prog G 9 e1 := fk cx (tc k0 tn) (jl []) (lp := (pl [])) Try.func9 (by kernel_rfl) (by kernel_rfl) rfl (an0 (by kernel_rfl)) fun x => by kernel_rfl
def I2 : Sp := ⟨[(0, oi64), (1, oi64), (2, oi64)], [], []⟩
def E2 : SL := [(.ret, ⟨[(6, ob)], [], []⟩)]
noncomputable def e2 : Fe G := ⟨I2, E2, fun x => ndi' x.1.1 x.1.2.1 x.1.2.2.1, Try.f137.results.toList⟩
theorem k2 : FnOK Try.prog G 137 e2 := fk cx tn (jl [(1048577, [(.normal, ⟨[(6, ob)], [], []⟩)])]) (lp := (pl [])) Try.func137 (by kernel_rfl) (by kernel_rfl) rfl (an0 (by kernel_rfl)) fun x => by kernel_rfl
def I3 : Sp := ⟨[(0, .agg c'2), (1, .agg c'3)], [], []⟩
def E3 : SL := [(.ret, ⟨[(4, ob)], [], []⟩)]
def S3_0 : Sp := ⟨[(2, op 32), (3, op 48), (5, .one (.own 32768 3)), (6, oi64)], [(32, c'2), (48, c'3)], []⟩
def X3_0 : SL := [(.exit 0, ⟨[(2, op 32), (3, op 48)], [(32, c'2), (48, c'3)], []⟩), (.ret, ⟨[(4, ob)], [], []⟩)]
def J3 : Nat → Option SL := jl [(1048585, [(.normal, ⟨[(4, ob)], [], []⟩)])]
noncomputable def P3 : Nat → St G → M (Ex × St G) := pl [lpX S3_0 X3_0 nhw']
theorem t3 : ∀ p ∈ [(137, e2)], FnOK Try.prog G p.1 p.2 := (tc k2 tn)
theorem l3_0 : LoopOK Try.prog G 56 (P3 0) (ns' (nk' Try.f138) 0) := lk cx t3 J3 1 S3_0 X3_0 (rfl : nhw' = _) (by kernel_rfl) (an0 (by kernel_rfl)) fun x => by kernel_rfl
noncomputable def e3 : Fe G := ⟨I3, E3, fun x => njn' x.1.1.1 x.1.1.2.1 x.1.1.2.2.1 x.1.1.2.2.2.1 x.1.1.2.2.2.2.1 x.1.1.2.2.2.2.2.1 x.1.1.2.2.2.2.2.2.1 x.1.1.2.2.2.2.2.2.2.1 x.1.2.1.1 x.1.2.1.2.1 x.1.2.1.2.2.1 x.1.2.1.2.2.2.1 x.1.2.1.2.2.2.2.1 x.1.2.1.2.2.2.2.2.1 x.1.2.1.2.2.2.2.2.2.1 x.1.2.1.2.2.2.2.2.2.2.1 x.1.2.1.2.2.2.2.2.2.2.2.1, Try.f138.results.toList⟩
theorem k3 : FnOK Try.prog G 138 e3 := fk cx t3 J3 (lp := P3) Try.func138 (by kernel_rfl) (by kernel_rfl) rfl (nr' _ (by kernel_rfl) (nn' l3_0 nz')) fun x => by kernel_rfl
def I4 : Sp := ⟨[(0, .agg c'2)], [], []⟩
def E4 : SL := [(.ret, ⟨[(2, oi64)], [], []⟩)]
def S4_0 : Sp := ⟨[(1, op 16), (3, ob), (4, oi64)], [(16, c'2)], []⟩
def X4_0 : SL := [(.exit 0, ⟨[(1, op 16), (3, ob)], [(16, c'2)], []⟩)]
def J4 : Nat → Option SL := jl [(1048581, [(.normal, ⟨[(1, op 16), (3, ob)], [(16, c'2)], []⟩)]), (1048585, [(.normal, ⟨[(1, op 16), (3, ob), (4, oi64)], [(16, c'2)], []⟩)])]
noncomputable def P4 : Nat → St G → M (Ex × St G) := pl [lpX S4_0 X4_0 nhy']
theorem t4 : ∀ p ∈ [(137, e2), (138, e3)], FnOK Try.prog G p.1 p.2 := (tc k2 (tc k3 tn))
theorem l4_0 : LoopOK Try.prog G 73 (P4 0) (ns' (nk' Try.f93) 0) := lk cx t4 J4 1 S4_0 X4_0 (rfl : nhy' = _) (by kernel_rfl) (an0 (by kernel_rfl)) fun x => by kernel_rfl
noncomputable def e4 : Fe G := ⟨I4, E4, fun x => ne1' x.1.1.1 x.1.1.2.1 x.1.1.2.2.1 x.1.1.2.2.2.1 x.1.1.2.2.2.2.1 x.1.1.2.2.2.2.2.1 x.1.1.2.2.2.2.2.2.1 x.1.1.2.2.2.2.2.2.2.1, Try.f93.results.toList⟩
theorem k4 : FnOK Try.prog G 93 e4 := fk cx t4 J4 (lp := P4) Try.func93 (by kernel_rfl) (by kernel_rfl) rfl (nr' _ (by kernel_rfl) (nn' l4_0 nz')) fun x => by kernel_rfl
def I5 : Sp := ⟨[(0, .agg c'2)], [], []⟩
def E5 : SL := [(.ret, ⟨[(2, op 32)], [(32, c'4)], []⟩)]
noncomputable def e5 : Fe G := ⟨I5, E5, fun x => nhz' x.1.1.1 x.1.1.2.1 x.1.1.2.2.1 x.1.1.2.2.2.1 x.1.1.2.2.2.2.1 x.1.1.2.2.2.2.2.1 x.1.1.2.2.2.2.2.2.1 x.1.1.2.2.2.2.2.2.2.1, Try.f40.results.toList⟩
theorem k5 : FnOK Try.prog G 40 e5 := fk cx (tc k4 tn) (jl []) (lp := (pl [])) Try.func40 (by kernel_rfl) (by kernel_rfl) rfl (an0 (by kernel_rfl)) fun x => by kernel_rfl
def I6 : Sp := ⟨[(0, .agg c'2), (1, oro 5), (2, oi64)], [], []⟩
def E6 : SL := [(.ret, ⟨[(6, .one (.own 32768 56))], [], []⟩)]
def S6_0 : Sp := ⟨[(1, oro 5), (2, oi64), (7, .one (.own 32768 56)), (8, oi64), (9, oi64), (10, oi64)], [], []⟩
def X6_0 : SL := [(.exit 0, ⟨[(7, .one (.own 32768 56))], [], []⟩)]
def J6 : Nat → Option SL := jl [(18, [(.normal, ⟨[(1, oro 5), (2, oi64), (7, .one (.own 32768 56)), (8, oi64), (9, oi64), (10, oi64), (11, oi64), (13, op 208)], [(208, c'5)], []⟩)]), (20, [(.normal, ⟨[(1, oro 5), (2, oi64), (7, .one (.own 32768 56)), (8, oi64), (9, oi64), (10, oi64), (11, oi64), (13, op 208)], [(208, c'5)], []⟩)])]
noncomputable def P6 : Nat → St G → M (Ex × St G) := pl [lpX S6_0 X6_0 ngu']
theorem l6_0 : LoopOK Try.prog G 112 (P6 0) (ns' (nk' Try.f18) 0) := lk cx tn J6 1 S6_0 X6_0 (rfl : ngu' = _) (by kernel_rfl) (an0 (by kernel_rfl)) fun x => by kernel_rfl
noncomputable def e6 : Fe G := ⟨I6, E6, fun x => nhr' x.1.1.1 x.1.1.2.1 x.1.1.2.2.1 x.1.1.2.2.2.1 x.1.1.2.2.2.2.1 x.1.1.2.2.2.2.2.1 x.1.1.2.2.2.2.2.2.1 x.1.1.2.2.2.2.2.2.2.1 x.1.2.1 x.1.2.2.1, Try.f18.results.toList⟩
theorem k6 : FnOK Try.prog G 18 e6 := fk cx tn J6 (lp := P6) Try.func18 (by kernel_rfl) (by kernel_rfl) rfl (nr' _ (by kernel_rfl) (nn' l6_0 nz')) fun x => by kernel_rfl
def I7 : Sp := ⟨[(0, .agg c'2), (1, oi64), (2, oi64)], [], []⟩
def E7 : SL := [(.ret, ⟨[(6, ob)], [], []⟩)]
noncomputable def e7 : Fe G := ⟨I7, E7, fun x => ngy' x.1.1.1 x.1.1.2.1 x.1.1.2.2.1 x.1.1.2.2.2.1 x.1.1.2.2.2.2.1 x.1.1.2.2.2.2.2.1 x.1.1.2.2.2.2.2.2.1 x.1.1.2.2.2.2.2.2.2.1 x.1.2.1 x.1.2.2.1, Try.f108.results.toList⟩
theorem k7 : FnOK Try.prog G 108 e7 := fk cx (tc k4 (tc k2 tn)) (jl [(1048579, [(.normal, ⟨[(6, ob)], [], []⟩)])]) (lp := (pl [])) Try.func108 (by kernel_rfl) (by kernel_rfl) rfl (an0 (by kernel_rfl)) fun x => by kernel_rfl
def I8 : Sp := ⟨[(0, .agg c'6), (1, .agg c'6)], [], []⟩
def E8 : SL := [(.ret, ⟨[(4, ob)], [], []⟩)]
noncomputable def e8 : Fe G := ⟨I8, E8, fun x => ni4' x.1.1.1 x.1.1.2.1 x.1.1.2.2.1 x.1.1.2.2.2.1 x.1.1.2.2.2.2.1 x.1.2.1.1 x.1.2.1.2.1 x.1.2.1.2.2.1 x.1.2.1.2.2.2.1 x.1.2.1.2.2.2.2.1, Try.f109.results.toList⟩
theorem k8 : FnOK Try.prog G 109 e8 := fk cx tn (jl [(1048577, [(.normal, ⟨[(4, ob)], [], []⟩)])]) (lp := (pl [])) Try.func109 (by kernel_rfl) (by kernel_rfl) rfl (an0 (by kernel_rfl)) fun x => by kernel_rfl
def I9 : Sp := ⟨[(0, .agg c'2), (1, .agg c'7)], [], []⟩
def E9 : SL := [(.ret, ⟨[(4, ob)], [], []⟩)]
def S9_0 : Sp := ⟨[(2, op 32), (3, op 48), (5, oi64), (6, oi64)], [(32, c'2), (48, c'7)], []⟩
def X9_0 : SL := [(.exit 0, ⟨[(2, op 32), (3, op 48), (5, oi64)], [(32, c'2), (48, c'7)], []⟩), (.ret, ⟨[(4, ob)], [], []⟩)]
def S9_1 : Sp := ⟨[(2, op 32), (3, op 48), (5, oi64), (7, oi64)], [(32, c'2), (48, c'7)], []⟩
def X9_1 : SL := [(.exit 2, ⟨[], [], []⟩), (.ret, ⟨[(4, ob)], [], []⟩)]
def J9 : Nat → Option SL := jl [(1048589, [(.normal, ⟨[(2, op 32), (3, op 48), (5, oi64), (7, oi64), (109, ob)], [(32, c'2), (48, c'7)], []⟩)])]
noncomputable def P9 : Nat → St G → M (Ex × St G) := pl [lpX S9_0 X9_0 ngk', lpX S9_1 X9_1 ngn']
theorem t9 : ∀ p ∈ [(93, e4), (108, e7), (109, e8)], FnOK Try.prog G p.1 p.2 := (tc k4 (tc k7 (tc k8 tn)))
theorem l9_1 : LoopOK Try.prog G 110 (P9 1) (ns' (nk' Try.f57) 1) := lk cx t9 J9 2 S9_1 X9_1 (rfl : ngn' = _) (by kernel_rfl) (an0 (by kernel_rfl)) fun x => by kernel_rfl
theorem l9_0 : LoopOK Try.prog G 110 (P9 0) (ns' (nk' Try.f57) 0) := lk cx t9 J9 1 S9_0 X9_0 (rfl : ngk' = _) (by kernel_rfl) (an0 (by kernel_rfl)) fun x => by kernel_rfl
noncomputable def e9 : Fe G := ⟨I9, E9, fun x => nf7' x.1.1.1 x.1.1.2.1 x.1.1.2.2.1 x.1.1.2.2.2.1 x.1.1.2.2.2.2.1 x.1.1.2.2.2.2.2.1 x.1.1.2.2.2.2.2.2.1 x.1.1.2.2.2.2.2.2.2.1 x.1.2.1.1 x.1.2.1.2.1 x.1.2.1.2.2.1 x.1.2.1.2.2.2.1, Try.f57.results.toList⟩
theorem k9 : FnOK Try.prog G 57 e9 := fk cx t9 J9 (lp := P9) Try.func57 (by kernel_rfl) (by kernel_rfl) rfl (nr' _ (by kernel_rfl) (nn' l9_0 (nn' l9_1 nz'))) fun x => by kernel_rfl
def I10 : Sp := ⟨[(0, oi64), (1, oi64), (2, oi64)], [], []⟩
def E10 : SL := [(.ret, ⟨[(6, ob)], [], []⟩)]
noncomputable def e10 : Fe G := ⟨I10, E10, fun x => ne0' x.1.1 x.1.2.1 x.1.2.2.1, Try.f110.results.toList⟩
theorem k10 : FnOK Try.prog G 110 e10 := fk cx tn (jl [(1048577, [(.normal, ⟨[(6, ob)], [], []⟩)])]) (lp := (pl [])) Try.func110 (by kernel_rfl) (by kernel_rfl) rfl (an0 (by kernel_rfl)) fun x => by kernel_rfl
def I11 : Sp := ⟨[(0, .agg c'2), (1, .agg c'5)], [], []⟩
def E11 : SL := [(.ret, ⟨[(4, ob)], [], []⟩)]
noncomputable def e11 : Fe G := ⟨I11, E11, fun x => nhi' x.1.1.1 x.1.1.2.1 x.1.1.2.2.1 x.1.1.2.2.2.1 x.1.1.2.2.2.2.1 x.1.1.2.2.2.2.2.1 x.1.1.2.2.2.2.2.2.1 x.1.1.2.2.2.2.2.2.2.1 x.1.2.1.1 x.1.2.1.2.1 x.1.2.1.2.2.1 x.1.2.1.2.2.2.1 x.1.2.1.2.2.2.2.1, Try.f58.results.toList⟩
theorem k11 : FnOK Try.prog G 58 e11 := fk cx (tc k4 (tc k7 (tc k10 tn))) (jl [(1048580, [(.normal, ⟨[(2, op 32), (3, op 48), (5, ob), (6, ob)], [(32, c'2), (48, c'5)], []⟩)]), (1048584, [(.normal, ⟨[(4, ob)], [], []⟩)]), (1048586, [(.normal, ⟨[(4, ob)], [], []⟩)]), (1048588, [(.normal, ⟨[(4, ob)], [], []⟩)]), (1048591, [(.normal, ⟨[(4, ob)], [], []⟩)]), (1048593, [(.normal, ⟨[(4, ob)], [], []⟩)])]) (lp := (pl [])) Try.func58 (by kernel_rfl) (by kernel_rfl) rfl (an0 (by kernel_rfl)) fun x => by kernel_rfl
def I12 : Sp := ⟨[(0, .agg c'7), (1, oi64), (2, oi64)], [], []⟩
def E12 : SL := [(.ret, ⟨[(6, oi64)], [], []⟩)]
def S12_0 : Sp := ⟨[(1, oi64), (2, oi64), (3, op 48), (7, oi64)], [(48, c'7)], []⟩
def X12_0 : SL := [(.exit 0, ⟨[], [], []⟩), (.ret, ⟨[(6, oi64)], [], []⟩)]
def J12 : Nat → Option SL := jl [(1048580, [(.normal, ⟨[(1, oi64), (2, oi64), (3, op 48), (7, oi64), (32, ob)], [(48, c'7)], []⟩)])]
noncomputable def P12 : Nat → St G → M (Ex × St G) := pl [lpX S12_0 X12_0 ni0']
theorem l12_0 : LoopOK Try.prog G 34 (P12 0) (ns' (nk' Try.f59) 0) := lk cx tn J12 1 S12_0 X12_0 (rfl : ni0' = _) (by kernel_rfl) (an0 (by kernel_rfl)) fun x => by kernel_rfl
noncomputable def e12 : Fe G := ⟨I12, E12, fun x => nkm' x.1.1.1 x.1.1.2.1 x.1.1.2.2.1 x.1.1.2.2.2.1 x.1.2.1 x.1.2.2.1, Try.f59.results.toList⟩
theorem k12 : FnOK Try.prog G 59 e12 := fk cx tn J12 (lp := P12) Try.func59 (by kernel_rfl) (by kernel_rfl) rfl (nr' _ (by kernel_rfl) (nn' l12_0 nz')) fun x => by kernel_rfl
def I13 : Sp := ⟨[(0, oro 98), (1, .agg c'6)], [], []⟩
def E13 : SL := [(.ret, ⟨[(4, .one (.own 32768 98))], [], []⟩)]
def S13_0 : Sp := ⟨[(0, oro 98), (3, op 48), (5, .one (.own 32768 98)), (6, ob), (7, oi64)], [(48, c'6)], []⟩
def X13_0 : SL := [(.exit 0, ⟨[(3, op 48), (5, .one (.own 32768 98)), (6, ob)], [(48, c'6)], []⟩)]
def J13 : Nat → Option SL := jl [(10, [(.normal, ⟨[(0, oro 98), (3, op 48), (5, .one (.own 32768 98)), (6, ob), (7, oi64)], [(48, c'6)], []⟩)]), (1048582, [(.normal, ⟨[(0, oro 98), (3, op 48), (5, .one (.own 32768 98)), (6, ob), (7, oi64), (23, ob)], [(48, c'6)], []⟩)])]
noncomputable def P13 : Nat → St G → M (Ex × St G) := pl [lpX S13_0 X13_0 ngs']
theorem t13 : ∀ p ∈ [(109, e8)], FnOK Try.prog G p.1 p.2 := (tc k8 tn)
theorem l13_0 : LoopOK Try.prog G 42 (P13 0) (ns' (nk' Try.f75) 0) := lk cx t13 J13 1 S13_0 X13_0 (rfl : ngs' = _) (by kernel_rfl) (an0 (by kernel_rfl)) fun x => by kernel_rfl
noncomputable def e13 : Fe G := ⟨I13, E13, fun x => nhx' x.1.1 x.1.2.1.1 x.1.2.1.2.1 x.1.2.1.2.2.1 x.1.2.1.2.2.2.1 x.1.2.1.2.2.2.2.1, Try.f75.results.toList⟩
theorem k13 : FnOK Try.prog G 75 e13 := fk cx t13 J13 (lp := P13) Try.func75 (by kernel_rfl) (by kernel_rfl) rfl (nr' _ (by kernel_rfl) (nn' l13_0 nz')) fun x => by kernel_rfl
def I14 : Sp := ⟨[(0, .agg c'2), (1, .agg c'7), (2, .agg c'5)], [], []⟩
def E14 : SL := [(.ret, ⟨[(6, op 96), (7, oi64)], [(96, c'4)], []⟩)]
noncomputable def e14 : Fe G := ⟨I14, E14, fun x => njo' x.1.1.1 x.1.1.2.1 x.1.1.2.2.1 x.1.1.2.2.2.1 x.1.1.2.2.2.2.1 x.1.1.2.2.2.2.2.1 x.1.1.2.2.2.2.2.2.1 x.1.1.2.2.2.2.2.2.2.1 x.1.2.1.1 x.1.2.1.2.1 x.1.2.1.2.2.1 x.1.2.1.2.2.2.1 x.1.2.2.1.1 x.1.2.2.1.2.1 x.1.2.2.1.2.2.1 x.1.2.2.1.2.2.2.1 x.1.2.2.1.2.2.2.2.1, Try.f30.results.toList⟩
theorem k14 : FnOK Try.prog G 30 e14 := fk cx (tc k9 (tc k11 (tc k12 (tc k13 tn)))) (jl [(1048588, [(.normal, ⟨[(4, op 64), (5, op 80), (6, op 96), (8, oi64), (77, ob)], [(64, c'4), (80, c'5), (96, c'8)], []⟩)]), (2097168, [(.normal, ⟨[(4, op 64), (6, op 96), (8, oi64)], [(64, c'9), (96, c'10)], []⟩)])]) (lp := (pl [])) Try.func30 (by kernel_rfl) (by kernel_rfl) rfl (an0 (by kernel_rfl)) fun x => by kernel_rfl
def I15 : Sp := ⟨[(0, .agg c'2), (1, oro 5)], [], []⟩
def E15 : SL := [(.ret, ⟨[(4, op 64)], [(64, c'4)], []⟩)]
def S15_0 : Sp := ⟨[(2, op 32), (4, op 64), (5, op 80), (6, .one (.own 32768 56)), (7, oi64)], [(32, c'2), (64, c'11), (80, c'12)], []⟩
def X15_0 : SL := [(.exit 0, ⟨[(4, op 64), (5, op 80)], [(64, c'4), (80, c'8)], []⟩)]
def J15 : Nat → Option SL := jl []
noncomputable def P15 : Nat → St G → M (Ex × St G) := pl [lpX S15_0 X15_0 nhu']
theorem t15 : ∀ p ∈ [(40, e5), (18, e6), (30, e14)], FnOK Try.prog G p.1 p.2 := (tc k5 (tc k6 (tc k14 tn)))
theorem l15_0 : LoopOK Try.prog G 30 (P15 0) (ns' (nk' Try.f10) 0) := lk cx t15 J15 1 S15_0 X15_0 (rfl : nhu' = _) (by kernel_rfl) (an0 (by kernel_rfl)) fun x => by kernel_rfl
noncomputable def e15 : Fe G := ⟨I15, E15, fun x => nhm' x.1.1.1 x.1.1.2.1 x.1.1.2.2.1 x.1.1.2.2.2.1 x.1.1.2.2.2.2.1 x.1.1.2.2.2.2.2.1 x.1.1.2.2.2.2.2.2.1 x.1.1.2.2.2.2.2.2.2.1 x.1.2.1, Try.f10.results.toList⟩
theorem k15 : FnOK Try.prog G 10 e15 := fk cx t15 J15 (lp := P15) Try.func10 (by kernel_rfl) (by kernel_rfl) rfl (nr' _ (by kernel_rfl) (nn' l15_0 nz')) fun x => by kernel_rfl
def I16 : Sp := ⟨[(0, ob)], [], []⟩
def E16 : SL := [(.ret, ⟨[(2, oi64)], [], []⟩)]
noncomputable def e16 : Fe G := ⟨I16, E16, fun x => nh8' x.1.1, Try.f81.results.toList⟩
theorem k16 : FnOK Try.prog G 81 e16 := fk cx tn (jl []) (lp := (pl [])) Try.func81 (by kernel_rfl) (by kernel_rfl) rfl (an0 (by kernel_rfl)) fun x => by kernel_rfl
def I17 : Sp := ⟨[(0, .agg c'2), (1, .agg c'7)], [], []⟩
def E17 : SL := [(.ret, ⟨[(4, .one (.own 32768 56))], [], []⟩)]
def S17_0 : Sp := ⟨[(3, op 48), (5, .one (.own 32768 56)), (6, oi64)], [(48, c'7)], []⟩
def X17_0 : SL := [(.exit 0, ⟨[(3, op 48), (5, .one (.own 32768 56))], [(48, c'7)], []⟩)]
def S17_1 : Sp := ⟨[(3, op 48), (5, .one (.own 32768 56)), (7, oi64)], [(48, c'7)], []⟩
def X17_1 : SL := [(.exit 2, ⟨[(5, .one (.own 32768 56))], [], []⟩)]
def J17 : Nat → Option SL := jl []
noncomputable def P17 : Nat → St G → M (Ex × St G) := pl [lpX S17_0 X17_0 nfx', lpX S17_1 X17_1 nfy']
theorem t17 : ∀ p ∈ [(57, e9), (81, e16)], FnOK Try.prog G p.1 p.2 := (tc k9 (tc k16 tn))
theorem l17_1 : LoopOK Try.prog G 84 (P17 1) (ns' (nk' Try.f33) 1) := lk cx t17 J17 2 S17_1 X17_1 (rfl : nfy' = _) (by kernel_rfl) (an0 (by kernel_rfl)) fun x => by kernel_rfl
theorem l17_0 : LoopOK Try.prog G 84 (P17 0) (ns' (nk' Try.f33) 0) := lk cx t17 J17 1 S17_0 X17_0 (rfl : nfx' = _) (by kernel_rfl) (an0 (by kernel_rfl)) fun x => by kernel_rfl
noncomputable def e17 : Fe G := ⟨I17, E17, fun x => nfn' x.1.1.1 x.1.1.2.1 x.1.1.2.2.1 x.1.1.2.2.2.1 x.1.1.2.2.2.2.1 x.1.1.2.2.2.2.2.1 x.1.1.2.2.2.2.2.2.1 x.1.1.2.2.2.2.2.2.2.1 x.1.2.1.1 x.1.2.1.2.1 x.1.2.1.2.2.1 x.1.2.1.2.2.2.1, Try.f33.results.toList⟩
theorem k17 : FnOK Try.prog G 33 e17 := fk cx t17 J17 (lp := P17) Try.func33 (by kernel_rfl) (by kernel_rfl) rfl (nr' _ (by kernel_rfl) (nn' l17_0 (nn' l17_1 nz'))) fun x => by kernel_rfl
def I18 : Sp := ⟨[(0, os)], [], []⟩
def E18 : SL := [(.ret, ⟨[(2, ou8)], [], []⟩)]
def S18_0 : Sp := ⟨[(0, os), (3, oi64), (4, oi64)], [], []⟩
def X18_0 : SL := [(.exit 0, ⟨[(3, oi64)], [], []⟩)]
def S18_1 : Sp := ⟨[(0, os), (3, oi64), (4, oi64), (5, oi64)], [], []⟩
def X18_1 : SL := [(.exit 2, ⟨[(0, os), (3, oi64), (4, oi64)], [], []⟩)]
def J18 : Nat → Option SL := jl []
noncomputable def P18 : Nat → St G → M (Ex × St G) := pl [lpX S18_0 X18_0 niz', lpX S18_1 X18_1 nix']
theorem l18_1 : LoopOK Try.prog G 33 (P18 1) (ns' (nk' Try.f99) 1) := lk cx tn J18 2 S18_1 X18_1 (rfl : nix' = _) (by kernel_rfl) (an0 (by kernel_rfl)) fun x => by kernel_rfl
theorem l18_0 : LoopOK Try.prog G 33 (P18 0) (ns' (nk' Try.f99) 0) := lk cx tn J18 1 S18_0 X18_0 (rfl : niz' = _) (by kernel_rfl) (nr' _ (by kernel_rfl) (nn' l18_1 nz')) fun x => by kernel_rfl
noncomputable def e18 : Fe G := ⟨I18, E18, fun x => nkr' x.1.1, Try.f99.results.toList⟩
theorem k18 : FnOK Try.prog G 99 e18 := fk cx tn J18 (lp := P18) Try.func99 (by kernel_rfl) (by kernel_rfl) rfl (nr' _ (by kernel_rfl) (nn' l18_0 (nn' l18_1 nz'))) fun x => by kernel_rfl
def I19 : Sp := ⟨[(0, .agg c'2), (1, .agg c'5)], [], []⟩
def E19 : SL := [(.ret, ⟨[(4, os), (5, oi64)], [], []⟩)]
noncomputable def e19 : Fe G := ⟨I19, E19, fun x => nip' x.1.1.1 x.1.1.2.1 x.1.1.2.2.1 x.1.1.2.2.2.1 x.1.1.2.2.2.2.1 x.1.1.2.2.2.2.2.1 x.1.1.2.2.2.2.2.2.1 x.1.1.2.2.2.2.2.2.2.1 x.1.2.1.1 x.1.2.1.2.1 x.1.2.1.2.2.1 x.1.2.1.2.2.2.1 x.1.2.1.2.2.2.2.1, Try.f47.results.toList⟩
theorem k19 : FnOK Try.prog G 47 e19 := fk cx (tc k11 (tc k18 tn)) (jl []) (lp := (pl [])) Try.func47 (by kernel_rfl) (by kernel_rfl) rfl (an0 (by kernel_rfl)) fun x => by kernel_rfl
def I20 : Sp := ⟨[(0, .agg c'2), (1, oro 56)], [], []⟩
def E20 : SL := [(.ret, ⟨[(4, os)], [], []⟩)]
def S20_0 : Sp := ⟨[(1, oro 56), (2, op 32), (5, os), (6, oi64)], [(32, c'2)], []⟩
def X20_0 : SL := [(.exit 0, ⟨[(5, os)], [], []⟩)]
def J20 : Nat → Option SL := jl []
noncomputable def P20 : Nat → St G → M (Ex × St G) := pl [lpX S20_0 X20_0 nhp']
theorem t20 : ∀ p ∈ [(47, e19)], FnOK Try.prog G p.1 p.2 := (tc k19 tn)
theorem l20_0 : LoopOK Try.prog G 28 (P20 0) (ns' (nk' Try.f19) 0) := lk cx t20 J20 1 S20_0 X20_0 (rfl : nhp' = _) (by kernel_rfl) (an0 (by kernel_rfl)) fun x => by kernel_rfl
noncomputable def e20 : Fe G := ⟨I20, E20, fun x => nhf' x.1.1.1 x.1.1.2.1 x.1.1.2.2.1 x.1.1.2.2.2.1 x.1.1.2.2.2.2.1 x.1.1.2.2.2.2.2.1 x.1.1.2.2.2.2.2.2.1 x.1.1.2.2.2.2.2.2.2.1 x.1.2.1, Try.f19.results.toList⟩
theorem k20 : FnOK Try.prog G 19 e20 := fk cx t20 J20 (lp := P20) Try.func19 (by kernel_rfl) (by kernel_rfl) rfl (nr' _ (by kernel_rfl) (nn' l20_0 nz')) fun x => by kernel_rfl
def I21 : Sp := ⟨[(0, oi64), (1, oi64), (2, oro 3)], [], []⟩
def E21 : SL := [(.ret, ⟨[(6, ob)], [], []⟩)]
def S21_0 : Sp := ⟨[(0, oi64), (1, oi64), (9, oro 3), (10, oi64), (11, oi64)], [], []⟩
def X21_0 : SL := [(.exit 0, ⟨[], [], []⟩), (.ret, ⟨[(6, ob)], [], []⟩)]
def J21 : Nat → Option SL := jl []
noncomputable def P21 : Nat → St G → M (Ex × St G) := pl [lpX S21_0 X21_0 neb']
theorem l21_0 : LoopOK Try.prog G 24 (P21 0) (ns' (nk' Try.f124) 0) := lk cx tn J21 1 S21_0 X21_0 (rfl : neb' = _) (by kernel_rfl) (an0 (by kernel_rfl)) fun x => by kernel_rfl
noncomputable def e21 : Fe G := ⟨I21, E21, fun x => n3' x.1.1 x.1.2.1 x.1.2.2.1, Try.f124.results.toList⟩
theorem k21 : FnOK Try.prog G 124 e21 := fk cx tn J21 (lp := P21) Try.func124 (by kernel_rfl) (by kernel_rfl) rfl (nr' _ (by kernel_rfl) (nn' l21_0 nz')) fun x => by kernel_rfl
def I22 : Sp := ⟨[(0, .agg c'3), (1, oi64)], [], []⟩
def E22 : SL := [(.ret, ⟨[(4, ob)], [], []⟩)]
noncomputable def e22 : Fe G := ⟨I22, E22, fun x => nf4' x.1.1.1 x.1.1.2.1 x.1.1.2.2.1 x.1.1.2.2.2.1 x.1.1.2.2.2.2.1 x.1.1.2.2.2.2.2.1 x.1.1.2.2.2.2.2.2.1 x.1.1.2.2.2.2.2.2.2.1 x.1.1.2.2.2.2.2.2.2.2.1 x.1.2.1, Try.f125.results.toList⟩
theorem k22 : FnOK Try.prog G 125 e22 := fk cx (tc k21 tn) (jl [(1048577, [(.normal, ⟨[(4, ob)], [], []⟩)])]) (lp := (pl [])) Try.func125 (by kernel_rfl) (by kernel_rfl) rfl (an0 (by kernel_rfl)) fun x => by kernel_rfl
def I23 : Sp := ⟨[(0, .agg c'2)], [], []⟩
def E23 : SL := [(.ret, ⟨[(2, ob)], [], []⟩)]
noncomputable def e23 : Fe G := ⟨I23, E23, fun x => nf2' x.1.1.1 x.1.1.2.1 x.1.1.2.2.1 x.1.1.2.2.2.1 x.1.1.2.2.2.2.1 x.1.1.2.2.2.2.2.1 x.1.1.2.2.2.2.2.2.1 x.1.1.2.2.2.2.2.2.2.1, Try.f126.results.toList⟩
theorem k23 : FnOK Try.prog G 126 e23 := fk cx tn (jl [(1048577, [(.normal, ⟨[(2, ob)], [], []⟩)])]) (lp := (pl [])) Try.func126 (by kernel_rfl) (by kernel_rfl) rfl (an0 (by kernel_rfl)) fun x => by kernel_rfl
def I24 : Sp := ⟨[(0, .agg c'2)], [], []⟩
def E24 : SL := [(.ret, ⟨[(2, oi64)], [], []⟩)]
def S24_0 : Sp := ⟨[(1, op 16), (3, ob), (28, oro 100), (29, oi64), (30, oi64)], [(16, c'2)], []⟩
def X24_0 : SL := [(.exit 0, ⟨[(1, op 16), (3, ob)], [(16, c'2)], []⟩)]
def J24 : Nat → Option SL := jl [(1048581, [(.normal, ⟨[(1, op 16), (3, ob)], [(16, c'2)], []⟩)]), (1048585, [(.normal, ⟨[(1, op 16), (3, ob), (28, oro 100), (29, oi64), (30, oi64)], [(16, c'2)], []⟩)])]
noncomputable def P24 : Nat → St G → M (Ex × St G) := pl [lpX S24_0 X24_0 nev']
theorem t24 : ∀ p ∈ [(124, e21), (125, e22), (126, e23)], FnOK Try.prog G p.1 p.2 := (tc k21 (tc k22 (tc k23 tn)))
theorem l24_0 : LoopOK Try.prog G 60 (P24 0) (ns' (nk' Try.f74) 0) := lk cx t24 J24 1 S24_0 X24_0 (rfl : nev' = _) (by kernel_rfl) (an0 (by kernel_rfl)) fun x => by kernel_rfl
noncomputable def e24 : Fe G := ⟨I24, E24, fun x => ncb' x.1.1.1 x.1.1.2.1 x.1.1.2.2.1 x.1.1.2.2.2.1 x.1.1.2.2.2.2.1 x.1.1.2.2.2.2.2.1 x.1.1.2.2.2.2.2.2.1 x.1.1.2.2.2.2.2.2.2.1, Try.f74.results.toList⟩
theorem k24 : FnOK Try.prog G 74 e24 := fk cx t24 J24 (lp := P24) Try.func74 (by kernel_rfl) (by kernel_rfl) rfl (nr' _ (by kernel_rfl) (nn' l24_0 nz')) fun x => by kernel_rfl
def I25 : Sp := ⟨[(0, .agg c'2)], [], []⟩
def E25 : SL := [(.ret, ⟨[(2, op 32)], [(32, c'4)], []⟩)]
noncomputable def e25 : Fe G := ⟨I25, E25, fun x => nef' x.1.1.1 x.1.1.2.1 x.1.1.2.2.1 x.1.1.2.2.2.1 x.1.1.2.2.2.2.1 x.1.1.2.2.2.2.2.1 x.1.1.2.2.2.2.2.2.1 x.1.1.2.2.2.2.2.2.2.1, Try.f29.results.toList⟩
theorem k25 : FnOK Try.prog G 29 e25 := fk cx (tc k24 tn) (jl []) (lp := (pl [])) Try.func29 (by kernel_rfl) (by kernel_rfl) rfl (an0 (by kernel_rfl)) fun x => by kernel_rfl
def I26 : Sp := ⟨[(0, .agg c'13)], [], []⟩
def E26 : SL := [(.ret, ⟨[(2, os)], [], []⟩)]
noncomputable def e26 : Fe G := ⟨I26, E26, fun x => ney' x.1.1.1 x.1.1.2.1 x.1.1.2.2.1, Try.f53.results.toList⟩
theorem k26 : FnOK Try.prog G 53 e26 := fk cx tn (jl []) (lp := (pl [])) Try.func53 (by kernel_rfl) (by kernel_rfl) rfl (an0 (by kernel_rfl)) fun x => by kernel_rfl
def I27 : Sp := ⟨[(0, os)], [], []⟩
def E27 : SL := [(.ret, ⟨[(2, ou8)], [], []⟩)]
def S27_0 : Sp := ⟨[(0, os), (3, ou8), (7, oi64), (8, oi64)], [], []⟩
def X27_0 : SL := [(.exit 0, ⟨[(3, ou8)], [], []⟩)]
def S27_1 : Sp := ⟨[(0, os), (3, ou8), (7, oi64), (8, oi64), (16, oi64)], [], []⟩
def X27_1 : SL := [(.exit 2, ⟨[(0, os), (3, ou8), (7, oi64), (8, oi64)], [], []⟩)]
def J27 : Nat → Option SL := jl []
noncomputable def P27 : Nat → St G → M (Ex × St G) := pl [lpX S27_0 X27_0 nit', lpX S27_1 X27_1 nii']
theorem l27_1 : LoopOK Try.prog G 28 (P27 1) (ns' (nk' Try.f103) 1) := lk cx tn J27 2 S27_1 X27_1 (rfl : nii' = _) (by kernel_rfl) (an0 (by kernel_rfl)) fun x => by kernel_rfl
theorem l27_0 : LoopOK Try.prog G 28 (P27 0) (ns' (nk' Try.f103) 0) := lk cx tn J27 1 S27_0 X27_0 (rfl : nit' = _) (by kernel_rfl) (nr' _ (by kernel_rfl) (nn' l27_1 nz')) fun x => by kernel_rfl
noncomputable def e27 : Fe G := ⟨I27, E27, fun x => ni7' x.1.1, Try.f103.results.toList⟩
theorem k27 : FnOK Try.prog G 103 e27 := fk cx tn J27 (lp := P27) Try.func103 (by kernel_rfl) (by kernel_rfl) rfl (nr' _ (by kernel_rfl) (nn' l27_0 (nn' l27_1 nz'))) fun x => by kernel_rfl
def I28 : Sp := ⟨[(0, oi64), (1, oi64), (2, oi64)], [], []⟩
def E28 : SL := [(.ret, ⟨[(6, ob)], [], []⟩)]
noncomputable def e28 : Fe G := ⟨I28, E28, fun x => ne6' x.1.1 x.1.2.1 x.1.2.2.1, Try.f149.results.toList⟩
theorem k28 : FnOK Try.prog G 149 e28 := fk cx (tc k21 tn) (jl [(1048577, [(.normal, ⟨[(6, ob)], [], []⟩)])]) (lp := (pl [])) Try.func149 (by kernel_rfl) (by kernel_rfl) rfl (an0 (by kernel_rfl)) fun x => by kernel_rfl
def I29 : Sp := ⟨[(0, .agg c'2), (1, oi64), (2, oi64)], [], []⟩
def E29 : SL := [(.ret, ⟨[(6, ob)], [], []⟩)]
noncomputable def e29 : Fe G := ⟨I29, E29, fun x => ndy' x.1.1.1 x.1.1.2.1 x.1.1.2.2.1 x.1.1.2.2.2.1 x.1.1.2.2.2.2.1 x.1.1.2.2.2.2.2.1 x.1.1.2.2.2.2.2.2.1 x.1.1.2.2.2.2.2.2.2.1 x.1.2.1 x.1.2.2.1, Try.f139.results.toList⟩
theorem k29 : FnOK Try.prog G 139 e29 := fk cx (tc k24 (tc k28 tn)) (jl [(1048577, [(.normal, ⟨[(6, ob)], [], []⟩)])]) (lp := (pl [])) Try.func139 (by kernel_rfl) (by kernel_rfl) rfl (an0 (by kernel_rfl)) fun x => by kernel_rfl
def I30 : Sp := ⟨[(0, oi64), (1, oi64), (2, oi64)], [], []⟩
def E30 : SL := [(.ret, ⟨[(6, ob)], [], []⟩)]
noncomputable def e30 : Fe G := ⟨I30, E30, fun x => nb9' x.1.1 x.1.2.1 x.1.2.2.1, Try.f140.results.toList⟩
theorem k30 : FnOK Try.prog G 140 e30 := fk cx tn (jl [(1048577, [(.normal, ⟨[(6, ob)], [], []⟩)])]) (lp := (pl [])) Try.func140 (by kernel_rfl) (by kernel_rfl) rfl (an0 (by kernel_rfl)) fun x => by kernel_rfl
def I31 : Sp := ⟨[(0, .agg c'2), (1, .agg c'5)], [], []⟩
def E31 : SL := [(.ret, ⟨[(4, ob)], [], []⟩)]
noncomputable def e31 : Fe G := ⟨I31, E31, fun x => nd1' x.1.1.1 x.1.1.2.1 x.1.1.2.2.1 x.1.1.2.2.2.1 x.1.1.2.2.2.2.1 x.1.1.2.2.2.2.2.1 x.1.1.2.2.2.2.2.2.1 x.1.1.2.2.2.2.2.2.2.1 x.1.2.1.1 x.1.2.1.2.1 x.1.2.1.2.2.1 x.1.2.1.2.2.2.1 x.1.2.1.2.2.2.2.1, Try.f100.results.toList⟩
theorem k31 : FnOK Try.prog G 100 e31 := fk cx (tc k24 (tc k29 (tc k30 tn))) (jl [(1048580, [(.normal, ⟨[(2, op 32), (3, op 48), (5, ob), (6, ob)], [(32, c'2), (48, c'5)], []⟩)]), (1048584, [(.normal, ⟨[(4, ob)], [], []⟩)]), (1048586, [(.normal, ⟨[(4, ob)], [], []⟩)]), (1048588, [(.normal, ⟨[(4, ob)], [], []⟩)]), (1048590, [(.normal, ⟨[(4, ob)], [], []⟩)]), (1048593, [(.normal, ⟨[(4, ob)], [], []⟩)])]) (lp := (pl [])) Try.func100 (by kernel_rfl) (by kernel_rfl) rfl (an0 (by kernel_rfl)) fun x => by kernel_rfl
def I32 : Sp := ⟨[(0, .agg c'2), (1, os)], [], []⟩
def E32 : SL := [(.ret, ⟨[(4, op 64), (5, oi64)], [(64, c'5)], []⟩)]
noncomputable def e32 : Fe G := ⟨I32, E32, fun x => ngt' x.1.1.1 x.1.1.2.1 x.1.1.2.2.1 x.1.1.2.2.2.1 x.1.1.2.2.2.2.1 x.1.1.2.2.2.2.2.1 x.1.1.2.2.2.2.2.2.1 x.1.1.2.2.2.2.2.2.2.1 x.1.2.1, Try.f120.results.toList⟩
theorem k32 : FnOK Try.prog G 120 e32 := fk cx (tc k24 (tc k27 (tc k31 tn))) (jl []) (lp := (pl [])) Try.func120 (by kernel_rfl) (by kernel_rfl) rfl (an0 (by kernel_rfl)) fun x => by kernel_rfl
def I33 : Sp := ⟨[(0, .agg c'2), (1, os)], [], []⟩
def E33 : SL := [(.ret, ⟨[(4, .one (.own 32768 56)), (5, oi64)], [], []⟩)]
def S33_0 : Sp := ⟨[(1, os), (2, op 32), (6, .one (.own 32768 56)), (7, oi64)], [(32, c'2)], []⟩
def X33_0 : SL := [(.exit 0, ⟨[(6, .one (.own 32768 56)), (7, oi64)], [], []⟩)]
def J33 : Nat → Option SL := jl []
noncomputable def P33 : Nat → St G → M (Ex × St G) := pl [lpX S33_0 X33_0 ngr']
theorem t33 : ∀ p ∈ [(120, e32)], FnOK Try.prog G p.1 p.2 := (tc k32 tn)
theorem l33_0 : LoopOK Try.prog G 35 (P33 0) (ns' (nk' Try.f71) 0) := lk cx t33 J33 1 S33_0 X33_0 (rfl : ngr' = _) (by kernel_rfl) (an0 (by kernel_rfl)) fun x => by kernel_rfl
noncomputable def e33 : Fe G := ⟨I33, E33, fun x => nhq' x.1.1.1 x.1.1.2.1 x.1.1.2.2.1 x.1.1.2.2.2.1 x.1.1.2.2.2.2.1 x.1.1.2.2.2.2.2.1 x.1.1.2.2.2.2.2.2.1 x.1.1.2.2.2.2.2.2.2.1 x.1.2.1, Try.f71.results.toList⟩
theorem k33 : FnOK Try.prog G 71 e33 := fk cx t33 J33 (lp := P33) Try.func71 (by kernel_rfl) (by kernel_rfl) rfl (nr' _ (by kernel_rfl) (nn' l33_0 nz')) fun x => by kernel_rfl
def I34 : Sp := ⟨[(0, oi64)], [], []⟩
def E34 : SL := [(.ret, ⟨[(2, ob)], [], []⟩)]
noncomputable def e34 : Fe G := ⟨I34, E34, fun x => ngo' x.1.1, Try.f150.results.toList⟩
theorem k34 : FnOK Try.prog G 150 e34 := fk cx tn (jl []) (lp := (pl [])) Try.func150 (by kernel_rfl) (by kernel_rfl) rfl (an0 (by kernel_rfl)) fun x => by kernel_rfl
def I35 : Sp := ⟨[(0, oi64), (1, oi64)], [], []⟩
def E35 : SL := [(.ret, ⟨[(4, oi64)], [], []⟩)]
noncomputable def e35 : Fe G := ⟨I35, E35, fun x => nd0' x.1.1 x.1.2.1, Try.f142.results.toList⟩
theorem k35 : FnOK Try.prog G 142 e35 := fk cx (tc k34 tn) (jl []) (lp := (pl [])) Try.func142 (by kernel_rfl) (by kernel_rfl) rfl (an0 (by kernel_rfl)) fun x => by kernel_rfl
def I36 : Sp := ⟨[(0, oro 3)], [], []⟩
def E36 : SL := [(.ret, ⟨[(2, oi64)], [], []⟩)]
def S36_0 : Sp := ⟨[(3, oi64), (6, oro 3), (7, oi64), (8, oi64)], [], []⟩
def X36_0 : SL := [(.exit 0, ⟨[(3, oi64)], [], []⟩), (.ret, ⟨[(2, oi64)], [], []⟩)]
def J36 : Nat → Option SL := jl []
noncomputable def P36 : Nat → St G → M (Ex × St G) := pl [lpX S36_0 X36_0 ng7']
theorem l36_0 : LoopOK Try.prog G 18 (P36 0) (ns' (nk' Try.f141) 0) := lk cx tn J36 1 S36_0 X36_0 (rfl : ng7' = _) (by kernel_rfl) (an0 (by kernel_rfl)) fun x => by kernel_rfl
noncomputable def e36 : Fe G := ⟨I36, E36, fun x => nio' x.1.1, Try.f141.results.toList⟩
theorem k36 : FnOK Try.prog G 141 e36 := fk cx tn J36 (lp := P36) Try.func141 (by kernel_rfl) (by kernel_rfl) rfl (nr' _ (by kernel_rfl) (nn' l36_0 nz')) fun x => by kernel_rfl
def I37 : Sp := ⟨[(0, .agg c'6), (1, .agg c'6)], [], []⟩
def E37 : SL := [(.ret, ⟨[(4, oi64)], [], []⟩)]
noncomputable def e37 : Fe G := ⟨I37, E37, fun x => nek' x.1.1.1 x.1.1.2.1 x.1.1.2.2.1 x.1.1.2.2.2.1 x.1.1.2.2.2.2.1 x.1.2.1.1 x.1.2.1.2.1 x.1.2.1.2.2.1 x.1.2.1.2.2.2.1 x.1.2.1.2.2.2.2.1, Try.f102.results.toList⟩
theorem k37 : FnOK Try.prog G 102 e37 := fk cx (tc k35 (tc k36 tn)) (jl []) (lp := (pl [])) Try.func102 (by kernel_rfl) (by kernel_rfl) rfl (an0 (by kernel_rfl)) fun x => by kernel_rfl
def I38 : Sp := ⟨[(0, oro 98), (1, .agg c'6), (2, .one (.clo 102 [] []))], [], []⟩
def E38 : SL := [(.ret, ⟨[(6, oi64), (7, ob)], [], []⟩)]
def S38_0 : Sp := ⟨[(0, oro 98), (2, .one (.clo 102 [] [])), (4, op 64), (8, oi64), (9, oi64), (10, oi64)], [(64, c'6)], []⟩
def X38_0 : SL := [(.exit 0, ⟨[(0, oro 98), (2, .one (.clo 102 [] [])), (4, op 64), (8, oi64), (9, oi64)], [(64, c'6)], []⟩)]
def J38 : Nat → Option SL := jl [(1048584, [(.normal, ⟨[(6, oi64), (7, ob)], [], []⟩)])]
noncomputable def P38 : Nat → St G → M (Ex × St G) := pl [lpX S38_0 X38_0 no']
theorem t38 : ∀ p ∈ [(102, e37)], FnOK Try.prog G p.1 p.2 := (tc k37 tn)
theorem l38_0 : LoopOK Try.prog G 49 (P38 0) (ns' (nk' Try.f101) 0) := lk cx t38 J38 1 S38_0 X38_0 (rfl : no' = _) (by kernel_rfl) (an0 (by kernel_rfl)) fun x => by kernel_rfl
noncomputable def e38 : Fe G := ⟨I38, E38, fun x => nx' x.1.1 x.1.2.1.1 x.1.2.1.2.1 x.1.2.1.2.2.1 x.1.2.1.2.2.2.1 x.1.2.1.2.2.2.2.1, Try.f101.results.toList⟩
theorem k38 : FnOK Try.prog G 101 e38 := fk cx t38 J38 (lp := P38) Try.func101 (by kernel_rfl) (by kernel_rfl) rfl (nr' _ (by kernel_rfl) (nn' l38_0 nz')) fun x => by kernel_rfl
def I39 : Sp := ⟨[(0, .agg c'7), (1, oi64), (2, oi64)], [], []⟩
def E39 : SL := [(.ret, ⟨[(6, oi64), (7, ob)], [], []⟩)]
noncomputable def e39 : Fe G := ⟨I39, E39, fun x => niy' x.1.1.1 x.1.1.2.1 x.1.1.2.2.1 x.1.1.2.2.2.1 x.1.2.1 x.1.2.2.1, Try.f50.results.toList⟩
theorem k39 : FnOK Try.prog G 50 e39 := fk cx (tc k38 tn) (jl []) (lp := (pl [])) Try.func50 (by kernel_rfl) (by kernel_rfl) rfl (an0 (by kernel_rfl)) fun x => by kernel_rfl
def I40 : Sp := ⟨[(0, .one (.own 32768 98)), (1, oi64), (2, .one (.own 32769 98))], [], []⟩
def E40 : SL := [(.ret, ⟨[(6, .one (.own 32768 98))], [], []⟩)]
noncomputable def e40 : Fe G := ⟨I40, E40, fun x => ncd' x.1.1 x.1.2.1 x.1.2.2.1, Try.f121.results.toList⟩
theorem s40 : insFe G 6 98 = e40 := by kernel_rfl
theorem k40 : FnOK Try.prog G 121 e40 := s40 ▸ nzz' (r := 6) (t := 98) sigOK ⟨_, Try.func121, by kernel_rfl, by kernel_rfl⟩ (by intro h; cases h) (fun _ => rfl) (np2')
def I41 : Sp := ⟨[(0, .one (.own 32768 98)), (1, oi64), (2, oi64)], [], []⟩
def E41 : SL := [(.ret, ⟨[(6, .one (.own 32768 98))], [], []⟩)]
noncomputable def e41 : Fe G := ⟨I41, E41, fun x => nce' x.1.1 x.1.2.1 x.1.2.2.1, Try.f122.results.toList⟩
theorem s41 : delFe G 6 98 = e41 := by kernel_rfl
theorem k41 : FnOK Try.prog G 122 e41 := s41 ▸ nzl' (r := 6) (t := 98) sigOK ⟨_, Try.func122, by kernel_rfl, by kernel_rfl⟩ (by intro h; cases h) (fun _ => rfl) (npy')
def I42 : Sp := ⟨[(0, op 65536), (1, .agg c'5)], [(65536, c'4)], []⟩
def E42 : SL := [(.normal, ⟨[], [(65536, c'4)], [65536]⟩)]
noncomputable def e42 : Fe G := ⟨I42, E42, fun x => ngx' x.1.2.1.1 x.1.2.1.2.1 x.1.2.1.2.2.1 x.1.2.1.2.2.2.1 x.1.2.1.2.2.2.2.1 x.2.1.1 x.2.1.2.1 x.2.1.2.2.1 x.2.1.2.2.2.1, Try.f72.results.toList⟩
theorem k42 : FnOK Try.prog G 72 e42 := fk cx (tc k39 (tc k40 (tc k41 tn))) (jl []) (lp := (pl [])) Try.func72 (by kernel_rfl) (by kernel_rfl) rfl (an0 (by kernel_rfl)) fun x => by kernel_rfl
def I43 : Sp := ⟨[(0, .agg c'2), (1, .agg c'13)], [], []⟩
def E43 : SL := [(.ret, ⟨[(4, op 64)], [(64, c'4)], []⟩)]
def S43_0 : Sp := ⟨[(4, op 64), (5, op 80), (19, .one (.own 32768 56)), (20, oi64), (21, oi64)], [(64, c'11), (80, c'12)], []⟩
def X43_0 : SL := [(.exit 0, ⟨[(4, op 64), (5, op 80)], [(64, c'4), (80, c'8)], []⟩)]
def J43 : Nat → Option SL := jl []
noncomputable def P43 : Nat → St G → M (Ex × St G) := pl [lpX S43_0 X43_0 nhd']
theorem t43 : ∀ p ∈ [(29, e25), (53, e26), (71, e33), (72, e42)], FnOK Try.prog G p.1 p.2 := (tc k25 (tc k26 (tc k33 (tc k42 tn))))
theorem l43_0 : LoopOK Try.prog G 29 (P43 0) (ns' (nk' Try.f27) 0) := lk cx t43 J43 1 S43_0 X43_0 (rfl : nhd' = _) (by kernel_rfl) (an0 (by kernel_rfl)) fun x => by kernel_rfl
noncomputable def e43 : Fe G := ⟨I43, E43, fun x => nfm' x.1.1.1 x.1.1.2.1 x.1.1.2.2.1 x.1.1.2.2.2.1 x.1.1.2.2.2.2.1 x.1.1.2.2.2.2.2.1 x.1.1.2.2.2.2.2.2.1 x.1.1.2.2.2.2.2.2.2.1 x.1.2.1.1 x.1.2.1.2.1 x.1.2.1.2.2.1, Try.f27.results.toList⟩
theorem k43 : FnOK Try.prog G 27 e43 := fk cx t43 J43 (lp := P43) Try.func27 (by kernel_rfl) (by kernel_rfl) rfl (nr' _ (by kernel_rfl) (nn' l43_0 nz')) fun x => by kernel_rfl
def I44 : Sp := ⟨[(0, oi64), (1, .agg c'13)], [], []⟩
def E44 : SL := [(.ret, ⟨[(4, ob)], [], []⟩)]
noncomputable def e44 : Fe G := ⟨I44, E44, fun x => ncm' x.1.1 x.1.2.1.1 x.1.2.1.2.1 x.1.2.1.2.2.1, Try.f49.results.toList⟩
theorem k44 : FnOK Try.prog G 49 e44 := fk cx tn (jl [(1048577, [(.normal, ⟨[(4, ob)], [], []⟩)])]) (lp := (pl [])) Try.func49 (by kernel_rfl) (by kernel_rfl) rfl (an0 (by kernel_rfl)) fun x => by kernel_rfl
def I45 : Sp := ⟨[(0, .agg c'2), (1, .agg c'6)], [], []⟩
def E45 : SL := [(.ret, ⟨[(4, ob)], [], []⟩)]
noncomputable def e45 : Fe G := ⟨I45, E45, fun x => nho' x.1.1.1 x.1.1.2.1 x.1.1.2.2.1 x.1.1.2.2.2.1 x.1.1.2.2.2.2.1 x.1.1.2.2.2.2.2.1 x.1.1.2.2.2.2.2.2.1 x.1.1.2.2.2.2.2.2.2.1 x.1.2.1.1 x.1.2.1.2.1 x.1.2.1.2.2.1 x.1.2.1.2.2.2.1 x.1.2.1.2.2.2.2.1, Try.f112.results.toList⟩
theorem k45 : FnOK Try.prog G 112 e45 := fk cx (tc k29 tn) (jl [(1048577, [(.normal, ⟨[(4, ob)], [], []⟩)])]) (lp := (pl [])) Try.func112 (by kernel_rfl) (by kernel_rfl) rfl (an0 (by kernel_rfl)) fun x => by kernel_rfl
def I46 : Sp := ⟨[(0, .agg c'2), (1, .agg c'7)], [], []⟩
def E46 : SL := [(.ret, ⟨[(4, ob)], [], []⟩)]
def S46_0 : Sp := ⟨[(2, op 32), (3, op 48), (38, oro 3), (39, oi64), (40, oi64)], [(32, c'2), (48, c'7)], []⟩
def X46_0 : SL := [(.exit 0, ⟨[(2, op 32), (3, op 48)], [(32, c'2), (48, c'7)], []⟩), (.ret, ⟨[(4, ob)], [], []⟩)]
def S46_1 : Sp := ⟨[(2, op 32), (3, op 48), (52, oro 98), (53, oi64), (54, oi64)], [(32, c'2), (48, c'7)], []⟩
def X46_1 : SL := [(.exit 2, ⟨[], [], []⟩), (.ret, ⟨[(4, ob)], [], []⟩)]
def J46 : Nat → Option SL := jl [(1048589, [(.normal, ⟨[(2, op 32), (3, op 48), (52, oro 98), (53, oi64), (54, oi64), (77, ob)], [(32, c'2), (48, c'7)], []⟩)])]
noncomputable def P46 : Nat → St G → M (Ex × St G) := pl [lpX S46_0 X46_0 ngv', lpX S46_1 X46_1 ngp']
theorem t46 : ∀ p ∈ [(74, e24), (112, e45), (102, e37)], FnOK Try.prog G p.1 p.2 := (tc k24 (tc k45 (tc k37 tn)))
theorem l46_1 : LoopOK Try.prog G 79 (P46 1) (ns' (nk' Try.f63) 1) := lk cx t46 J46 2 S46_1 X46_1 (rfl : ngp' = _) (by kernel_rfl) (an0 (by kernel_rfl)) fun x => by kernel_rfl
theorem l46_0 : LoopOK Try.prog G 79 (P46 0) (ns' (nk' Try.f63) 0) := lk cx t46 J46 1 S46_0 X46_0 (rfl : ngv' = _) (by kernel_rfl) (an0 (by kernel_rfl)) fun x => by kernel_rfl
noncomputable def e46 : Fe G := ⟨I46, E46, fun x => nde' x.1.1.1 x.1.1.2.1 x.1.1.2.2.1 x.1.1.2.2.2.1 x.1.1.2.2.2.2.1 x.1.1.2.2.2.2.2.1 x.1.1.2.2.2.2.2.2.1 x.1.1.2.2.2.2.2.2.2.1 x.1.2.1.1 x.1.2.1.2.1 x.1.2.1.2.2.1 x.1.2.1.2.2.2.1, Try.f63.results.toList⟩
theorem k46 : FnOK Try.prog G 63 e46 := fk cx t46 J46 (lp := P46) Try.func63 (by kernel_rfl) (by kernel_rfl) rfl (nr' _ (by kernel_rfl) (nn' l46_0 (nn' l46_1 nz'))) fun x => by kernel_rfl
def I47 : Sp := ⟨[(0, oi64), (1, oi64), (2, op 65536), (3, op 65537)], [(65536, [.own 32768 56]), (65537, [.int .i64])], []⟩
def E47 : SL := [(.normal, ⟨[], [(65536, [.own 32768 56]), (65537, [.int .i64])], [65536, 65537]⟩)]
noncomputable def e47 : Fe G := ⟨I47, E47, fun x => nea' x.1.1 x.1.2.1 x.2.1.1 x.2.2.1.1, Try.f113.results.toList⟩
theorem k47 : FnOK Try.prog G 113 e47 := fk cx tn (jl []) (lp := (pl [])) Try.func113 (by kernel_rfl) (by kernel_rfl) rfl (an0 (by kernel_rfl)) fun x => by kernel_rfl
def I48 : Sp := ⟨[(0, ob)], [], []⟩
def E48 : SL := [(.ret, ⟨[(2, oi64)], [], []⟩)]
noncomputable def e48 : Fe G := ⟨I48, E48, fun x => nfe' x.1.1, Try.f114.results.toList⟩
theorem k48 : FnOK Try.prog G 114 e48 := fk cx tn (jl []) (lp := (pl [])) Try.func114 (by kernel_rfl) (by kernel_rfl) rfl (an0 (by kernel_rfl)) fun x => by kernel_rfl
def I49 : Sp := ⟨[(0, oi64), (1, oi64), (2, oi64), (3, op 65536), (4, op 65537)], [(65536, [.own 32768 56]), (65537, c'6)], []⟩
def E49 : SL := [(.normal, ⟨[], [(65536, [.own 32768 56]), (65537, c'6)], [65536, 65537]⟩)]
noncomputable def e49 : Fe G := ⟨I49, E49, fun x => nd7' x.1.1 x.1.2.1 x.1.2.2.1 x.2.1.1 x.2.2.1.1 x.2.2.1.2.1 x.2.2.1.2.2.1 x.2.2.1.2.2.2.1 x.2.2.1.2.2.2.2.1, Try.f115.results.toList⟩
theorem k49 : FnOK Try.prog G 115 e49 := fk cx tn (jl []) (lp := (pl [])) Try.func115 (by kernel_rfl) (by kernel_rfl) rfl (an0 (by kernel_rfl)) fun x => by kernel_rfl
def I50 : Sp := ⟨[(0, .agg c'2), (1, .agg c'7)], [], []⟩
def E50 : SL := [(.ret, ⟨[(4, .one (.own 32768 56))], [], []⟩)]
def S50_0 : Sp := ⟨[(3, op 48), (5, op 80), (17, oi64), (18, oi64)], [(48, c'7), (80, [.own 32768 56])], []⟩
def X50_0 : SL := [(.exit 0, ⟨[(3, op 48), (5, op 80)], [(48, c'7), (80, [.own 32768 56])], []⟩)]
def S50_1 : Sp := ⟨[(5, op 80), (47, oro 98), (48, oi64), (49, oi64)], [(80, [.own 32768 56])], []⟩
def X50_1 : SL := [(.exit 2, ⟨[(5, op 80)], [(80, [.own 32768 56])], []⟩)]
def J50 : Nat → Option SL := jl []
noncomputable def P50 : Nat → St G → M (Ex × St G) := pl [lpX S50_0 X50_0 nfw', lpX S50_1 X50_1 nf5']
theorem t50 : ∀ p ∈ [(63, e46), (113, e47), (114, e48), (115, e49)], FnOK Try.prog G p.1 p.2 := (tc k46 (tc k47 (tc k48 (tc k49 tn))))
theorem l50_1 : LoopOK Try.prog G 69 (P50 1) (ns' (nk' Try.f64) 1) := lk cx t50 J50 2 S50_1 X50_1 (rfl : nf5' = _) (by kernel_rfl) (an0 (by kernel_rfl)) fun x => by kernel_rfl
theorem l50_0 : LoopOK Try.prog G 69 (P50 0) (ns' (nk' Try.f64) 0) := lk cx t50 J50 1 S50_0 X50_0 (rfl : nfw' = _) (by kernel_rfl) (an0 (by kernel_rfl)) fun x => by kernel_rfl
noncomputable def e50 : Fe G := ⟨I50, E50, fun x => nhb' x.1.1.1 x.1.1.2.1 x.1.1.2.2.1 x.1.1.2.2.2.1 x.1.1.2.2.2.2.1 x.1.1.2.2.2.2.2.1 x.1.1.2.2.2.2.2.2.1 x.1.1.2.2.2.2.2.2.2.1 x.1.2.1.1 x.1.2.1.2.1 x.1.2.1.2.2.1 x.1.2.1.2.2.2.1, Try.f64.results.toList⟩
theorem k50 : FnOK Try.prog G 64 e50 := fk cx t50 J50 (lp := P50) Try.func64 (by kernel_rfl) (by kernel_rfl) rfl (nr' _ (by kernel_rfl) (nn' l50_0 (nn' l50_1 nz'))) fun x => by kernel_rfl
def I51 : Sp := ⟨[(0, .agg c'2), (1, .agg c'5)], [], []⟩
def E51 : SL := [(.ret, ⟨[(4, os), (5, oi64)], [], []⟩)]
noncomputable def e51 : Fe G := ⟨I51, E51, fun x => nex' x.1.1.1 x.1.1.2.1 x.1.1.2.2.1 x.1.1.2.2.2.1 x.1.1.2.2.2.2.1 x.1.1.2.2.2.2.2.1 x.1.1.2.2.2.2.2.2.1 x.1.1.2.2.2.2.2.2.2.1 x.1.2.1.1 x.1.2.1.2.1 x.1.2.1.2.2.1 x.1.2.1.2.2.2.1 x.1.2.1.2.2.2.2.1, Try.f52.results.toList⟩
theorem k51 : FnOK Try.prog G 52 e51 := fk cx (tc k31 (tc k27 tn)) (jl []) (lp := (pl [])) Try.func52 (by kernel_rfl) (by kernel_rfl) rfl (an0 (by kernel_rfl)) fun x => by kernel_rfl
def I52 : Sp := ⟨[(0, op 65536), (1, os)], [(65536, c'14)], []⟩
def E52 : SL := [(.ret, ⟨[(4, oi64), (5, .one (.nili))], [(65536, c'14)], [65536]⟩)]
noncomputable def e52 : Fe G := ⟨I52, E52, fun x => nck' x.1.2.1 x.2.1.2.1, Try.f65.results.toList⟩
theorem s52 : wsFe G 4 5 133 5 (fun b => (b.toNat : Int)) = e52 := by kernel_rfl
theorem k52 : FnOK Try.prog G 65 e52 := s52 ▸ n0u' (tb := 133) (te := 5) sigOK ⟨_, Try.func65, by kernel_rfl, by kernel_rfl⟩ (by intro h; cases h) (fun _ => rfl) (by kernel_rfl) (r0 := 4) (r1 := 5) (by decide) (ofB := fun b => (b.toNat : Int)) (fun _ => rfl) (fun b w a0 v ha hb n xs ho hne s h => nw9' b w a0 v ha hb n xs ho hne s h)
def I53 : Sp := ⟨[(0, oi64), (1, .agg c'13), (2, oi64), (3, oi64)], [], []⟩
def E53 : SL := [(.ret, ⟨[(8, oi64)], [], []⟩)]
noncomputable def e53 : Fe G := ⟨I53, E53, fun x => nec' x.1.1 x.1.2.1.1 x.1.2.1.2.1 x.1.2.1.2.2.1 x.1.2.2.1 x.1.2.2.2.1, Try.f104.results.toList⟩
theorem k53 : FnOK Try.prog G 104 e53 := fk cx (tc k44 tn) (jl [(1048579, [(.normal, ⟨[(3, oi64), (14, ob)], [], []⟩)])]) (lp := (pl [])) Try.func104 (by kernel_rfl) (by kernel_rfl) rfl (an0 (by kernel_rfl)) fun x => by kernel_rfl
def I54 : Sp := ⟨[(0, op 65536), (1, op 65537)], [(65536, c'13), (65537, [.int .i64])], []⟩
def E54 : SL := [(.normal, ⟨[], [(65536, c'13), (65537, [.int .i64])], [65536, 65537]⟩)]
noncomputable def e54 : Fe G := ⟨I54, E54, fun x => nid' x.2.1.1 x.2.1.2.1 x.2.1.2.2.1 x.2.2.1.1, Try.f118.results.toList⟩
theorem k54 : FnOK Try.prog G 118 e54 := fk cx tn (jl []) (lp := (pl [])) Try.func118 (by kernel_rfl) (by kernel_rfl) rfl (an0 (by kernel_rfl)) fun x => by kernel_rfl
def I55 : Sp := ⟨[(0, oi64), (1, .agg c'13), (2, oi64), (3, oi64), (4, .one (.clo 118 [] [(65536, 0)]))], [(65536, [.int .i64])], []⟩
def E55 : SL := [(.ret, ⟨[(10, op 160), (11, oi64), (12, oi64)], [(160, c'13), (65536, [.int .i64])], [65536]⟩)]
noncomputable def e55 : Fe G := ⟨I55, E55, fun x => ndw' x.1.1 x.1.2.1.1 x.1.2.1.2.1 x.1.2.1.2.2.1 x.1.2.2.1 x.1.2.2.2.1 x.2.1.1, Try.f117.results.toList⟩
theorem k55 : FnOK Try.prog G 117 e55 := fk cx (tc k53 (tc k54 tn)) (jl []) (lp := (pl [])) Try.func117 (by kernel_rfl) (by kernel_rfl) rfl (an0 (by kernel_rfl)) fun x => by kernel_rfl
def I56 : Sp := ⟨[(0, oi64), (1, .agg c'13), (2, oi64), (3, oi64)], [], []⟩
def E56 : SL := [(.ret, ⟨[(8, op 128), (9, oi64), (10, oi64)], [(128, c'13)], []⟩)]
noncomputable def e56 : Fe G := ⟨I56, E56, fun x => nht' x.1.1 x.1.2.1.1 x.1.2.1.2.1 x.1.2.1.2.2.1 x.1.2.2.1 x.1.2.2.2.1, Try.f66.results.toList⟩
theorem k56 : FnOK Try.prog G 66 e56 := fk cx (tc k55 tn) (jl []) (lp := (pl [])) Try.func66 (by kernel_rfl) (by kernel_rfl) rfl (an0 (by kernel_rfl)) fun x => by kernel_rfl
def I57 : Sp := ⟨[(0, op 65536)], [(65536, c'14)], []⟩
def E57 : SL := [(.ret, ⟨[(2, os)], [(65536, c'15)], [65536]⟩)]
noncomputable def e57 : Fe G := ⟨I57, E57, fun x => nc3' x.2.1.2.1, Try.f67.results.toList⟩
theorem s57 : stFe G 2 133 5 = e57 := by kernel_rfl
theorem k57 : FnOK Try.prog G 67 e57 := s57 ▸ n0b' (tb := 133) (te := 5) sigOK ⟨_, Try.func67, by kernel_rfl, by kernel_rfl⟩ (by intro h; cases h) (by kernel_rfl) (r0 := 2) (fun _ => rfl) (fun b w a0 g0 cap cur l h0 hb hg hn hc h63 hx => nxe' b w a0 g0 cap cur l h0 hb hg hn hc h63 hx)
def I58 : Sp := ⟨[(0, oi64), (1, .agg c'13), (2, oi64), (3, os), (4, oi64)], [], []⟩
def E58 : SL := [(.ret, ⟨[(10, op 160), (11, oi64), (12, oi64)], [(160, c'13)], []⟩)]
noncomputable def e58 : Fe G := ⟨I58, E58, fun x => nee' x.1.1 x.1.2.1.1 x.1.2.1.2.1 x.1.2.1.2.2.1 x.1.2.2.1 x.1.2.2.2.1 x.1.2.2.2.2.1, Try.f54.results.toList⟩
theorem k58 : FnOK Try.prog G 54 e58 := fk cx (tc k53 tn) (jl []) (lp := (pl [])) Try.func54 (by kernel_rfl) (by kernel_rfl) rfl (an0 (by kernel_rfl)) fun x => by kernel_rfl
def I59 : Sp := ⟨[(0, op 65536), (1, op 65537)], [(65536, c'13), (65537, [.int .i64])], []⟩
def E59 : SL := [(.normal, ⟨[], [(65536, c'13), (65537, [.int .i64])], [65536, 65537]⟩)]
noncomputable def e59 : Fe G := ⟨I59, E59, fun x => nh2' x.2.1.1 x.2.1.2.1 x.2.1.2.2.1 x.2.2.1.1, Try.f119.results.toList⟩
theorem k59 : FnOK Try.prog G 119 e59 := fk cx tn (jl []) (lp := (pl [])) Try.func119 (by kernel_rfl) (by kernel_rfl) rfl (an0 (by kernel_rfl)) fun x => by kernel_rfl
def I60 : Sp := ⟨[(0, oi64), (1, .agg c'13), (2, oi64), (3, oi64), (4, .one (.clo 119 [] [(65536, 0)]))], [(65536, [.int .i64])], []⟩
def E60 : SL := [(.ret, ⟨[(10, op 160), (11, oi64), (12, oi64)], [(160, c'13), (65536, [.int .i64])], [65536]⟩)]
noncomputable def e60 : Fe G := ⟨I60, E60, fun x => ndo' x.1.1 x.1.2.1.1 x.1.2.1.2.1 x.1.2.1.2.2.1 x.1.2.2.1 x.1.2.2.2.1 x.2.1.1, Try.f117.results.toList⟩
theorem k60 : FnOK Try.prog G 117 e60 := fk cx (tc k53 (tc k59 tn)) (jl []) (lp := (pl [])) Try.func117 (by kernel_rfl) (by kernel_rfl) rfl (an0 (by kernel_rfl)) fun x => by kernel_rfl
def I61 : Sp := ⟨[(0, oi64), (1, .agg c'13), (2, oi64), (3, oi64)], [], []⟩
def E61 : SL := [(.ret, ⟨[(8, op 128), (9, oi64), (10, oi64)], [(128, c'13)], []⟩)]
noncomputable def e61 : Fe G := ⟨I61, E61, fun x => nhc' x.1.1 x.1.2.1.1 x.1.2.1.2.1 x.1.2.1.2.2.1 x.1.2.2.1 x.1.2.2.2.1, Try.f68.results.toList⟩
theorem k61 : FnOK Try.prog G 68 e61 := fk cx (tc k60 tn) (jl []) (lp := (pl [])) Try.func68 (by kernel_rfl) (by kernel_rfl) rfl (an0 (by kernel_rfl)) fun x => by kernel_rfl
def I62 : Sp := ⟨[(0, .agg c'2), (1, .agg c'13), (2, .agg c'7), (3, oi64)], [], []⟩
def E62 : SL := [(.ret, ⟨[(8, op 128), (9, oi64), (10, oi64)], [(128, c'13)], []⟩)]
def S62_0 : Sp := ⟨[(3, oi64), (4, op 64), (5, op 80), (8, op 128), (11, op 176), (36, .one (.own 32768 56)), (37, oi64), (38, oi64)], [(64, c'2), (80, c'13), (128, c'13), (176, c'16)], []⟩
def X62_0 : SL := [(.exit 0, ⟨[(3, oi64), (4, op 64), (5, op 80), (8, op 128), (11, op 176)], [(64, c'2), (80, c'13), (128, c'13), (176, c'17)], []⟩)]
def J62 : Nat → Option SL := jl [(15, [(.normal, ⟨[(3, oi64), (4, op 64), (5, op 80), (8, op 128), (16, oi64), (17, oi64)], [(64, c'2), (80, c'13), (128, c'13)], []⟩)])]
noncomputable def P62 : Nat → St G → M (Ex × St G) := pl [lpX S62_0 X62_0 ngl']
theorem t62 : ∀ p ∈ [(49, e44), (63, e46), (64, e50), (52, e51), (65, e52), (66, e56), (67, e57), (54, e58), (68, e61)], FnOK Try.prog G p.1 p.2 := (tc k44 (tc k46 (tc k50 (tc k51 (tc k52 (tc k56 (tc k57 (tc k58 (tc k61 tn)))))))))
theorem l62_0 : LoopOK Try.prog G 92 (P62 0) (ns' (nk' Try.f23) 0) := lk cx t62 J62 1 S62_0 X62_0 (rfl : ngl' = _) (by kernel_rfl) (an0 (by kernel_rfl)) fun x => by kernel_rfl
noncomputable def e62 : Fe G := ⟨I62, E62, fun x => ngb' x.1.1.1 x.1.1.2.1 x.1.1.2.2.1 x.1.1.2.2.2.1 x.1.1.2.2.2.2.1 x.1.1.2.2.2.2.2.1 x.1.1.2.2.2.2.2.2.1 x.1.1.2.2.2.2.2.2.2.1 x.1.2.1.1 x.1.2.1.2.1 x.1.2.1.2.2.1 x.1.2.2.1.1 x.1.2.2.1.2.1 x.1.2.2.1.2.2.1 x.1.2.2.1.2.2.2.1 x.1.2.2.2.1, Try.f23.results.toList⟩
theorem k62 : FnOK Try.prog G 23 e62 := fk cx t62 J62 (lp := P62) Try.func23 (by kernel_rfl) (by kernel_rfl) rfl (nr' _ (by kernel_rfl) (nn' l62_0 nz')) fun x => by kernel_rfl
def I63 : Sp := ⟨[(0, .agg c'2), (1, .agg c'13), (2, oi64)], [], []⟩
def E63 : SL := [(.ret, ⟨[(6, op 96), (7, op 112), (8, oi64), (9, oi64)], [(96, c'13), (112, c'4)], []⟩)]
noncomputable def e63 : Fe G := ⟨I63, E63, fun x => nhv' x.1.1.1 x.1.1.2.1 x.1.1.2.2.1 x.1.1.2.2.2.1 x.1.1.2.2.2.2.1 x.1.1.2.2.2.2.2.1 x.1.1.2.2.2.2.2.2.1 x.1.1.2.2.2.2.2.2.2.1 x.1.2.1.1 x.1.2.1.2.1 x.1.2.1.2.2.1 x.1.2.2.1, Try.f25.results.toList⟩
theorem k63 : FnOK Try.prog G 25 e63 := fk cx (tc k43 (tc k62 tn)) (jl []) (lp := (pl [])) Try.func25 (by kernel_rfl) (by kernel_rfl) rfl (an0 (by kernel_rfl)) fun x => by kernel_rfl
def I64 : Sp := ⟨[(0, .agg c'2), (1, .agg c'7)], [], []⟩
def E64 : SL := [(.ret, ⟨[(4, ob)], [], []⟩)]
noncomputable def e64 : Fe G := ⟨I64, E64, fun x => nfk' x.1.1.1 x.1.1.2.1 x.1.1.2.2.1 x.1.1.2.2.2.1 x.1.1.2.2.2.2.1 x.1.1.2.2.2.2.2.1 x.1.1.2.2.2.2.2.2.1 x.1.1.2.2.2.2.2.2.2.1 x.1.2.1.1 x.1.2.1.2.1 x.1.2.1.2.2.1 x.1.2.1.2.2.2.1, Try.f76.results.toList⟩
theorem k64 : FnOK Try.prog G 76 e64 := fk cx (tc k46 tn) (jl [(1048577, [(.normal, ⟨[(4, ob)], [], []⟩)])]) (lp := (pl [])) Try.func76 (by kernel_rfl) (by kernel_rfl) rfl (an0 (by kernel_rfl)) fun x => by kernel_rfl
def I65 : Sp := ⟨[(0, oro 3)], [], []⟩
def E65 : SL := [(.ret, ⟨[(2, .one (.own 32768 3))], [], []⟩)]
noncomputable def e65 : Fe G := ⟨I65, E65, fun x => ncz' x.1.1, Try.f105.results.toList⟩
theorem s65 : cloFe G 2 3 = e65 := by kernel_rfl
theorem k65 : FnOK Try.prog G 105 e65 := s65 ▸ nrk' (r := 2) (t := 3) sigOK ⟨_, Try.func105, by kernel_rfl, by kernel_rfl⟩ (tS := 24) (size := 1) (bytes := Try.t3.bytes) (by kernel_rfl) (by kernel_rfl) (Nat.le_of_ble_eq_true (by kernel_rfl)) (fun w a n c news => nub' _ rfl (by kernel_rfl) w a n c news) (nvz')
def I66 : Sp := ⟨[(0, oro 4)], [], []⟩
def E66 : SL := [(.ret, ⟨[(2, .one (.own 32768 4))], [], []⟩)]
noncomputable def e66 : Fe G := ⟨I66, E66, fun x => nbw' x.1.1, Try.f106.results.toList⟩
theorem s66 : cloFe G 2 4 = e66 := by kernel_rfl
theorem k66 : FnOK Try.prog G 106 e66 := s66 ▸ nrk' (r := 2) (t := 4) sigOK ⟨_, Try.func106, by kernel_rfl, by kernel_rfl⟩ (tS := 25) (size := 1) (bytes := Try.t4.bytes) (by kernel_rfl) (by kernel_rfl) (Nat.le_of_ble_eq_true (by kernel_rfl)) (fun w a n c news => nu9' _ rfl (by kernel_rfl) w a n c news) (nvi')
def I67 : Sp := ⟨[(0, oro 98)], [], []⟩
def E67 : SL := [(.ret, ⟨[(2, .one (.own 32768 98))], [], []⟩)]
noncomputable def e67 : Fe G := ⟨I67, E67, fun x => nbz' x.1.1, Try.f107.results.toList⟩
theorem s67 : cloFe G 2 98 = e67 := by kernel_rfl
theorem k67 : FnOK Try.prog G 107 e67 := s67 ▸ nrk' (r := 2) (t := 98) sigOK ⟨_, Try.func107, by kernel_rfl, by kernel_rfl⟩ (tS := 26) (size := 5) (bytes := Try.t98.bytes) (by kernel_rfl) (by kernel_rfl) (Nat.le_of_ble_eq_true (by kernel_rfl)) (fun w a n c news => nvb' _ rfl (by kernel_rfl) w a n c news) (nvr')
def I68 : Sp := ⟨[(0, .agg c'7)], [], []⟩
def E68 : SL := [(.ret, ⟨[(2, op 32)], [(32, c'4)], []⟩)]
noncomputable def e68 : Fe G := ⟨I68, E68, fun x => nf3' x.1.1.1 x.1.1.2.1 x.1.1.2.2.1 x.1.1.2.2.2.1, Try.f77.results.toList⟩
theorem k68 : FnOK Try.prog G 77 e68 := fk cx (tc k65 (tc k66 (tc k67 tn))) (jl []) (lp := (pl [])) Try.func77 (by kernel_rfl) (by kernel_rfl) rfl (an0 (by kernel_rfl)) fun x => by kernel_rfl
def I69 : Sp := ⟨[], [], []⟩
def E69 : SL := [(.ret, ⟨[(0, op 0)], [(0, c'18)], []⟩)]
noncomputable def e69 : Fe G := ⟨I69, E69, fun _ => nfr', Try.f78.results.toList⟩
theorem k69 : FnOK Try.prog G 78 e69 := fk cx tn (jl []) (lp := (pl [])) Try.func78 (by kernel_rfl) (by kernel_rfl) rfl (an0 (by kernel_rfl)) fun x => by kernel_rfl
def I70 : Sp := ⟨[(0, .agg c'2), (1, .agg c'7), (2, .agg c'13)], [], []⟩
def E70 : SL := [(.ret, ⟨[(6, op 96), (7, oi64)], [(96, c'19)], []⟩)]
def S70_0 : Sp := ⟨[(3, op 48), (4, op 64), (6, op 96), (9, op 144), (42, oi64), (43, oi64)], [(48, c'2), (64, c'7), (96, c'19), (144, c'20)], []⟩
def X70_0 : SL := [(.exit 0, ⟨[(3, op 48), (4, op 64), (6, op 96), (9, op 144)], [(48, c'2), (64, c'7), (96, c'19), (144, c'20)], []⟩)]
def S70_1 : Sp := ⟨[(3, op 48), (6, op 96), (9, op 144), (53, oro 98), (54, oi64), (55, oi64)], [(48, c'2), (96, c'19), (144, c'20)], []⟩
def X70_1 : SL := [(.exit 2, ⟨[(6, op 96), (9, op 144)], [(96, c'19), (144, c'20)], []⟩)]
def J70 : Nat → Option SL := jl [(16, [(.normal, ⟨[(3, op 48), (6, op 96), (9, op 144), (12, oi64), (53, oro 98), (54, oi64), (55, oi64)], [(48, c'2), (96, c'19), (144, c'20)], []⟩)])]
noncomputable def P70 : Nat → St G → M (Ex × St G) := pl [lpX S70_0 X70_0 ndz', lpX S70_1 X70_1 ndx']
theorem t70 : ∀ p ∈ [(76, e64), (49, e44), (77, e68), (78, e69)], FnOK Try.prog G p.1 p.2 := (tc k64 (tc k44 (tc k68 (tc k69 tn))))
noncomputable def n1e' (_h_belief_New : (Unit × Unit) → Option ((Unit × Unit) × (T'42 × Unit))) (s53 : List (Entry)) (s54 s55 b_Floors b_Debounce b_Room b_Park : Int) (b_Empty b_Full b_Over : Nat) (b_Cars : List (Car)) (b6_Image_Phases : List (Int)) (b6_Image_Flags b6_Image_Leaving : List (Bool)) (b6_Image_Entries : List (Entry)) (b6_Store_Halves_0 b6_Store_Halves_1 : ByteArray) (b6_Store_Select : Int) (b6_Contacts : List (Debounced)) (b6_Beliefs : List (Belief)) (b6_Cars : List (NewCar)) (b6_Loads : List (Loaded)) (b6_Expect : List (Int)) (b6_Lit : List (Calls)) (b6_Tick b6_Faults b6_Refused : Int) (out_Image_Phases : List (Int)) (out_Image_Flags out_Image_Leaving : List (Bool)) (out_Image_Entries : List (Entry)) (out_Store_Halves_0 out_Store_Halves_1 : ByteArray) (out_Store_Select : Int) (out_Contacts : List (Debounced)) (out_Beliefs : List (Belief)) (out_Cars : List (NewCar)) (out_Loads : List (Loaded)) (out_Expect : List (Int)) (out_Lit : List (Calls)) (out_Tick out_Faults out_Refused : Int) : Option (Sum (T'47 × T'48) ((Unit × Unit × Unit) × (T'43 × T'43 × Unit))) :=
 bif (decide (s55 < s54)) then
 bif (inB s55 (List.length s53)) then
 let z0 : Entry := (List.getD s53 (Int.toNat s55) (Entry.mk (0 : Int) (0 : Int) (0 : Int) (0 : Int) false))
 Option.bind (bif (decide ((0 : Int) ≤ z0.Car)) then
 bif (inB z0.Car (List.length b_Cars)) then
 some (((), (), (), (List.getD b_Cars (Int.toNat z0.Car) (Car.mk (0 : Int) (0 : Int) (0 : Int) (0 : Int) (0 : Int) (0 : Int) (0 : Int) (0 : Int) (0 : Int))).Deadline, s53, s54, s55, ()), ((b_Floors, b_Debounce, b_Room, b_Park, b_Empty, b_Full, b_Over, b_Cars, ()), (b6_Image_Phases, b6_Image_Flags, b6_Image_Leaving, b6_Image_Entries, b6_Store_Halves_0, b6_Store_Halves_1, b6_Store_Select, b6_Contacts, b6_Beliefs, b6_Cars, b6_Loads, b6_Expect, b6_Lit, b6_Tick, b6_Faults, b6_Refused, ()), (out_Image_Phases, out_Image_Flags, out_Image_Leaving, out_Image_Entries, out_Store_Halves_0, out_Store_Halves_1, out_Store_Select, out_Contacts, out_Beliefs, out_Cars, out_Loads, out_Expect, out_Lit, out_Tick, out_Faults, out_Refused, ()), ()))
 else
 none
 else
 some (((), (), (), (0 : Int), s53, s54, s55, ()), ((b_Floors, b_Debounce, b_Room, b_Park, b_Empty, b_Full, b_Over, b_Cars, ()), (b6_Image_Phases, b6_Image_Flags, b6_Image_Leaving, b6_Image_Entries, b6_Store_Halves_0, b6_Store_Halves_1, b6_Store_Select, b6_Contacts, b6_Beliefs, b6_Cars, b6_Loads, b6_Expect, b6_Lit, b6_Tick, b6_Faults, b6_Refused, ()), (out_Image_Phases, out_Image_Flags, out_Image_Leaving, out_Image_Entries, out_Store_Halves_0, out_Store_Halves_1, out_Store_Select, out_Contacts, out_Beliefs, out_Cars, out_Loads, out_Expect, out_Lit, out_Tick, out_Faults, out_Refused, ()), ()))) fun y1 =>
 let z1 : List (Int) := [y1.1.2.2.2.1]
 bif (Nat.ble ((List.length y1.2.2.2.1.2.2.2.2.2.2.2.2.2.2.2.1) + (List.length z1)) 2147483648) then
 some (Sum.inl (((), (), (), y1.1.2.2.2.2.1, y1.1.2.2.2.2.2.1, (IntKind.i64.wrap (y1.1.2.2.2.2.2.2.1 + (1 : Int))), ()), ((y1.2.1.1, y1.2.1.2.1, y1.2.1.2.2.1, y1.2.1.2.2.2.1, y1.2.1.2.2.2.2.1, y1.2.1.2.2.2.2.2.1, y1.2.1.2.2.2.2.2.2.1, y1.2.1.2.2.2.2.2.2.2.1, ()), (y1.2.2.1.1, y1.2.2.1.2.1, y1.2.2.1.2.2.1, y1.2.2.1.2.2.2.1, y1.2.2.1.2.2.2.2.1, y1.2.2.1.2.2.2.2.2.1, y1.2.2.1.2.2.2.2.2.2.1, y1.2.2.1.2.2.2.2.2.2.2.1, y1.2.2.1.2.2.2.2.2.2.2.2.1, y1.2.2.1.2.2.2.2.2.2.2.2.2.1, y1.2.2.1.2.2.2.2.2.2.2.2.2.2.1, y1.2.2.1.2.2.2.2.2.2.2.2.2.2.2.1, y1.2.2.1.2.2.2.2.2.2.2.2.2.2.2.2.1, y1.2.2.1.2.2.2.2.2.2.2.2.2.2.2.2.2.1, y1.2.2.1.2.2.2.2.2.2.2.2.2.2.2.2.2.2.1, y1.2.2.1.2.2.2.2.2.2.2.2.2.2.2.2.2.2.2.1, ()), (y1.2.2.2.1.1, y1.2.2.2.1.2.1, y1.2.2.2.1.2.2.1, y1.2.2.2.1.2.2.2.1, y1.2.2.2.1.2.2.2.2.1, y1.2.2.2.1.2.2.2.2.2.1, y1.2.2.2.1.2.2.2.2.2.2.1, y1.2.2.2.1.2.2.2.2.2.2.2.1, y1.2.2.2.1.2.2.2.2.2.2.2.2.1, y1.2.2.2.1.2.2.2.2.2.2.2.2.2.1, y1.2.2.2.1.2.2.2.2.2.2.2.2.2.2.1, (y1.2.2.2.1.2.2.2.2.2.2.2.2.2.2.2.1 ++ z1), y1.2.2.2.1.2.2.2.2.2.2.2.2.2.2.2.2.1, y1.2.2.2.1.2.2.2.2.2.2.2.2.2.2.2.2.2.1, y1.2.2.2.1.2.2.2.2.2.2.2.2.2.2.2.2.2.2.1, y1.2.2.2.1.2.2.2.2.2.2.2.2.2.2.2.2.2.2.2.1, ()), ())))
 else
 none
 else
 none
 else
 some (Sum.inr (((), (), ()), ((b6_Image_Phases, b6_Image_Flags, b6_Image_Leaving, b6_Image_Entries, b6_Store_Halves_0, b6_Store_Halves_1, b6_Store_Select, b6_Contacts, b6_Beliefs, b6_Cars, b6_Loads, b6_Expect, b6_Lit, b6_Tick, b6_Faults, b6_Refused, ()), (out_Image_Phases, out_Image_Flags, out_Image_Leaving, out_Image_Entries, out_Store_Halves_0, out_Store_Halves_1, out_Store_Select, out_Contacts, out_Beliefs, out_Cars, out_Loads, out_Expect, out_Lit, out_Tick, out_Faults, out_Refused, ()), ())))
theorem g70_1 (h_belief_New : (Unit × Unit) → Option ((Unit × Unit) × (T'42 × Unit))) (x : S70_1.T G) : rndI (cfP [(76, e64), (49, e44), (77, e68), (78, Fe.mk (G := G) I69 E69 h_belief_New Try.f78.results.toList)]) P70 J70 77 2 (ns' (nk' Try.f31) 1) S70_1 X70_1 x = n1e' h_belief_New x.1.2.2.2.1 x.1.2.2.2.2.1 x.1.2.2.2.2.2.1 x.2.1.1 x.2.1.2.1 x.2.1.2.2.1 x.2.1.2.2.2.1 x.2.1.2.2.2.2.1 x.2.1.2.2.2.2.2.1 x.2.1.2.2.2.2.2.2.1 x.2.1.2.2.2.2.2.2.2.1 x.2.2.1.1 x.2.2.1.2.1 x.2.2.1.2.2.1 x.2.2.1.2.2.2.1 x.2.2.1.2.2.2.2.1 x.2.2.1.2.2.2.2.2.1 x.2.2.1.2.2.2.2.2.2.1 x.2.2.1.2.2.2.2.2.2.2.1 x.2.2.1.2.2.2.2.2.2.2.2.1 x.2.2.1.2.2.2.2.2.2.2.2.2.1 x.2.2.1.2.2.2.2.2.2.2.2.2.2.1 x.2.2.1.2.2.2.2.2.2.2.2.2.2.2.1 x.2.2.1.2.2.2.2.2.2.2.2.2.2.2.2.1 x.2.2.1.2.2.2.2.2.2.2.2.2.2.2.2.2.1 x.2.2.1.2.2.2.2.2.2.2.2.2.2.2.2.2.2.1 x.2.2.1.2.2.2.2.2.2.2.2.2.2.2.2.2.2.2.1 x.2.2.2.1.1 x.2.2.2.1.2.1 x.2.2.2.1.2.2.1 x.2.2.2.1.2.2.2.1 x.2.2.2.1.2.2.2.2.1 x.2.2.2.1.2.2.2.2.2.1 x.2.2.2.1.2.2.2.2.2.2.1 x.2.2.2.1.2.2.2.2.2.2.2.1 x.2.2.2.1.2.2.2.2.2.2.2.2.1 x.2.2.2.1.2.2.2.2.2.2.2.2.2.1 x.2.2.2.1.2.2.2.2.2.2.2.2.2.2.1 x.2.2.2.1.2.2.2.2.2.2.2.2.2.2.2.1 x.2.2.2.1.2.2.2.2.2.2.2.2.2.2.2.2.1 x.2.2.2.1.2.2.2.2.2.2.2.2.2.2.2.2.2.1 x.2.2.2.1.2.2.2.2.2.2.2.2.2.2.2.2.2.2.1 x.2.2.2.1.2.2.2.2.2.2.2.2.2.2.2.2.2.2.2.1 := by kernel_rfl
theorem l70_1 : LoopOK Try.prog G 77 (P70 1) (ns' (nk' Try.f31) 1) := lk cx t70 J70 2 S70_1 X70_1 (rfl : ndx' = _) (by kernel_rfl) (an0 (by kernel_rfl)) fun x => (g70_1 (fun _ => nfr' ) x).trans (by kernel_rfl)
noncomputable def n1a' (h_belief_New : (Unit × Unit) → Option ((Unit × Unit) × (T'42 × Unit))) (s42 s43 b_Floors b_Debounce b_Room b_Park : Int) (b_Empty b_Full b_Over : Nat) (b_Cars : List (Car)) (m_Phases : List (Int)) (m_Flags m_Leaving : List (Bool)) (m_Entries : List (Entry)) (b6_Image_Phases : List (Int)) (b6_Image_Flags b6_Image_Leaving : List (Bool)) (b6_Image_Entries : List (Entry)) (b6_Store_Halves_0 b6_Store_Halves_1 : ByteArray) (b6_Store_Select : Int) (b6_Contacts : List (Debounced)) (b6_Beliefs : List (Belief)) (b6_Cars : List (NewCar)) (b6_Loads : List (Loaded)) (b6_Expect : List (Int)) (b6_Lit : List (Calls)) (b6_Tick b6_Faults b6_Refused : Int) (out_Image_Phases : List (Int)) (out_Image_Flags out_Image_Leaving : List (Bool)) (out_Image_Entries : List (Entry)) (out_Store_Halves_0 out_Store_Halves_1 : ByteArray) (out_Store_Select : Int) (out_Contacts : List (Debounced)) (out_Beliefs : List (Belief)) (out_Cars : List (NewCar)) (out_Loads : List (Loaded)) (out_Expect : List (Int)) (out_Lit : List (Calls)) (out_Tick out_Faults out_Refused : Int) : Option (Sum (T'44 × T'45) (T'46 × T'45)) :=
 bif (decide (s43 < s42)) then
 (h_belief_New ((), ())).bind fun y1 =>
 let z0 : List (Belief) := [(Belief.mk y1.2.1.1 y1.2.1.2.1 y1.2.1.2.2.1 y1.2.1.2.2.2.1 y1.2.1.2.2.2.2.1 y1.2.1.2.2.2.2.2.1)]
 bif (Nat.ble ((List.length out_Beliefs) + (List.length z0)) 2147483648) then
 some (Sum.inl (((), (), (), (), s42, (IntKind.i64.wrap (s43 + (1 : Int))), ()), ((b_Floors, b_Debounce, b_Room, b_Park, b_Empty, b_Full, b_Over, b_Cars, ()), (m_Phases, m_Flags, m_Leaving, m_Entries, ()), (b6_Image_Phases, b6_Image_Flags, b6_Image_Leaving, b6_Image_Entries, b6_Store_Halves_0, b6_Store_Halves_1, b6_Store_Select, b6_Contacts, b6_Beliefs, b6_Cars, b6_Loads, b6_Expect, b6_Lit, b6_Tick, b6_Faults, b6_Refused, ()), (out_Image_Phases, out_Image_Flags, out_Image_Leaving, out_Image_Entries, out_Store_Halves_0, out_Store_Halves_1, out_Store_Select, out_Contacts, (out_Beliefs ++ z0), out_Cars, out_Loads, out_Expect, out_Lit, out_Tick, out_Faults, out_Refused, ()), ())))
 else
 none
 else
 some (Sum.inr (((), (), (), (), ()), ((b_Floors, b_Debounce, b_Room, b_Park, b_Empty, b_Full, b_Over, b_Cars, ()), (m_Phases, m_Flags, m_Leaving, m_Entries, ()), (b6_Image_Phases, b6_Image_Flags, b6_Image_Leaving, b6_Image_Entries, b6_Store_Halves_0, b6_Store_Halves_1, b6_Store_Select, b6_Contacts, b6_Beliefs, b6_Cars, b6_Loads, b6_Expect, b6_Lit, b6_Tick, b6_Faults, b6_Refused, ()), (out_Image_Phases, out_Image_Flags, out_Image_Leaving, out_Image_Entries, out_Store_Halves_0, out_Store_Halves_1, out_Store_Select, out_Contacts, out_Beliefs, out_Cars, out_Loads, out_Expect, out_Lit, out_Tick, out_Faults, out_Refused, ()), ())))
theorem g70_0 (h_belief_New : (Unit × Unit) → Option ((Unit × Unit) × (T'42 × Unit))) (x : S70_0.T G) : rndI (cfP [(76, e64), (49, e44), (77, e68), (78, Fe.mk (G := G) I69 E69 h_belief_New Try.f78.results.toList)]) P70 J70 77 1 (ns' (nk' Try.f31) 0) S70_0 X70_0 x = n1a' h_belief_New x.1.2.2.2.2.1 x.1.2.2.2.2.2.1 x.2.1.1 x.2.1.2.1 x.2.1.2.2.1 x.2.1.2.2.2.1 x.2.1.2.2.2.2.1 x.2.1.2.2.2.2.2.1 x.2.1.2.2.2.2.2.2.1 x.2.1.2.2.2.2.2.2.2.1 x.2.2.1.1 x.2.2.1.2.1 x.2.2.1.2.2.1 x.2.2.1.2.2.2.1 x.2.2.2.1.1 x.2.2.2.1.2.1 x.2.2.2.1.2.2.1 x.2.2.2.1.2.2.2.1 x.2.2.2.1.2.2.2.2.1 x.2.2.2.1.2.2.2.2.2.1 x.2.2.2.1.2.2.2.2.2.2.1 x.2.2.2.1.2.2.2.2.2.2.2.1 x.2.2.2.1.2.2.2.2.2.2.2.2.1 x.2.2.2.1.2.2.2.2.2.2.2.2.2.1 x.2.2.2.1.2.2.2.2.2.2.2.2.2.2.1 x.2.2.2.1.2.2.2.2.2.2.2.2.2.2.2.1 x.2.2.2.1.2.2.2.2.2.2.2.2.2.2.2.2.1 x.2.2.2.1.2.2.2.2.2.2.2.2.2.2.2.2.2.1 x.2.2.2.1.2.2.2.2.2.2.2.2.2.2.2.2.2.2.1 x.2.2.2.1.2.2.2.2.2.2.2.2.2.2.2.2.2.2.2.1 x.2.2.2.2.1.1 x.2.2.2.2.1.2.1 x.2.2.2.2.1.2.2.1 x.2.2.2.2.1.2.2.2.1 x.2.2.2.2.1.2.2.2.2.1 x.2.2.2.2.1.2.2.2.2.2.1 x.2.2.2.2.1.2.2.2.2.2.2.1 x.2.2.2.2.1.2.2.2.2.2.2.2.1 x.2.2.2.2.1.2.2.2.2.2.2.2.2.1 x.2.2.2.2.1.2.2.2.2.2.2.2.2.2.1 x.2.2.2.2.1.2.2.2.2.2.2.2.2.2.2.1 x.2.2.2.2.1.2.2.2.2.2.2.2.2.2.2.2.1 x.2.2.2.2.1.2.2.2.2.2.2.2.2.2.2.2.2.1 x.2.2.2.2.1.2.2.2.2.2.2.2.2.2.2.2.2.2.1 x.2.2.2.2.1.2.2.2.2.2.2.2.2.2.2.2.2.2.2.1 x.2.2.2.2.1.2.2.2.2.2.2.2.2.2.2.2.2.2.2.2.1 := by kernel_rfl
theorem l70_0 : LoopOK Try.prog G 77 (P70 0) (ns' (nk' Try.f31) 0) := lk cx t70 J70 1 S70_0 X70_0 (rfl : ndz' = _) (by kernel_rfl) (an0 (by kernel_rfl)) fun x => (g70_0 (fun _ => nfr' ) x).trans (by kernel_rfl)
noncomputable def H70 (_h_belief_New : (Unit × Unit) → Option ((Unit × Unit) × (T'42 × Unit))) (b_Floors b_Debounce b_Room b_Park : Int) (b_Empty b_Full b_Over : Nat) (b_Cars : List (Car)) (m_Phases : List (Int)) (m_Flags m_Leaving : List (Bool)) (m_Entries : List (Entry)) (s_Halves_0 s_Halves_1 : ByteArray) (s_Select : Int) : Option ((Unit × Int × Unit) × (T'43 × Unit)) :=
 (nfk' b_Floors b_Debounce b_Room b_Park b_Empty b_Full b_Over b_Cars m_Phases m_Flags m_Leaving m_Entries).bind fun y1 =>
 bif (!y1.1.1) then
 some (((), (1 : Int), ()), ((([] : List (Int)), ([] : List (Bool)), ([] : List (Bool)), ([] : List (Entry)), (ByteArray.mk (Array.mk [])), (ByteArray.mk (Array.mk [])), (0 : Int), ([] : List (Debounced)), ([] : List (Belief)), ([] : List (NewCar)), ([] : List (Loaded)), ([] : List (Int)), ([] : List (Calls)), (0 : Int), (0 : Int), (0 : Int), ()), ()))
 else
 (ncm' b_Room s_Halves_0 s_Halves_1 s_Select).bind fun y2 =>
 bif (!y2.1.1) then
 some (((), (1 : Int), ()), ((([] : List (Int)), ([] : List (Bool)), ([] : List (Bool)), ([] : List (Entry)), (ByteArray.mk (Array.mk [])), (ByteArray.mk (Array.mk [])), (0 : Int), ([] : List (Debounced)), ([] : List (Belief)), ([] : List (NewCar)), ([] : List (Loaded)), ([] : List (Int)), ([] : List (Calls)), (0 : Int), (0 : Int), (0 : Int), ()), ()))
 else
 let z0 : Int := ((List.length b_Cars : Nat) : Int)
 (nf3' m_Phases m_Flags m_Leaving m_Entries).bind fun y3 =>
 bif (((decide ((0 : Int) ≤ z0)) && (decide (z0 ≤ z0))) && (decide (z0 ≤ (2147483648 : Int)))) then
 bif (((decide ((0 : Int) ≤ z0)) && (decide (z0 ≤ z0))) && (decide (z0 ≤ (2147483648 : Int)))) then
 bif (((decide ((0 : Int) ≤ z0)) && (decide (z0 ≤ z0))) && (decide (z0 ≤ (2147483648 : Int)))) then
 bif (((decide ((0 : Int) ≤ z0)) && (decide (z0 ≤ z0))) && (decide (z0 ≤ (2147483648 : Int)))) then
 (ndz' (((), (), (), (), ((List.length b_Cars : Nat) : Int), (0 : Int), ()), ((b_Floors, b_Debounce, b_Room, b_Park, b_Empty, b_Full, b_Over, b_Cars, ()), (m_Phases, m_Flags, m_Leaving, m_Entries, ()), (([] : List (Int)), ([] : List (Bool)), ([] : List (Bool)), ([] : List (Entry)), (ByteArray.mk (Array.mk [])), (ByteArray.mk (Array.mk [])), (0 : Int), ([] : List (Debounced)), ([] : List (Belief)), ([] : List (NewCar)), ([] : List (Loaded)), ([] : List (Int)), ([] : List (Calls)), (0 : Int), (0 : Int), (0 : Int), ()), (y3.2.1.1, y3.2.1.2.1, y3.2.1.2.2.1, y3.2.1.2.2.2.1, s_Halves_0, s_Halves_1, s_Select, (List.replicate (Int.toNat z0) (Debounced.mk (0 : Int) false false false false (0 : Int) (0 : Int) (0 : Int) (0 : Int) (0 : Int) (0 : Int) (0 : Int) (0 : Int) (0 : Int) (0 : Int) (0 : Int) (0 : Int) (0 : Int) (0 : Int) (0 : Int) (0 : Int) (0 : Int) (0 : Int) (0 : Int) (0 : Int) (0 : Int) (0 : Int) (0 : Int) (0 : Int) (0 : Int) (0 : Int) (0 : Int) (0 : Int) (0 : Int) (0 : Int) (0 : Int) (0 : Int) (0 : Int) (0 : Int) (0 : Int) (0 : Int))), ([] : List (Belief)), (List.replicate (Int.toNat z0) (NewCar.mk (0 : Int) (0 : Int) (0 : Int) (0 : Int) (0 : Int) false (0 : Int) (0 : Int) (0 : Int) (0 : Int) (0 : Int) (0 : Int) (0 : Int) false)), (List.replicate (Int.toNat z0) (Loaded.mk (0 : Int))), ([] : List (Int)), (List.replicate (Int.toNat z0) (Calls.mk (0 : Int) (0 : Int))), (0 : Int), (0 : Int), (0 : Int), ()), ()))).bind fun y4 =>
 (ndx' (((), (), (), y4.2.2.1.2.2.2.1, ((List.length y4.2.2.1.2.2.2.1 : Nat) : Int), (0 : Int), ()), ((y4.2.1.1, y4.2.1.2.1, y4.2.1.2.2.1, y4.2.1.2.2.2.1, y4.2.1.2.2.2.2.1, y4.2.1.2.2.2.2.2.1, y4.2.1.2.2.2.2.2.2.1, y4.2.1.2.2.2.2.2.2.2.1, ()), (y4.2.2.2.1.1, y4.2.2.2.1.2.1, y4.2.2.2.1.2.2.1, y4.2.2.2.1.2.2.2.1, y4.2.2.2.1.2.2.2.2.1, y4.2.2.2.1.2.2.2.2.2.1, y4.2.2.2.1.2.2.2.2.2.2.1, y4.2.2.2.1.2.2.2.2.2.2.2.1, y4.2.2.2.1.2.2.2.2.2.2.2.2.1, y4.2.2.2.1.2.2.2.2.2.2.2.2.2.1, y4.2.2.2.1.2.2.2.2.2.2.2.2.2.2.1, y4.2.2.2.1.2.2.2.2.2.2.2.2.2.2.2.1, y4.2.2.2.1.2.2.2.2.2.2.2.2.2.2.2.2.1, y4.2.2.2.1.2.2.2.2.2.2.2.2.2.2.2.2.2.1, y4.2.2.2.1.2.2.2.2.2.2.2.2.2.2.2.2.2.2.1, y4.2.2.2.1.2.2.2.2.2.2.2.2.2.2.2.2.2.2.2.1, ()), (y4.2.2.2.2.1.1, y4.2.2.2.2.1.2.1, y4.2.2.2.2.1.2.2.1, y4.2.2.2.2.1.2.2.2.1, y4.2.2.2.2.1.2.2.2.2.1, y4.2.2.2.2.1.2.2.2.2.2.1, y4.2.2.2.2.1.2.2.2.2.2.2.1, y4.2.2.2.2.1.2.2.2.2.2.2.2.1, y4.2.2.2.2.1.2.2.2.2.2.2.2.2.1, y4.2.2.2.2.1.2.2.2.2.2.2.2.2.2.1, y4.2.2.2.2.1.2.2.2.2.2.2.2.2.2.2.1, y4.2.2.2.2.1.2.2.2.2.2.2.2.2.2.2.2.1, y4.2.2.2.2.1.2.2.2.2.2.2.2.2.2.2.2.2.1, y4.2.2.2.2.1.2.2.2.2.2.2.2.2.2.2.2.2.2.1, y4.2.2.2.2.1.2.2.2.2.2.2.2.2.2.2.2.2.2.2.1, y4.2.2.2.2.1.2.2.2.2.2.2.2.2.2.2.2.2.2.2.2.1, ()), ()))).bind fun y5 =>
 some (((), (0 : Int), ()), ((y5.2.2.1.1, y5.2.2.1.2.1, y5.2.2.1.2.2.1, y5.2.2.1.2.2.2.1, y5.2.2.1.2.2.2.2.1, y5.2.2.1.2.2.2.2.2.1, y5.2.2.1.2.2.2.2.2.2.1, y5.2.2.1.2.2.2.2.2.2.2.1, y5.2.2.1.2.2.2.2.2.2.2.2.1, y5.2.2.1.2.2.2.2.2.2.2.2.2.1, y5.2.2.1.2.2.2.2.2.2.2.2.2.2.1, y5.2.2.1.2.2.2.2.2.2.2.2.2.2.2.1, y5.2.2.1.2.2.2.2.2.2.2.2.2.2.2.2.1, y5.2.2.1.2.2.2.2.2.2.2.2.2.2.2.2.2.1, y5.2.2.1.2.2.2.2.2.2.2.2.2.2.2.2.2.2.1, y5.2.2.1.2.2.2.2.2.2.2.2.2.2.2.2.2.2.2.1, ()), ()))
 else
 none
 else
 none
 else
 none
 else
 none
theorem q70 (h_belief_New : (Unit × Unit) → Option ((Unit × Unit) × (T'42 × Unit))) (x : I70.T G) : endI (cfP [(76, e64), (49, e44), (77, e68), (78, Fe.mk (G := G) I69 E69 h_belief_New Try.f78.results.toList)]) P70 J70 77 (nk' Try.f31) I70 E70 x = H70 h_belief_New x.1.1.1 x.1.1.2.1 x.1.1.2.2.1 x.1.1.2.2.2.1 x.1.1.2.2.2.2.1 x.1.1.2.2.2.2.2.1 x.1.1.2.2.2.2.2.2.1 x.1.1.2.2.2.2.2.2.2.1 x.1.2.1.1 x.1.2.1.2.1 x.1.2.1.2.2.1 x.1.2.1.2.2.2.1 x.1.2.2.1.1 x.1.2.2.1.2.1 x.1.2.2.1.2.2.1 := by kernel_rfl
noncomputable def e70 : Fe G := ⟨I70, E70, fun x => ngm' x.1.1.1 x.1.1.2.1 x.1.1.2.2.1 x.1.1.2.2.2.1 x.1.1.2.2.2.2.1 x.1.1.2.2.2.2.2.1 x.1.1.2.2.2.2.2.2.1 x.1.1.2.2.2.2.2.2.2.1 x.1.2.1.1 x.1.2.1.2.1 x.1.2.1.2.2.1 x.1.2.1.2.2.2.1 x.1.2.2.1.1 x.1.2.2.1.2.1 x.1.2.2.1.2.2.1, Try.f31.results.toList⟩
theorem k70 : FnOK Try.prog G 31 e70 := fk cx t70 J70 (lp := P70) Try.func31 (by kernel_rfl) (by kernel_rfl) rfl (nr' _ (by kernel_rfl) (nn' l70_0 (nn' l70_1 nz'))) fun x => (q70 (fun _ => nfr' ) x).trans (by kernel_rfl)
def I71 : Sp := ⟨[(0, .agg c'2), (1, .agg c'13), (2, oi64)], [], []⟩
def E71 : SL := [(.ret, ⟨[(6, op 96), (7, oi64), (8, oi64)], [(96, c'19)], []⟩)]
noncomputable def e71 : Fe G := ⟨I71, E71, fun x => nbe' x.1.1.1 x.1.1.2.1 x.1.1.2.2.1 x.1.1.2.2.2.1 x.1.1.2.2.2.2.1 x.1.1.2.2.2.2.2.1 x.1.1.2.2.2.2.2.2.1 x.1.1.2.2.2.2.2.2.2.1 x.1.2.1.1 x.1.2.1.2.1 x.1.2.1.2.2.1 x.1.2.2.1, Try.f34.results.toList⟩
theorem k71 : FnOK Try.prog G 34 e71 := fk cx (tc k63 (tc k70 tn)) (jl [(2097156, [(.normal, ⟨[(3, op 48), (4, op 64), (6, op 96), (9, op 144), (10, oi64)], [(48, c'2), (64, c'13), (96, c'19), (144, c'7)], []⟩)])]) (lp := (pl [])) Try.func34 (by kernel_rfl) (by kernel_rfl) rfl (an0 (by kernel_rfl)) fun x => by kernel_rfl
def I72 : Sp := ⟨[(0, .agg c'7), (1, .agg c'7)], [], []⟩
def E72 : SL := [(.ret, ⟨[(4, ob)], [], []⟩)]
def S72_0 : Sp := ⟨[(2, op 32), (3, op 48), (5, oi64)], [(32, c'7), (48, c'7)], []⟩
def X72_0 : SL := [(.exit 0, ⟨[(2, op 32), (3, op 48)], [(32, c'7), (48, c'7)], []⟩), (.ret, ⟨[(4, ob)], [], []⟩)]
def S72_1 : Sp := ⟨[(2, op 32), (3, op 48), (6, oi64)], [(32, c'7), (48, c'7)], []⟩
def X72_1 : SL := [(.exit 2, ⟨[(2, op 32), (3, op 48)], [(32, c'7), (48, c'7)], []⟩), (.ret, ⟨[(4, ob)], [], []⟩)]
def S72_2 : Sp := ⟨[(2, op 32), (3, op 48), (7, oi64)], [(32, c'7), (48, c'7)], []⟩
def X72_2 : SL := [(.exit 4, ⟨[(2, op 32), (3, op 48)], [(32, c'7), (48, c'7)], []⟩), (.ret, ⟨[(4, ob)], [], []⟩)]
def S72_3 : Sp := ⟨[(2, op 32), (3, op 48), (8, oi64)], [(32, c'7), (48, c'7)], []⟩
def X72_3 : SL := [(.exit 6, ⟨[], [], []⟩), (.ret, ⟨[(4, ob)], [], []⟩)]
def J72 : Nat → Option SL := jl []
noncomputable def P72 : Nat → St G → M (Ex × St G) := pl [lpX S72_0 X72_0 nin', lpX S72_1 X72_1 nh9', lpX S72_2 X72_2 nij', lpX S72_3 X72_3 niw']
theorem l72_3 : LoopOK Try.prog G 115 (P72 3) (ns' (nk' Try.f22) 3) := lk cx tn J72 4 S72_3 X72_3 (rfl : niw' = _) (by kernel_rfl) (an0 (by kernel_rfl)) fun x => by kernel_rfl
theorem l72_2 : LoopOK Try.prog G 115 (P72 2) (ns' (nk' Try.f22) 2) := lk cx tn J72 3 S72_2 X72_2 (rfl : nij' = _) (by kernel_rfl) (an0 (by kernel_rfl)) fun x => by kernel_rfl
theorem l72_1 : LoopOK Try.prog G 115 (P72 1) (ns' (nk' Try.f22) 1) := lk cx tn J72 2 S72_1 X72_1 (rfl : nh9' = _) (by kernel_rfl) (an0 (by kernel_rfl)) fun x => by kernel_rfl
theorem l72_0 : LoopOK Try.prog G 115 (P72 0) (ns' (nk' Try.f22) 0) := lk cx tn J72 1 S72_0 X72_0 (rfl : nin' = _) (by kernel_rfl) (an0 (by kernel_rfl)) fun x => by kernel_rfl
noncomputable def e72 : Fe G := ⟨I72, E72, fun x => nkh' x.1.1.1 x.1.1.2.1 x.1.1.2.2.1 x.1.1.2.2.2.1 x.1.2.1.1 x.1.2.1.2.1 x.1.2.1.2.2.1 x.1.2.1.2.2.2.1, Try.f22.results.toList⟩
theorem k72 : FnOK Try.prog G 22 e72 := fk cx tn J72 (lp := P72) Try.func22 (by kernel_rfl) (by kernel_rfl) rfl (nr' _ (by kernel_rfl) (nn' l72_0 (nn' l72_1 (nn' l72_2 (nn' l72_3 nz'))))) fun x => by kernel_rfl
def I73 : Sp := ⟨[(0, oro 96), (1, oro 96)], [], []⟩
def E73 : SL := [(.ret, ⟨[(4, ob)], [], []⟩)]
def S73_0 : Sp := ⟨[(0, oro 96), (1, oro 96), (5, oi64)], [], []⟩
def X73_0 : SL := [(.exit 0, ⟨[], [], []⟩), (.ret, ⟨[(4, ob)], [], []⟩)]
def J73 : Nat → Option SL := jl []
noncomputable def P73 : Nat → St G → M (Ex × St G) := pl [lpX S73_0 X73_0 ne5']
theorem l73_0 : LoopOK Try.prog G 26 (P73 0) (ns' (nk' Try.f82) 0) := lk cx tn J73 1 S73_0 X73_0 (rfl : ne5' = _) (by kernel_rfl) (an0 (by kernel_rfl)) fun x => by kernel_rfl
noncomputable def e73 : Fe G := ⟨I73, E73, fun x => ngq' x.1.1 x.1.2.1, Try.f82.results.toList⟩
theorem k73 : FnOK Try.prog G 82 e73 := fk cx tn J73 (lp := P73) Try.func82 (by kernel_rfl) (by kernel_rfl) rfl (nr' _ (by kernel_rfl) (nn' l73_0 nz')) fun x => by kernel_rfl
def I74 : Sp := ⟨[(0, oro 3), (1, oro 3)], [], []⟩
def E74 : SL := [(.ret, ⟨[(4, ob)], [], []⟩)]
def S74_0 : Sp := ⟨[(0, oro 3), (1, oro 3), (5, oi64)], [], []⟩
def X74_0 : SL := [(.exit 0, ⟨[], [], []⟩), (.ret, ⟨[(4, ob)], [], []⟩)]
def J74 : Nat → Option SL := jl []
noncomputable def P74 : Nat → St G → M (Ex × St G) := pl [lpX S74_0 X74_0 nf0']
theorem l74_0 : LoopOK Try.prog G 26 (P74 0) (ns' (nk' Try.f83) 0) := lk cx tn J74 1 S74_0 X74_0 (rfl : nf0' = _) (by kernel_rfl) (an0 (by kernel_rfl)) fun x => by kernel_rfl
noncomputable def e74 : Fe G := ⟨I74, E74, fun x => ng8' x.1.1 x.1.2.1, Try.f83.results.toList⟩
theorem k74 : FnOK Try.prog G 83 e74 := fk cx tn J74 (lp := P74) Try.func83 (by kernel_rfl) (by kernel_rfl) rfl (nr' _ (by kernel_rfl) (nn' l74_0 nz')) fun x => by kernel_rfl
def I75 : Sp := ⟨[(0, .agg c'21), (1, .agg c'21)], [], []⟩
def E75 : SL := [(.ret, ⟨[(4, ob)], [], []⟩)]
def S75_0 : Sp := ⟨[(2, op 32), (3, op 48), (5, oi64)], [(32, c'21), (48, c'21)], []⟩
def X75_0 : SL := [(.exit 0, ⟨[], [], []⟩), (.ret, ⟨[(4, ob)], [], []⟩)]
def J75 : Nat → Option SL := jl []
noncomputable def P75 : Nat → St G → M (Ex × St G) := pl [lpX S75_0 X75_0 nie']
theorem l75_0 : LoopOK Try.prog G 66 (P75 0) (ns' (nk' Try.f84) 0) := lk cx tn J75 1 S75_0 X75_0 (rfl : nie' = _) (by kernel_rfl) (an0 (by kernel_rfl)) fun x => by kernel_rfl
noncomputable def e75 : Fe G := ⟨I75, E75, fun x => nkl' x.1.1.1 x.1.1.2.1 x.1.1.2.2.1 x.1.1.2.2.2.1 x.1.1.2.2.2.2.1 x.1.1.2.2.2.2.2.1 x.1.2.1.1 x.1.2.1.2.1 x.1.2.1.2.2.1 x.1.2.1.2.2.2.1 x.1.2.1.2.2.2.2.1 x.1.2.1.2.2.2.2.2.1, Try.f84.results.toList⟩
theorem k75 : FnOK Try.prog G 84 e75 := fk cx tn J75 (lp := P75) Try.func84 (by kernel_rfl) (by kernel_rfl) rfl (nr' _ (by kernel_rfl) (nn' l75_0 nz')) fun x => by kernel_rfl
def I76 : Sp := ⟨[(0, .agg c'22), (1, .agg c'22)], [], []⟩
def E76 : SL := [(.ret, ⟨[(4, ob)], [], []⟩)]
def S76_0 : Sp := ⟨[(2, op 32), (3, op 48), (5, oi64)], [(32, c'22), (48, c'22)], []⟩
def X76_0 : SL := [(.exit 0, ⟨[(2, op 32), (3, op 48)], [(32, c'22), (48, c'22)], []⟩), (.ret, ⟨[(4, ob)], [], []⟩)]
def S76_1 : Sp := ⟨[(2, op 32), (3, op 48), (6, oi64)], [(32, c'22), (48, c'22)], []⟩
def X76_1 : SL := [(.exit 2, ⟨[(2, op 32), (3, op 48)], [(32, c'22), (48, c'22)], []⟩), (.ret, ⟨[(4, ob)], [], []⟩)]
def S76_2 : Sp := ⟨[(2, op 32), (3, op 48), (7, oi64)], [(32, c'22), (48, c'22)], []⟩
def X76_2 : SL := [(.exit 4, ⟨[(2, op 32), (3, op 48)], [(32, c'22), (48, c'22)], []⟩), (.ret, ⟨[(4, ob)], [], []⟩)]
def S76_3 : Sp := ⟨[(2, op 32), (3, op 48), (8, oi64)], [(32, c'22), (48, c'22)], []⟩
def X76_3 : SL := [(.exit 6, ⟨[], [], []⟩), (.ret, ⟨[(4, ob)], [], []⟩)]
def J76 : Nat → Option SL := jl []
noncomputable def P76 : Nat → St G → M (Ex × St G) := pl [lpX S76_0 X76_0 ni6', lpX S76_1 X76_1 nir', lpX S76_2 X76_2 niq', lpX S76_3 X76_3 ni5']
theorem t76 : ∀ p ∈ [(22, e72), (82, e73), (83, e74), (84, e75)], FnOK Try.prog G p.1 p.2 := (tc k72 (tc k73 (tc k74 (tc k75 tn))))
theorem l76_3 : LoopOK Try.prog G 168 (P76 3) (ns' (nk' Try.f35) 3) := lk cx t76 J76 4 S76_3 X76_3 (rfl : ni5' = _) (by kernel_rfl) (an0 (by kernel_rfl)) fun x => by kernel_rfl
theorem l76_2 : LoopOK Try.prog G 168 (P76 2) (ns' (nk' Try.f35) 2) := lk cx t76 J76 3 S76_2 X76_2 (rfl : niq' = _) (by kernel_rfl) (an0 (by kernel_rfl)) fun x => by kernel_rfl
theorem l76_1 : LoopOK Try.prog G 168 (P76 1) (ns' (nk' Try.f35) 1) := lk cx t76 J76 2 S76_1 X76_1 (rfl : nir' = _) (by kernel_rfl) (an0 (by kernel_rfl)) fun x => by kernel_rfl
theorem l76_0 : LoopOK Try.prog G 168 (P76 0) (ns' (nk' Try.f35) 0) := lk cx t76 J76 1 S76_0 X76_0 (rfl : ni6' = _) (by kernel_rfl) (an0 (by kernel_rfl)) fun x => by kernel_rfl
noncomputable def e76 : Fe G := ⟨I76, E76, fun x => ng6' x.1.1.1 x.1.1.2.1 x.1.1.2.2.1 x.1.1.2.2.2.1 x.1.1.2.2.2.2.1 x.1.1.2.2.2.2.2.1 x.1.1.2.2.2.2.2.2.1 x.1.1.2.2.2.2.2.2.2.1 x.1.1.2.2.2.2.2.2.2.2.1 x.1.1.2.2.2.2.2.2.2.2.2.1 x.1.1.2.2.2.2.2.2.2.2.2.2.1 x.1.1.2.2.2.2.2.2.2.2.2.2.2.1 x.1.1.2.2.2.2.2.2.2.2.2.2.2.2.1 x.1.1.2.2.2.2.2.2.2.2.2.2.2.2.2.1 x.1.1.2.2.2.2.2.2.2.2.2.2.2.2.2.2.1 x.1.1.2.2.2.2.2.2.2.2.2.2.2.2.2.2.2.1 x.1.2.1.1 x.1.2.1.2.1 x.1.2.1.2.2.1 x.1.2.1.2.2.2.1 x.1.2.1.2.2.2.2.1 x.1.2.1.2.2.2.2.2.1 x.1.2.1.2.2.2.2.2.2.1 x.1.2.1.2.2.2.2.2.2.2.1 x.1.2.1.2.2.2.2.2.2.2.2.1 x.1.2.1.2.2.2.2.2.2.2.2.2.1 x.1.2.1.2.2.2.2.2.2.2.2.2.2.1 x.1.2.1.2.2.2.2.2.2.2.2.2.2.2.1 x.1.2.1.2.2.2.2.2.2.2.2.2.2.2.2.1 x.1.2.1.2.2.2.2.2.2.2.2.2.2.2.2.2.1 x.1.2.1.2.2.2.2.2.2.2.2.2.2.2.2.2.2.1 x.1.2.1.2.2.2.2.2.2.2.2.2.2.2.2.2.2.2.1, Try.f35.results.toList⟩
theorem k76 : FnOK Try.prog G 35 e76 := fk cx t76 J76 (lp := P76) Try.func35 (by kernel_rfl) (by kernel_rfl) rfl (nr' _ (by kernel_rfl) (nn' l76_0 (nn' l76_1 (nn' l76_2 (nn' l76_3 nz'))))) fun x => by kernel_rfl
def I77 : Sp := ⟨[(0, .agg c'2)], [], []⟩
def E77 : SL := [(.ret, ⟨[(2, op 32), (3, oi64)], [(32, c'19)], []⟩)]
noncomputable def e77 : Fe G := ⟨I77, E77, fun x => neo' x.1.1.1 x.1.1.2.1 x.1.1.2.2.1 x.1.1.2.2.2.1 x.1.1.2.2.2.2.1 x.1.1.2.2.2.2.2.1 x.1.1.2.2.2.2.2.2.1 x.1.1.2.2.2.2.2.2.2.1, Try.f79.results.toList⟩
theorem k77 : FnOK Try.prog G 79 e77 := fk cx (tc k24 (tc k71 tn)) (jl []) (lp := (pl [])) Try.func79 (by kernel_rfl) (by kernel_rfl) rfl (an0 (by kernel_rfl)) fun x => by kernel_rfl
def I78 : Sp := ⟨[(0, oro 81), (1, oro 81)], [], []⟩
def E78 : SL := [(.ret, ⟨[(4, ob)], [], []⟩)]
def S78_0 : Sp := ⟨[(0, oro 81), (1, oro 81), (12, oi64), (13, oi64)], [], []⟩
def X78_0 : SL := [(.exit 0, ⟨[], [], []⟩), (.ret, ⟨[(4, ob)], [], []⟩)]
def J78 : Nat → Option SL := jl []
noncomputable def P78 : Nat → St G → M (Ex × St G) := pl [lpX S78_0 X78_0 nba']
theorem l78_0 : LoopOK Try.prog G 26 (P78 0) (ns' (nk' Try.f127) 0) := lk cx tn J78 1 S78_0 X78_0 (rfl : nba' = _) (by kernel_rfl) (an0 (by kernel_rfl)) fun x => by kernel_rfl
noncomputable def e78 : Fe G := ⟨I78, E78, fun x => nbc' x.1.1 x.1.2.1, Try.f127.results.toList⟩
theorem k78 : FnOK Try.prog G 127 e78 := fk cx tn J78 (lp := P78) Try.func127 (by kernel_rfl) (by kernel_rfl) rfl (nr' _ (by kernel_rfl) (nn' l78_0 nz')) fun x => by kernel_rfl
def I79 : Sp := ⟨[(0, oro 189), (1, oro 189)], [], []⟩
def E79 : SL := [(.ret, ⟨[(4, ob)], [], []⟩)]
def S79_0 : Sp := ⟨[(0, oro 189), (1, oro 189), (12, oi64), (13, oi64)], [], []⟩
def X79_0 : SL := [(.exit 0, ⟨[], [], []⟩), (.ret, ⟨[(4, ob)], [], []⟩)]
def J79 : Nat → Option SL := jl []
noncomputable def P79 : Nat → St G → M (Ex × St G) := pl [lpX S79_0 X79_0 nb1']
theorem l79_0 : LoopOK Try.prog G 26 (P79 0) (ns' (nk' Try.f146) 0) := lk cx tn J79 1 S79_0 X79_0 (rfl : nb1' = _) (by kernel_rfl) (an0 (by kernel_rfl)) fun x => by kernel_rfl
noncomputable def e79 : Fe G := ⟨I79, E79, fun x => nb7' x.1.1 x.1.2.1, Try.f146.results.toList⟩
theorem k79 : FnOK Try.prog G 146 e79 := fk cx tn J79 (lp := P79) Try.func146 (by kernel_rfl) (by kernel_rfl) rfl (nr' _ (by kernel_rfl) (nn' l79_0 nz')) fun x => by kernel_rfl
def I80 : Sp := ⟨[(0, .agg c'21), (1, .agg c'21)], [], []⟩
def E80 : SL := [(.ret, ⟨[(4, ob)], [], []⟩)]
noncomputable def e80 : Fe G := ⟨I80, E80, fun x => nhs' x.1.1.1 x.1.1.2.1 x.1.1.2.2.1 x.1.1.2.2.2.1 x.1.1.2.2.2.2.1 x.1.1.2.2.2.2.2.1 x.1.2.1.1 x.1.2.1.2.1 x.1.2.1.2.2.1 x.1.2.1.2.2.2.1 x.1.2.1.2.2.2.2.1 x.1.2.1.2.2.2.2.2.1, Try.f129.results.toList⟩
theorem k80 : FnOK Try.prog G 129 e80 := fk cx (tc k79 tn) (jl [(1048577, [(.normal, ⟨[(4, ob)], [], []⟩)])]) (lp := (pl [])) Try.func129 (by kernel_rfl) (by kernel_rfl) rfl (an0 (by kernel_rfl)) fun x => by kernel_rfl
def I81 : Sp := ⟨[(0, oro 84), (1, oro 84), (2, .one (.clo 129 [] []))], [], []⟩
def E81 : SL := [(.ret, ⟨[(6, ob)], [], []⟩)]
def S81_0 : Sp := ⟨[(1, oro 84), (2, .one (.clo 129 [] [])), (15, oro 84), (16, oi64), (17, oi64)], [], []⟩
def X81_0 : SL := [(.exit 0, ⟨[], [], []⟩), (.ret, ⟨[(6, ob)], [], []⟩)]
def J81 : Nat → Option SL := jl []
noncomputable def P81 : Nat → St G → M (Ex × St G) := pl [lpX S81_0 X81_0 ng']
theorem t81 : ∀ p ∈ [(129, e80)], FnOK Try.prog G p.1 p.2 := (tc k80 tn)
theorem l81_0 : LoopOK Try.prog G 32 (P81 0) (ns' (nk' Try.f128) 0) := lk cx t81 J81 1 S81_0 X81_0 (rfl : ng' = _) (by kernel_rfl) (an0 (by kernel_rfl)) fun x => by kernel_rfl
noncomputable def e81 : Fe G := ⟨I81, E81, fun x => nh' x.1.1 x.1.2.1, Try.f128.results.toList⟩
theorem k81 : FnOK Try.prog G 128 e81 := fk cx t81 J81 (lp := P81) Try.func128 (by kernel_rfl) (by kernel_rfl) rfl (nr' _ (by kernel_rfl) (nn' l81_0 nz')) fun x => by kernel_rfl
def I82 : Sp := ⟨[(0, oro 92), (1, oro 92)], [], []⟩
def E82 : SL := [(.ret, ⟨[(4, ob)], [], []⟩)]
def S82_0 : Sp := ⟨[(0, oro 92), (1, oro 92), (12, oi64), (13, oi64)], [], []⟩
def X82_0 : SL := [(.exit 0, ⟨[], [], []⟩), (.ret, ⟨[(4, ob)], [], []⟩)]
def J82 : Nat → Option SL := jl []
noncomputable def P82 : Nat → St G → M (Ex × St G) := pl [lpX S82_0 X82_0 nbk']
theorem l82_0 : LoopOK Try.prog G 26 (P82 0) (ns' (nk' Try.f130) 0) := lk cx tn J82 1 S82_0 X82_0 (rfl : nbk' = _) (by kernel_rfl) (an0 (by kernel_rfl)) fun x => by kernel_rfl
noncomputable def e82 : Fe G := ⟨I82, E82, fun x => nbu' x.1.1 x.1.2.1, Try.f130.results.toList⟩
theorem k82 : FnOK Try.prog G 130 e82 := fk cx tn J82 (lp := P82) Try.func130 (by kernel_rfl) (by kernel_rfl) rfl (nr' _ (by kernel_rfl) (nn' l82_0 nz')) fun x => by kernel_rfl
def I83 : Sp := ⟨[(0, oro 94), (1, oro 94)], [], []⟩
def E83 : SL := [(.ret, ⟨[(4, ob)], [], []⟩)]
def S83_0 : Sp := ⟨[(0, oro 94), (1, oro 94), (12, oi64), (13, oi64)], [], []⟩
def X83_0 : SL := [(.exit 0, ⟨[], [], []⟩), (.ret, ⟨[(4, ob)], [], []⟩)]
def J83 : Nat → Option SL := jl []
noncomputable def P83 : Nat → St G → M (Ex × St G) := pl [lpX S83_0 X83_0 nbl']
theorem l83_0 : LoopOK Try.prog G 26 (P83 0) (ns' (nk' Try.f131) 0) := lk cx tn J83 1 S83_0 X83_0 (rfl : nbl' = _) (by kernel_rfl) (an0 (by kernel_rfl)) fun x => by kernel_rfl
noncomputable def e83 : Fe G := ⟨I83, E83, fun x => nbs' x.1.1 x.1.2.1, Try.f131.results.toList⟩
theorem k83 : FnOK Try.prog G 131 e83 := fk cx tn J83 (lp := P83) Try.func131 (by kernel_rfl) (by kernel_rfl) rfl (nr' _ (by kernel_rfl) (nn' l83_0 nz')) fun x => by kernel_rfl
def I84 : Sp := ⟨[(0, oro 96), (1, oro 96)], [], []⟩
def E84 : SL := [(.ret, ⟨[(4, ob)], [], []⟩)]
def S84_0 : Sp := ⟨[(0, oro 96), (1, oro 96), (12, oi64), (13, oi64)], [], []⟩
def X84_0 : SL := [(.exit 0, ⟨[], [], []⟩), (.ret, ⟨[(4, ob)], [], []⟩)]
def J84 : Nat → Option SL := jl []
noncomputable def P84 : Nat → St G → M (Ex × St G) := pl [lpX S84_0 X84_0 nbt']
theorem l84_0 : LoopOK Try.prog G 26 (P84 0) (ns' (nk' Try.f132) 0) := lk cx tn J84 1 S84_0 X84_0 (rfl : nbt' = _) (by kernel_rfl) (an0 (by kernel_rfl)) fun x => by kernel_rfl
noncomputable def e84 : Fe G := ⟨I84, E84, fun x => nb0' x.1.1 x.1.2.1, Try.f132.results.toList⟩
theorem k84 : FnOK Try.prog G 132 e84 := fk cx tn J84 (lp := P84) Try.func132 (by kernel_rfl) (by kernel_rfl) rfl (nr' _ (by kernel_rfl) (nn' l84_0 nz')) fun x => by kernel_rfl
def I85 : Sp := ⟨[(0, oro 3), (1, oro 3)], [], []⟩
def E85 : SL := [(.ret, ⟨[(4, ob)], [], []⟩)]
def S85_0 : Sp := ⟨[(0, oro 3), (1, oro 3), (12, oi64), (13, oi64)], [], []⟩
def X85_0 : SL := [(.exit 0, ⟨[], [], []⟩), (.ret, ⟨[(4, ob)], [], []⟩)]
def J85 : Nat → Option SL := jl []
noncomputable def P85 : Nat → St G → M (Ex × St G) := pl [lpX S85_0 X85_0 nco']
theorem l85_0 : LoopOK Try.prog G 26 (P85 0) (ns' (nk' Try.f96) 0) := lk cx tn J85 1 S85_0 X85_0 (rfl : nco' = _) (by kernel_rfl) (an0 (by kernel_rfl)) fun x => by kernel_rfl
noncomputable def e85 : Fe G := ⟨I85, E85, fun x => ncg' x.1.1 x.1.2.1, Try.f96.results.toList⟩
theorem k85 : FnOK Try.prog G 96 e85 := fk cx tn J85 (lp := P85) Try.func96 (by kernel_rfl) (by kernel_rfl) rfl (nr' _ (by kernel_rfl) (nn' l85_0 nz')) fun x => by kernel_rfl
def I86 : Sp := ⟨[(0, oro 4), (1, oro 4)], [], []⟩
def E86 : SL := [(.ret, ⟨[(4, ob)], [], []⟩)]
def S86_0 : Sp := ⟨[(0, oro 4), (1, oro 4), (12, oi64), (13, oi64)], [], []⟩
def X86_0 : SL := [(.exit 0, ⟨[], [], []⟩), (.ret, ⟨[(4, ob)], [], []⟩)]
def J86 : Nat → Option SL := jl []
noncomputable def P86 : Nat → St G → M (Ex × St G) := pl [lpX S86_0 X86_0 ncj']
theorem l86_0 : LoopOK Try.prog G 26 (P86 0) (ns' (nk' Try.f97) 0) := lk cx tn J86 1 S86_0 X86_0 (rfl : ncj' = _) (by kernel_rfl) (an0 (by kernel_rfl)) fun x => by kernel_rfl
noncomputable def e86 : Fe G := ⟨I86, E86, fun x => nca' x.1.1 x.1.2.1, Try.f97.results.toList⟩
theorem k86 : FnOK Try.prog G 97 e86 := fk cx tn J86 (lp := P86) Try.func97 (by kernel_rfl) (by kernel_rfl) rfl (nr' _ (by kernel_rfl) (nn' l86_0 nz')) fun x => by kernel_rfl
def I87 : Sp := ⟨[(0, oro 98), (1, oro 98)], [], []⟩
def E87 : SL := [(.ret, ⟨[(4, ob)], [], []⟩)]
def S87_0 : Sp := ⟨[(0, oro 98), (1, oro 98), (12, oi64), (13, oi64)], [], []⟩
def X87_0 : SL := [(.exit 0, ⟨[], [], []⟩), (.ret, ⟨[(4, ob)], [], []⟩)]
def J87 : Nat → Option SL := jl []
noncomputable def P87 : Nat → St G → M (Ex × St G) := pl [lpX S87_0 X87_0 nbv']
theorem l87_0 : LoopOK Try.prog G 26 (P87 0) (ns' (nk' Try.f98) 0) := lk cx tn J87 1 S87_0 X87_0 (rfl : nbv' = _) (by kernel_rfl) (an0 (by kernel_rfl)) fun x => by kernel_rfl
noncomputable def e87 : Fe G := ⟨I87, E87, fun x => nby' x.1.1 x.1.2.1, Try.f98.results.toList⟩
theorem k87 : FnOK Try.prog G 98 e87 := fk cx tn J87 (lp := P87) Try.func98 (by kernel_rfl) (by kernel_rfl) rfl (nr' _ (by kernel_rfl) (nn' l87_0 nz')) fun x => by kernel_rfl
def I88 : Sp := ⟨[(0, .agg c'7), (1, .agg c'7)], [], []⟩
def E88 : SL := [(.ret, ⟨[(4, ob)], [], []⟩)]
noncomputable def e88 : Fe G := ⟨I88, E88, fun x => nfz' x.1.1.1 x.1.1.2.1 x.1.1.2.2.1 x.1.1.2.2.2.1 x.1.2.1.1 x.1.2.1.2.1 x.1.2.1.2.2.1 x.1.2.1.2.2.2.1, Try.f46.results.toList⟩
theorem k88 : FnOK Try.prog G 46 e88 := fk cx (tc k85 (tc k86 (tc k87 tn))) (jl [(1048577, [(.normal, ⟨[(4, ob)], [], []⟩)])]) (lp := (pl [])) Try.func46 (by kernel_rfl) (by kernel_rfl) rfl (an0 (by kernel_rfl)) fun x => by kernel_rfl
def I89 : Sp := ⟨[(0, .agg c'22), (1, .agg c'22)], [], []⟩
def E89 : SL := [(.ret, ⟨[(4, ob)], [], []⟩)]
noncomputable def e89 : Fe G := ⟨I89, E89, fun x => ne7' x.1.1.1 x.1.1.2.1 x.1.1.2.2.1 x.1.1.2.2.2.1 x.1.1.2.2.2.2.1 x.1.1.2.2.2.2.2.1 x.1.1.2.2.2.2.2.2.1 x.1.1.2.2.2.2.2.2.2.1 x.1.1.2.2.2.2.2.2.2.2.1 x.1.1.2.2.2.2.2.2.2.2.2.1 x.1.1.2.2.2.2.2.2.2.2.2.2.1 x.1.1.2.2.2.2.2.2.2.2.2.2.2.1 x.1.1.2.2.2.2.2.2.2.2.2.2.2.2.1 x.1.1.2.2.2.2.2.2.2.2.2.2.2.2.2.1 x.1.1.2.2.2.2.2.2.2.2.2.2.2.2.2.2.1 x.1.1.2.2.2.2.2.2.2.2.2.2.2.2.2.2.2.1 x.1.2.1.1 x.1.2.1.2.1 x.1.2.1.2.2.1 x.1.2.1.2.2.2.1 x.1.2.1.2.2.2.2.1 x.1.2.1.2.2.2.2.2.1 x.1.2.1.2.2.2.2.2.2.1 x.1.2.1.2.2.2.2.2.2.2.1 x.1.2.1.2.2.2.2.2.2.2.2.1 x.1.2.1.2.2.2.2.2.2.2.2.2.1 x.1.2.1.2.2.2.2.2.2.2.2.2.2.1 x.1.2.1.2.2.2.2.2.2.2.2.2.2.2.1 x.1.2.1.2.2.2.2.2.2.2.2.2.2.2.2.1 x.1.2.1.2.2.2.2.2.2.2.2.2.2.2.2.2.1 x.1.2.1.2.2.2.2.2.2.2.2.2.2.2.2.2.2.1 x.1.2.1.2.2.2.2.2.2.2.2.2.2.2.2.2.2.2.1, Try.f80.results.toList⟩
theorem k89 : FnOK Try.prog G 80 e89 := fk cx (tc k78 (tc k81 (tc k82 (tc k83 (tc k84 (tc k88 (tc k85 tn))))))) (jl [(1048577, [(.normal, ⟨[(2, op 32), (3, op 48), (5, ob)], [(32, c'22), (48, c'22)], []⟩)]), (1048578, [(.normal, ⟨[(4, ob)], [], []⟩)])]) (lp := (pl [])) Try.func80 (by kernel_rfl) (by kernel_rfl) rfl (an0 (by kernel_rfl)) fun x => by kernel_rfl
def I90 : Sp := ⟨[], [], []⟩
def E90 : SL := [(.ret, ⟨[(0, ob)], [], []⟩)]
noncomputable def H90 (h_l10_Building : ((Int × Int × Unit) × Unit) → Option ((Unit × Unit) × (T'0 × Unit))) (h_restart_Start : ((T'0 × Unit) × Unit) → Option ((Unit × Int × Unit) × (T'43 × Unit))) (h_restart_Boot : ((T'0 × T'37 × Int × Unit) × Unit) → Option ((Unit × Int × Int × Unit) × (T'43 × Unit))) (h_restart_Same : ((T'43 × T'43 × Unit) × Unit) → Option ((Bool × Unit) × Unit))  : Option ((Bool × Unit) × Unit) :=
 (h_l10_Building (((9 : Int), (90 : Int), ()), ())).bind fun y1 =>
 Option.bind (some (((), ()), ((y1.2.1.1, y1.2.1.2.1, y1.2.1.2.2.1, y1.2.1.2.2.2.1, y1.2.1.2.2.2.2.1, y1.2.1.2.2.2.2.2.1, y1.2.1.2.2.2.2.2.2.1, y1.2.1.2.2.2.2.2.2.2.1, ()), ()))) fun y2 =>
 (h_restart_Start (((y2.2.1.1, y2.2.1.2.1, y2.2.1.2.2.1, y2.2.1.2.2.2.1, y2.2.1.2.2.2.2.1, y2.2.1.2.2.2.2.2.1, y2.2.1.2.2.2.2.2.2.1, y2.2.1.2.2.2.2.2.2.2.1, ()), ()), ())).bind fun y3 =>
 (h_restart_Boot (((y2.2.1.1, y2.2.1.2.1, y2.2.1.2.2.1, y2.2.1.2.2.2.1, y2.2.1.2.2.2.2.1, y2.2.1.2.2.2.2.2.1, y2.2.1.2.2.2.2.2.2.1, y2.2.1.2.2.2.2.2.2.2.1, ()), (y3.2.1.2.2.2.2.1, y3.2.1.2.2.2.2.2.1, y3.2.1.2.2.2.2.2.2.1, ()), (100 : Int), ()), ())).bind fun y4 =>
 (h_restart_Boot (((y2.2.1.1, y2.2.1.2.1, y2.2.1.2.2.1, y2.2.1.2.2.2.1, y2.2.1.2.2.2.2.1, y2.2.1.2.2.2.2.2.1, y2.2.1.2.2.2.2.2.2.1, y2.2.1.2.2.2.2.2.2.2.1, ()), (y3.2.1.2.2.2.2.1, y3.2.1.2.2.2.2.2.1, y3.2.1.2.2.2.2.2.2.1, ()), (0 : Int), ()), ())).bind fun y5 =>
 Option.bind (bif (y3.1.2.1 == (0 : Int)) then
 bif (((List.length y3.2.1.2.2.2.2.2.2.2.2.1 : Nat) : Int) == (2 : Int)) then
 bif (inB (1 : Int) (List.length y3.2.1.2.2.2.2.2.2.2.2.1)) then
 bif ((List.getD y3.2.1.2.2.2.2.2.2.2.2.1 (Int.toNat (1 : Int)) (Belief.mk (0 : Int) (0 : Int) (0 : Int) [] (0 : Int) false)).Floor == (-1 : Int)) then
 bif (((List.length y3.2.1.1 : Nat) : Int) == (2 : Int)) then
 bif (y4.1.2.2.1 == (0 : Int)) then
 bif (y4.1.2.1 == (62 : Int)) then
 (h_restart_Same (((y4.2.1.1, y4.2.1.2.1, y4.2.1.2.2.1, y4.2.1.2.2.2.1, y4.2.1.2.2.2.2.1, y4.2.1.2.2.2.2.2.1, y4.2.1.2.2.2.2.2.2.1, y4.2.1.2.2.2.2.2.2.2.1, y4.2.1.2.2.2.2.2.2.2.2.1, y4.2.1.2.2.2.2.2.2.2.2.2.1, y4.2.1.2.2.2.2.2.2.2.2.2.2.1, y4.2.1.2.2.2.2.2.2.2.2.2.2.2.1, y4.2.1.2.2.2.2.2.2.2.2.2.2.2.2.1, y4.2.1.2.2.2.2.2.2.2.2.2.2.2.2.2.1, y4.2.1.2.2.2.2.2.2.2.2.2.2.2.2.2.2.1, y4.2.1.2.2.2.2.2.2.2.2.2.2.2.2.2.2.2.1, ()), (y4.2.1.1, y4.2.1.2.1, y4.2.1.2.2.1, y4.2.1.2.2.2.1, y4.2.1.2.2.2.2.1, y4.2.1.2.2.2.2.2.1, y4.2.1.2.2.2.2.2.2.1, y4.2.1.2.2.2.2.2.2.2.1, y4.2.1.2.2.2.2.2.2.2.2.1, y4.2.1.2.2.2.2.2.2.2.2.2.1, y4.2.1.2.2.2.2.2.2.2.2.2.2.1, y4.2.1.2.2.2.2.2.2.2.2.2.2.2.1, y4.2.1.2.2.2.2.2.2.2.2.2.2.2.2.1, y4.2.1.2.2.2.2.2.2.2.2.2.2.2.2.2.1, y4.2.1.2.2.2.2.2.2.2.2.2.2.2.2.2.2.1, y4.2.1.2.2.2.2.2.2.2.2.2.2.2.2.2.2.2.1, ()), ()), ())).bind fun y6 =>
 bif y6.1.1 then
 some (((y5.1.2.2.1 == (8 : Int)), ()), ())
 else
 some ((false, ()), ())
 else
 some ((false, ()), ())
 else
 some ((false, ()), ())
 else
 some ((false, ()), ())
 else
 some ((false, ()), ())
 else
 none
 else
 some ((false, ()), ())
 else
 some ((false, ()), ())) fun y7 =>
 some ((y7.1.1, ()), ())
theorem q90 (h_l10_Building : ((Int × Int × Unit) × Unit) → Option ((Unit × Unit) × (T'0 × Unit))) (h_restart_Start : ((T'0 × Unit) × Unit) → Option ((Unit × Int × Unit) × (T'43 × Unit))) (h_restart_Boot : ((T'0 × T'37 × Int × Unit) × Unit) → Option ((Unit × Int × Int × Unit) × (T'43 × Unit))) (h_restart_Same : ((T'43 × T'43 × Unit) × Unit) → Option ((Bool × Unit) × Unit)) (x : I90.T G) : endI (cfP [(9, Fe.mk (G := G) I1 E1 h_l10_Building Try.f9.results.toList), (79, Fe.mk (G := G) I77 E77 h_restart_Start Try.f79.results.toList), (34, Fe.mk (G := G) I71 E71 h_restart_Boot Try.f34.results.toList), (80, Fe.mk (G := G) I89 E89 h_restart_Same Try.f80.results.toList)]) (pl []) (jl [(1048581, [(.normal, ⟨[(0, ob)], [], []⟩)]), (2097154, [(.normal, ⟨[(1, op 16)], [(16, c'2)], []⟩)])]) 72 (nk' Try.f32) I90 E90 x = H90 h_l10_Building h_restart_Start h_restart_Boot h_restart_Same  := by kernel_rfl
noncomputable def e90 : Fe G := ⟨I90, E90, fun _ => ni8', Try.f32.results.toList⟩
theorem k90 : FnOK Try.prog G 32 e90 := fk cx (tc k1 (tc k77 (tc k71 (tc k89 tn)))) (jl [(1048581, [(.normal, ⟨[(0, ob)], [], []⟩)]), (2097154, [(.normal, ⟨[(1, op 16)], [(16, c'2)], []⟩)])]) (lp := (pl [])) Try.func32 (by kernel_rfl) (by kernel_rfl) rfl (an0 (by kernel_rfl)) fun x => (q90 (fun x => nbr' x.1.1 x.1.2.1) (fun x => neo' x.1.1.1 x.1.1.2.1 x.1.1.2.2.1 x.1.1.2.2.2.1 x.1.1.2.2.2.2.1 x.1.1.2.2.2.2.2.1 x.1.1.2.2.2.2.2.2.1 x.1.1.2.2.2.2.2.2.2.1) (fun x => nbe' x.1.1.1 x.1.1.2.1 x.1.1.2.2.1 x.1.1.2.2.2.1 x.1.1.2.2.2.2.1 x.1.1.2.2.2.2.2.1 x.1.1.2.2.2.2.2.2.1 x.1.1.2.2.2.2.2.2.2.1 x.1.2.1.1 x.1.2.1.2.1 x.1.2.1.2.2.1 x.1.2.2.1) (fun x => ne7' x.1.1.1 x.1.1.2.1 x.1.1.2.2.1 x.1.1.2.2.2.1 x.1.1.2.2.2.2.1 x.1.1.2.2.2.2.2.1 x.1.1.2.2.2.2.2.2.1 x.1.1.2.2.2.2.2.2.2.1 x.1.1.2.2.2.2.2.2.2.2.1 x.1.1.2.2.2.2.2.2.2.2.2.1 x.1.1.2.2.2.2.2.2.2.2.2.2.1 x.1.1.2.2.2.2.2.2.2.2.2.2.2.1 x.1.1.2.2.2.2.2.2.2.2.2.2.2.2.1 x.1.1.2.2.2.2.2.2.2.2.2.2.2.2.2.1 x.1.1.2.2.2.2.2.2.2.2.2.2.2.2.2.2.1 x.1.1.2.2.2.2.2.2.2.2.2.2.2.2.2.2.2.1 x.1.2.1.1 x.1.2.1.2.1 x.1.2.1.2.2.1 x.1.2.1.2.2.2.1 x.1.2.1.2.2.2.2.1 x.1.2.1.2.2.2.2.2.1 x.1.2.1.2.2.2.2.2.2.1 x.1.2.1.2.2.2.2.2.2.2.1 x.1.2.1.2.2.2.2.2.2.2.2.1 x.1.2.1.2.2.2.2.2.2.2.2.2.1 x.1.2.1.2.2.2.2.2.2.2.2.2.2.1 x.1.2.1.2.2.2.2.2.2.2.2.2.2.2.1 x.1.2.1.2.2.2.2.2.2.2.2.2.2.2.2.1 x.1.2.1.2.2.2.2.2.2.2.2.2.2.2.2.2.1 x.1.2.1.2.2.2.2.2.2.2.2.2.2.2.2.2.2.1 x.1.2.1.2.2.2.2.2.2.2.2.2.2.2.2.2.2.2.1) x).trans (by kernel_rfl)
def I91 : Sp := ⟨[(0, .agg [.int .u8, .int .u8]), (1, oro 5)], [], []⟩
def E91 : SL := [(.ret, ⟨[(4, ob)], [], []⟩)]
noncomputable def H91 (h_l26_sane : (Unit × Unit) → Option ((Bool × Unit) × Unit)) (n_f0 n_f1 : Int) (l : List (Int)) : Option ((Bool × Unit) × Unit) :=
 (nbr' n_f0 (250 : Int)).bind fun y1 =>
 (nhm' y1.2.1.1 y1.2.1.2.1 y1.2.1.2.2.1 y1.2.1.2.2.2.1 y1.2.1.2.2.2.2.1 y1.2.1.2.2.2.2.2.1 y1.2.1.2.2.2.2.2.2.1 y1.2.1.2.2.2.2.2.2.2.1 l).bind fun y2 =>
 (nfn' y1.2.1.1 y1.2.1.2.1 y1.2.1.2.2.1 y1.2.1.2.2.2.1 y1.2.1.2.2.2.2.1 y1.2.1.2.2.2.2.2.1 y1.2.1.2.2.2.2.2.2.1 y1.2.1.2.2.2.2.2.2.2.1 y2.2.1.1 y2.2.1.2.1 y2.2.1.2.2.1 y2.2.1.2.2.2.1).bind fun y3 =>
 (nhf' y1.2.1.1 y1.2.1.2.1 y1.2.1.2.2.1 y1.2.1.2.2.2.1 y1.2.1.2.2.2.2.1 y1.2.1.2.2.2.2.2.1 y1.2.1.2.2.2.2.2.2.1 y1.2.1.2.2.2.2.2.2.2.1 y3.1.1).bind fun y4 =>
 Option.bind (some (((), y4.1.1, ()), ((y1.2.1.1, y1.2.1.2.1, y1.2.1.2.2.1, y1.2.1.2.2.2.1, y1.2.1.2.2.2.2.1, y1.2.1.2.2.2.2.2.1, y1.2.1.2.2.2.2.2.2.1, y1.2.1.2.2.2.2.2.2.2.1, ()), ()))) fun y5 =>
 (nbe' y5.2.1.1 y5.2.1.2.1 y5.2.1.2.2.1 y5.2.1.2.2.2.1 y5.2.1.2.2.2.2.1 y5.2.1.2.2.2.2.2.1 y5.2.1.2.2.2.2.2.2.1 y5.2.1.2.2.2.2.2.2.2.1 (ByteArray.mk (Array.mk [])) y5.1.2.1 (1 : Int) (1048576 : Int)).bind fun y6 =>
 (nbe' y5.2.1.1 y5.2.1.2.1 y5.2.1.2.2.1 y5.2.1.2.2.2.1 y5.2.1.2.2.2.2.1 y5.2.1.2.2.2.2.2.1 y5.2.1.2.2.2.2.2.2.1 y5.2.1.2.2.2.2.2.2.2.1 y6.2.1.2.2.2.2.1 y6.2.1.2.2.2.2.2.1 y6.2.1.2.2.2.2.2.2.1 (1048576 : Int)).bind fun y7 =>
 bif (y6.1.2.2.1 != (0 : Int)) then
 some ((false, ()), ())
 else
 bif (y7.1.2.2.1 != (0 : Int)) then
 some ((false, ()), ())
 else
 bif (y6.2.1.2.2.2.2.2.2.1 != (0 : Int)) then
 some ((false, ()), ())
 else
 bif (y7.2.1.2.2.2.2.2.2.1 != (1 : Int)) then
 some ((false, ()), ())
 else
 bif (!(eqB y6.2.1.2.2.2.2.1 y5.1.2.1)) then
 some ((false, ()), ())
 else
 bif (!(eqB y7.2.1.2.2.2.2.2.1 y5.1.2.1)) then
 some ((false, ()), ())
 else
 Option.bind ((ng6' y6.2.1.1 y6.2.1.2.1 y6.2.1.2.2.1 y6.2.1.2.2.2.1 y6.2.1.2.2.2.2.1 y6.2.1.2.2.2.2.2.1 y6.2.1.2.2.2.2.2.2.1 y6.2.1.2.2.2.2.2.2.2.1 y6.2.1.2.2.2.2.2.2.2.2.1 y6.2.1.2.2.2.2.2.2.2.2.2.1 y6.2.1.2.2.2.2.2.2.2.2.2.2.1 y6.2.1.2.2.2.2.2.2.2.2.2.2.2.1 y6.2.1.2.2.2.2.2.2.2.2.2.2.2.2.1 y6.2.1.2.2.2.2.2.2.2.2.2.2.2.2.2.1 y6.2.1.2.2.2.2.2.2.2.2.2.2.2.2.2.2.1 y6.2.1.2.2.2.2.2.2.2.2.2.2.2.2.2.2.2.1 y7.2.1.1 y7.2.1.2.1 y7.2.1.2.2.1 y7.2.1.2.2.2.1 y6.2.1.2.2.2.2.1 y6.2.1.2.2.2.2.2.1 y6.2.1.2.2.2.2.2.2.1 y7.2.1.2.2.2.2.2.2.2.1 y7.2.1.2.2.2.2.2.2.2.2.1 y7.2.1.2.2.2.2.2.2.2.2.2.1 y7.2.1.2.2.2.2.2.2.2.2.2.2.1 y7.2.1.2.2.2.2.2.2.2.2.2.2.2.1 y7.2.1.2.2.2.2.2.2.2.2.2.2.2.2.1 y7.2.1.2.2.2.2.2.2.2.2.2.2.2.2.2.1 y7.2.1.2.2.2.2.2.2.2.2.2.2.2.2.2.2.1 y7.2.1.2.2.2.2.2.2.2.2.2.2.2.2.2.2.2.1).bind fun y8 =>
 bif y8.1.1 then
 (h_l26_sane ((), ())).bind fun y9 =>
 some ((y9.1.1, ()), ())
 else
 some ((false, ()), ())) fun y10 =>
 some ((y10.1.1, ()), ())
theorem q91 (h_l26_sane : (Unit × Unit) → Option ((Bool × Unit) × Unit)) (x : I91.T G) : endI (cfP [(9, e1), (10, e15), (33, e17), (19, e20), (34, e71), (35, e76), (32, Fe.mk (G := G) I90 E90 h_l26_sane Try.f32.results.toList)]) (pl []) (jl [(1048585, [(.normal, ⟨[(4, ob)], [], []⟩)]), (2097156, [(.normal, ⟨[(5, op 80), (7, os)], [(80, c'2)], []⟩)])]) 85 (nk' Try.f7) I91 E91 x = H91 h_l26_sane x.1.1.1 x.1.1.2.1 x.1.2.1 := by kernel_rfl
noncomputable def e91 : Fe G := ⟨I91, E91, fun x => F_l26_RestartAgain x.1.1.1 x.1.1.2.1 x.1.2.1, Try.f7.results.toList⟩
theorem k91 : FnOK Try.prog G 7 e91 := fk cx (tc k1 (tc k15 (tc k17 (tc k20 (tc k71 (tc k76 (tc k90 tn))))))) (jl [(1048585, [(.normal, ⟨[(4, ob)], [], []⟩)]), (2097156, [(.normal, ⟨[(5, op 80), (7, os)], [(80, c'2)], []⟩)])]) (lp := (pl [])) Try.func7 (by kernel_rfl) (by kernel_rfl) rfl (an0 (by kernel_rfl)) fun x => (q91 (fun _ => ni8' ) x).trans (by kernel_rfl)
def I92 : Sp := ⟨[(0, .agg c'7)], [], []⟩
def E92 : SL := [(.ret, ⟨[(2, op 32)], [(32, c'4)], []⟩)]
noncomputable def e92 : Fe G := ⟨I92, E92, fun x => nhg' x.1.1.1 x.1.1.2.1 x.1.1.2.2.1 x.1.1.2.2.2.1, Try.f55.results.toList⟩
theorem k92 : FnOK Try.prog G 55 e92 := fk cx (tc k65 (tc k66 (tc k67 tn))) (jl []) (lp := (pl [])) Try.func55 (by kernel_rfl) (by kernel_rfl) rfl (an0 (by kernel_rfl)) fun x => by kernel_rfl
def I93 : Sp := ⟨[(0, .agg c'2), (1, .agg c'7), (2, .agg c'5)], [], []⟩
def E93 : SL := [(.ret, ⟨[(6, op 96), (7, oi64)], [(96, c'4)], []⟩)]
noncomputable def e93 : Fe G := ⟨I93, E93, fun x => njt' x.1.1.1 x.1.1.2.1 x.1.1.2.2.1 x.1.1.2.2.2.1 x.1.1.2.2.2.2.1 x.1.1.2.2.2.2.2.1 x.1.1.2.2.2.2.2.2.1 x.1.1.2.2.2.2.2.2.2.1 x.1.2.1.1 x.1.2.1.2.1 x.1.2.1.2.2.1 x.1.2.1.2.2.2.1 x.1.2.2.1.1 x.1.2.2.1.2.1 x.1.2.2.1.2.2.1 x.1.2.2.1.2.2.2.1 x.1.2.2.1.2.2.2.2.1, Try.f48.results.toList⟩
theorem k93 : FnOK Try.prog G 48 e93 := fk cx (tc k46 (tc k31 (tc k92 (tc k42 tn)))) (jl []) (lp := (pl [])) Try.func48 (by kernel_rfl) (by kernel_rfl) rfl (an0 (by kernel_rfl)) fun x => by kernel_rfl
def I94 : Sp := ⟨[(0, .agg c'2), (1, .agg c'7)], [], []⟩
def E94 : SL := [(.ret, ⟨[(4, ob)], [], []⟩)]
noncomputable def e94 : Fe G := ⟨I94, E94, fun x => nim' x.1.1.1 x.1.1.2.1 x.1.1.2.2.1 x.1.1.2.2.2.1 x.1.1.2.2.2.2.1 x.1.1.2.2.2.2.2.1 x.1.1.2.2.2.2.2.2.1 x.1.1.2.2.2.2.2.2.2.1 x.1.2.1.1 x.1.2.1.2.1 x.1.2.1.2.2.1 x.1.2.1.2.2.2.1, Try.f51.results.toList⟩
theorem k94 : FnOK Try.prog G 51 e94 := fk cx (tc k46 tn) (jl [(1048577, [(.normal, ⟨[(4, ob)], [], []⟩)])]) (lp := (pl [])) Try.func51 (by kernel_rfl) (by kernel_rfl) rfl (an0 (by kernel_rfl)) fun x => by kernel_rfl
def I95 : Sp := ⟨[(0, .agg c'2), (1, .agg c'13), (2, .agg c'7), (3, .agg c'5), (4, oi64)], [], []⟩
def E95 : SL := [(.ret, ⟨[(10, op 160), (11, op 176), (12, oi64), (13, oi64)], [(160, c'13), (176, c'4)], []⟩)]
noncomputable def e95 : Fe G := ⟨I95, E95, fun x => ncs' x.1.1.1 x.1.1.2.1 x.1.1.2.2.1 x.1.1.2.2.2.1 x.1.1.2.2.2.2.1 x.1.1.2.2.2.2.2.1 x.1.1.2.2.2.2.2.2.1 x.1.1.2.2.2.2.2.2.2.1 x.1.2.1.1 x.1.2.1.2.1 x.1.2.1.2.2.1 x.1.2.2.1.1 x.1.2.2.1.2.1 x.1.2.2.1.2.2.1 x.1.2.2.1.2.2.2.1 x.1.2.2.2.1.1 x.1.2.2.2.1.2.1 x.1.2.2.2.1.2.2.1 x.1.2.2.2.1.2.2.2.1 x.1.2.2.2.1.2.2.2.2.1 x.1.2.2.2.2.1, Try.f20.results.toList⟩
theorem k95 : FnOK Try.prog G 20 e95 := fk cx (tc k93 (tc k44 (tc k39 (tc k94 (tc k51 (tc k26 (tc k58 (tc k62 (tc k92 tn))))))))) (jl [(12, [(.normal, ⟨[(4, oi64), (6, op 96), (7, op 112), (10, op 160), (11, op 176), (14, op 224), (15, oi64)], [(96, c'13), (112, c'7), (160, c'13), (176, c'4), (224, c'8)], []⟩)]), (1048581, [(.normal, ⟨[(4, oi64), (5, op 80), (6, op 96), (7, op 112), (8, op 128), (10, op 160), (11, op 176), (14, op 224), (63, ob)], [(80, c'2), (96, c'13), (112, c'7), (128, c'5), (160, c'13), (176, c'4), (224, c'8)], []⟩)])]) (lp := (pl [])) Try.func20 (by kernel_rfl) (by kernel_rfl) rfl (an0 (by kernel_rfl)) fun x => by kernel_rfl
def I96 : Sp := ⟨[], [], []⟩
def E96 : SL := [(.ret, ⟨[(0, ob)], [], []⟩)]
noncomputable def H96 (h_l10_Building : ((Int × Int × Unit) × Unit) → Option ((Unit × Unit) × (T'0 × Unit))) (h_log_Initial : ((T'0 × Unit) × Unit) → Option ((Unit × Unit) × (T'5 × Unit))) (h_log_Append : (T'60 × Unit) → Option (T'7 × (T'37 × T'5 × Unit))) (h_log_Same : ((T'5 × T'5 × Unit) × Unit) → Option ((Bool × Unit) × Unit)) (h_log_Replay : ((T'0 × T'37 × Unit) × Unit) → Option ((Unit × Unit) × (T'5 × Unit)))  : Option ((Bool × Unit) × Unit) :=
 (h_l10_Building (((9 : Int), (30 : Int), ()), ())).bind fun y1 =>
 (h_log_Initial (((y1.2.1.1, y1.2.1.2.1, y1.2.1.2.2.1, y1.2.1.2.2.2.1, y1.2.1.2.2.2.2.1, y1.2.1.2.2.2.2.2.1, y1.2.1.2.2.2.2.2.2.1, y1.2.1.2.2.2.2.2.2.2.1, ()), ()), ())).bind fun y2 =>
 (h_log_Append (((y1.2.1.1, y1.2.1.2.1, y1.2.1.2.2.1, y1.2.1.2.2.2.1, y1.2.1.2.2.2.2.1, y1.2.1.2.2.2.2.2.1, y1.2.1.2.2.2.2.2.2.1, y1.2.1.2.2.2.2.2.2.2.1, ()), ((ByteArray.mk (Array.mk [])), (ByteArray.mk (Array.mk [])), (0 : Int), ()), (y2.2.1.1, y2.2.1.2.1, y2.2.1.2.2.1, y2.2.1.2.2.2.1, ()), ((1 : Int), (2 : Int), (1 : Int), (0 : Int), (0 : Int), ()), (100 : Int), ()), ())).bind fun y3 =>
 (h_log_Append (((y1.2.1.1, y1.2.1.2.1, y1.2.1.2.2.1, y1.2.1.2.2.2.1, y1.2.1.2.2.2.2.1, y1.2.1.2.2.2.2.2.1, y1.2.1.2.2.2.2.2.2.1, y1.2.1.2.2.2.2.2.2.2.1, ()), (y3.2.1.1, y3.2.1.2.1, y3.2.1.2.2.1, ()), (y3.2.2.1.1, y3.2.2.1.2.1, y3.2.2.1.2.2.1, y3.2.2.1.2.2.2.1, ()), ((3 : Int), (2 : Int), (1 : Int), (0 : Int), (0 : Int), ()), y3.1.2.2.1, ()), ())).bind fun y4 =>
 (h_log_Append (((y1.2.1.1, y1.2.1.2.1, y1.2.1.2.2.1, y1.2.1.2.2.2.1, y1.2.1.2.2.2.2.1, y1.2.1.2.2.2.2.2.1, y1.2.1.2.2.2.2.2.2.1, y1.2.1.2.2.2.2.2.2.2.1, ()), (y4.2.1.1, y4.2.1.2.1, y4.2.1.2.2.1, ()), (y4.2.2.1.1, y4.2.2.1.2.1, y4.2.2.1.2.2.1, y4.2.2.1.2.2.2.1, ()), ((2 : Int), (2 : Int), (1 : Int), (0 : Int), (0 : Int), ()), (5 : Int), ()), ())).bind fun y5 =>
 Option.bind (bif (y3.1.2.2.2.1 == (0 : Int)) then
 bif (y3.1.2.2.1 == (94 : Int)) then
 bif (y4.1.2.2.2.1 == (0 : Int)) then
 bif (y4.1.2.2.1 == (88 : Int)) then
 bif (((List.length y4.2.2.1.2.2.2.1 : Nat) : Int) == (1 : Int)) then
 bif (inB (0 : Int) (List.length y4.2.2.1.2.2.2.1)) then
 let z0 : Entry := (List.getD y4.2.2.1.2.2.2.1 (Int.toNat (0 : Int)) (Entry.mk (0 : Int) (0 : Int) (0 : Int) (0 : Int) false))
 bif ((z0.Floor == (2 : Int)) && ((z0.Dir == (1 : Int)) && ((z0.Car == (0 : Int)) && ((z0.Moves == (0 : Int)) && ((z0.Moved == false) && true))))) then
 bif (y5.1.2.2.2.1 == (8 : Int)) then
 (h_log_Same (((y5.2.2.1.1, y5.2.2.1.2.1, y5.2.2.1.2.2.1, y5.2.2.1.2.2.2.1, ()), (y4.2.2.1.1, y4.2.2.1.2.1, y4.2.2.1.2.2.1, y4.2.2.1.2.2.2.1, ()), ()), ())).bind fun y6 =>
 bif y6.1.1 then
 (h_log_Replay (((y1.2.1.1, y1.2.1.2.1, y1.2.1.2.2.1, y1.2.1.2.2.2.1, y1.2.1.2.2.2.2.1, y1.2.1.2.2.2.2.2.1, y1.2.1.2.2.2.2.2.2.1, y1.2.1.2.2.2.2.2.2.2.1, ()), (y5.2.1.1, y5.2.1.2.1, y5.2.1.2.2.1, ()), ()), ())).bind fun y7 =>
 (h_log_Same (((y7.2.1.1, y7.2.1.2.1, y7.2.1.2.2.1, y7.2.1.2.2.2.1, ()), (y4.2.2.1.1, y4.2.2.1.2.1, y4.2.2.1.2.2.1, y4.2.2.1.2.2.2.1, ()), ()), ())).bind fun y8 =>
 some ((y8.1.1, ()), ())
 else
 some ((false, ()), ())
 else
 some ((false, ()), ())
 else
 some ((false, ()), ())
 else
 none
 else
 some ((false, ()), ())
 else
 some ((false, ()), ())
 else
 some ((false, ()), ())
 else
 some ((false, ()), ())
 else
 some ((false, ()), ())) fun y9 =>
 some ((y9.1.1, ()), ())
theorem q96 (h_l10_Building : ((Int × Int × Unit) × Unit) → Option ((Unit × Unit) × (T'0 × Unit))) (h_log_Initial : ((T'0 × Unit) × Unit) → Option ((Unit × Unit) × (T'5 × Unit))) (h_log_Append : (T'60 × Unit) → Option (T'7 × (T'37 × T'5 × Unit))) (h_log_Same : ((T'5 × T'5 × Unit) × Unit) → Option ((Bool × Unit) × Unit)) (h_log_Replay : ((T'0 × T'37 × Unit) × Unit) → Option ((Unit × Unit) × (T'5 × Unit))) (x : I96.T G) : endI (cfP [(9, Fe.mk (G := G) I1 E1 h_l10_Building Try.f9.results.toList), (29, Fe.mk (G := G) I25 E25 h_log_Initial Try.f29.results.toList), (20, Fe.mk (G := G) I95 E95 h_log_Append Try.f20.results.toList), (46, Fe.mk (G := G) I88 E88 h_log_Same Try.f46.results.toList), (27, Fe.mk (G := G) I43 E43 h_log_Replay Try.f27.results.toList)]) (pl []) (jl [(1048581, [(.normal, ⟨[(0, ob)], [], []⟩)])]) 89 (nk' Try.f17) I96 E96 x = H96 h_l10_Building h_log_Initial h_log_Append h_log_Same h_log_Replay  := by kernel_rfl
noncomputable def e96 : Fe G := ⟨I96, E96, fun _ => nmy', Try.f17.results.toList⟩
theorem k96 : FnOK Try.prog G 17 e96 := fk cx (tc k1 (tc k25 (tc k95 (tc k88 (tc k43 tn))))) (jl [(1048581, [(.normal, ⟨[(0, ob)], [], []⟩)])]) (lp := (pl [])) Try.func17 (by kernel_rfl) (by kernel_rfl) rfl (an0 (by kernel_rfl)) fun x => (q96 (fun x => nbr' x.1.1 x.1.2.1) (fun x => nef' x.1.1.1 x.1.1.2.1 x.1.1.2.2.1 x.1.1.2.2.2.1 x.1.1.2.2.2.2.1 x.1.1.2.2.2.2.2.1 x.1.1.2.2.2.2.2.2.1 x.1.1.2.2.2.2.2.2.2.1) (fun x => ncs' x.1.1.1 x.1.1.2.1 x.1.1.2.2.1 x.1.1.2.2.2.1 x.1.1.2.2.2.2.1 x.1.1.2.2.2.2.2.1 x.1.1.2.2.2.2.2.2.1 x.1.1.2.2.2.2.2.2.2.1 x.1.2.1.1 x.1.2.1.2.1 x.1.2.1.2.2.1 x.1.2.2.1.1 x.1.2.2.1.2.1 x.1.2.2.1.2.2.1 x.1.2.2.1.2.2.2.1 x.1.2.2.2.1.1 x.1.2.2.2.1.2.1 x.1.2.2.2.1.2.2.1 x.1.2.2.2.1.2.2.2.1 x.1.2.2.2.1.2.2.2.2.1 x.1.2.2.2.2.1) (fun x => nfz' x.1.1.1 x.1.1.2.1 x.1.1.2.2.1 x.1.1.2.2.2.1 x.1.2.1.1 x.1.2.1.2.1 x.1.2.1.2.2.1 x.1.2.1.2.2.2.1) (fun x => nfm' x.1.1.1 x.1.1.2.1 x.1.1.2.2.1 x.1.1.2.2.2.1 x.1.1.2.2.2.2.1 x.1.1.2.2.2.2.2.1 x.1.1.2.2.2.2.2.2.1 x.1.1.2.2.2.2.2.2.2.1 x.1.2.1.1 x.1.2.1.2.1 x.1.2.1.2.2.1) x).trans (by kernel_rfl)
end Go.Ovl
