/- The contracts of the program's functions: part 1. -/
import Derived.Test.YthdomhdippmaiaaSig
import Derived.Test.YthdomhdippmaiaaDefs2
import Derived.Test.YthdomhdippmaiaaHand
namespace Go.Ovl
open Go Go.Ab Go.Proofs
set_option maxRecDepth 100000
def c'0 : List CSh := [.int .i64, .int .i64, .int .i64, .int .i64, .flt .f64, .flt .f64, .flt .f64, .own 32768 100]
def c'1 : List CSh := [.int .i64, .int .i64, .int .i64, .int .i64, .flt .f64, .flt .f64, .flt .f64, .own 32769 100]
def c'2 : List CSh := [.int .i64, .int .i64, .int .i64, .int .i64, .flt .f64, .flt .f64, .flt .f64, .ro 100]
def c'3 : List CSh := [.int .u32, .int .u32, .int .u32, .int .u32, .bool, .bool, .int .i64, .own 32768 111]
def c'4 : List CSh := [.int .u32, .int .u32]
def c'5 : List CSh := [.int .u32, .int .u32, .bool, .int .u32, .int .u32, .bool, .int .i64, .int .i64, .bool]
def c'6 : List CSh := [.int .u32, .int .u32, .bool]
def c'7 : List CSh := [.int .u32, .int .u32, .int .u32, .int .u32, .bool, .bool, .int .i64, .ro 111]
def c'8 : List CSh := [.int .u32, .int .u32, .int .u32, .int .u32, .bool, .bool, .int .i64, .own 32769 111]
def c'9 : List CSh := [.int .i64, .int .i64, .int .i64, .int .i64, .int .i64, .int .i64, .int .i64, .int .i64, .int .i64]
def c'10 : List CSh := [.own 32768 3, .own 32769 4, .own 32770 4, .own 32771 98]
def c'11 : List CSh := [.int .i64, .int .i64, .int .i64, .int .i64, .int .i64]
def c'12 : List CSh := [.int .i64, .int .i64, .int .i64, .int .i64, .bool]
def c'13 : List CSh := [.ro 3, .ro 4, .ro 4, .ro 98]
def c'14 : List CSh := [.own 32772 3, .own 32773 4, .own 32774 4, .own 32775 98]
def c'15 : List CSh := [.own 32768 3, .own 32769 4, .own 32770 4, .ro 98]
def c'16 : List CSh := [.own 32771 3, .own 32772 4, .own 32773 4, .own 32774 98]
def c'17 : List CSh := [.own 32769 3, .own 32770 4, .own 32771 4, .own 32772 98]
def c'18 : List CSh := [.own 32773 3, .own 32774 4, .own 32775 4, .own 32776 98]
def c'19 : List CSh := [.str, .str, .int .i64]
def c'20 : List CSh := [.int .i64, .int .i64, .int .i64, .own 32768 189, .int .i64, .bool]
def c'21 : List CSh := [.ro 3, .ro 4, .ro 4, .ro 98, .str, .str, .int .i64, .own 32768 81, .own 32769 84, .own 32770 92, .own 32771 94, .own 32772 3, .own 32773 96, .int .i64, .int .i64, .int .i64]
def c'22 : List CSh := [.own 32768 3, .own 32769 4, .own 32770 4, .own 32771 98, .str, .str, .int .i64, .own 32772 81, .own 32773 84, .own 32774 92, .own 32775 94, .own 32776 3, .own 32777 96, .int .i64, .int .i64, .int .i64]
def c'23 : List CSh := [.ro 3, .ro 4, .ro 4, .ro 98, .str, .str, .int .i64, .own 32778 81, .own 32779 84, .own 32780 92, .own 32781 94, .own 32782 3, .own 32783 96, .int .i64, .int .i64, .int .i64]
def c'24 : List CSh := [.ro 3, .ro 4, .ro 4, .ro 98, .str, .str, .int .i64, .ro 81, .ro 84, .ro 92, .ro 94, .ro 3, .ro 96, .int .i64, .int .i64, .int .i64]
def c'25 : List CSh := [.int .i64, .int .i64, .int .i64, .ro 189, .int .i64, .bool]
def c'26 : List CSh := [.np 65536 133, .own 32768 5]
def c'27 : List CSh := [.np 65536 133, .ro 5]
def c'28 : List CSh := [.np 176 133, .own 32769 5]
def c'29 : List CSh := [.np 176 133, .own 32768 5]
def c'30 : List CSh := [.own 32778 3, .own 32779 4, .own 32780 4, .own 32781 98, .str, .str, .int .i64, .own 32782 81, .own 32783 84, .own 32784 92, .own 32785 94, .own 32786 3, .own 32787 96, .int .i64, .int .i64, .int .i64]
theorem cx : Ctx Try.prog G := ⟨sigOK, eqOK, hmix⟩
def I0 : Sp := ⟨[(0, oi64), (1, oi64)], [], []⟩
def E0 : SL := [(.ret, ⟨[(4, op 64)], [(64, c'0)], []⟩)]
def S0_0 : Sp := ⟨[(0, oi64), (1, oi64), (4, op 64), (5, op 80), (6, oi64)], [(64, c'0), (80, c'1)], []⟩
def X0_0 : SL := [(.exit 0, ⟨[(4, op 64), (5, op 80)], [(64, c'0), (80, c'1)], []⟩)]
def J0 : Nat → Option SL := jl []
noncomputable def P0 : Nat → St G → M (Ex × St G) := pl [lpX S0_0 X0_0 nex']
theorem l0_0 : LoopOK Try.prog G 24 (P0 0) (ni' (ne' Try.f39) 0) := lk cx tn J0 1 S0_0 X0_0 (rfl : nex' = _) (by kernel_rfl) (an0 (by kernel_rfl)) fun x => by kernel_rfl
noncomputable def e0 : Fe G := ⟨I0, E0, fun x => nh8' x.1.1 x.1.2.1, Try.f39.results.toList⟩
theorem k0 : FnOK Try.prog G 39 e0 := fk cx tn J0 (lp := P0) Try.func39 (by kernel_rfl) (by kernel_rfl) rfl (nh' _ (by kernel_rfl) (nf' l0_0 nk')) fun x => by kernel_rfl
def I1 : Sp := ⟨[(0, ou8), (1, ou8)], [], []⟩
def E1 : SL := [(.ret, ⟨[(4, op 64)], [(64, c'0)], []⟩)]
noncomputable def e1 : Fe G := ⟨I1, E1, fun x => nbb' x.1.1 x.1.2.1, Try.f9.results.toList⟩
theorem k1 : FnOK Try.prog G 9 e1 := fk cx (tc k0 tn) (jl []) (lp := (pl [])) Try.func9 (by kernel_rfl) (by kernel_rfl) rfl (an0 (by kernel_rfl)) fun x => by kernel_rfl
def I2 : Sp := ⟨[(0, .agg c'2)], [], []⟩
def E2 : SL := [(.ret, ⟨[(2, op 32)], [(32, c'3)], []⟩)]
noncomputable def e2 : Fe G := ⟨I2, E2, fun x => nfr' x.1.1.1 x.1.1.2.1 x.1.1.2.2.1 x.1.1.2.2.2.1 x.1.1.2.2.2.2.1 x.1.1.2.2.2.2.2.1 x.1.1.2.2.2.2.2.2.1 x.1.1.2.2.2.2.2.2.2.1, Try.f36.results.toList⟩
theorem k2 : FnOK Try.prog G 36 e2 := fk cx tn (jl []) (lp := (pl [])) Try.func36 (by kernel_rfl) (by kernel_rfl) rfl (an0 (by kernel_rfl)) fun x => by kernel_rfl
def I3 : Sp := ⟨[(0, .agg c'4), (1, .agg c'4)], [], []⟩
def E3 : SL := [(.ret, ⟨[(4, op 64)], [(64, c'4)], []⟩)]
noncomputable def e3 : Fe G := ⟨I3, E3, fun x => nih' x.1.1.1 x.1.1.2.1 x.1.2.1.1 x.1.2.1.2.1, Try.f91.results.toList⟩
theorem k3 : FnOK Try.prog G 91 e3 := fk cx tn (jl []) (lp := (pl [])) Try.func91 (by kernel_rfl) (by kernel_rfl) rfl (an0 (by kernel_rfl)) fun x => by kernel_rfl
def I4 : Sp := ⟨[(0, .agg c'4), (1, .agg c'4)], [], []⟩
def E4 : SL := [(.ret, ⟨[(4, op 64)], [(64, c'4)], []⟩)]
noncomputable def e4 : Fe G := ⟨I4, E4, fun x => nnq' x.1.1.1 x.1.1.2.1 x.1.2.1.1 x.1.2.1.2.1, Try.f133.results.toList⟩
theorem k4 : FnOK Try.prog G 133 e4 := fk cx tn (jl []) (lp := (pl [])) Try.func133 (by kernel_rfl) (by kernel_rfl) rfl (an0 (by kernel_rfl)) fun x => by kernel_rfl
def I5 : Sp := ⟨[(0, oro 111)], [], []⟩
def E5 : SL := [(.ret, ⟨[(2, op 32), (3, ob)], [(32, c'4)], []⟩)]
def S5_0 : Sp := ⟨[(2, op 32), (4, op 64), (5, ob), (8, oro 111), (9, oi64), (10, oi64)], [(32, c'4), (64, c'4)], []⟩
def X5_0 : SL := [(.exit 0, ⟨[(2, op 32), (4, op 64), (5, ob)], [(32, c'4), (64, c'4)], []⟩)]
def J5 : Nat → Option SL := jl [(1048582, [(.normal, ⟨[(2, op 32), (4, op 64), (5, ob), (7, op 112), (8, oro 111), (9, oi64), (10, oi64)], [(32, c'4), (64, c'4), (112, c'5)], []⟩)])]
noncomputable def P5 : Nat → St G → M (Ex × St G) := pl [lpX S5_0 X5_0 ngk']
theorem t5 : ∀ p ∈ [(91, e3), (133, e4)], FnOK Try.prog G p.1 p.2 := (tc k3 (tc k4 tn))
theorem l5_0 : LoopOK Try.prog G 30 (P5 0) (ni' (ne' Try.f85) 0) := lk cx t5 J5 1 S5_0 X5_0 (rfl : ngk' = _) (by kernel_rfl) (an0 (by kernel_rfl)) fun x => by kernel_rfl
noncomputable def e5 : Fe G := ⟨I5, E5, fun x => nlb' x.1.1, Try.f85.results.toList⟩
theorem k5 : FnOK Try.prog G 85 e5 := fk cx t5 J5 (lp := P5) Try.func85 (by kernel_rfl) (by kernel_rfl) rfl (nh' _ (by kernel_rfl) (nf' l5_0 nk')) fun x => by kernel_rfl
def I6 : Sp := ⟨[(0, .agg c'4), (1, .agg c'4)], [], []⟩
def E6 : SL := [(.ret, ⟨[(4, op 64)], [(64, c'4)], []⟩)]
noncomputable def e6 : Fe G := ⟨I6, E6, fun x => nfk' x.1.1.1 x.1.1.2.1 x.1.2.1.1 x.1.2.1.2.1, Try.f86.results.toList⟩
theorem k6 : FnOK Try.prog G 86 e6 := fk cx tn (jl []) (lp := (pl [])) Try.func86 (by kernel_rfl) (by kernel_rfl) rfl (an0 (by kernel_rfl)) fun x => by kernel_rfl
def I7 : Sp := ⟨[(0, oi64)], [], []⟩
def E7 : SL := [(.ret, ⟨[(2, ob)], [], []⟩)]
noncomputable def e7 : Fe G := ⟨I7, E7, fun x => nm0' x.1.1, Try.f147.results.toList⟩
theorem k7 : FnOK Try.prog G 147 e7 := fk cx tn (jl [(1048577, [(.normal, ⟨[(2, ob)], [], []⟩)])]) (lp := (pl [])) Try.func147 (by kernel_rfl) (by kernel_rfl) rfl (an0 (by kernel_rfl)) fun x => by kernel_rfl
def I8 : Sp := ⟨[(0, oi64), (1, .agg c'6)], [], []⟩
def E8 : SL := [(.ret, ⟨[(4, ob)], [], []⟩)]
noncomputable def e8 : Fe G := ⟨I8, E8, fun x => nnz' x.1.1 x.1.2.1.1 x.1.2.1.2.1 x.1.2.1.2.2.1, Try.f134.results.toList⟩
theorem k8 : FnOK Try.prog G 134 e8 := fk cx (tc k7 tn) (jl [(1048577, [(.normal, ⟨[(4, ob)], [], []⟩)])]) (lp := (pl [])) Try.func134 (by kernel_rfl) (by kernel_rfl) rfl (an0 (by kernel_rfl)) fun x => by kernel_rfl
def I9 : Sp := ⟨[(0, oro 111)], [], []⟩
def E9 : SL := [(.ret, ⟨[(2, ob)], [], []⟩)]
def S9_0 : Sp := ⟨[(5, oro 111), (6, oi64), (7, oi64)], [], []⟩
def X9_0 : SL := [(.exit 0, ⟨[], [], []⟩), (.ret, ⟨[(2, ob)], [], []⟩)]
def J9 : Nat → Option SL := jl []
noncomputable def P9 : Nat → St G → M (Ex × St G) := pl [lpX S9_0 X9_0 ni3']
theorem t9 : ∀ p ∈ [(134, e8)], FnOK Try.prog G p.1 p.2 := (tc k8 tn)
theorem l9_0 : LoopOK Try.prog G 18 (P9 0) (ni' (ne' Try.f87) 0) := lk cx t9 J9 1 S9_0 X9_0 (rfl : ni3' = _) (by kernel_rfl) (an0 (by kernel_rfl)) fun x => by kernel_rfl
noncomputable def e9 : Fe G := ⟨I9, E9, fun x => nnu' x.1.1, Try.f87.results.toList⟩
theorem k9 : FnOK Try.prog G 87 e9 := fk cx t9 J9 (lp := P9) Try.func87 (by kernel_rfl) (by kernel_rfl) rfl (nh' _ (by kernel_rfl) (nf' l9_0 nk')) fun x => by kernel_rfl
def I10 : Sp := ⟨[(0, oi64), (1, oi64)], [], []⟩
def E10 : SL := [(.ret, ⟨[(4, ob)], [], []⟩)]
noncomputable def e10 : Fe G := ⟨I10, E10, fun x => nkx' x.1.1 x.1.2.1, Try.f135.results.toList⟩
theorem k10 : FnOK Try.prog G 135 e10 := fk cx tn (jl [(1048577, [(.normal, ⟨[(4, ob)], [], []⟩)])]) (lp := (pl [])) Try.func135 (by kernel_rfl) (by kernel_rfl) rfl (an0 (by kernel_rfl)) fun x => by kernel_rfl
def I11 : Sp := ⟨[(0, oro 111)], [], []⟩
def E11 : SL := [(.ret, ⟨[(2, ob)], [], []⟩)]
def S11_0 : Sp := ⟨[(5, oro 111), (6, oi64), (7, oi64)], [], []⟩
def X11_0 : SL := [(.exit 0, ⟨[], [], []⟩), (.ret, ⟨[(2, ob)], [], []⟩)]
def J11 : Nat → Option SL := jl []
noncomputable def P11 : Nat → St G → M (Ex × St G) := pl [lpX S11_0 X11_0 nge']
theorem t11 : ∀ p ∈ [(135, e10)], FnOK Try.prog G p.1 p.2 := (tc k10 tn)
theorem l11_0 : LoopOK Try.prog G 18 (P11 0) (ni' (ne' Try.f88) 0) := lk cx t11 J11 1 S11_0 X11_0 (rfl : nge' = _) (by kernel_rfl) (an0 (by kernel_rfl)) fun x => by kernel_rfl
noncomputable def e11 : Fe G := ⟨I11, E11, fun x => nle' x.1.1, Try.f88.results.toList⟩
theorem k11 : FnOK Try.prog G 88 e11 := fk cx t11 J11 (lp := P11) Try.func88 (by kernel_rfl) (by kernel_rfl) rfl (nh' _ (by kernel_rfl) (nf' l11_0 nk')) fun x => by kernel_rfl
def I12 : Sp := ⟨[(0, oi64), (1, oi64)], [], []⟩
def E12 : SL := [(.ret, ⟨[(4, ob)], [], []⟩)]
noncomputable def e12 : Fe G := ⟨I12, E12, fun x => not' x.1.1 x.1.2.1, Try.f136.results.toList⟩
theorem s12 : twoFe G 4 edgeB = e12 := by kernel_rfl
theorem k12 : FnOK Try.prog G 136 e12 := s12 ▸ twoOK ⟨_, Try.func136, by kernel_rfl, by kernel_rfl⟩ nz1'
def I13 : Sp := ⟨[(0, oro 111), (1, oro 111)], [], []⟩
def E13 : SL := [(.ret, ⟨[(4, ob)], [], []⟩)]
def S13_0 : Sp := ⟨[(0, oro 111), (7, oro 111), (8, oi64), (9, oi64)], [], []⟩
def X13_0 : SL := [(.exit 0, ⟨[], [], []⟩), (.ret, ⟨[(4, ob)], [], []⟩)]
def J13 : Nat → Option SL := jl [(1048580, [(.normal, ⟨[(0, oro 111), (7, oro 111), (8, oi64), (9, oi64), (32, ob)], [], []⟩)])]
noncomputable def P13 : Nat → St G → M (Ex × St G) := pl [lpX S13_0 X13_0 nin']
theorem t13 : ∀ p ∈ [(136, e12)], FnOK Try.prog G p.1 p.2 := (tc k12 tn)
theorem l13_0 : LoopOK Try.prog G 34 (P13 0) (ni' (ne' Try.f89) 0) := lk cx t13 J13 1 S13_0 X13_0 (rfl : nin' = _) (by kernel_rfl) (an0 (by kernel_rfl)) fun x => by kernel_rfl
noncomputable def e13 : Fe G := ⟨I13, E13, fun x => nnr' x.1.1 x.1.2.1, Try.f89.results.toList⟩
theorem k13 : FnOK Try.prog G 89 e13 := fk cx t13 J13 (lp := P13) Try.func89 (by kernel_rfl) (by kernel_rfl) rfl (nh' _ (by kernel_rfl) (nf' l13_0 nk')) fun x => by kernel_rfl
def I14 : Sp := ⟨[(0, .agg c'4)], [], []⟩
def E14 : SL := [(.ret, ⟨[(2, ob)], [], []⟩)]
noncomputable def e14 : Fe G := ⟨I14, E14, fun x => nd5' x.1.1.1 x.1.1.2.1, Try.f90.results.toList⟩
theorem k14 : FnOK Try.prog G 90 e14 := fk cx tn (jl []) (lp := (pl [])) Try.func90 (by kernel_rfl) (by kernel_rfl) rfl (an0 (by kernel_rfl)) fun x => by kernel_rfl
def I15 : Sp := ⟨[(0, oro 111)], [], []⟩
def E15 : SL := [(.ret, ⟨[(2, oi64)], [], []⟩)]
def S15_0 : Sp := ⟨[(3, oi64), (6, oro 111), (7, oi64), (8, oi64)], [], []⟩
def X15_0 : SL := [(.exit 0, ⟨[(3, oi64)], [], []⟩)]
def J15 : Nat → Option SL := jl [(1048581, [(.normal, ⟨[(3, oi64), (6, oro 111), (7, oi64), (8, oi64), (24, ob)], [], []⟩)])]
noncomputable def P15 : Nat → St G → M (Ex × St G) := pl [lpX S15_0 X15_0 ngw']
theorem l15_0 : LoopOK Try.prog G 29 (P15 0) (ni' (ne' Try.f92) 0) := lk cx tn J15 1 S15_0 X15_0 (rfl : ngw' = _) (by kernel_rfl) (an0 (by kernel_rfl)) fun x => by kernel_rfl
noncomputable def e15 : Fe G := ⟨I15, E15, fun x => nl1' x.1.1, Try.f92.results.toList⟩
theorem k15 : FnOK Try.prog G 92 e15 := fk cx tn J15 (lp := P15) Try.func92 (by kernel_rfl) (by kernel_rfl) rfl (nh' _ (by kernel_rfl) (nf' l15_0 nk')) fun x => by kernel_rfl
def I16 : Sp := ⟨[(0, .agg c'2), (1, .agg c'7), (2, .agg c'7)], [], []⟩
def E16 : SL := [(.ret, ⟨[(6, oi64)], [], []⟩)]
noncomputable def e16 : Fe G := ⟨I16, E16, fun x => ndd' x.1.1.1 x.1.1.2.1 x.1.1.2.2.1 x.1.1.2.2.2.1 x.1.1.2.2.2.2.1 x.1.1.2.2.2.2.2.1 x.1.1.2.2.2.2.2.2.1 x.1.1.2.2.2.2.2.2.2.1 x.1.2.1.1 x.1.2.1.2.1 x.1.2.1.2.2.1 x.1.2.1.2.2.2.1 x.1.2.1.2.2.2.2.1 x.1.2.1.2.2.2.2.2.1 x.1.2.1.2.2.2.2.2.2.1 x.1.2.1.2.2.2.2.2.2.2.1 x.1.2.2.1.1 x.1.2.2.1.2.1 x.1.2.2.1.2.2.1 x.1.2.2.1.2.2.2.1 x.1.2.2.1.2.2.2.2.1 x.1.2.2.1.2.2.2.2.2.1 x.1.2.2.1.2.2.2.2.2.2.1 x.1.2.2.1.2.2.2.2.2.2.2.1, Try.f38.results.toList⟩
theorem k16 : FnOK Try.prog G 38 e16 := fk cx (tc k5 (tc k6 (tc k9 (tc k11 (tc k13 (tc k14 (tc k3 (tc k15 tn)))))))) (jl [(1048598, [(.normal, ⟨[(5, op 80), (95, ob)], [(80, c'7)], []⟩)])]) (lp := (pl [])) Try.func38 (by kernel_rfl) (by kernel_rfl) rfl (an0 (by kernel_rfl)) fun x => by kernel_rfl
def I17 : Sp := ⟨[(0, .agg c'2), (1, .agg c'7), (2, oro 106)], [], []⟩
def E17 : SL := [(.ret, ⟨[(6, oi64), (7, oi64)], [], []⟩)]
def S17_0 : Sp := ⟨[(3, op 48), (4, op 64), (11, oro 106), (12, oi64), (13, oi64)], [(48, c'2), (64, c'7)], []⟩
def X17_0 : SL := [(.exit 0, ⟨[], [], []⟩), (.ret, ⟨[(6, oi64), (7, oi64)], [], []⟩)]
def J17 : Nat → Option SL := jl []
noncomputable def P17 : Nat → St G → M (Ex × St G) := pl [lpX S17_0 X17_0 ni2']
theorem t17 : ∀ p ∈ [(38, e16)], FnOK Try.prog G p.1 p.2 := (tc k16 tn)
theorem l17_0 : LoopOK Try.prog G 28 (P17 0) (ni' (ne' Try.f37) 0) := lk cx t17 J17 1 S17_0 X17_0 (rfl : ni2' = _) (by kernel_rfl) (an0 (by kernel_rfl)) fun x => by kernel_rfl
noncomputable def e17 : Fe G := ⟨I17, E17, fun x => nkb' x.1.1.1 x.1.1.2.1 x.1.1.2.2.1 x.1.1.2.2.2.1 x.1.1.2.2.2.2.1 x.1.1.2.2.2.2.2.1 x.1.1.2.2.2.2.2.2.1 x.1.1.2.2.2.2.2.2.2.1 x.1.2.1.1 x.1.2.1.2.1 x.1.2.1.2.2.1 x.1.2.1.2.2.2.1 x.1.2.1.2.2.2.2.1 x.1.2.1.2.2.2.2.2.1 x.1.2.1.2.2.2.2.2.2.1 x.1.2.1.2.2.2.2.2.2.2.1 x.1.2.2.1, Try.f37.results.toList⟩
theorem k17 : FnOK Try.prog G 37 e17 := fk cx t17 J17 (lp := P17) Try.func37 (by kernel_rfl) (by kernel_rfl) rfl (nh' _ (by kernel_rfl) (nf' l17_0 nk')) fun x => by kernel_rfl
def I18 : Sp := ⟨[], [], []⟩
def E18 : SL := [(.ret, ⟨[(0, ob)], [], []⟩)]
noncomputable def H18 (h_l10_Building : ((Int × Int × Unit) × Unit) → Option ((Unit × Unit) × (T'0 × Unit))) (h_audit_First : ((T'0 × Unit) × Unit) → Option ((Unit × Unit) × (T'2 × Unit))) (h_audit_Watch : (T'75 × Unit) → Option ((Int × Int × Unit) × Unit)) (h_audit_Outputs : ((T'0 × T'2 × T'2 × Unit) × Unit) → Option ((Int × Unit) × Unit))  : Option ((Bool × Unit) × Unit) :=
 (h_l10_Building (((9 : Int), (90 : Int), ()), ())).bind fun y1 =>
 (h_audit_First ((y1.2.1, ()), ())).bind fun y2 =>
 bif (((List.length y2.2.1.2.2.2.2.2.2.2.1 : Nat) : Int) != (2 : Int)) then
 some ((false, ()), ())
 else
 (h_audit_First ((y1.2.1, ()), ())).bind fun y3 =>
 bif (inB (1 : Int) (List.length y3.2.1.2.2.2.2.2.2.2.1)) then
 let z0 : Nat := (Int.toNat (1 : Int))
 let z1 : CarOutput := (List.getD y3.2.1.2.2.2.2.2.2.2.1 z0 (CarOutput.mk (0 : Int) (0 : Int) false (0 : Int) (0 : Int) false (0 : Int) (0 : Int) false))
 (h_audit_First ((y1.2.1, ()), ())).bind fun y4 =>
 bif (inB (0 : Int) (List.length y4.2.1.2.2.2.2.2.2.2.1)) then
 let z2 : Nat := (Int.toNat (0 : Int))
 let z3 : CarOutput := (List.getD y4.2.1.2.2.2.2.2.2.2.1 z2 (CarOutput.mk (0 : Int) (0 : Int) false (0 : Int) (0 : Int) false (0 : Int) (0 : Int) false))
 let z4 : List (CarOutput) := (List.set y4.2.1.2.2.2.2.2.2.2.1 z2 (CarOutput.mk z3.Coils_Inject_Up z3.Coils_Inject_Down z3.Coils_CutOut (1 : Int) (0 : Int) z3.Gong z3.Command z3.Phase z3.Flag))
 bif (inB (1 : Int) (List.length z4)) then
 let z5 : Nat := (Int.toNat (1 : Int))
 let z6 : CarOutput := (List.getD z4 z5 (CarOutput.mk (0 : Int) (0 : Int) false (0 : Int) (0 : Int) false (0 : Int) (0 : Int) false))
 Option.bind (some (((), (), (), (), ()), (y1.2.1, y2.2.1, (y3.2.1.1, y3.2.1.2.1, y3.2.1.2.2.1, y3.2.1.2.2.2.1, y3.2.1.2.2.2.2.1, y3.2.1.2.2.2.2.2.1, y3.2.1.2.2.2.2.2.2.1, (List.set y3.2.1.2.2.2.2.2.2.2.1 z0 (CarOutput.mk z1.Coils_Inject_Up z1.Coils_Inject_Down z1.Coils_CutOut z1.Lantern_Up z1.Lantern_Down z1.Gong z1.Command (4 : Int) z1.Flag)), ()), (y4.2.1.1, y4.2.1.2.1, y4.2.1.2.2.1, y4.2.1.2.2.2.1, y4.2.1.2.2.2.2.1, y4.2.1.2.2.2.2.2.1, y4.2.1.2.2.2.2.2.2.1, (List.set z4 z5 (CarOutput.mk z6.Coils_Inject_Up z6.Coils_Inject_Down z6.Coils_CutOut (3 : Int) (0 : Int) z6.Gong z6.Command z6.Phase z6.Flag)), ()), ()))) fun y5 =>
 (h_audit_Watch ((y5.2.1, y5.2.2.1, [(Outputs.mk y5.2.2.1.1 y5.2.2.1.2.1 y5.2.2.1.2.2.1 y5.2.2.1.2.2.2.1 y5.2.2.1.2.2.2.2.1 y5.2.2.1.2.2.2.2.2.1 y5.2.2.1.2.2.2.2.2.2.1 y5.2.2.1.2.2.2.2.2.2.2.1), (Outputs.mk y5.2.2.2.1.1 y5.2.2.2.1.2.1 y5.2.2.2.1.2.2.1 y5.2.2.2.1.2.2.2.1 y5.2.2.2.1.2.2.2.2.1 y5.2.2.2.1.2.2.2.2.2.1 y5.2.2.2.1.2.2.2.2.2.2.1 y5.2.2.2.1.2.2.2.2.2.2.2.1)], ()), ())).bind fun y6 =>
 Option.bind ((h_audit_Outputs ((y5.2.1, y5.2.2.1, y5.2.2.2.1, ()), ())).bind fun y7 =>
 bif (y7.1.1 == (4 : Int)) then
 (h_audit_Outputs ((y5.2.1, y5.2.2.1, y5.2.2.2.2.1, ()), ())).bind fun y8 =>
 bif (y8.1.1 == (1 : Int)) then
 bif (y6.1.1 == (1 : Int)) then
 bif (y6.1.2.1 == (4 : Int)) then
 (h_audit_Outputs ((y5.2.1, y5.2.2.1, y5.2.2.1, ()), ())).bind fun y9 =>
 some (((y9.1.1 == (0 : Int)), ()), ())
 else
 some ((false, ()), ())
 else
 some ((false, ()), ())
 else
 some ((false, ()), ())
 else
 some ((false, ()), ())) fun y10 =>
 some ((y10.1.1, ()), ())
 else
 none
 else
 none
 else
 none
theorem q18 (h_l10_Building : ((Int × Int × Unit) × Unit) → Option ((Unit × Unit) × (T'0 × Unit))) (h_audit_First : ((T'0 × Unit) × Unit) → Option ((Unit × Unit) × (T'2 × Unit))) (h_audit_Watch : (T'75 × Unit) → Option ((Int × Int × Unit) × Unit)) (h_audit_Outputs : ((T'0 × T'2 × T'2 × Unit) × Unit) → Option ((Int × Unit) × Unit)) (x : I18.T G) : endI (cfP [(9, Fe.mk (G := G) I1 E1 h_l10_Building Try.f9.results.toList), (36, Fe.mk (G := G) I2 E2 h_audit_First Try.f36.results.toList), (37, Fe.mk (G := G) I17 E17 h_audit_Watch Try.f37.results.toList), (38, Fe.mk (G := G) I16 E16 h_audit_Outputs Try.f38.results.toList)]) (pl []) (jl [(1048586, [(.normal, ⟨[(0, ob)], [], []⟩)]), (2097161, [(.normal, ⟨[(1, op 16), (2, op 32), (3, op 48), (4, op 64)], [(16, c'0), (32, c'7), (48, c'7), (64, c'8)], []⟩)])]) 68 (ne' Try.f8) I18 E18 x = H18 h_l10_Building h_audit_First h_audit_Watch h_audit_Outputs  := by kernel_rfl
noncomputable def e18 : Fe G := ⟨I18, E18, fun _ => nc5', Try.f8.results.toList⟩
theorem k18 : FnOK Try.prog G 8 e18 := fk cx (tc k1 (tc k2 (tc k17 (tc k16 tn)))) (jl [(1048586, [(.normal, ⟨[(0, ob)], [], []⟩)]), (2097161, [(.normal, ⟨[(1, op 16), (2, op 32), (3, op 48), (4, op 64)], [(16, c'0), (32, c'7), (48, c'7), (64, c'8)], []⟩)])]) (lp := (pl [])) Try.func8 (by kernel_rfl) (by kernel_rfl) rfl (an0 (by kernel_rfl)) fun x => (q18 (fun x => nbb' x.1.1 x.1.2.1) (fun x => nfr' x.1.1.1 x.1.1.2.1 x.1.1.2.2.1 x.1.1.2.2.2.1 x.1.1.2.2.2.2.1 x.1.1.2.2.2.2.2.1 x.1.1.2.2.2.2.2.2.1 x.1.1.2.2.2.2.2.2.2.1) (fun x => nkb' x.1.1.1 x.1.1.2.1 x.1.1.2.2.1 x.1.1.2.2.2.1 x.1.1.2.2.2.2.1 x.1.1.2.2.2.2.2.1 x.1.1.2.2.2.2.2.2.1 x.1.1.2.2.2.2.2.2.2.1 x.1.2.1.1 x.1.2.1.2.1 x.1.2.1.2.2.1 x.1.2.1.2.2.2.1 x.1.2.1.2.2.2.2.1 x.1.2.1.2.2.2.2.2.1 x.1.2.1.2.2.2.2.2.2.1 x.1.2.1.2.2.2.2.2.2.2.1 x.1.2.2.1) (fun x => ndd' x.1.1.1 x.1.1.2.1 x.1.1.2.2.1 x.1.1.2.2.2.1 x.1.1.2.2.2.2.1 x.1.1.2.2.2.2.2.1 x.1.1.2.2.2.2.2.2.1 x.1.1.2.2.2.2.2.2.2.1 x.1.2.1.1 x.1.2.1.2.1 x.1.2.1.2.2.1 x.1.2.1.2.2.2.1 x.1.2.1.2.2.2.2.1 x.1.2.1.2.2.2.2.2.1 x.1.2.1.2.2.2.2.2.2.1 x.1.2.1.2.2.2.2.2.2.2.1 x.1.2.2.1.1 x.1.2.2.1.2.1 x.1.2.2.1.2.2.1 x.1.2.2.1.2.2.2.1 x.1.2.2.1.2.2.2.2.1 x.1.2.2.1.2.2.2.2.2.1 x.1.2.2.1.2.2.2.2.2.2.1 x.1.2.2.1.2.2.2.2.2.2.2.1) x).trans (by kernel_rfl)
def I19 : Sp := ⟨[(0, oi64), (1, oi64), (2, oi64)], [], []⟩
def E19 : SL := [(.ret, ⟨[(6, ob)], [], []⟩)]
noncomputable def e19 : Fe G := ⟨I19, E19, fun x => ncx' x.1.1 x.1.2.1 x.1.2.2.1, Try.f137.results.toList⟩
theorem k19 : FnOK Try.prog G 137 e19 := fk cx tn (jl [(1048577, [(.normal, ⟨[(6, ob)], [], []⟩)])]) (lp := (pl [])) Try.func137 (by kernel_rfl) (by kernel_rfl) rfl (an0 (by kernel_rfl)) fun x => by kernel_rfl
def I20 : Sp := ⟨[(0, .agg c'2), (1, .agg c'9)], [], []⟩
def E20 : SL := [(.ret, ⟨[(4, ob)], [], []⟩)]
def S20_0 : Sp := ⟨[(2, op 32), (3, op 48), (5, .one (.own 32768 3)), (6, oi64)], [(32, c'2), (48, c'9)], []⟩
def X20_0 : SL := [(.exit 0, ⟨[(2, op 32), (3, op 48)], [(32, c'2), (48, c'9)], []⟩), (.ret, ⟨[(4, ob)], [], []⟩)]
def J20 : Nat → Option SL := jl [(1048585, [(.normal, ⟨[(4, ob)], [], []⟩)])]
noncomputable def P20 : Nat → St G → M (Ex × St G) := pl [lpX S20_0 X20_0 nhh']
theorem t20 : ∀ p ∈ [(137, e19)], FnOK Try.prog G p.1 p.2 := (tc k19 tn)
theorem l20_0 : LoopOK Try.prog G 56 (P20 0) (ni' (ne' Try.f138) 0) := lk cx t20 J20 1 S20_0 X20_0 (rfl : nhh' = _) (by kernel_rfl) (an0 (by kernel_rfl)) fun x => by kernel_rfl
noncomputable def e20 : Fe G := ⟨I20, E20, fun x => nji' x.1.1.1 x.1.1.2.1 x.1.1.2.2.1 x.1.1.2.2.2.1 x.1.1.2.2.2.2.1 x.1.1.2.2.2.2.2.1 x.1.1.2.2.2.2.2.2.1 x.1.1.2.2.2.2.2.2.2.1 x.1.2.1.1 x.1.2.1.2.1 x.1.2.1.2.2.1 x.1.2.1.2.2.2.1 x.1.2.1.2.2.2.2.1 x.1.2.1.2.2.2.2.2.1 x.1.2.1.2.2.2.2.2.2.1 x.1.2.1.2.2.2.2.2.2.2.1 x.1.2.1.2.2.2.2.2.2.2.2.1, Try.f138.results.toList⟩
theorem k20 : FnOK Try.prog G 138 e20 := fk cx t20 J20 (lp := P20) Try.func138 (by kernel_rfl) (by kernel_rfl) rfl (nh' _ (by kernel_rfl) (nf' l20_0 nk')) fun x => by kernel_rfl
def I21 : Sp := ⟨[(0, .agg c'2)], [], []⟩
def E21 : SL := [(.ret, ⟨[(2, oi64)], [], []⟩)]
def S21_0 : Sp := ⟨[(1, op 16), (3, ob), (4, oi64)], [(16, c'2)], []⟩
def X21_0 : SL := [(.exit 0, ⟨[(1, op 16), (3, ob)], [(16, c'2)], []⟩)]
def J21 : Nat → Option SL := jl [(1048581, [(.normal, ⟨[(1, op 16), (3, ob)], [(16, c'2)], []⟩)]), (1048585, [(.normal, ⟨[(1, op 16), (3, ob), (4, oi64)], [(16, c'2)], []⟩)])]
noncomputable def P21 : Nat → St G → M (Ex × St G) := pl [lpX S21_0 X21_0 ng8']
theorem t21 : ∀ p ∈ [(137, e19), (138, e20)], FnOK Try.prog G p.1 p.2 := (tc k19 (tc k20 tn))
theorem l21_0 : LoopOK Try.prog G 73 (P21 0) (ni' (ne' Try.f93) 0) := lk cx t21 J21 1 S21_0 X21_0 (rfl : ng8' = _) (by kernel_rfl) (an0 (by kernel_rfl)) fun x => by kernel_rfl
noncomputable def e21 : Fe G := ⟨I21, E21, fun x => nc4' x.1.1.1 x.1.1.2.1 x.1.1.2.2.1 x.1.1.2.2.2.1 x.1.1.2.2.2.2.1 x.1.1.2.2.2.2.2.1 x.1.1.2.2.2.2.2.2.1 x.1.1.2.2.2.2.2.2.2.1, Try.f93.results.toList⟩
theorem k21 : FnOK Try.prog G 93 e21 := fk cx t21 J21 (lp := P21) Try.func93 (by kernel_rfl) (by kernel_rfl) rfl (nh' _ (by kernel_rfl) (nf' l21_0 nk')) fun x => by kernel_rfl
def I22 : Sp := ⟨[(0, .agg c'2)], [], []⟩
def E22 : SL := [(.ret, ⟨[(2, op 32)], [(32, c'10)], []⟩)]
noncomputable def e22 : Fe G := ⟨I22, E22, fun x => nfp' x.1.1.1 x.1.1.2.1 x.1.1.2.2.1 x.1.1.2.2.2.1 x.1.1.2.2.2.2.1 x.1.1.2.2.2.2.2.1 x.1.1.2.2.2.2.2.2.1 x.1.1.2.2.2.2.2.2.2.1, Try.f40.results.toList⟩
theorem k22 : FnOK Try.prog G 40 e22 := fk cx (tc k21 tn) (jl []) (lp := (pl [])) Try.func40 (by kernel_rfl) (by kernel_rfl) rfl (an0 (by kernel_rfl)) fun x => by kernel_rfl
def I23 : Sp := ⟨[(0, .agg c'2), (1, oro 5), (2, oi64)], [], []⟩
def E23 : SL := [(.ret, ⟨[(6, .one (.own 32768 56))], [], []⟩)]
def S23_0 : Sp := ⟨[(1, oro 5), (2, oi64), (7, .one (.own 32768 56)), (8, oi64), (9, oi64), (10, oi64)], [], []⟩
def X23_0 : SL := [(.exit 0, ⟨[(7, .one (.own 32768 56))], [], []⟩)]
def J23 : Nat → Option SL := jl [(18, [(.normal, ⟨[(1, oro 5), (2, oi64), (7, .one (.own 32768 56)), (8, oi64), (9, oi64), (10, oi64), (11, oi64), (13, op 208)], [(208, c'11)], []⟩)]), (20, [(.normal, ⟨[(1, oro 5), (2, oi64), (7, .one (.own 32768 56)), (8, oi64), (9, oi64), (10, oi64), (11, oi64), (13, op 208)], [(208, c'11)], []⟩)])]
noncomputable def P23 : Nat → St G → M (Ex × St G) := pl [lpX S23_0 X23_0 nf9']
theorem l23_0 : LoopOK Try.prog G 112 (P23 0) (ni' (ne' Try.f18) 0) := lk cx tn J23 1 S23_0 X23_0 (rfl : nf9' = _) (by kernel_rfl) (an0 (by kernel_rfl)) fun x => by kernel_rfl
noncomputable def e23 : Fe G := ⟨I23, E23, fun x => ng7' x.1.1.1 x.1.1.2.1 x.1.1.2.2.1 x.1.1.2.2.2.1 x.1.1.2.2.2.2.1 x.1.1.2.2.2.2.2.1 x.1.1.2.2.2.2.2.2.1 x.1.1.2.2.2.2.2.2.2.1 x.1.2.1 x.1.2.2.1, Try.f18.results.toList⟩
theorem k23 : FnOK Try.prog G 18 e23 := fk cx tn J23 (lp := P23) Try.func18 (by kernel_rfl) (by kernel_rfl) rfl (nh' _ (by kernel_rfl) (nf' l23_0 nk')) fun x => by kernel_rfl
def I24 : Sp := ⟨[(0, .agg c'2), (1, oi64), (2, oi64)], [], []⟩
def E24 : SL := [(.ret, ⟨[(6, ob)], [], []⟩)]
noncomputable def e24 : Fe G := ⟨I24, E24, fun x => ngf' x.1.1.1 x.1.1.2.1 x.1.1.2.2.1 x.1.1.2.2.2.1 x.1.1.2.2.2.2.1 x.1.1.2.2.2.2.2.1 x.1.1.2.2.2.2.2.2.1 x.1.1.2.2.2.2.2.2.2.1 x.1.2.1 x.1.2.2.1, Try.f108.results.toList⟩
theorem k24 : FnOK Try.prog G 108 e24 := fk cx (tc k21 (tc k19 tn)) (jl [(1048579, [(.normal, ⟨[(6, ob)], [], []⟩)])]) (lp := (pl [])) Try.func108 (by kernel_rfl) (by kernel_rfl) rfl (an0 (by kernel_rfl)) fun x => by kernel_rfl
def I25 : Sp := ⟨[(0, .agg c'12), (1, .agg c'12)], [], []⟩
def E25 : SL := [(.ret, ⟨[(4, ob)], [], []⟩)]
noncomputable def e25 : Fe G := ⟨I25, E25, fun x => nh7' x.1.1.1 x.1.1.2.1 x.1.1.2.2.1 x.1.1.2.2.2.1 x.1.1.2.2.2.2.1 x.1.2.1.1 x.1.2.1.2.1 x.1.2.1.2.2.1 x.1.2.1.2.2.2.1 x.1.2.1.2.2.2.2.1, Try.f109.results.toList⟩
theorem k25 : FnOK Try.prog G 109 e25 := fk cx tn (jl [(1048577, [(.normal, ⟨[(4, ob)], [], []⟩)])]) (lp := (pl [])) Try.func109 (by kernel_rfl) (by kernel_rfl) rfl (an0 (by kernel_rfl)) fun x => by kernel_rfl
def I26 : Sp := ⟨[(0, .agg c'2), (1, .agg c'13)], [], []⟩
def E26 : SL := [(.ret, ⟨[(4, ob)], [], []⟩)]
def S26_0 : Sp := ⟨[(2, op 32), (3, op 48), (5, oi64), (6, oi64)], [(32, c'2), (48, c'13)], []⟩
def X26_0 : SL := [(.exit 0, ⟨[(2, op 32), (3, op 48), (5, oi64)], [(32, c'2), (48, c'13)], []⟩), (.ret, ⟨[(4, ob)], [], []⟩)]
def S26_1 : Sp := ⟨[(2, op 32), (3, op 48), (5, oi64), (7, oi64)], [(32, c'2), (48, c'13)], []⟩
def X26_1 : SL := [(.exit 2, ⟨[], [], []⟩), (.ret, ⟨[(4, ob)], [], []⟩)]
def J26 : Nat → Option SL := jl [(1048589, [(.normal, ⟨[(2, op 32), (3, op 48), (5, oi64), (7, oi64), (109, ob)], [(32, c'2), (48, c'13)], []⟩)])]
noncomputable def P26 : Nat → St G → M (Ex × St G) := pl [lpX S26_0 X26_0 nf8', lpX S26_1 X26_1 nf7']
theorem t26 : ∀ p ∈ [(93, e21), (108, e24), (109, e25)], FnOK Try.prog G p.1 p.2 := (tc k21 (tc k24 (tc k25 tn)))
theorem l26_1 : LoopOK Try.prog G 110 (P26 1) (ni' (ne' Try.f57) 1) := lk cx t26 J26 2 S26_1 X26_1 (rfl : nf7' = _) (by kernel_rfl) (an0 (by kernel_rfl)) fun x => by kernel_rfl
theorem l26_0 : LoopOK Try.prog G 110 (P26 0) (ni' (ne' Try.f57) 0) := lk cx t26 J26 1 S26_0 X26_0 (rfl : nf8' = _) (by kernel_rfl) (an0 (by kernel_rfl)) fun x => by kernel_rfl
noncomputable def e26 : Fe G := ⟨I26, E26, fun x => nce' x.1.1.1 x.1.1.2.1 x.1.1.2.2.1 x.1.1.2.2.2.1 x.1.1.2.2.2.2.1 x.1.1.2.2.2.2.2.1 x.1.1.2.2.2.2.2.2.1 x.1.1.2.2.2.2.2.2.2.1 x.1.2.1.1 x.1.2.1.2.1 x.1.2.1.2.2.1 x.1.2.1.2.2.2.1, Try.f57.results.toList⟩
theorem k26 : FnOK Try.prog G 57 e26 := fk cx t26 J26 (lp := P26) Try.func57 (by kernel_rfl) (by kernel_rfl) rfl (nh' _ (by kernel_rfl) (nf' l26_0 (nf' l26_1 nk'))) fun x => by kernel_rfl
def I27 : Sp := ⟨[(0, oi64), (1, oi64), (2, oi64)], [], []⟩
def E27 : SL := [(.ret, ⟨[(6, ob)], [], []⟩)]
noncomputable def e27 : Fe G := ⟨I27, E27, fun x => nei' x.1.1 x.1.2.1 x.1.2.2.1, Try.f110.results.toList⟩
theorem k27 : FnOK Try.prog G 110 e27 := fk cx tn (jl [(1048577, [(.normal, ⟨[(6, ob)], [], []⟩)])]) (lp := (pl [])) Try.func110 (by kernel_rfl) (by kernel_rfl) rfl (an0 (by kernel_rfl)) fun x => by kernel_rfl
def I28 : Sp := ⟨[(0, .agg c'2), (1, .agg c'11)], [], []⟩
def E28 : SL := [(.ret, ⟨[(4, ob)], [], []⟩)]
noncomputable def e28 : Fe G := ⟨I28, E28, fun x => nek' x.1.1.1 x.1.1.2.1 x.1.1.2.2.1 x.1.1.2.2.2.1 x.1.1.2.2.2.2.1 x.1.1.2.2.2.2.2.1 x.1.1.2.2.2.2.2.2.1 x.1.1.2.2.2.2.2.2.2.1 x.1.2.1.1 x.1.2.1.2.1 x.1.2.1.2.2.1 x.1.2.1.2.2.2.1 x.1.2.1.2.2.2.2.1, Try.f58.results.toList⟩
theorem k28 : FnOK Try.prog G 58 e28 := fk cx (tc k21 (tc k24 (tc k27 tn))) (jl [(1048580, [(.normal, ⟨[(2, op 32), (3, op 48), (5, ob), (6, ob)], [(32, c'2), (48, c'11)], []⟩)]), (1048584, [(.normal, ⟨[(4, ob)], [], []⟩)]), (1048586, [(.normal, ⟨[(4, ob)], [], []⟩)]), (1048588, [(.normal, ⟨[(4, ob)], [], []⟩)]), (1048591, [(.normal, ⟨[(4, ob)], [], []⟩)]), (1048593, [(.normal, ⟨[(4, ob)], [], []⟩)])]) (lp := (pl [])) Try.func58 (by kernel_rfl) (by kernel_rfl) rfl (an0 (by kernel_rfl)) fun x => by kernel_rfl
def I29 : Sp := ⟨[(0, .agg c'13), (1, oi64), (2, oi64)], [], []⟩
def E29 : SL := [(.ret, ⟨[(6, oi64)], [], []⟩)]
def S29_0 : Sp := ⟨[(1, oi64), (2, oi64), (3, op 48), (7, oi64)], [(48, c'13)], []⟩
def X29_0 : SL := [(.exit 0, ⟨[], [], []⟩), (.ret, ⟨[(6, oi64)], [], []⟩)]
def J29 : Nat → Option SL := jl [(1048580, [(.normal, ⟨[(1, oi64), (2, oi64), (3, op 48), (7, oi64), (32, ob)], [(48, c'13)], []⟩)])]
noncomputable def P29 : Nat → St G → M (Ex × St G) := pl [lpX S29_0 X29_0 nif']
theorem l29_0 : LoopOK Try.prog G 34 (P29 0) (ni' (ne' Try.f59) 0) := lk cx tn J29 1 S29_0 X29_0 (rfl : nif' = _) (by kernel_rfl) (an0 (by kernel_rfl)) fun x => by kernel_rfl
noncomputable def e29 : Fe G := ⟨I29, E29, fun x => niu' x.1.1.1 x.1.1.2.1 x.1.1.2.2.1 x.1.1.2.2.2.1 x.1.2.1 x.1.2.2.1, Try.f59.results.toList⟩
theorem k29 : FnOK Try.prog G 59 e29 := fk cx tn J29 (lp := P29) Try.func59 (by kernel_rfl) (by kernel_rfl) rfl (nh' _ (by kernel_rfl) (nf' l29_0 nk')) fun x => by kernel_rfl
def I30 : Sp := ⟨[(0, oro 98), (1, .agg c'12)], [], []⟩
def E30 : SL := [(.ret, ⟨[(4, .one (.own 32768 98))], [], []⟩)]
def S30_0 : Sp := ⟨[(0, oro 98), (3, op 48), (5, .one (.own 32768 98)), (6, ob), (7, oi64)], [(48, c'12)], []⟩
def X30_0 : SL := [(.exit 0, ⟨[(3, op 48), (5, .one (.own 32768 98)), (6, ob)], [(48, c'12)], []⟩)]
def J30 : Nat → Option SL := jl [(10, [(.normal, ⟨[(0, oro 98), (3, op 48), (5, .one (.own 32768 98)), (6, ob), (7, oi64)], [(48, c'12)], []⟩)]), (1048582, [(.normal, ⟨[(0, oro 98), (3, op 48), (5, .one (.own 32768 98)), (6, ob), (7, oi64), (23, ob)], [(48, c'12)], []⟩)])]
noncomputable def P30 : Nat → St G → M (Ex × St G) := pl [lpX S30_0 X30_0 nf4']
theorem t30 : ∀ p ∈ [(109, e25)], FnOK Try.prog G p.1 p.2 := (tc k25 tn)
theorem l30_0 : LoopOK Try.prog G 42 (P30 0) (ni' (ne' Try.f75) 0) := lk cx t30 J30 1 S30_0 X30_0 (rfl : nf4' = _) (by kernel_rfl) (an0 (by kernel_rfl)) fun x => by kernel_rfl
noncomputable def e30 : Fe G := ⟨I30, E30, fun x => nhc' x.1.1 x.1.2.1.1 x.1.2.1.2.1 x.1.2.1.2.2.1 x.1.2.1.2.2.2.1 x.1.2.1.2.2.2.2.1, Try.f75.results.toList⟩
theorem k30 : FnOK Try.prog G 75 e30 := fk cx t30 J30 (lp := P30) Try.func75 (by kernel_rfl) (by kernel_rfl) rfl (nh' _ (by kernel_rfl) (nf' l30_0 nk')) fun x => by kernel_rfl
def I31 : Sp := ⟨[(0, .agg c'2), (1, .agg c'13), (2, .agg c'11)], [], []⟩
def E31 : SL := [(.ret, ⟨[(6, op 96), (7, oi64)], [(96, c'10)], []⟩)]
noncomputable def e31 : Fe G := ⟨I31, E31, fun x => nfw' x.1.1.1 x.1.1.2.1 x.1.1.2.2.1 x.1.1.2.2.2.1 x.1.1.2.2.2.2.1 x.1.1.2.2.2.2.2.1 x.1.1.2.2.2.2.2.2.1 x.1.1.2.2.2.2.2.2.2.1 x.1.2.1.1 x.1.2.1.2.1 x.1.2.1.2.2.1 x.1.2.1.2.2.2.1 x.1.2.2.1.1 x.1.2.2.1.2.1 x.1.2.2.1.2.2.1 x.1.2.2.1.2.2.2.1 x.1.2.2.1.2.2.2.2.1, Try.f30.results.toList⟩
theorem k31 : FnOK Try.prog G 30 e31 := fk cx (tc k26 (tc k28 (tc k29 (tc k30 tn)))) (jl [(1048588, [(.normal, ⟨[(4, op 64), (5, op 80), (6, op 96), (8, oi64), (77, ob)], [(64, c'10), (80, c'11), (96, c'14)], []⟩)]), (2097168, [(.normal, ⟨[(4, op 64), (6, op 96), (8, oi64)], [(64, c'15), (96, c'16)], []⟩)])]) (lp := (pl [])) Try.func30 (by kernel_rfl) (by kernel_rfl) rfl (an0 (by kernel_rfl)) fun x => by kernel_rfl
def I32 : Sp := ⟨[(0, .agg c'2), (1, oro 5)], [], []⟩
def E32 : SL := [(.ret, ⟨[(4, op 64)], [(64, c'10)], []⟩)]
def S32_0 : Sp := ⟨[(2, op 32), (4, op 64), (5, op 80), (6, .one (.own 32768 56)), (7, oi64)], [(32, c'2), (64, c'17), (80, c'18)], []⟩
def X32_0 : SL := [(.exit 0, ⟨[(4, op 64), (5, op 80)], [(64, c'10), (80, c'14)], []⟩)]
def J32 : Nat → Option SL := jl []
noncomputable def P32 : Nat → St G → M (Ex × St G) := pl [lpX S32_0 X32_0 nhg']
theorem t32 : ∀ p ∈ [(40, e22), (18, e23), (30, e31)], FnOK Try.prog G p.1 p.2 := (tc k22 (tc k23 (tc k31 tn)))
theorem l32_0 : LoopOK Try.prog G 30 (P32 0) (ni' (ne' Try.f10) 0) := lk cx t32 J32 1 S32_0 X32_0 (rfl : nhg' = _) (by kernel_rfl) (an0 (by kernel_rfl)) fun x => by kernel_rfl
noncomputable def e32 : Fe G := ⟨I32, E32, fun x => ng2' x.1.1.1 x.1.1.2.1 x.1.1.2.2.1 x.1.1.2.2.2.1 x.1.1.2.2.2.2.1 x.1.1.2.2.2.2.2.1 x.1.1.2.2.2.2.2.2.1 x.1.1.2.2.2.2.2.2.2.1 x.1.2.1, Try.f10.results.toList⟩
theorem k32 : FnOK Try.prog G 10 e32 := fk cx t32 J32 (lp := P32) Try.func10 (by kernel_rfl) (by kernel_rfl) rfl (nh' _ (by kernel_rfl) (nf' l32_0 nk')) fun x => by kernel_rfl
def I33 : Sp := ⟨[(0, .agg c'2), (1, .agg c'13)], [], []⟩
def E33 : SL := [(.ret, ⟨[(4, ob)], [], []⟩)]
noncomputable def e33 : Fe G := ⟨I33, E33, fun x => nh3' x.1.1.1 x.1.1.2.1 x.1.1.2.2.1 x.1.1.2.2.2.1 x.1.1.2.2.2.2.1 x.1.1.2.2.2.2.2.1 x.1.1.2.2.2.2.2.2.1 x.1.1.2.2.2.2.2.2.2.1 x.1.2.1.1 x.1.2.1.2.1 x.1.2.1.2.2.1 x.1.2.1.2.2.2.1, Try.f41.results.toList⟩
theorem k33 : FnOK Try.prog G 41 e33 := fk cx (tc k26 tn) (jl [(1048577, [(.normal, ⟨[(4, ob)], [], []⟩)])]) (lp := (pl [])) Try.func41 (by kernel_rfl) (by kernel_rfl) rfl (an0 (by kernel_rfl)) fun x => by kernel_rfl
def I34 : Sp := ⟨[(0, oi64), (1, .agg c'19)], [], []⟩
def E34 : SL := [(.ret, ⟨[(4, ob)], [], []⟩)]
noncomputable def e34 : Fe G := ⟨I34, E34, fun x => ndf' x.1.1 x.1.2.1.1 x.1.2.1.2.1 x.1.2.1.2.2.1, Try.f42.results.toList⟩
theorem k34 : FnOK Try.prog G 42 e34 := fk cx tn (jl [(1048577, [(.normal, ⟨[(4, ob)], [], []⟩)])]) (lp := (pl [])) Try.func42 (by kernel_rfl) (by kernel_rfl) rfl (an0 (by kernel_rfl)) fun x => by kernel_rfl
def I35 : Sp := ⟨[], [], []⟩
def E35 : SL := [(.ret, ⟨[(0, op 0)], [(0, c'20)], []⟩)]
noncomputable def e35 : Fe G := ⟨I35, E35, fun _ => nhs', Try.f43.results.toList⟩
theorem k35 : FnOK Try.prog G 43 e35 := fk cx tn (jl []) (lp := (pl [])) Try.func43 (by kernel_rfl) (by kernel_rfl) rfl (an0 (by kernel_rfl)) fun x => by kernel_rfl
def I36 : Sp := ⟨[(0, .agg c'2), (1, .agg c'13), (2, .agg c'19)], [], []⟩
def E36 : SL := [(.ret, ⟨[(6, op 96), (7, oi64)], [(96, c'21)], []⟩)]
def S36_0 : Sp := ⟨[(3, op 48), (4, op 64), (6, op 96), (8, oi64), (9, op 144), (10, oi64)], [(48, c'2), (64, c'13), (96, c'22), (144, c'23)], []⟩
def X36_0 : SL := [(.exit 0, ⟨[(3, op 48), (4, op 64), (6, op 96), (9, op 144)], [(48, c'2), (64, c'13), (96, c'22), (144, c'23)], []⟩)]
def S36_1 : Sp := ⟨[(3, op 48), (4, op 64), (6, op 96), (9, op 144), (11, oi64)], [(48, c'2), (64, c'13), (96, c'22), (144, c'23)], []⟩
def X36_1 : SL := [(.exit 2, ⟨[(6, op 96), (9, op 144)], [(96, c'22), (144, c'23)], []⟩)]
def J36 : Nat → Option SL := jl [(17, [(.normal, ⟨[(3, op 48), (4, op 64), (6, op 96), (9, op 144), (11, oi64), (12, oi64)], [(48, c'2), (64, c'13), (96, c'22), (144, c'23)], []⟩)])]
noncomputable def P36 : Nat → St G → M (Ex × St G) := pl [lpX S36_0 X36_0 nfn', lpX S36_1 X36_1 nfl']
theorem t36 : ∀ p ∈ [(41, e33), (42, e34), (43, e35)], FnOK Try.prog G p.1 p.2 := (tc k33 (tc k34 (tc k35 tn)))
noncomputable def n4y' (_h_r19_New : (Unit × Unit) → Option ((Unit × Unit) × (T'24 × Unit))) (i b_Floors b_Debounce b_Room b_Park : Int) (b_Empty b_Full b_Over : Nat) (b_Cars : List (Car)) (m_Phases : List (Int)) (m_Flags m_Leaving : List (Bool)) (m_Entries : List (Entry)) (b6_Image_Phases : List (Int)) (b6_Image_Flags b6_Image_Leaving : List (Bool)) (b6_Image_Entries : List (Entry)) (b6_Store_Halves_0 b6_Store_Halves_1 : ByteArray) (b6_Store_Select : Int) (b6_Contacts : List (Debounced)) (b6_Beliefs : List (Belief)) (b6_Cars : List (NewCar)) (b6_Loads : List (Loaded)) (b6_Expect : List (Int)) (b6_Lit : List (Calls)) (b6_Tick b6_Faults b6_Refused : Int) (out_Image_Phases : List (Int)) (out_Image_Flags out_Image_Leaving : List (Bool)) (out_Image_Entries : List (Entry)) (out_Store_Halves_0 out_Store_Halves_1 : ByteArray) (out_Store_Select : Int) (out_Contacts : List (Debounced)) (out_Beliefs : List (Belief)) (out_Cars : List (NewCar)) (out_Loads : List (Loaded)) (out_Expect : List (Int)) (out_Lit : List (Calls)) (out_Tick out_Faults out_Refused : Int) : Option (Sum (T'29 × T'27) ((Unit × Unit × Unit) × (T'25 × T'25 × Unit))) :=
 bif (decide (i < ((List.length m_Entries : Nat) : Int))) then
 Option.bind (bif (inB i (List.length m_Entries)) then
 let z0 : Entry := (List.getD m_Entries (Int.toNat i) (Entry.mk (0 : Int) (0 : Int) (0 : Int) (0 : Int) false))
 bif (decide ((0 : Int) ≤ z0.Car)) then
 bif (inB z0.Car (List.length b_Cars)) then
 some (((), (), (), (), i, (List.getD b_Cars (Int.toNat z0.Car) (Car.mk (0 : Int) (0 : Int) (0 : Int) (0 : Int) (0 : Int) (0 : Int) (0 : Int) (0 : Int) (0 : Int))).Deadline, ()), ((b_Floors, b_Debounce, b_Room, b_Park, b_Empty, b_Full, b_Over, b_Cars, ()), (m_Phases, m_Flags, m_Leaving, m_Entries, ()), (b6_Image_Phases, b6_Image_Flags, b6_Image_Leaving, b6_Image_Entries, b6_Store_Halves_0, b6_Store_Halves_1, b6_Store_Select, b6_Contacts, b6_Beliefs, b6_Cars, b6_Loads, b6_Expect, b6_Lit, b6_Tick, b6_Faults, b6_Refused, ()), (out_Image_Phases, out_Image_Flags, out_Image_Leaving, out_Image_Entries, out_Store_Halves_0, out_Store_Halves_1, out_Store_Select, out_Contacts, out_Beliefs, out_Cars, out_Loads, out_Expect, out_Lit, out_Tick, out_Faults, out_Refused, ()), ()))
 else
 none
 else
 some (((), (), (), (), i, (0 : Int), ()), ((b_Floors, b_Debounce, b_Room, b_Park, b_Empty, b_Full, b_Over, b_Cars, ()), (m_Phases, m_Flags, m_Leaving, m_Entries, ()), (b6_Image_Phases, b6_Image_Flags, b6_Image_Leaving, b6_Image_Entries, b6_Store_Halves_0, b6_Store_Halves_1, b6_Store_Select, b6_Contacts, b6_Beliefs, b6_Cars, b6_Loads, b6_Expect, b6_Lit, b6_Tick, b6_Faults, b6_Refused, ()), (out_Image_Phases, out_Image_Flags, out_Image_Leaving, out_Image_Entries, out_Store_Halves_0, out_Store_Halves_1, out_Store_Select, out_Contacts, out_Beliefs, out_Cars, out_Loads, out_Expect, out_Lit, out_Tick, out_Faults, out_Refused, ()), ()))
 else
 none) fun y1 =>
 let z1 : List (Int) := [y1.1.2.2.2.2.2.1]
 bif (Nat.ble ((List.length y1.2.2.2.2.1.2.2.2.2.2.2.2.2.2.2.2.1) + (List.length z1)) 2147483648) then
 some (Sum.inl (((), (), (), (), (IntKind.i64.wrap (y1.1.2.2.2.2.1 + (1 : Int))), ()), (y1.2.1, y1.2.2.1, y1.2.2.2.1, (y1.2.2.2.2.1.1, y1.2.2.2.2.1.2.1, y1.2.2.2.2.1.2.2.1, y1.2.2.2.2.1.2.2.2.1, y1.2.2.2.2.1.2.2.2.2.1, y1.2.2.2.2.1.2.2.2.2.2.1, y1.2.2.2.2.1.2.2.2.2.2.2.1, y1.2.2.2.2.1.2.2.2.2.2.2.2.1, y1.2.2.2.2.1.2.2.2.2.2.2.2.2.1, y1.2.2.2.2.1.2.2.2.2.2.2.2.2.2.1, y1.2.2.2.2.1.2.2.2.2.2.2.2.2.2.2.1, (y1.2.2.2.2.1.2.2.2.2.2.2.2.2.2.2.2.1 ++ z1), y1.2.2.2.2.1.2.2.2.2.2.2.2.2.2.2.2.2.1, y1.2.2.2.2.1.2.2.2.2.2.2.2.2.2.2.2.2.2.1, y1.2.2.2.2.1.2.2.2.2.2.2.2.2.2.2.2.2.2.2.1, y1.2.2.2.2.1.2.2.2.2.2.2.2.2.2.2.2.2.2.2.2.1, ()), ())))
 else
 none
 else
 some (Sum.inr (((), (), ()), ((b6_Image_Phases, b6_Image_Flags, b6_Image_Leaving, b6_Image_Entries, b6_Store_Halves_0, b6_Store_Halves_1, b6_Store_Select, b6_Contacts, b6_Beliefs, b6_Cars, b6_Loads, b6_Expect, b6_Lit, b6_Tick, b6_Faults, b6_Refused, ()), (out_Image_Phases, out_Image_Flags, out_Image_Leaving, out_Image_Entries, out_Store_Halves_0, out_Store_Halves_1, out_Store_Select, out_Contacts, out_Beliefs, out_Cars, out_Loads, out_Expect, out_Lit, out_Tick, out_Faults, out_Refused, ()), ())))
theorem g36_1 (h_r19_New : (Unit × Unit) → Option ((Unit × Unit) × (T'24 × Unit))) (x : S36_1.T G) : rndI (cfP [(41, e33), (42, e34), (43, Fe.mk (G := G) I35 E35 h_r19_New Try.f43.results.toList)]) P36 J36 79 2 (ni' (ne' Try.f11) 1) S36_1 X36_1 x = n4y' h_r19_New x.1.2.2.2.2.1 x.2.1.1 x.2.1.2.1 x.2.1.2.2.1 x.2.1.2.2.2.1 x.2.1.2.2.2.2.1 x.2.1.2.2.2.2.2.1 x.2.1.2.2.2.2.2.2.1 x.2.1.2.2.2.2.2.2.2.1 x.2.2.1.1 x.2.2.1.2.1 x.2.2.1.2.2.1 x.2.2.1.2.2.2.1 x.2.2.2.1.1 x.2.2.2.1.2.1 x.2.2.2.1.2.2.1 x.2.2.2.1.2.2.2.1 x.2.2.2.1.2.2.2.2.1 x.2.2.2.1.2.2.2.2.2.1 x.2.2.2.1.2.2.2.2.2.2.1 x.2.2.2.1.2.2.2.2.2.2.2.1 x.2.2.2.1.2.2.2.2.2.2.2.2.1 x.2.2.2.1.2.2.2.2.2.2.2.2.2.1 x.2.2.2.1.2.2.2.2.2.2.2.2.2.2.1 x.2.2.2.1.2.2.2.2.2.2.2.2.2.2.2.1 x.2.2.2.1.2.2.2.2.2.2.2.2.2.2.2.2.1 x.2.2.2.1.2.2.2.2.2.2.2.2.2.2.2.2.2.1 x.2.2.2.1.2.2.2.2.2.2.2.2.2.2.2.2.2.2.1 x.2.2.2.1.2.2.2.2.2.2.2.2.2.2.2.2.2.2.2.1 x.2.2.2.2.1.1 x.2.2.2.2.1.2.1 x.2.2.2.2.1.2.2.1 x.2.2.2.2.1.2.2.2.1 x.2.2.2.2.1.2.2.2.2.1 x.2.2.2.2.1.2.2.2.2.2.1 x.2.2.2.2.1.2.2.2.2.2.2.1 x.2.2.2.2.1.2.2.2.2.2.2.2.1 x.2.2.2.2.1.2.2.2.2.2.2.2.2.1 x.2.2.2.2.1.2.2.2.2.2.2.2.2.2.1 x.2.2.2.2.1.2.2.2.2.2.2.2.2.2.2.1 x.2.2.2.2.1.2.2.2.2.2.2.2.2.2.2.2.1 x.2.2.2.2.1.2.2.2.2.2.2.2.2.2.2.2.2.1 x.2.2.2.2.1.2.2.2.2.2.2.2.2.2.2.2.2.2.1 x.2.2.2.2.1.2.2.2.2.2.2.2.2.2.2.2.2.2.2.1 x.2.2.2.2.1.2.2.2.2.2.2.2.2.2.2.2.2.2.2.2.1 := by kernel_rfl
theorem l36_1 : LoopOK Try.prog G 79 (P36 1) (ni' (ne' Try.f11) 1) := lk cx t36 J36 2 S36_1 X36_1 (rfl : nfl' = _) (by kernel_rfl) (an0 (by kernel_rfl)) fun x => (g36_1 (fun _ => nhs' ) x).trans (by kernel_rfl)
noncomputable def n36' (h_r19_New : (Unit × Unit) → Option ((Unit × Unit) × (T'24 × Unit))) (n i b_Floors b_Debounce b_Room b_Park : Int) (b_Empty b_Full b_Over : Nat) (b_Cars : List (Car)) (m_Phases : List (Int)) (m_Flags m_Leaving : List (Bool)) (m_Entries : List (Entry)) (b6_Image_Phases : List (Int)) (b6_Image_Flags b6_Image_Leaving : List (Bool)) (b6_Image_Entries : List (Entry)) (b6_Store_Halves_0 b6_Store_Halves_1 : ByteArray) (b6_Store_Select : Int) (b6_Contacts : List (Debounced)) (b6_Beliefs : List (Belief)) (b6_Cars : List (NewCar)) (b6_Loads : List (Loaded)) (b6_Expect : List (Int)) (b6_Lit : List (Calls)) (b6_Tick b6_Faults b6_Refused : Int) (out_Image_Phases : List (Int)) (out_Image_Flags out_Image_Leaving : List (Bool)) (out_Image_Entries : List (Entry)) (out_Store_Halves_0 out_Store_Halves_1 : ByteArray) (out_Store_Select : Int) (out_Contacts : List (Debounced)) (out_Beliefs : List (Belief)) (out_Cars : List (NewCar)) (out_Loads : List (Loaded)) (out_Expect : List (Int)) (out_Lit : List (Calls)) (out_Tick out_Faults out_Refused : Int) : Option (Sum (T'26 × T'27) (T'28 × T'27)) :=
 bif (decide (i < n)) then
 (h_r19_New ((), ())).bind fun y1 =>
 let z0 : List (Belief) := [(Belief.mk y1.2.1.1 y1.2.1.2.1 y1.2.1.2.2.1 y1.2.1.2.2.2.1 y1.2.1.2.2.2.2.1 y1.2.1.2.2.2.2.2.1)]
 bif (Nat.ble ((List.length out_Beliefs) + (List.length z0)) 2147483648) then
 some (Sum.inl (((), (), (), n, (), (IntKind.i64.wrap (i + (1 : Int))), ()), ((b_Floors, b_Debounce, b_Room, b_Park, b_Empty, b_Full, b_Over, b_Cars, ()), (m_Phases, m_Flags, m_Leaving, m_Entries, ()), (b6_Image_Phases, b6_Image_Flags, b6_Image_Leaving, b6_Image_Entries, b6_Store_Halves_0, b6_Store_Halves_1, b6_Store_Select, b6_Contacts, b6_Beliefs, b6_Cars, b6_Loads, b6_Expect, b6_Lit, b6_Tick, b6_Faults, b6_Refused, ()), (out_Image_Phases, out_Image_Flags, out_Image_Leaving, out_Image_Entries, out_Store_Halves_0, out_Store_Halves_1, out_Store_Select, out_Contacts, (out_Beliefs ++ z0), out_Cars, out_Loads, out_Expect, out_Lit, out_Tick, out_Faults, out_Refused, ()), ())))
 else
 none
 else
 some (Sum.inr (((), (), (), (), ()), ((b_Floors, b_Debounce, b_Room, b_Park, b_Empty, b_Full, b_Over, b_Cars, ()), (m_Phases, m_Flags, m_Leaving, m_Entries, ()), (b6_Image_Phases, b6_Image_Flags, b6_Image_Leaving, b6_Image_Entries, b6_Store_Halves_0, b6_Store_Halves_1, b6_Store_Select, b6_Contacts, b6_Beliefs, b6_Cars, b6_Loads, b6_Expect, b6_Lit, b6_Tick, b6_Faults, b6_Refused, ()), (out_Image_Phases, out_Image_Flags, out_Image_Leaving, out_Image_Entries, out_Store_Halves_0, out_Store_Halves_1, out_Store_Select, out_Contacts, out_Beliefs, out_Cars, out_Loads, out_Expect, out_Lit, out_Tick, out_Faults, out_Refused, ()), ())))
theorem g36_0 (h_r19_New : (Unit × Unit) → Option ((Unit × Unit) × (T'24 × Unit))) (x : S36_0.T G) : rndI (cfP [(41, e33), (42, e34), (43, Fe.mk (G := G) I35 E35 h_r19_New Try.f43.results.toList)]) P36 J36 79 1 (ni' (ne' Try.f11) 0) S36_0 X36_0 x = n36' h_r19_New x.1.2.2.2.1 x.1.2.2.2.2.2.1 x.2.1.1 x.2.1.2.1 x.2.1.2.2.1 x.2.1.2.2.2.1 x.2.1.2.2.2.2.1 x.2.1.2.2.2.2.2.1 x.2.1.2.2.2.2.2.2.1 x.2.1.2.2.2.2.2.2.2.1 x.2.2.1.1 x.2.2.1.2.1 x.2.2.1.2.2.1 x.2.2.1.2.2.2.1 x.2.2.2.1.1 x.2.2.2.1.2.1 x.2.2.2.1.2.2.1 x.2.2.2.1.2.2.2.1 x.2.2.2.1.2.2.2.2.1 x.2.2.2.1.2.2.2.2.2.1 x.2.2.2.1.2.2.2.2.2.2.1 x.2.2.2.1.2.2.2.2.2.2.2.1 x.2.2.2.1.2.2.2.2.2.2.2.2.1 x.2.2.2.1.2.2.2.2.2.2.2.2.2.1 x.2.2.2.1.2.2.2.2.2.2.2.2.2.2.1 x.2.2.2.1.2.2.2.2.2.2.2.2.2.2.2.1 x.2.2.2.1.2.2.2.2.2.2.2.2.2.2.2.2.1 x.2.2.2.1.2.2.2.2.2.2.2.2.2.2.2.2.2.1 x.2.2.2.1.2.2.2.2.2.2.2.2.2.2.2.2.2.2.1 x.2.2.2.1.2.2.2.2.2.2.2.2.2.2.2.2.2.2.2.1 x.2.2.2.2.1.1 x.2.2.2.2.1.2.1 x.2.2.2.2.1.2.2.1 x.2.2.2.2.1.2.2.2.1 x.2.2.2.2.1.2.2.2.2.1 x.2.2.2.2.1.2.2.2.2.2.1 x.2.2.2.2.1.2.2.2.2.2.2.1 x.2.2.2.2.1.2.2.2.2.2.2.2.1 x.2.2.2.2.1.2.2.2.2.2.2.2.2.1 x.2.2.2.2.1.2.2.2.2.2.2.2.2.2.1 x.2.2.2.2.1.2.2.2.2.2.2.2.2.2.2.1 x.2.2.2.2.1.2.2.2.2.2.2.2.2.2.2.2.1 x.2.2.2.2.1.2.2.2.2.2.2.2.2.2.2.2.2.1 x.2.2.2.2.1.2.2.2.2.2.2.2.2.2.2.2.2.2.1 x.2.2.2.2.1.2.2.2.2.2.2.2.2.2.2.2.2.2.2.1 x.2.2.2.2.1.2.2.2.2.2.2.2.2.2.2.2.2.2.2.2.1 := by kernel_rfl
theorem l36_0 : LoopOK Try.prog G 79 (P36 0) (ni' (ne' Try.f11) 0) := lk cx t36 J36 1 S36_0 X36_0 (rfl : nfn' = _) (by kernel_rfl) (an0 (by kernel_rfl)) fun x => (g36_0 (fun _ => nhs' ) x).trans (by kernel_rfl)
noncomputable def H36 (_h_r19_New : (Unit × Unit) → Option ((Unit × Unit) × (T'24 × Unit))) (b_Floors b_Debounce b_Room b_Park : Int) (b_Empty b_Full b_Over : Nat) (b_Cars : List (Car)) (m_Phases : List (Int)) (m_Flags m_Leaving : List (Bool)) (m_Entries : List (Entry)) (s_Halves_0 s_Halves_1 : ByteArray) (s_Select : Int) : Option ((Unit × Int × Unit) × (T'25 × Unit)) :=
 (nh3' b_Floors b_Debounce b_Room b_Park b_Empty b_Full b_Over b_Cars m_Phases m_Flags m_Leaving m_Entries).bind fun y1 =>
 bif (!y1.1.1) then
 some (((), (1 : Int), ()), ((([] : List (Int)), ([] : List (Bool)), ([] : List (Bool)), ([] : List (Entry)), (ByteArray.mk (Array.mk [])), (ByteArray.mk (Array.mk [])), (0 : Int), ([] : List (Debounced)), ([] : List (Belief)), ([] : List (NewCar)), ([] : List (Loaded)), ([] : List (Int)), ([] : List (Calls)), (0 : Int), (0 : Int), (0 : Int), ()), ()))
 else
 (ndf' b_Room s_Halves_0 s_Halves_1 s_Select).bind fun y2 =>
 bif (!y2.1.1) then
 some (((), (1 : Int), ()), ((([] : List (Int)), ([] : List (Bool)), ([] : List (Bool)), ([] : List (Entry)), (ByteArray.mk (Array.mk [])), (ByteArray.mk (Array.mk [])), (0 : Int), ([] : List (Debounced)), ([] : List (Belief)), ([] : List (NewCar)), ([] : List (Loaded)), ([] : List (Int)), ([] : List (Calls)), (0 : Int), (0 : Int), (0 : Int), ()), ()))
 else
 let z0 : Int := ((List.length b_Cars : Nat) : Int)
 bif (((decide ((0 : Int) ≤ z0)) && (decide (z0 ≤ z0))) && (decide (z0 ≤ (2147483648 : Int)))) then
 bif (((decide ((0 : Int) ≤ z0)) && (decide (z0 ≤ z0))) && (decide (z0 ≤ (2147483648 : Int)))) then
 bif (((decide ((0 : Int) ≤ z0)) && (decide (z0 ≤ z0))) && (decide (z0 ≤ (2147483648 : Int)))) then
 bif (((decide ((0 : Int) ≤ z0)) && (decide (z0 ≤ z0))) && (decide (z0 ≤ (2147483648 : Int)))) then
 (nfn' (((), (), (), z0, (), (0 : Int), ()), ((b_Floors, b_Debounce, b_Room, b_Park, b_Empty, b_Full, b_Over, b_Cars, ()), (m_Phases, m_Flags, m_Leaving, m_Entries, ()), (([] : List (Int)), ([] : List (Bool)), ([] : List (Bool)), ([] : List (Entry)), (ByteArray.mk (Array.mk [])), (ByteArray.mk (Array.mk [])), (0 : Int), ([] : List (Debounced)), ([] : List (Belief)), ([] : List (NewCar)), ([] : List (Loaded)), ([] : List (Int)), ([] : List (Calls)), (0 : Int), (0 : Int), (0 : Int), ()), (m_Phases, m_Flags, m_Leaving, m_Entries, s_Halves_0, s_Halves_1, s_Select, (List.replicate (Int.toNat z0) (Debounced.mk (0 : Int) false false false false (0 : Int) (0 : Int) (0 : Int) (0 : Int) (0 : Int) (0 : Int) (0 : Int) (0 : Int) (0 : Int) (0 : Int) (0 : Int) (0 : Int) (0 : Int) (0 : Int) (0 : Int) (0 : Int) (0 : Int) (0 : Int) (0 : Int) (0 : Int) (0 : Int) (0 : Int) (0 : Int) (0 : Int) (0 : Int) (0 : Int) (0 : Int) (0 : Int) (0 : Int) (0 : Int) (0 : Int) (0 : Int) (0 : Int) (0 : Int) (0 : Int) (0 : Int))), ([] : List (Belief)), (List.replicate (Int.toNat z0) (NewCar.mk (0 : Int) (0 : Int) (0 : Int) (0 : Int) (0 : Int) false (0 : Int) (0 : Int) (0 : Int) (0 : Int) (0 : Int) (0 : Int) (0 : Int) false)), (List.replicate (Int.toNat z0) (Loaded.mk (0 : Int))), ([] : List (Int)), (List.replicate (Int.toNat z0) (Calls.mk (0 : Int) (0 : Int))), (0 : Int), (0 : Int), (0 : Int), ()), ()))).bind fun y3 =>
 (nfl' (((), (), (), (), (0 : Int), ()), (y3.2.1, y3.2.2.1, y3.2.2.2.1, y3.2.2.2.2.1, ()))).bind fun y4 =>
 some (((), (0 : Int), ()), (y4.2.2.1, ()))
 else
 none
 else
 none
 else
 none
 else
 none
theorem q36 (h_r19_New : (Unit × Unit) → Option ((Unit × Unit) × (T'24 × Unit))) (x : I36.T G) : endI (cfP [(41, e33), (42, e34), (43, Fe.mk (G := G) I35 E35 h_r19_New Try.f43.results.toList)]) P36 J36 79 (ne' Try.f11) I36 E36 x = H36 h_r19_New x.1.1.1 x.1.1.2.1 x.1.1.2.2.1 x.1.1.2.2.2.1 x.1.1.2.2.2.2.1 x.1.1.2.2.2.2.2.1 x.1.1.2.2.2.2.2.2.1 x.1.1.2.2.2.2.2.2.2.1 x.1.2.1.1 x.1.2.1.2.1 x.1.2.1.2.2.1 x.1.2.1.2.2.2.1 x.1.2.2.1.1 x.1.2.2.1.2.1 x.1.2.2.1.2.2.1 := by kernel_rfl
noncomputable def e36 : Fe G := ⟨I36, E36, fun x => nfz' x.1.1.1 x.1.1.2.1 x.1.1.2.2.1 x.1.1.2.2.2.1 x.1.1.2.2.2.2.1 x.1.1.2.2.2.2.2.1 x.1.1.2.2.2.2.2.2.1 x.1.1.2.2.2.2.2.2.2.1 x.1.2.1.1 x.1.2.1.2.1 x.1.2.1.2.2.1 x.1.2.1.2.2.2.1 x.1.2.2.1.1 x.1.2.2.1.2.1 x.1.2.2.1.2.2.1, Try.f11.results.toList⟩
theorem k36 : FnOK Try.prog G 11 e36 := fk cx t36 J36 (lp := P36) Try.func11 (by kernel_rfl) (by kernel_rfl) rfl (nh' _ (by kernel_rfl) (nf' l36_0 (nf' l36_1 nk'))) fun x => (q36 (fun _ => nhs' ) x).trans (by kernel_rfl)
def I37 : Sp := ⟨[(0, .agg c'2), (1, .agg c'19), (2, oi64)], [], []⟩
def E37 : SL := [(.ret, ⟨[(6, ob)], [], []⟩)]
noncomputable def e37 : Fe G := ⟨I37, E37, fun x => njf' x.1.1.1 x.1.1.2.1 x.1.1.2.2.1 x.1.1.2.2.2.1 x.1.1.2.2.2.2.1 x.1.1.2.2.2.2.2.1 x.1.1.2.2.2.2.2.2.1 x.1.1.2.2.2.2.2.2.2.1 x.1.2.1.1 x.1.2.1.2.1 x.1.2.1.2.2.1 x.1.2.2.1, Try.f56.results.toList⟩
theorem k37 : FnOK Try.prog G 56 e37 := fk cx (tc k21 (tc k34 tn)) (jl [(1048577, [(.normal, ⟨[(6, ob)], [], []⟩)])]) (lp := (pl [])) Try.func56 (by kernel_rfl) (by kernel_rfl) rfl (an0 (by kernel_rfl)) fun x => by kernel_rfl
def I38 : Sp := ⟨[(0, .agg c'19)], [], []⟩
def E38 : SL := [(.ret, ⟨[(2, os)], [], []⟩)]
noncomputable def e38 : Fe G := ⟨I38, E38, fun x => nft' x.1.1.1 x.1.1.2.1 x.1.1.2.2.1, Try.f61.results.toList⟩
theorem k38 : FnOK Try.prog G 61 e38 := fk cx tn (jl []) (lp := (pl [])) Try.func61 (by kernel_rfl) (by kernel_rfl) rfl (an0 (by kernel_rfl)) fun x => by kernel_rfl
def I39 : Sp := ⟨[(0, os)], [], []⟩
def E39 : SL := [(.ret, ⟨[(2, ou8)], [], []⟩)]
def S39_0 : Sp := ⟨[(0, os), (3, oi64), (4, oi64)], [], []⟩
def X39_0 : SL := [(.exit 0, ⟨[(3, oi64)], [], []⟩)]
def S39_1 : Sp := ⟨[(0, os), (3, oi64), (4, oi64), (5, oi64)], [], []⟩
def X39_1 : SL := [(.exit 2, ⟨[(0, os), (3, oi64), (4, oi64)], [], []⟩)]
def J39 : Nat → Option SL := jl []
noncomputable def P39 : Nat → St G → M (Ex × St G) := pl [lpX S39_0 X39_0 nia', lpX S39_1 X39_1 nh2']
theorem l39_1 : LoopOK Try.prog G 33 (P39 1) (ni' (ne' Try.f99) 1) := lk cx tn J39 2 S39_1 X39_1 (rfl : nh2' = _) (by kernel_rfl) (an0 (by kernel_rfl)) fun x => by kernel_rfl
theorem l39_0 : LoopOK Try.prog G 33 (P39 0) (ni' (ne' Try.f99) 0) := lk cx tn J39 1 S39_0 X39_0 (rfl : nia' = _) (by kernel_rfl) (nh' _ (by kernel_rfl) (nf' l39_1 nk')) fun x => by kernel_rfl
noncomputable def e39 : Fe G := ⟨I39, E39, fun x => niz' x.1.1, Try.f99.results.toList⟩
theorem k39 : FnOK Try.prog G 99 e39 := fk cx tn J39 (lp := P39) Try.func99 (by kernel_rfl) (by kernel_rfl) rfl (nh' _ (by kernel_rfl) (nf' l39_0 (nf' l39_1 nk'))) fun x => by kernel_rfl
def I40 : Sp := ⟨[(0, .agg c'2), (1, os)], [], []⟩
def E40 : SL := [(.ret, ⟨[(4, op 64), (5, oi64)], [(64, c'11)], []⟩)]
noncomputable def e40 : Fe G := ⟨I40, E40, fun x => nh1' x.1.1.1 x.1.1.2.1 x.1.1.2.2.1 x.1.1.2.2.2.1 x.1.1.2.2.2.2.1 x.1.1.2.2.2.2.2.1 x.1.1.2.2.2.2.2.2.1 x.1.1.2.2.2.2.2.2.2.1 x.1.2.1, Try.f123.results.toList⟩
theorem k40 : FnOK Try.prog G 123 e40 := fk cx (tc k21 (tc k39 (tc k28 tn))) (jl []) (lp := (pl [])) Try.func123 (by kernel_rfl) (by kernel_rfl) rfl (an0 (by kernel_rfl)) fun x => by kernel_rfl
def I41 : Sp := ⟨[(0, .agg c'2), (1, os)], [], []⟩
def E41 : SL := [(.ret, ⟨[(4, .one (.own 32768 56)), (5, oi64)], [], []⟩)]
def S41_0 : Sp := ⟨[(1, os), (2, op 32), (6, .one (.own 32768 56)), (7, oi64)], [(32, c'2)], []⟩
def X41_0 : SL := [(.exit 0, ⟨[(6, .one (.own 32768 56)), (7, oi64)], [], []⟩)]
def J41 : Nat → Option SL := jl []
noncomputable def P41 : Nat → St G → M (Ex × St G) := pl [lpX S41_0 X41_0 nig']
theorem t41 : ∀ p ∈ [(123, e40)], FnOK Try.prog G p.1 p.2 := (tc k40 tn)
theorem l41_0 : LoopOK Try.prog G 35 (P41 0) (ni' (ne' Try.f73) 0) := lk cx t41 J41 1 S41_0 X41_0 (rfl : nig' = _) (by kernel_rfl) (an0 (by kernel_rfl)) fun x => by kernel_rfl
noncomputable def e41 : Fe G := ⟨I41, E41, fun x => nkj' x.1.1.1 x.1.1.2.1 x.1.1.2.2.1 x.1.1.2.2.2.1 x.1.1.2.2.2.2.1 x.1.1.2.2.2.2.2.1 x.1.1.2.2.2.2.2.2.1 x.1.1.2.2.2.2.2.2.2.1 x.1.2.1, Try.f73.results.toList⟩
theorem k41 : FnOK Try.prog G 73 e41 := fk cx t41 J41 (lp := P41) Try.func73 (by kernel_rfl) (by kernel_rfl) rfl (nh' _ (by kernel_rfl) (nf' l41_0 nk')) fun x => by kernel_rfl
def I42 : Sp := ⟨[(0, .agg c'2), (1, .agg c'19)], [], []⟩
def E42 : SL := [(.ret, ⟨[(4, op 64)], [(64, c'10)], []⟩)]
def S42_0 : Sp := ⟨[(2, op 32), (4, op 64), (5, op 80), (6, .one (.own 32768 56)), (8, oi64)], [(32, c'2), (64, c'17), (80, c'18)], []⟩
def X42_0 : SL := [(.exit 0, ⟨[(4, op 64), (5, op 80)], [(64, c'10), (80, c'14)], []⟩)]
def J42 : Nat → Option SL := jl []
noncomputable def P42 : Nat → St G → M (Ex × St G) := pl [lpX S42_0 X42_0 ngo']
theorem t42 : ∀ p ∈ [(40, e22), (61, e38), (73, e41), (30, e31)], FnOK Try.prog G p.1 p.2 := (tc k22 (tc k38 (tc k41 (tc k31 tn))))
theorem l42_0 : LoopOK Try.prog G 35 (P42 0) (ni' (ne' Try.f28) 0) := lk cx t42 J42 1 S42_0 X42_0 (rfl : ngo' = _) (by kernel_rfl) (an0 (by kernel_rfl)) fun x => by kernel_rfl
noncomputable def e42 : Fe G := ⟨I42, E42, fun x => ngj' x.1.1.1 x.1.1.2.1 x.1.1.2.2.1 x.1.1.2.2.2.1 x.1.1.2.2.2.2.1 x.1.1.2.2.2.2.2.1 x.1.1.2.2.2.2.2.2.1 x.1.1.2.2.2.2.2.2.2.1 x.1.2.1.1 x.1.2.1.2.1 x.1.2.1.2.2.1, Try.f28.results.toList⟩
theorem k42 : FnOK Try.prog G 28 e42 := fk cx t42 J42 (lp := P42) Try.func28 (by kernel_rfl) (by kernel_rfl) rfl (nh' _ (by kernel_rfl) (nf' l42_0 nk')) fun x => by kernel_rfl
def I43 : Sp := ⟨[(0, oi64), (1, .agg c'19), (2, oi64), (3, oi64)], [], []⟩
def E43 : SL := [(.ret, ⟨[(8, oi64)], [], []⟩)]
noncomputable def e43 : Fe G := ⟨I43, E43, fun x => nf2' x.1.1 x.1.2.1.1 x.1.2.1.2.1 x.1.2.1.2.2.1 x.1.2.2.1 x.1.2.2.2.1, Try.f111.results.toList⟩
theorem k43 : FnOK Try.prog G 111 e43 := fk cx (tc k34 tn) (jl [(1048579, [(.normal, ⟨[(22, ob)], [], []⟩)])]) (lp := (pl [])) Try.func111 (by kernel_rfl) (by kernel_rfl) rfl (an0 (by kernel_rfl)) fun x => by kernel_rfl
def I44 : Sp := ⟨[(0, oi64), (1, .agg c'19), (2, oi64), (3, oi64)], [], []⟩
def E44 : SL := [(.ret, ⟨[(8, op 128), (9, oi64), (10, oi64)], [(128, c'19)], []⟩)]
noncomputable def e44 : Fe G := ⟨I44, E44, fun x => njj' x.1.1 x.1.2.1.1 x.1.2.1.2.1 x.1.2.1.2.2.1 x.1.2.2.1 x.1.2.2.2.1, Try.f69.results.toList⟩
theorem k44 : FnOK Try.prog G 69 e44 := fk cx (tc k43 tn) (jl []) (lp := (pl [])) Try.func69 (by kernel_rfl) (by kernel_rfl) rfl (an0 (by kernel_rfl)) fun x => by kernel_rfl
def I45 : Sp := ⟨[(0, ob)], [], []⟩
def E45 : SL := [(.ret, ⟨[(2, oi64)], [], []⟩)]
noncomputable def e45 : Fe G := ⟨I45, E45, fun x => nhx' x.1.1, Try.f81.results.toList⟩
theorem k45 : FnOK Try.prog G 81 e45 := fk cx tn (jl []) (lp := (pl [])) Try.func81 (by kernel_rfl) (by kernel_rfl) rfl (an0 (by kernel_rfl)) fun x => by kernel_rfl
def I46 : Sp := ⟨[(0, .agg c'2), (1, .agg c'13)], [], []⟩
def E46 : SL := [(.ret, ⟨[(4, .one (.own 32768 56))], [], []⟩)]
def S46_0 : Sp := ⟨[(3, op 48), (5, .one (.own 32768 56)), (6, oi64)], [(48, c'13)], []⟩
def X46_0 : SL := [(.exit 0, ⟨[(3, op 48), (5, .one (.own 32768 56))], [(48, c'13)], []⟩)]
def S46_1 : Sp := ⟨[(3, op 48), (5, .one (.own 32768 56)), (7, oi64)], [(48, c'13)], []⟩
def X46_1 : SL := [(.exit 2, ⟨[(5, .one (.own 32768 56))], [], []⟩)]
def J46 : Nat → Option SL := jl []
noncomputable def P46 : Nat → St G → M (Ex × St G) := pl [lpX S46_0 X46_0 nfe', lpX S46_1 X46_1 nfd']
theorem t46 : ∀ p ∈ [(57, e26), (81, e45)], FnOK Try.prog G p.1 p.2 := (tc k26 (tc k45 tn))
theorem l46_1 : LoopOK Try.prog G 84 (P46 1) (ni' (ne' Try.f33) 1) := lk cx t46 J46 2 S46_1 X46_1 (rfl : nfd' = _) (by kernel_rfl) (an0 (by kernel_rfl)) fun x => by kernel_rfl
theorem l46_0 : LoopOK Try.prog G 84 (P46 0) (ni' (ne' Try.f33) 0) := lk cx t46 J46 1 S46_0 X46_0 (rfl : nfe' = _) (by kernel_rfl) (an0 (by kernel_rfl)) fun x => by kernel_rfl
noncomputable def e46 : Fe G := ⟨I46, E46, fun x => ngp' x.1.1.1 x.1.1.2.1 x.1.1.2.2.1 x.1.1.2.2.2.1 x.1.1.2.2.2.2.1 x.1.1.2.2.2.2.2.1 x.1.1.2.2.2.2.2.2.1 x.1.1.2.2.2.2.2.2.2.1 x.1.2.1.1 x.1.2.1.2.1 x.1.2.1.2.2.1 x.1.2.1.2.2.2.1, Try.f33.results.toList⟩
theorem k46 : FnOK Try.prog G 33 e46 := fk cx t46 J46 (lp := P46) Try.func33 (by kernel_rfl) (by kernel_rfl) rfl (nh' _ (by kernel_rfl) (nf' l46_0 (nf' l46_1 nk'))) fun x => by kernel_rfl
def I47 : Sp := ⟨[(0, .agg c'2), (1, .agg c'11)], [], []⟩
def E47 : SL := [(.ret, ⟨[(4, os), (5, oi64)], [], []⟩)]
noncomputable def e47 : Fe G := ⟨I47, E47, fun x => nil' x.1.1.1 x.1.1.2.1 x.1.1.2.2.1 x.1.1.2.2.2.1 x.1.1.2.2.2.2.1 x.1.1.2.2.2.2.2.1 x.1.1.2.2.2.2.2.2.1 x.1.1.2.2.2.2.2.2.2.1 x.1.2.1.1 x.1.2.1.2.1 x.1.2.1.2.2.1 x.1.2.1.2.2.2.1 x.1.2.1.2.2.2.2.1, Try.f47.results.toList⟩
theorem k47 : FnOK Try.prog G 47 e47 := fk cx (tc k28 (tc k39 tn)) (jl []) (lp := (pl [])) Try.func47 (by kernel_rfl) (by kernel_rfl) rfl (an0 (by kernel_rfl)) fun x => by kernel_rfl
def I48 : Sp := ⟨[(0, .agg c'2), (1, oro 56)], [], []⟩
def E48 : SL := [(.ret, ⟨[(4, os)], [], []⟩)]
def S48_0 : Sp := ⟨[(1, oro 56), (2, op 32), (5, os), (6, oi64)], [(32, c'2)], []⟩
def X48_0 : SL := [(.exit 0, ⟨[(5, os)], [], []⟩)]
def J48 : Nat → Option SL := jl []
noncomputable def P48 : Nat → St G → M (Ex × St G) := pl [lpX S48_0 X48_0 nhd']
theorem t48 : ∀ p ∈ [(47, e47)], FnOK Try.prog G p.1 p.2 := (tc k47 tn)
theorem l48_0 : LoopOK Try.prog G 28 (P48 0) (ni' (ne' Try.f19) 0) := lk cx t48 J48 1 S48_0 X48_0 (rfl : nhd' = _) (by kernel_rfl) (an0 (by kernel_rfl)) fun x => by kernel_rfl
noncomputable def e48 : Fe G := ⟨I48, E48, fun x => ngx' x.1.1.1 x.1.1.2.1 x.1.1.2.2.1 x.1.1.2.2.2.1 x.1.1.2.2.2.2.1 x.1.1.2.2.2.2.2.1 x.1.1.2.2.2.2.2.2.1 x.1.1.2.2.2.2.2.2.2.1 x.1.2.1, Try.f19.results.toList⟩
theorem k48 : FnOK Try.prog G 19 e48 := fk cx t48 J48 (lp := P48) Try.func19 (by kernel_rfl) (by kernel_rfl) rfl (nh' _ (by kernel_rfl) (nf' l48_0 nk')) fun x => by kernel_rfl
def I49 : Sp := ⟨[(0, oi64), (1, .agg c'19), (2, oi64), (3, os), (4, oi64)], [], []⟩
def E49 : SL := [(.ret, ⟨[(10, op 160), (11, oi64), (12, oi64)], [(160, c'19)], []⟩)]
def S49_0 : Sp := ⟨[(2, oi64), (3, os), (4, oi64), (6, op 96), (10, op 160), (14, oi64)], [(96, c'19), (160, c'19)], []⟩
def X49_0 : SL := [(.exit 0, ⟨[(4, oi64), (6, op 96), (10, op 160)], [(96, c'19), (160, c'19)], []⟩), (.ret, ⟨[(10, op 160), (11, oi64), (12, oi64)], [(160, c'19)], []⟩)]
def J49 : Nat → Option SL := jl []
noncomputable def P49 : Nat → St G → M (Ex × St G) := pl [lpX S49_0 X49_0 nfu']
theorem t49 : ∀ p ∈ [(111, e43)], FnOK Try.prog G p.1 p.2 := (tc k43 tn)
theorem l49_0 : LoopOK Try.prog G 61 (P49 0) (ni' (ne' Try.f62) 0) := lk cx t49 J49 1 S49_0 X49_0 (rfl : nfu' = _) (by kernel_rfl) (an0 (by kernel_rfl)) fun x => by kernel_rfl
noncomputable def e49 : Fe G := ⟨I49, E49, fun x => ng1' x.1.1 x.1.2.1.1 x.1.2.1.2.1 x.1.2.1.2.2.1 x.1.2.2.1 x.1.2.2.2.1 x.1.2.2.2.2.1, Try.f62.results.toList⟩
theorem k49 : FnOK Try.prog G 62 e49 := fk cx t49 J49 (lp := P49) Try.func62 (by kernel_rfl) (by kernel_rfl) rfl (nh' _ (by kernel_rfl) (nf' l49_0 nk')) fun x => by kernel_rfl
def I50 : Sp := ⟨[(0, oi64), (1, .agg c'19), (2, oi64), (3, oi64)], [], []⟩
def E50 : SL := [(.ret, ⟨[(8, op 128), (9, oi64), (10, oi64)], [(128, c'19)], []⟩)]
noncomputable def e50 : Fe G := ⟨I50, E50, fun x => nik' x.1.1 x.1.2.1.1 x.1.2.1.2.1 x.1.2.1.2.2.1 x.1.2.2.1 x.1.2.2.2.1, Try.f70.results.toList⟩
theorem k50 : FnOK Try.prog G 70 e50 := fk cx (tc k43 tn) (jl []) (lp := (pl [])) Try.func70 (by kernel_rfl) (by kernel_rfl) rfl (an0 (by kernel_rfl)) fun x => by kernel_rfl
def I51 : Sp := ⟨[(0, .agg c'2), (1, .agg c'19), (2, .agg c'13), (3, oi64)], [], []⟩
def E51 : SL := [(.ret, ⟨[(8, op 128), (9, oi64), (10, oi64)], [(128, c'19)], []⟩)]
noncomputable def e51 : Fe G := ⟨I51, E51, fun x => nfs' x.1.1.1 x.1.1.2.1 x.1.1.2.2.1 x.1.1.2.2.2.1 x.1.1.2.2.2.2.1 x.1.1.2.2.2.2.2.1 x.1.1.2.2.2.2.2.2.1 x.1.1.2.2.2.2.2.2.2.1 x.1.2.1.1 x.1.2.1.2.1 x.1.2.1.2.2.1 x.1.2.2.1.1 x.1.2.2.1.2.1 x.1.2.2.1.2.2.1 x.1.2.2.1.2.2.2.1 x.1.2.2.2.1, Try.f24.results.toList⟩
theorem k51 : FnOK Try.prog G 24 e51 := fk cx (tc k37 (tc k26 (tc k44 (tc k46 (tc k48 (tc k49 (tc k50 tn))))))) (jl []) (lp := (pl [])) Try.func24 (by kernel_rfl) (by kernel_rfl) rfl (an0 (by kernel_rfl)) fun x => by kernel_rfl
def I52 : Sp := ⟨[(0, .agg c'2), (1, .agg c'19), (2, oi64)], [], []⟩
def E52 : SL := [(.ret, ⟨[(6, op 96), (7, op 112), (8, oi64), (9, oi64)], [(96, c'19), (112, c'10)], []⟩)]
noncomputable def e52 : Fe G := ⟨I52, E52, fun x => ng9' x.1.1.1 x.1.1.2.1 x.1.1.2.2.1 x.1.1.2.2.2.1 x.1.1.2.2.2.2.1 x.1.1.2.2.2.2.2.1 x.1.1.2.2.2.2.2.2.1 x.1.1.2.2.2.2.2.2.2.1 x.1.2.1.1 x.1.2.1.2.1 x.1.2.1.2.2.1 x.1.2.2.1, Try.f26.results.toList⟩
theorem k52 : FnOK Try.prog G 26 e52 := fk cx (tc k37 (tc k42 (tc k51 tn))) (jl []) (lp := (pl [])) Try.func26 (by kernel_rfl) (by kernel_rfl) rfl (an0 (by kernel_rfl)) fun x => by kernel_rfl
def I53 : Sp := ⟨[(0, .agg c'2), (1, .agg c'19), (2, oi64)], [], []⟩
def E53 : SL := [(.ret, ⟨[(6, op 96), (7, oi64), (8, oi64)], [(96, c'21)], []⟩)]
noncomputable def e53 : Fe G := ⟨I53, E53, fun x => niq' x.1.1.1 x.1.1.2.1 x.1.1.2.2.1 x.1.1.2.2.2.1 x.1.1.2.2.2.2.1 x.1.1.2.2.2.2.2.1 x.1.1.2.2.2.2.2.2.1 x.1.1.2.2.2.2.2.2.2.1 x.1.2.1.1 x.1.2.1.2.1 x.1.2.1.2.2.1 x.1.2.2.1, Try.f12.results.toList⟩
theorem k53 : FnOK Try.prog G 12 e53 := fk cx (tc k52 (tc k36 tn)) (jl [(2097156, [(.normal, ⟨[(3, op 48), (6, op 96), (9, op 144), (10, op 160), (11, oi64)], [(48, c'2), (96, c'22), (144, c'19), (160, c'13)], []⟩)])]) (lp := (pl [])) Try.func12 (by kernel_rfl) (by kernel_rfl) rfl (an0 (by kernel_rfl)) fun x => by kernel_rfl
def I54 : Sp := ⟨[(0, .agg c'13), (1, oi64)], [], []⟩
def E54 : SL := [(.ret, ⟨[(4, ob)], [], []⟩)]
noncomputable def e54 : Fe G := ⟨I54, E54, fun x => nkc' x.1.1.1 x.1.1.2.1 x.1.1.2.2.1 x.1.1.2.2.2.1 x.1.2.1, Try.f94.results.toList⟩
theorem k54 : FnOK Try.prog G 94 e54 := fk cx tn (jl [(1048577, [(.normal, ⟨[(4, ob)], [], []⟩)])]) (lp := (pl [])) Try.func94 (by kernel_rfl) (by kernel_rfl) rfl (an0 (by kernel_rfl)) fun x => by kernel_rfl
def I55 : Sp := ⟨[(0, .agg c'13), (1, oi64)], [], []⟩
def E55 : SL := [(.ret, ⟨[(4, ob)], [], []⟩)]
noncomputable def e55 : Fe G := ⟨I55, E55, fun x => nf5' x.1.1.1 x.1.1.2.1 x.1.1.2.2.1 x.1.1.2.2.2.1 x.1.2.1, Try.f44.results.toList⟩
theorem k55 : FnOK Try.prog G 44 e55 := fk cx (tc k54 tn) (jl [(1048580, [(.normal, ⟨[(4, ob)], [], []⟩)])]) (lp := (pl [])) Try.func44 (by kernel_rfl) (by kernel_rfl) rfl (an0 (by kernel_rfl)) fun x => by kernel_rfl
def I56 : Sp := ⟨[(0, .agg c'13)], [], []⟩
def E56 : SL := [(.ret, ⟨[(2, ob)], [], []⟩)]
def S56_0 : Sp := ⟨[(1, op 16), (6, oro 98), (7, oi64), (8, oi64)], [(16, c'13)], []⟩
def X56_0 : SL := [(.exit 0, ⟨[], [], []⟩), (.ret, ⟨[(2, ob)], [], []⟩)]
def J56 : Nat → Option SL := jl []
noncomputable def P56 : Nat → St G → M (Ex × St G) := pl [lpX S56_0 X56_0 nhj']
theorem t56 : ∀ p ∈ [(44, e55)], FnOK Try.prog G p.1 p.2 := (tc k55 tn)
theorem l56_0 : LoopOK Try.prog G 34 (P56 0) (ni' (ne' Try.f13) 0) := lk cx t56 J56 1 S56_0 X56_0 (rfl : nhj' = _) (by kernel_rfl) (an0 (by kernel_rfl)) fun x => by kernel_rfl
noncomputable def e56 : Fe G := ⟨I56, E56, fun x => neq' x.1.1.1 x.1.1.2.1 x.1.1.2.2.1 x.1.1.2.2.2.1, Try.f13.results.toList⟩
theorem k56 : FnOK Try.prog G 13 e56 := fk cx t56 J56 (lp := P56) Try.func13 (by kernel_rfl) (by kernel_rfl) rfl (nh' _ (by kernel_rfl) (nf' l56_0 nk')) fun x => by kernel_rfl
def I57 : Sp := ⟨[(0, .agg c'13), (1, oi64)], [], []⟩
def E57 : SL := [(.ret, ⟨[(4, ob)], [], []⟩)]
noncomputable def e57 : Fe G := ⟨I57, E57, fun x => nou' x.1.1.1 x.1.1.2.1 x.1.1.2.2.1 x.1.1.2.2.2.1 x.1.2.1, Try.f95.results.toList⟩
theorem k57 : FnOK Try.prog G 95 e57 := fk cx tn (jl [(1048577, [(.normal, ⟨[(4, ob)], [], []⟩)])]) (lp := (pl [])) Try.func95 (by kernel_rfl) (by kernel_rfl) rfl (an0 (by kernel_rfl)) fun x => by kernel_rfl
def I58 : Sp := ⟨[(0, .agg c'13), (1, oi64)], [], []⟩
def E58 : SL := [(.ret, ⟨[(4, ob)], [], []⟩)]
noncomputable def e58 : Fe G := ⟨I58, E58, fun x => nhf' x.1.1.1 x.1.1.2.1 x.1.1.2.2.1 x.1.1.2.2.2.1 x.1.2.1, Try.f45.results.toList⟩
theorem k58 : FnOK Try.prog G 45 e58 := fk cx (tc k57 tn) (jl [(1048577, [(.normal, ⟨[(4, ob)], [], []⟩)])]) (lp := (pl [])) Try.func45 (by kernel_rfl) (by kernel_rfl) rfl (an0 (by kernel_rfl)) fun x => by kernel_rfl
def I59 : Sp := ⟨[(0, .agg c'13)], [], []⟩
def E59 : SL := [(.ret, ⟨[(2, ob)], [], []⟩)]
def S59_0 : Sp := ⟨[(1, op 16), (3, oi64)], [(16, c'13)], []⟩
def X59_0 : SL := [(.exit 0, ⟨[], [], []⟩), (.ret, ⟨[(2, ob)], [], []⟩)]
def J59 : Nat → Option SL := jl []
noncomputable def P59 : Nat → St G → M (Ex × St G) := pl [lpX S59_0 X59_0 njh']
theorem t59 : ∀ p ∈ [(45, e58)], FnOK Try.prog G p.1 p.2 := (tc k58 tn)
theorem l59_0 : LoopOK Try.prog G 35 (P59 0) (ni' (ne' Try.f14) 0) := lk cx t59 J59 1 S59_0 X59_0 (rfl : njh' = _) (by kernel_rfl) (an0 (by kernel_rfl)) fun x => by kernel_rfl
noncomputable def e59 : Fe G := ⟨I59, E59, fun x => ngd' x.1.1.1 x.1.1.2.1 x.1.1.2.2.1 x.1.1.2.2.2.1, Try.f14.results.toList⟩
theorem k59 : FnOK Try.prog G 14 e59 := fk cx t59 J59 (lp := P59) Try.func14 (by kernel_rfl) (by kernel_rfl) rfl (nh' _ (by kernel_rfl) (nf' l59_0 nk')) fun x => by kernel_rfl
def I60 : Sp := ⟨[(0, oi64), (1, oi64), (2, oro 3)], [], []⟩
def E60 : SL := [(.ret, ⟨[(6, ob)], [], []⟩)]
def S60_0 : Sp := ⟨[(0, oi64), (1, oi64), (9, oro 3), (10, oi64), (11, oi64)], [], []⟩
def X60_0 : SL := [(.exit 0, ⟨[], [], []⟩), (.ret, ⟨[(6, ob)], [], []⟩)]
def J60 : Nat → Option SL := jl []
noncomputable def P60 : Nat → St G → M (Ex × St G) := pl [lpX S60_0 X60_0 ndw']
theorem l60_0 : LoopOK Try.prog G 24 (P60 0) (ni' (ne' Try.f124) 0) := lk cx tn J60 1 S60_0 X60_0 (rfl : ndw' = _) (by kernel_rfl) (an0 (by kernel_rfl)) fun x => by kernel_rfl
noncomputable def e60 : Fe G := ⟨I60, E60, fun x => ny' x.1.1 x.1.2.1 x.1.2.2.1, Try.f124.results.toList⟩
theorem k60 : FnOK Try.prog G 124 e60 := fk cx tn J60 (lp := P60) Try.func124 (by kernel_rfl) (by kernel_rfl) rfl (nh' _ (by kernel_rfl) (nf' l60_0 nk')) fun x => by kernel_rfl
def I61 : Sp := ⟨[(0, .agg c'9), (1, oi64)], [], []⟩
def E61 : SL := [(.ret, ⟨[(4, ob)], [], []⟩)]
noncomputable def e61 : Fe G := ⟨I61, E61, fun x => nfh' x.1.1.1 x.1.1.2.1 x.1.1.2.2.1 x.1.1.2.2.2.1 x.1.1.2.2.2.2.1 x.1.1.2.2.2.2.2.1 x.1.1.2.2.2.2.2.2.1 x.1.1.2.2.2.2.2.2.2.1 x.1.1.2.2.2.2.2.2.2.2.1 x.1.2.1, Try.f125.results.toList⟩
theorem k61 : FnOK Try.prog G 125 e61 := fk cx (tc k60 tn) (jl [(1048577, [(.normal, ⟨[(4, ob)], [], []⟩)])]) (lp := (pl [])) Try.func125 (by kernel_rfl) (by kernel_rfl) rfl (an0 (by kernel_rfl)) fun x => by kernel_rfl
def I62 : Sp := ⟨[(0, .agg c'2)], [], []⟩
def E62 : SL := [(.ret, ⟨[(2, ob)], [], []⟩)]
noncomputable def e62 : Fe G := ⟨I62, E62, fun x => nfa' x.1.1.1 x.1.1.2.1 x.1.1.2.2.1 x.1.1.2.2.2.1 x.1.1.2.2.2.2.1 x.1.1.2.2.2.2.2.1 x.1.1.2.2.2.2.2.2.1 x.1.1.2.2.2.2.2.2.2.1, Try.f126.results.toList⟩
theorem k62 : FnOK Try.prog G 126 e62 := fk cx tn (jl [(1048577, [(.normal, ⟨[(2, ob)], [], []⟩)])]) (lp := (pl [])) Try.func126 (by kernel_rfl) (by kernel_rfl) rfl (an0 (by kernel_rfl)) fun x => by kernel_rfl
def I63 : Sp := ⟨[(0, .agg c'2)], [], []⟩
def E63 : SL := [(.ret, ⟨[(2, oi64)], [], []⟩)]
def S63_0 : Sp := ⟨[(1, op 16), (3, ob), (28, oro 100), (29, oi64), (30, oi64)], [(16, c'2)], []⟩
def X63_0 : SL := [(.exit 0, ⟨[(1, op 16), (3, ob)], [(16, c'2)], []⟩)]
def J63 : Nat → Option SL := jl [(1048581, [(.normal, ⟨[(1, op 16), (3, ob)], [(16, c'2)], []⟩)]), (1048585, [(.normal, ⟨[(1, op 16), (3, ob), (28, oro 100), (29, oi64), (30, oi64)], [(16, c'2)], []⟩)])]
noncomputable def P63 : Nat → St G → M (Ex × St G) := pl [lpX S63_0 X63_0 nea']
theorem t63 : ∀ p ∈ [(124, e60), (125, e61), (126, e62)], FnOK Try.prog G p.1 p.2 := (tc k60 (tc k61 (tc k62 tn)))
theorem l63_0 : LoopOK Try.prog G 60 (P63 0) (ni' (ne' Try.f74) 0) := lk cx t63 J63 1 S63_0 X63_0 (rfl : nea' = _) (by kernel_rfl) (an0 (by kernel_rfl)) fun x => by kernel_rfl
noncomputable def e63 : Fe G := ⟨I63, E63, fun x => nbs' x.1.1.1 x.1.1.2.1 x.1.1.2.2.1 x.1.1.2.2.2.1 x.1.1.2.2.2.2.1 x.1.1.2.2.2.2.2.1 x.1.1.2.2.2.2.2.2.1 x.1.1.2.2.2.2.2.2.2.1, Try.f74.results.toList⟩
theorem k63 : FnOK Try.prog G 74 e63 := fk cx t63 J63 (lp := P63) Try.func74 (by kernel_rfl) (by kernel_rfl) rfl (nh' _ (by kernel_rfl) (nf' l63_0 nk')) fun x => by kernel_rfl
def I64 : Sp := ⟨[(0, .agg c'2)], [], []⟩
def E64 : SL := [(.ret, ⟨[(2, op 32)], [(32, c'10)], []⟩)]
noncomputable def e64 : Fe G := ⟨I64, E64, fun x => nd6' x.1.1.1 x.1.1.2.1 x.1.1.2.2.1 x.1.1.2.2.2.1 x.1.1.2.2.2.2.1 x.1.1.2.2.2.2.2.1 x.1.1.2.2.2.2.2.2.1 x.1.1.2.2.2.2.2.2.2.1, Try.f29.results.toList⟩
theorem k64 : FnOK Try.prog G 29 e64 := fk cx (tc k63 tn) (jl []) (lp := (pl [])) Try.func29 (by kernel_rfl) (by kernel_rfl) rfl (an0 (by kernel_rfl)) fun x => by kernel_rfl
def I65 : Sp := ⟨[(0, .agg c'19)], [], []⟩
def E65 : SL := [(.ret, ⟨[(2, os)], [], []⟩)]
noncomputable def e65 : Fe G := ⟨I65, E65, fun x => neb' x.1.1.1 x.1.1.2.1 x.1.1.2.2.1, Try.f53.results.toList⟩
theorem k65 : FnOK Try.prog G 53 e65 := fk cx tn (jl []) (lp := (pl [])) Try.func53 (by kernel_rfl) (by kernel_rfl) rfl (an0 (by kernel_rfl)) fun x => by kernel_rfl
def I66 : Sp := ⟨[(0, os)], [], []⟩
def E66 : SL := [(.ret, ⟨[(2, ou8)], [], []⟩)]
def S66_0 : Sp := ⟨[(0, os), (3, ou8), (7, oi64), (8, oi64)], [], []⟩
def X66_0 : SL := [(.exit 0, ⟨[(3, ou8)], [], []⟩)]
def S66_1 : Sp := ⟨[(0, os), (3, ou8), (7, oi64), (8, oi64), (16, oi64)], [], []⟩
def X66_1 : SL := [(.exit 2, ⟨[(0, os), (3, ou8), (7, oi64), (8, oi64)], [], []⟩)]
def J66 : Nat → Option SL := jl []
noncomputable def P66 : Nat → St G → M (Ex × St G) := pl [lpX S66_0 X66_0 niy', lpX S66_1 X66_1 nis']
theorem l66_1 : LoopOK Try.prog G 28 (P66 1) (ni' (ne' Try.f103) 1) := lk cx tn J66 2 S66_1 X66_1 (rfl : nis' = _) (by kernel_rfl) (an0 (by kernel_rfl)) fun x => by kernel_rfl
theorem l66_0 : LoopOK Try.prog G 28 (P66 0) (ni' (ne' Try.f103) 0) := lk cx tn J66 1 S66_0 X66_0 (rfl : niy' = _) (by kernel_rfl) (nh' _ (by kernel_rfl) (nf' l66_1 nk')) fun x => by kernel_rfl
noncomputable def e66 : Fe G := ⟨I66, E66, fun x => nid' x.1.1, Try.f103.results.toList⟩
theorem k66 : FnOK Try.prog G 103 e66 := fk cx tn J66 (lp := P66) Try.func103 (by kernel_rfl) (by kernel_rfl) rfl (nh' _ (by kernel_rfl) (nf' l66_0 (nf' l66_1 nk'))) fun x => by kernel_rfl
def I67 : Sp := ⟨[(0, oi64), (1, oi64), (2, oi64)], [], []⟩
def E67 : SL := [(.ret, ⟨[(6, ob)], [], []⟩)]
noncomputable def e67 : Fe G := ⟨I67, E67, fun x => nen' x.1.1 x.1.2.1 x.1.2.2.1, Try.f149.results.toList⟩
theorem k67 : FnOK Try.prog G 149 e67 := fk cx (tc k60 tn) (jl [(1048577, [(.normal, ⟨[(6, ob)], [], []⟩)])]) (lp := (pl [])) Try.func149 (by kernel_rfl) (by kernel_rfl) rfl (an0 (by kernel_rfl)) fun x => by kernel_rfl
def I68 : Sp := ⟨[(0, .agg c'2), (1, oi64), (2, oi64)], [], []⟩
def E68 : SL := [(.ret, ⟨[(6, ob)], [], []⟩)]
noncomputable def e68 : Fe G := ⟨I68, E68, fun x => ndi' x.1.1.1 x.1.1.2.1 x.1.1.2.2.1 x.1.1.2.2.2.1 x.1.1.2.2.2.2.1 x.1.1.2.2.2.2.2.1 x.1.1.2.2.2.2.2.2.1 x.1.1.2.2.2.2.2.2.2.1 x.1.2.1 x.1.2.2.1, Try.f139.results.toList⟩
theorem k68 : FnOK Try.prog G 139 e68 := fk cx (tc k63 (tc k67 tn)) (jl [(1048577, [(.normal, ⟨[(6, ob)], [], []⟩)])]) (lp := (pl [])) Try.func139 (by kernel_rfl) (by kernel_rfl) rfl (an0 (by kernel_rfl)) fun x => by kernel_rfl
def I69 : Sp := ⟨[(0, oi64), (1, oi64), (2, oi64)], [], []⟩
def E69 : SL := [(.ret, ⟨[(6, ob)], [], []⟩)]
noncomputable def e69 : Fe G := ⟨I69, E69, fun x => nbl' x.1.1 x.1.2.1 x.1.2.2.1, Try.f140.results.toList⟩
theorem k69 : FnOK Try.prog G 140 e69 := fk cx tn (jl [(1048577, [(.normal, ⟨[(6, ob)], [], []⟩)])]) (lp := (pl [])) Try.func140 (by kernel_rfl) (by kernel_rfl) rfl (an0 (by kernel_rfl)) fun x => by kernel_rfl
def I70 : Sp := ⟨[(0, .agg c'2), (1, .agg c'11)], [], []⟩
def E70 : SL := [(.ret, ⟨[(4, ob)], [], []⟩)]
noncomputable def e70 : Fe G := ⟨I70, E70, fun x => ndo' x.1.1.1 x.1.1.2.1 x.1.1.2.2.1 x.1.1.2.2.2.1 x.1.1.2.2.2.2.1 x.1.1.2.2.2.2.2.1 x.1.1.2.2.2.2.2.2.1 x.1.1.2.2.2.2.2.2.2.1 x.1.2.1.1 x.1.2.1.2.1 x.1.2.1.2.2.1 x.1.2.1.2.2.2.1 x.1.2.1.2.2.2.2.1, Try.f100.results.toList⟩
theorem k70 : FnOK Try.prog G 100 e70 := fk cx (tc k63 (tc k68 (tc k69 tn))) (jl [(1048580, [(.normal, ⟨[(2, op 32), (3, op 48), (5, ob), (6, ob)], [(32, c'2), (48, c'11)], []⟩)]), (1048584, [(.normal, ⟨[(4, ob)], [], []⟩)]), (1048586, [(.normal, ⟨[(4, ob)], [], []⟩)]), (1048588, [(.normal, ⟨[(4, ob)], [], []⟩)]), (1048590, [(.normal, ⟨[(4, ob)], [], []⟩)]), (1048593, [(.normal, ⟨[(4, ob)], [], []⟩)])]) (lp := (pl [])) Try.func100 (by kernel_rfl) (by kernel_rfl) rfl (an0 (by kernel_rfl)) fun x => by kernel_rfl
def I71 : Sp := ⟨[(0, .agg c'2), (1, os)], [], []⟩
def E71 : SL := [(.ret, ⟨[(4, op 64), (5, oi64)], [(64, c'11)], []⟩)]
noncomputable def e71 : Fe G := ⟨I71, E71, fun x => ngb' x.1.1.1 x.1.1.2.1 x.1.1.2.2.1 x.1.1.2.2.2.1 x.1.1.2.2.2.2.1 x.1.1.2.2.2.2.2.1 x.1.1.2.2.2.2.2.2.1 x.1.1.2.2.2.2.2.2.2.1 x.1.2.1, Try.f120.results.toList⟩
theorem k71 : FnOK Try.prog G 120 e71 := fk cx (tc k63 (tc k66 (tc k70 tn))) (jl []) (lp := (pl [])) Try.func120 (by kernel_rfl) (by kernel_rfl) rfl (an0 (by kernel_rfl)) fun x => by kernel_rfl
def I72 : Sp := ⟨[(0, .agg c'2), (1, os)], [], []⟩
def E72 : SL := [(.ret, ⟨[(4, .one (.own 32768 56)), (5, oi64)], [], []⟩)]
def S72_0 : Sp := ⟨[(1, os), (2, op 32), (6, .one (.own 32768 56)), (7, oi64)], [(32, c'2)], []⟩
def X72_0 : SL := [(.exit 0, ⟨[(6, .one (.own 32768 56)), (7, oi64)], [], []⟩)]
def J72 : Nat → Option SL := jl []
noncomputable def P72 : Nat → St G → M (Ex × St G) := pl [lpX S72_0 X72_0 nga']
theorem t72 : ∀ p ∈ [(120, e71)], FnOK Try.prog G p.1 p.2 := (tc k71 tn)
theorem l72_0 : LoopOK Try.prog G 35 (P72 0) (ni' (ne' Try.f71) 0) := lk cx t72 J72 1 S72_0 X72_0 (rfl : nga' = _) (by kernel_rfl) (an0 (by kernel_rfl)) fun x => by kernel_rfl
noncomputable def e72 : Fe G := ⟨I72, E72, fun x => nha' x.1.1.1 x.1.1.2.1 x.1.1.2.2.1 x.1.1.2.2.2.1 x.1.1.2.2.2.2.1 x.1.1.2.2.2.2.2.1 x.1.1.2.2.2.2.2.2.1 x.1.1.2.2.2.2.2.2.2.1 x.1.2.1, Try.f71.results.toList⟩
theorem k72 : FnOK Try.prog G 71 e72 := fk cx t72 J72 (lp := P72) Try.func71 (by kernel_rfl) (by kernel_rfl) rfl (nh' _ (by kernel_rfl) (nf' l72_0 nk')) fun x => by kernel_rfl
def I73 : Sp := ⟨[(0, oi64)], [], []⟩
def E73 : SL := [(.ret, ⟨[(2, ob)], [], []⟩)]
noncomputable def e73 : Fe G := ⟨I73, E73, fun x => nf6' x.1.1, Try.f150.results.toList⟩
theorem k73 : FnOK Try.prog G 150 e73 := fk cx tn (jl []) (lp := (pl [])) Try.func150 (by kernel_rfl) (by kernel_rfl) rfl (an0 (by kernel_rfl)) fun x => by kernel_rfl
def I74 : Sp := ⟨[(0, oi64), (1, oi64)], [], []⟩
def E74 : SL := [(.ret, ⟨[(4, oi64)], [], []⟩)]
noncomputable def e74 : Fe G := ⟨I74, E74, fun x => ndl' x.1.1 x.1.2.1, Try.f142.results.toList⟩
theorem k74 : FnOK Try.prog G 142 e74 := fk cx (tc k73 tn) (jl []) (lp := (pl [])) Try.func142 (by kernel_rfl) (by kernel_rfl) rfl (an0 (by kernel_rfl)) fun x => by kernel_rfl
def I75 : Sp := ⟨[(0, oro 3)], [], []⟩
def E75 : SL := [(.ret, ⟨[(2, oi64)], [], []⟩)]
def S75_0 : Sp := ⟨[(3, oi64), (6, oro 3), (7, oi64), (8, oi64)], [], []⟩
def X75_0 : SL := [(.exit 0, ⟨[(3, oi64)], [], []⟩), (.ret, ⟨[(2, oi64)], [], []⟩)]
def J75 : Nat → Option SL := jl []
noncomputable def P75 : Nat → St G → M (Ex × St G) := pl [lpX S75_0 X75_0 ngr']
theorem l75_0 : LoopOK Try.prog G 18 (P75 0) (ni' (ne' Try.f141) 0) := lk cx tn J75 1 S75_0 X75_0 (rfl : ngr' = _) (by kernel_rfl) (an0 (by kernel_rfl)) fun x => by kernel_rfl
noncomputable def e75 : Fe G := ⟨I75, E75, fun x => nio' x.1.1, Try.f141.results.toList⟩
theorem k75 : FnOK Try.prog G 141 e75 := fk cx tn J75 (lp := P75) Try.func141 (by kernel_rfl) (by kernel_rfl) rfl (nh' _ (by kernel_rfl) (nf' l75_0 nk')) fun x => by kernel_rfl
def I76 : Sp := ⟨[(0, .agg c'12), (1, .agg c'12)], [], []⟩
def E76 : SL := [(.ret, ⟨[(4, oi64)], [], []⟩)]
noncomputable def e76 : Fe G := ⟨I76, E76, fun x => nd8' x.1.1.1 x.1.1.2.1 x.1.1.2.2.1 x.1.1.2.2.2.1 x.1.1.2.2.2.2.1 x.1.2.1.1 x.1.2.1.2.1 x.1.2.1.2.2.1 x.1.2.1.2.2.2.1 x.1.2.1.2.2.2.2.1, Try.f102.results.toList⟩
theorem k76 : FnOK Try.prog G 102 e76 := fk cx (tc k74 (tc k75 tn)) (jl []) (lp := (pl [])) Try.func102 (by kernel_rfl) (by kernel_rfl) rfl (an0 (by kernel_rfl)) fun x => by kernel_rfl
def I77 : Sp := ⟨[(0, oro 98), (1, .agg c'12), (2, .one (.clo 102 [] []))], [], []⟩
def E77 : SL := [(.ret, ⟨[(6, oi64), (7, ob)], [], []⟩)]
def S77_0 : Sp := ⟨[(0, oro 98), (2, .one (.clo 102 [] [])), (4, op 64), (8, oi64), (9, oi64), (10, oi64)], [(64, c'12)], []⟩
def X77_0 : SL := [(.exit 0, ⟨[(0, oro 98), (2, .one (.clo 102 [] [])), (4, op 64), (8, oi64), (9, oi64)], [(64, c'12)], []⟩)]
def J77 : Nat → Option SL := jl [(1048584, [(.normal, ⟨[(6, oi64), (7, ob)], [], []⟩)])]
noncomputable def P77 : Nat → St G → M (Ex × St G) := pl [lpX S77_0 X77_0 nl']
theorem t77 : ∀ p ∈ [(102, e76)], FnOK Try.prog G p.1 p.2 := (tc k76 tn)
theorem l77_0 : LoopOK Try.prog G 49 (P77 0) (ni' (ne' Try.f101) 0) := lk cx t77 J77 1 S77_0 X77_0 (rfl : nl' = _) (by kernel_rfl) (an0 (by kernel_rfl)) fun x => by kernel_rfl
noncomputable def e77 : Fe G := ⟨I77, E77, fun x => nv' x.1.1 x.1.2.1.1 x.1.2.1.2.1 x.1.2.1.2.2.1 x.1.2.1.2.2.2.1 x.1.2.1.2.2.2.2.1, Try.f101.results.toList⟩
theorem k77 : FnOK Try.prog G 101 e77 := fk cx t77 J77 (lp := P77) Try.func101 (by kernel_rfl) (by kernel_rfl) rfl (nh' _ (by kernel_rfl) (nf' l77_0 nk')) fun x => by kernel_rfl
def I78 : Sp := ⟨[(0, .agg c'13), (1, oi64), (2, oi64)], [], []⟩
def E78 : SL := [(.ret, ⟨[(6, oi64), (7, ob)], [], []⟩)]
noncomputable def e78 : Fe G := ⟨I78, E78, fun x => ni0' x.1.1.1 x.1.1.2.1 x.1.1.2.2.1 x.1.1.2.2.2.1 x.1.2.1 x.1.2.2.1, Try.f50.results.toList⟩
theorem k78 : FnOK Try.prog G 50 e78 := fk cx (tc k77 tn) (jl []) (lp := (pl [])) Try.func50 (by kernel_rfl) (by kernel_rfl) rfl (an0 (by kernel_rfl)) fun x => by kernel_rfl
def I79 : Sp := ⟨[(0, .one (.own 32768 98)), (1, oi64), (2, .one (.own 32769 98))], [], []⟩
def E79 : SL := [(.ret, ⟨[(6, .one (.own 32768 98))], [], []⟩)]
noncomputable def e79 : Fe G := ⟨I79, E79, fun x => nbw' x.1.1 x.1.2.1 x.1.2.2.1, Try.f121.results.toList⟩
theorem s79 : insFe G 6 98 = e79 := by kernel_rfl
theorem k79 : FnOK Try.prog G 121 e79 := s79 ▸ n1z' (r := 6) (t := 98) sigOK ⟨_, Try.func121, by kernel_rfl, by kernel_rfl⟩ (by intro h; cases h) (fun _ => rfl) (np8')
def I80 : Sp := ⟨[(0, .one (.own 32768 98)), (1, oi64), (2, oi64)], [], []⟩
def E80 : SL := [(.ret, ⟨[(6, .one (.own 32768 98))], [], []⟩)]
noncomputable def e80 : Fe G := ⟨I80, E80, fun x => nbx' x.1.1 x.1.2.1 x.1.2.2.1, Try.f122.results.toList⟩
theorem s80 : delFe G 6 98 = e80 := by kernel_rfl
theorem k80 : FnOK Try.prog G 122 e80 := s80 ▸ n1v' (r := 6) (t := 98) sigOK ⟨_, Try.func122, by kernel_rfl, by kernel_rfl⟩ (by intro h; cases h) (fun _ => rfl) (nqj')
def I81 : Sp := ⟨[(0, op 65536), (1, .agg c'11)], [(65536, c'10)], []⟩
def E81 : SL := [(.normal, ⟨[], [(65536, c'10)], [65536]⟩)]
noncomputable def e81 : Fe G := ⟨I81, E81, fun x => ngm' x.1.2.1.1 x.1.2.1.2.1 x.1.2.1.2.2.1 x.1.2.1.2.2.2.1 x.1.2.1.2.2.2.2.1 x.2.1.1 x.2.1.2.1 x.2.1.2.2.1 x.2.1.2.2.2.1, Try.f72.results.toList⟩
theorem k81 : FnOK Try.prog G 72 e81 := fk cx (tc k78 (tc k79 (tc k80 tn))) (jl []) (lp := (pl [])) Try.func72 (by kernel_rfl) (by kernel_rfl) rfl (an0 (by kernel_rfl)) fun x => by kernel_rfl
def I82 : Sp := ⟨[(0, .agg c'2), (1, .agg c'19)], [], []⟩
def E82 : SL := [(.ret, ⟨[(4, op 64)], [(64, c'10)], []⟩)]
def S82_0 : Sp := ⟨[(4, op 64), (5, op 80), (19, .one (.own 32768 56)), (20, oi64), (21, oi64)], [(64, c'17), (80, c'18)], []⟩
def X82_0 : SL := [(.exit 0, ⟨[(4, op 64), (5, op 80)], [(64, c'10), (80, c'14)], []⟩)]
def J82 : Nat → Option SL := jl []
noncomputable def P82 : Nat → St G → M (Ex × St G) := pl [lpX S82_0 X82_0 ngs']
theorem t82 : ∀ p ∈ [(29, e64), (53, e65), (71, e72), (72, e81)], FnOK Try.prog G p.1 p.2 := (tc k64 (tc k65 (tc k72 (tc k81 tn))))
theorem l82_0 : LoopOK Try.prog G 29 (P82 0) (ni' (ne' Try.f27) 0) := lk cx t82 J82 1 S82_0 X82_0 (rfl : ngs' = _) (by kernel_rfl) (an0 (by kernel_rfl)) fun x => by kernel_rfl
noncomputable def e82 : Fe G := ⟨I82, E82, fun x => ndu' x.1.1.1 x.1.1.2.1 x.1.1.2.2.1 x.1.1.2.2.2.1 x.1.1.2.2.2.2.1 x.1.1.2.2.2.2.2.1 x.1.1.2.2.2.2.2.2.1 x.1.1.2.2.2.2.2.2.2.1 x.1.2.1.1 x.1.2.1.2.1 x.1.2.1.2.2.1, Try.f27.results.toList⟩
theorem k82 : FnOK Try.prog G 27 e82 := fk cx t82 J82 (lp := P82) Try.func27 (by kernel_rfl) (by kernel_rfl) rfl (nh' _ (by kernel_rfl) (nf' l82_0 nk')) fun x => by kernel_rfl
def I83 : Sp := ⟨[(0, oro 3), (1, oro 3)], [], []⟩
def E83 : SL := [(.ret, ⟨[(4, ob)], [], []⟩)]
def S83_0 : Sp := ⟨[(0, oro 3), (1, oro 3), (12, oi64), (13, oi64)], [], []⟩
def X83_0 : SL := [(.exit 0, ⟨[], [], []⟩), (.ret, ⟨[(4, ob)], [], []⟩)]
def J83 : Nat → Option SL := jl []
noncomputable def P83 : Nat → St G → M (Ex × St G) := pl [lpX S83_0 X83_0 nb8']
theorem l83_0 : LoopOK Try.prog G 26 (P83 0) (ni' (ne' Try.f96) 0) := lk cx tn J83 1 S83_0 X83_0 (rfl : nb8' = _) (by kernel_rfl) (an0 (by kernel_rfl)) fun x => by kernel_rfl
noncomputable def e83 : Fe G := ⟨I83, E83, fun x => nby' x.1.1 x.1.2.1, Try.f96.results.toList⟩
theorem k83 : FnOK Try.prog G 96 e83 := fk cx tn J83 (lp := P83) Try.func96 (by kernel_rfl) (by kernel_rfl) rfl (nh' _ (by kernel_rfl) (nf' l83_0 nk')) fun x => by kernel_rfl
def I84 : Sp := ⟨[(0, oro 4), (1, oro 4)], [], []⟩
def E84 : SL := [(.ret, ⟨[(4, ob)], [], []⟩)]
def S84_0 : Sp := ⟨[(0, oro 4), (1, oro 4), (12, oi64), (13, oi64)], [], []⟩
def X84_0 : SL := [(.exit 0, ⟨[], [], []⟩), (.ret, ⟨[(4, ob)], [], []⟩)]
def J84 : Nat → Option SL := jl []
noncomputable def P84 : Nat → St G → M (Ex × St G) := pl [lpX S84_0 X84_0 nb2']
theorem l84_0 : LoopOK Try.prog G 26 (P84 0) (ni' (ne' Try.f97) 0) := lk cx tn J84 1 S84_0 X84_0 (rfl : nb2' = _) (by kernel_rfl) (an0 (by kernel_rfl)) fun x => by kernel_rfl
noncomputable def e84 : Fe G := ⟨I84, E84, fun x => nbp' x.1.1 x.1.2.1, Try.f97.results.toList⟩
theorem k84 : FnOK Try.prog G 97 e84 := fk cx tn J84 (lp := P84) Try.func97 (by kernel_rfl) (by kernel_rfl) rfl (nh' _ (by kernel_rfl) (nf' l84_0 nk')) fun x => by kernel_rfl
def I85 : Sp := ⟨[(0, oro 98), (1, oro 98)], [], []⟩
def E85 : SL := [(.ret, ⟨[(4, ob)], [], []⟩)]
def S85_0 : Sp := ⟨[(0, oro 98), (1, oro 98), (12, oi64), (13, oi64)], [], []⟩
def X85_0 : SL := [(.exit 0, ⟨[], [], []⟩), (.ret, ⟨[(4, ob)], [], []⟩)]
def J85 : Nat → Option SL := jl []
noncomputable def P85 : Nat → St G → M (Ex × St G) := pl [lpX S85_0 X85_0 nbc']
theorem l85_0 : LoopOK Try.prog G 26 (P85 0) (ni' (ne' Try.f98) 0) := lk cx tn J85 1 S85_0 X85_0 (rfl : nbc' = _) (by kernel_rfl) (an0 (by kernel_rfl)) fun x => by kernel_rfl
noncomputable def e85 : Fe G := ⟨I85, E85, fun x => nbj' x.1.1 x.1.2.1, Try.f98.results.toList⟩
theorem k85 : FnOK Try.prog G 98 e85 := fk cx tn J85 (lp := P85) Try.func98 (by kernel_rfl) (by kernel_rfl) rfl (nh' _ (by kernel_rfl) (nf' l85_0 nk')) fun x => by kernel_rfl
def I86 : Sp := ⟨[(0, .agg c'13), (1, .agg c'13)], [], []⟩
def E86 : SL := [(.ret, ⟨[(4, ob)], [], []⟩)]
noncomputable def e86 : Fe G := ⟨I86, E86, fun x => nec' x.1.1.1 x.1.1.2.1 x.1.1.2.2.1 x.1.1.2.2.2.1 x.1.2.1.1 x.1.2.1.2.1 x.1.2.1.2.2.1 x.1.2.1.2.2.2.1, Try.f46.results.toList⟩
theorem k86 : FnOK Try.prog G 46 e86 := fk cx (tc k83 (tc k84 (tc k85 tn))) (jl [(1048577, [(.normal, ⟨[(4, ob)], [], []⟩)])]) (lp := (pl [])) Try.func46 (by kernel_rfl) (by kernel_rfl) rfl (an0 (by kernel_rfl)) fun x => by kernel_rfl
def I87 : Sp := ⟨[(0, .agg c'2), (1, .agg c'24)], [], []⟩
def E87 : SL := [(.ret, ⟨[(4, ob)], [], []⟩)]
noncomputable def e87 : Fe G := ⟨I87, E87, fun x => nbz' x.1.1.1 x.1.1.2.1 x.1.1.2.2.1 x.1.1.2.2.2.1 x.1.1.2.2.2.2.1 x.1.1.2.2.2.2.2.1 x.1.1.2.2.2.2.2.2.1 x.1.1.2.2.2.2.2.2.2.1 x.1.2.1.1 x.1.2.1.2.1 x.1.2.1.2.2.1 x.1.2.1.2.2.2.1 x.1.2.1.2.2.2.2.1 x.1.2.1.2.2.2.2.2.1 x.1.2.1.2.2.2.2.2.2.1 x.1.2.1.2.2.2.2.2.2.2.1 x.1.2.1.2.2.2.2.2.2.2.2.1 x.1.2.1.2.2.2.2.2.2.2.2.2.1 x.1.2.1.2.2.2.2.2.2.2.2.2.2.1 x.1.2.1.2.2.2.2.2.2.2.2.2.2.2.1 x.1.2.1.2.2.2.2.2.2.2.2.2.2.2.2.1 x.1.2.1.2.2.2.2.2.2.2.2.2.2.2.2.2.1 x.1.2.1.2.2.2.2.2.2.2.2.2.2.2.2.2.2.1 x.1.2.1.2.2.2.2.2.2.2.2.2.2.2.2.2.2.2.1, Try.f15.results.toList⟩
theorem k87 : FnOK Try.prog G 15 e87 := fk cx (tc k82 (tc k86 tn)) (jl []) (lp := (pl [])) Try.func15 (by kernel_rfl) (by kernel_rfl) rfl (an0 (by kernel_rfl)) fun x => by kernel_rfl
def I88 : Sp := ⟨[(0, .agg c'13), (1, .agg c'13)], [], []⟩
def E88 : SL := [(.ret, ⟨[(4, ob)], [], []⟩)]
def S88_0 : Sp := ⟨[(2, op 32), (3, op 48), (5, oi64)], [(32, c'13), (48, c'13)], []⟩
def X88_0 : SL := [(.exit 0, ⟨[(2, op 32), (3, op 48)], [(32, c'13), (48, c'13)], []⟩), (.ret, ⟨[(4, ob)], [], []⟩)]
def S88_1 : Sp := ⟨[(2, op 32), (3, op 48), (6, oi64)], [(32, c'13), (48, c'13)], []⟩
def X88_1 : SL := [(.exit 2, ⟨[(2, op 32), (3, op 48)], [(32, c'13), (48, c'13)], []⟩), (.ret, ⟨[(4, ob)], [], []⟩)]
def S88_2 : Sp := ⟨[(2, op 32), (3, op 48), (7, oi64)], [(32, c'13), (48, c'13)], []⟩
def X88_2 : SL := [(.exit 4, ⟨[(2, op 32), (3, op 48)], [(32, c'13), (48, c'13)], []⟩), (.ret, ⟨[(4, ob)], [], []⟩)]
def S88_3 : Sp := ⟨[(2, op 32), (3, op 48), (8, oi64)], [(32, c'13), (48, c'13)], []⟩
def X88_3 : SL := [(.exit 6, ⟨[], [], []⟩), (.ret, ⟨[(4, ob)], [], []⟩)]
def J88 : Nat → Option SL := jl []
noncomputable def P88 : Nat → St G → M (Ex × St G) := pl [lpX S88_0 X88_0 niv', lpX S88_1 X88_1 nh4', lpX S88_2 X88_2 nib', lpX S88_3 X88_3 nix']
theorem l88_3 : LoopOK Try.prog G 115 (P88 3) (ni' (ne' Try.f22) 3) := lk cx tn J88 4 S88_3 X88_3 (rfl : nix' = _) (by kernel_rfl) (an0 (by kernel_rfl)) fun x => by kernel_rfl
theorem l88_2 : LoopOK Try.prog G 115 (P88 2) (ni' (ne' Try.f22) 2) := lk cx tn J88 3 S88_2 X88_2 (rfl : nib' = _) (by kernel_rfl) (an0 (by kernel_rfl)) fun x => by kernel_rfl
theorem l88_1 : LoopOK Try.prog G 115 (P88 1) (ni' (ne' Try.f22) 1) := lk cx tn J88 2 S88_1 X88_1 (rfl : nh4' = _) (by kernel_rfl) (an0 (by kernel_rfl)) fun x => by kernel_rfl
theorem l88_0 : LoopOK Try.prog G 115 (P88 0) (ni' (ne' Try.f22) 0) := lk cx tn J88 1 S88_0 X88_0 (rfl : niv' = _) (by kernel_rfl) (an0 (by kernel_rfl)) fun x => by kernel_rfl
noncomputable def e88 : Fe G := ⟨I88, E88, fun x => nit' x.1.1.1 x.1.1.2.1 x.1.1.2.2.1 x.1.1.2.2.2.1 x.1.2.1.1 x.1.2.1.2.1 x.1.2.1.2.2.1 x.1.2.1.2.2.2.1, Try.f22.results.toList⟩
theorem k88 : FnOK Try.prog G 22 e88 := fk cx tn J88 (lp := P88) Try.func22 (by kernel_rfl) (by kernel_rfl) rfl (nh' _ (by kernel_rfl) (nf' l88_0 (nf' l88_1 (nf' l88_2 (nf' l88_3 nk'))))) fun x => by kernel_rfl
def I89 : Sp := ⟨[(0, .agg c'2), (1, .agg c'24)], [], []⟩
def E89 : SL := [(.ret, ⟨[(4, ob)], [], []⟩)]
noncomputable def e89 : Fe G := ⟨I89, E89, fun x => ndg' x.1.1.1 x.1.1.2.1 x.1.1.2.2.1 x.1.1.2.2.2.1 x.1.1.2.2.2.2.1 x.1.1.2.2.2.2.2.1 x.1.1.2.2.2.2.2.2.1 x.1.1.2.2.2.2.2.2.2.1 x.1.2.1.1 x.1.2.1.2.1 x.1.2.1.2.2.1 x.1.2.1.2.2.2.1 x.1.2.1.2.2.2.2.1 x.1.2.1.2.2.2.2.2.1 x.1.2.1.2.2.2.2.2.2.1 x.1.2.1.2.2.2.2.2.2.2.1 x.1.2.1.2.2.2.2.2.2.2.2.1 x.1.2.1.2.2.2.2.2.2.2.2.2.1 x.1.2.1.2.2.2.2.2.2.2.2.2.2.1 x.1.2.1.2.2.2.2.2.2.2.2.2.2.2.1 x.1.2.1.2.2.2.2.2.2.2.2.2.2.2.2.1 x.1.2.1.2.2.2.2.2.2.2.2.2.2.2.2.2.1 x.1.2.1.2.2.2.2.2.2.2.2.2.2.2.2.2.2.1 x.1.2.1.2.2.2.2.2.2.2.2.2.2.2.2.2.2.2.1, Try.f16.results.toList⟩
theorem k89 : FnOK Try.prog G 16 e89 := fk cx (tc k42 (tc k88 tn)) (jl []) (lp := (pl [])) Try.func16 (by kernel_rfl) (by kernel_rfl) rfl (an0 (by kernel_rfl)) fun x => by kernel_rfl
def I90 : Sp := ⟨[(0, .agg [.int .u8, .int .u8]), (1, oro 5), (2, .agg c'13)], [], []⟩
def E90 : SL := [(.ret, ⟨[(6, ob)], [], []⟩)]
def S90_0 : Sp := ⟨[(7, op 112), (48, .one (.own 32768 28)), (49, oi64), (50, oi64)], [(112, c'2)], []⟩
def X90_0 : SL := [(.exit 0, ⟨[], [], []⟩), (.ret, ⟨[(6, ob)], [], []⟩)]
def J90 : Nat → Option SL := jl []
noncomputable def P90 : Nat → St G → M (Ex × St G) := pl [lpX S90_0 X90_0 ncu']
theorem t90 : ∀ p ∈ [(8, e18), (9, e1), (10, e32), (11, e36), (12, e53), (13, e56), (14, e59), (15, e87), (16, e89)], FnOK Try.prog G p.1 p.2 := (tc k18 (tc k1 (tc k32 (tc k36 (tc k53 (tc k56 (tc k59 (tc k87 (tc k89 tn)))))))))
noncomputable def n4o' (_h_l30_sane : (Unit × Unit) → Option ((Bool × Unit) × Unit)) (s48 : List (Image)) (s49 s50 b_Floors b_Debounce b_Room b_Park : Int) (b_Empty b_Full b_Over : Nat) (b_Cars : List (Car)) : Option (Sum (T'52 × (T'0 × Unit)) ((Unit × Unit) ⊕ ((Bool × Unit) × Unit))) :=
 bif (decide (s50 < s49)) then
 bif (inB s50 (List.length s48)) then
 let z0 : Image := (List.getD s48 (Int.toNat s50) (Image.mk [] [] [] []))
 (nfz' b_Floors b_Debounce b_Room b_Park b_Empty b_Full b_Over b_Cars z0.Phases z0.Flags z0.Leaving z0.Entries (ByteArray.mk (Array.mk [])) (ByteArray.mk (Array.mk [])) (0 : Int)).bind fun y1 =>
 (niq' b_Floors b_Debounce b_Room b_Park b_Empty b_Full b_Over b_Cars (ByteArray.mk (Array.mk [])) (ByteArray.mk (Array.mk [])) (0 : Int) (10000 : Int)).bind fun y2 =>
 (neq' z0.Phases z0.Flags z0.Leaving z0.Entries).bind fun y3 =>
 (ngd' z0.Phases z0.Flags z0.Leaving z0.Entries).bind fun y4 =>
 bif (!(y3.1.1 == y4.1.1)) then
 some (Sum.inr (Sum.inr ((false, ()), ())))
 else
 (nbz' b_Floors b_Debounce b_Room b_Park b_Empty b_Full b_Over b_Cars y1.2.1.1 y1.2.1.2.1 y1.2.1.2.2.1 y1.2.1.2.2.2.1 y1.2.1.2.2.2.2.1 y1.2.1.2.2.2.2.2.1 y1.2.1.2.2.2.2.2.2.1 y1.2.1.2.2.2.2.2.2.2.1 y1.2.1.2.2.2.2.2.2.2.2.1 y1.2.1.2.2.2.2.2.2.2.2.2.1 y1.2.1.2.2.2.2.2.2.2.2.2.2.1 y1.2.1.2.2.2.2.2.2.2.2.2.2.2.1 y1.2.1.2.2.2.2.2.2.2.2.2.2.2.2.1 y1.2.1.2.2.2.2.2.2.2.2.2.2.2.2.2.1 y1.2.1.2.2.2.2.2.2.2.2.2.2.2.2.2.2.1 y1.2.1.2.2.2.2.2.2.2.2.2.2.2.2.2.2.2.1).bind fun y5 =>
 (ndg' b_Floors b_Debounce b_Room b_Park b_Empty b_Full b_Over b_Cars y1.2.1.1 y1.2.1.2.1 y1.2.1.2.2.1 y1.2.1.2.2.2.1 y1.2.1.2.2.2.2.1 y1.2.1.2.2.2.2.2.1 y1.2.1.2.2.2.2.2.2.1 y1.2.1.2.2.2.2.2.2.2.1 y1.2.1.2.2.2.2.2.2.2.2.1 y1.2.1.2.2.2.2.2.2.2.2.2.1 y1.2.1.2.2.2.2.2.2.2.2.2.2.1 y1.2.1.2.2.2.2.2.2.2.2.2.2.2.1 y1.2.1.2.2.2.2.2.2.2.2.2.2.2.2.1 y1.2.1.2.2.2.2.2.2.2.2.2.2.2.2.2.1 y1.2.1.2.2.2.2.2.2.2.2.2.2.2.2.2.2.1 y1.2.1.2.2.2.2.2.2.2.2.2.2.2.2.2.2.2.1).bind fun y6 =>
 bif (!(y5.1.1 == y6.1.1)) then
 some (Sum.inr (Sum.inr ((false, ()), ())))
 else
 (nbz' b_Floors b_Debounce b_Room b_Park b_Empty b_Full b_Over b_Cars z0.Phases z0.Flags z0.Leaving z0.Entries y2.2.1.2.2.2.2.1 y2.2.1.2.2.2.2.2.1 y2.2.1.2.2.2.2.2.2.1 y2.2.1.2.2.2.2.2.2.2.1 y2.2.1.2.2.2.2.2.2.2.2.1 y2.2.1.2.2.2.2.2.2.2.2.2.1 y2.2.1.2.2.2.2.2.2.2.2.2.2.1 y2.2.1.2.2.2.2.2.2.2.2.2.2.2.1 y2.2.1.2.2.2.2.2.2.2.2.2.2.2.2.1 y2.2.1.2.2.2.2.2.2.2.2.2.2.2.2.2.1 y2.2.1.2.2.2.2.2.2.2.2.2.2.2.2.2.2.1 y2.2.1.2.2.2.2.2.2.2.2.2.2.2.2.2.2.2.1).bind fun y7 =>
 (ndg' b_Floors b_Debounce b_Room b_Park b_Empty b_Full b_Over b_Cars z0.Phases z0.Flags z0.Leaving z0.Entries y2.2.1.2.2.2.2.1 y2.2.1.2.2.2.2.2.1 y2.2.1.2.2.2.2.2.2.1 y2.2.1.2.2.2.2.2.2.2.1 y2.2.1.2.2.2.2.2.2.2.2.1 y2.2.1.2.2.2.2.2.2.2.2.2.1 y2.2.1.2.2.2.2.2.2.2.2.2.2.1 y2.2.1.2.2.2.2.2.2.2.2.2.2.2.1 y2.2.1.2.2.2.2.2.2.2.2.2.2.2.2.1 y2.2.1.2.2.2.2.2.2.2.2.2.2.2.2.2.1 y2.2.1.2.2.2.2.2.2.2.2.2.2.2.2.2.2.1 y2.2.1.2.2.2.2.2.2.2.2.2.2.2.2.2.2.2.1).bind fun y8 =>
 bif (!(y7.1.1 == y8.1.1)) then
 some (Sum.inr (Sum.inr ((false, ()), ())))
 else
 (nbz' b_Floors b_Debounce b_Room b_Park b_Empty b_Full b_Over b_Cars y2.2.1.1 y2.2.1.2.1 y2.2.1.2.2.1 y2.2.1.2.2.2.1 y2.2.1.2.2.2.2.1 y2.2.1.2.2.2.2.2.1 y2.2.1.2.2.2.2.2.2.1 y2.2.1.2.2.2.2.2.2.2.1 y2.2.1.2.2.2.2.2.2.2.2.1 y2.2.1.2.2.2.2.2.2.2.2.2.1 y2.2.1.2.2.2.2.2.2.2.2.2.2.1 y2.2.1.2.2.2.2.2.2.2.2.2.2.2.1 y2.2.1.2.2.2.2.2.2.2.2.2.2.2.2.1 y2.2.1.2.2.2.2.2.2.2.2.2.2.2.2.2.1 y2.2.1.2.2.2.2.2.2.2.2.2.2.2.2.2.2.1 y2.2.1.2.2.2.2.2.2.2.2.2.2.2.2.2.2.2.1).bind fun y9 =>
 bif (!y9.1.1) then
 some (Sum.inr (Sum.inr ((false, ()), ())))
 else
 some (Sum.inl (((), s48, s49, (IntKind.i64.wrap (s50 + (1 : Int))), ()), ((b_Floors, b_Debounce, b_Room, b_Park, b_Empty, b_Full, b_Over, b_Cars, ()), ())))
 else
 none
 else
 some (Sum.inr (Sum.inl ((), ())))
theorem g90_0 (h_l30_sane : (Unit × Unit) → Option ((Bool × Unit) × Unit)) (x : S90_0.T G) : rndI (cfP [(8, Fe.mk (G := G) I18 E18 h_l30_sane Try.f8.results.toList), (9, e1), (10, e32), (11, e36), (12, e53), (13, e56), (14, e59), (15, e87), (16, e89)]) P90 J90 102 1 (ni' (ne' Try.f3) 0) S90_0 X90_0 x = n4o' h_l30_sane x.1.2.1 x.1.2.2.1 x.1.2.2.2.1 x.2.1.1 x.2.1.2.1 x.2.1.2.2.1 x.2.1.2.2.2.1 x.2.1.2.2.2.2.1 x.2.1.2.2.2.2.2.1 x.2.1.2.2.2.2.2.2.1 x.2.1.2.2.2.2.2.2.2.1 := by kernel_rfl
theorem l90_0 : LoopOK Try.prog G 102 (P90 0) (ni' (ne' Try.f3) 0) := lk cx t90 J90 1 S90_0 X90_0 (rfl : ncu' = _) (by kernel_rfl) (an0 (by kernel_rfl)) fun x => (g90_0 (fun _ => nc5' ) x).trans (by kernel_rfl)
noncomputable def H90 (h_l30_sane : (Unit × Unit) → Option ((Bool × Unit) × Unit)) (n_f0 n_f1 : Int) (l raw_Phases : List (Int)) (raw_Flags raw_Leaving : List (Bool)) (raw_Entries : List (Entry)) : Option ((Bool × Unit) × Unit) :=
 bif (decide ((80 : Int) < ((List.length raw_Entries : Nat) : Int))) then
 (h_l30_sane ((), ())).bind fun y1 =>
 some ((y1.1.1, ()), ())
 else
 bif (decide ((20 : Int) < ((List.length raw_Phases : Nat) : Int))) then
 (h_l30_sane ((), ())).bind fun y2 =>
 some ((y2.1.1, ()), ())
 else
 bif (decide ((20 : Int) < ((List.length raw_Flags : Nat) : Int))) then
 (h_l30_sane ((), ())).bind fun y3 =>
 some ((y3.1.1, ()), ())
 else
 bif (decide ((20 : Int) < ((List.length raw_Leaving : Nat) : Int))) then
 (h_l30_sane ((), ())).bind fun y4 =>
 some ((y4.1.1, ()), ())
 else
 (nbb' n_f0 n_f1).bind fun y5 =>
 (ng2' y5.2.1.1 y5.2.1.2.1 y5.2.1.2.2.1 y5.2.1.2.2.2.1 y5.2.1.2.2.2.2.1 y5.2.1.2.2.2.2.2.1 y5.2.1.2.2.2.2.2.2.1 y5.2.1.2.2.2.2.2.2.2.1 l).bind fun y6 =>
 let z0 : List (Image) := [(Image.mk y6.2.1.1 y6.2.1.2.1 y6.2.1.2.2.1 y6.2.1.2.2.2.1), (Image.mk raw_Phases raw_Flags raw_Leaving raw_Entries)]
 (ncu' (((), z0, ((List.length z0 : Nat) : Int), (0 : Int), ()), (y5.2.1, ()))).bind fun y7 =>
 (match y7 with
 | .inl y8 =>
 (h_l30_sane ((), ())).bind fun y9 =>
 some ((y9.1.1, ()), ())
 | .inr y8 =>
 some ((y8.1.1, ()), ()))
theorem q90 (h_l30_sane : (Unit × Unit) → Option ((Bool × Unit) × Unit)) (x : I90.T G) : endI (cfP [(8, Fe.mk (G := G) I18 E18 h_l30_sane Try.f8.results.toList), (9, e1), (10, e32), (11, e36), (12, e53), (13, e56), (14, e59), (15, e87), (16, e89)]) P90 J90 102 (ne' Try.f3) I90 E90 x = H90 h_l30_sane x.1.1.1 x.1.1.2.1 x.1.2.1 x.1.2.2.1.1 x.1.2.2.1.2.1 x.1.2.2.1.2.2.1 x.1.2.2.1.2.2.2.1 := by kernel_rfl
noncomputable def e90 : Fe G := ⟨I90, E90, fun x => F_l30_AuditImages x.1.1.1 x.1.1.2.1 x.1.2.1 x.1.2.2.1.1 x.1.2.2.1.2.1 x.1.2.2.1.2.2.1 x.1.2.2.1.2.2.2.1, Try.f3.results.toList⟩
theorem k90 : FnOK Try.prog G 3 e90 := fk cx t90 J90 (lp := P90) Try.func3 (by kernel_rfl) (by kernel_rfl) rfl (nh' _ (by kernel_rfl) (nf' l90_0 nk')) fun x => (q90 (fun _ => nc5' ) x).trans (by kernel_rfl)
def I91 : Sp := ⟨[], [], []⟩
def E91 : SL := [(.ret, ⟨[(0, op 0)], [(0, c'20)], []⟩)]
noncomputable def e91 : Fe G := ⟨I91, E91, fun _ => ngi', Try.f78.results.toList⟩
theorem k91 : FnOK Try.prog G 78 e91 := fk cx tn (jl []) (lp := (pl [])) Try.func78 (by kernel_rfl) (by kernel_rfl) rfl (an0 (by kernel_rfl)) fun x => by kernel_rfl
def I92 : Sp := ⟨[(0, oro 189), (1, oro 189)], [], []⟩
def E92 : SL := [(.ret, ⟨[(4, ob)], [], []⟩)]
def S92_0 : Sp := ⟨[(0, oro 189), (1, oro 189), (12, oi64), (13, oi64)], [], []⟩
def X92_0 : SL := [(.exit 0, ⟨[], [], []⟩), (.ret, ⟨[(4, ob)], [], []⟩)]
def J92 : Nat → Option SL := jl []
noncomputable def P92 : Nat → St G → M (Ex × St G) := pl [lpX S92_0 X92_0 nb0']
theorem l92_0 : LoopOK Try.prog G 26 (P92 0) (ni' (ne' Try.f146) 0) := lk cx tn J92 1 S92_0 X92_0 (rfl : nb0' = _) (by kernel_rfl) (an0 (by kernel_rfl)) fun x => by kernel_rfl
noncomputable def e92 : Fe G := ⟨I92, E92, fun x => nda' x.1.1 x.1.2.1, Try.f146.results.toList⟩
theorem k92 : FnOK Try.prog G 146 e92 := fk cx tn J92 (lp := P92) Try.func146 (by kernel_rfl) (by kernel_rfl) rfl (nh' _ (by kernel_rfl) (nf' l92_0 nk')) fun x => by kernel_rfl
def I93 : Sp := ⟨[(0, .agg c'25), (1, .agg c'25)], [], []⟩
def E93 : SL := [(.ret, ⟨[(4, ob)], [], []⟩)]
noncomputable def e93 : Fe G := ⟨I93, E93, fun x => nn0' x.1.1.1 x.1.1.2.1 x.1.1.2.2.1 x.1.1.2.2.2.1 x.1.1.2.2.2.2.1 x.1.1.2.2.2.2.2.1 x.1.2.1.1 x.1.2.1.2.1 x.1.2.1.2.2.1 x.1.2.1.2.2.2.1 x.1.2.1.2.2.2.2.1 x.1.2.1.2.2.2.2.2.1, Try.f129.results.toList⟩
theorem k93 : FnOK Try.prog G 129 e93 := fk cx (tc k92 tn) (jl [(1048577, [(.normal, ⟨[(4, ob)], [], []⟩)])]) (lp := (pl [])) Try.func129 (by kernel_rfl) (by kernel_rfl) rfl (an0 (by kernel_rfl)) fun x => by kernel_rfl
def I94 : Sp := ⟨[(0, .agg c'2), (1, .agg c'12)], [], []⟩
def E94 : SL := [(.ret, ⟨[(4, ob)], [], []⟩)]
noncomputable def e94 : Fe G := ⟨I94, E94, fun x => nnt' x.1.1.1 x.1.1.2.1 x.1.1.2.2.1 x.1.1.2.2.2.1 x.1.1.2.2.2.2.1 x.1.1.2.2.2.2.2.1 x.1.1.2.2.2.2.2.2.1 x.1.1.2.2.2.2.2.2.2.1 x.1.2.1.1 x.1.2.1.2.1 x.1.2.1.2.2.1 x.1.2.1.2.2.2.1 x.1.2.1.2.2.2.2.1, Try.f112.results.toList⟩
theorem k94 : FnOK Try.prog G 112 e94 := fk cx (tc k68 tn) (jl [(1048577, [(.normal, ⟨[(4, ob)], [], []⟩)])]) (lp := (pl [])) Try.func112 (by kernel_rfl) (by kernel_rfl) rfl (an0 (by kernel_rfl)) fun x => by kernel_rfl
def I95 : Sp := ⟨[(0, .agg c'2), (1, .agg c'13)], [], []⟩
def E95 : SL := [(.ret, ⟨[(4, ob)], [], []⟩)]
def S95_0 : Sp := ⟨[(2, op 32), (3, op 48), (38, oro 3), (39, oi64), (40, oi64)], [(32, c'2), (48, c'13)], []⟩
def X95_0 : SL := [(.exit 0, ⟨[(2, op 32), (3, op 48)], [(32, c'2), (48, c'13)], []⟩), (.ret, ⟨[(4, ob)], [], []⟩)]
def S95_1 : Sp := ⟨[(2, op 32), (3, op 48), (52, oro 98), (53, oi64), (54, oi64)], [(32, c'2), (48, c'13)], []⟩
def X95_1 : SL := [(.exit 2, ⟨[], [], []⟩), (.ret, ⟨[(4, ob)], [], []⟩)]
def J95 : Nat → Option SL := jl [(1048589, [(.normal, ⟨[(2, op 32), (3, op 48), (52, oro 98), (53, oi64), (54, oi64), (77, ob)], [(32, c'2), (48, c'13)], []⟩)])]
noncomputable def P95 : Nat → St G → M (Ex × St G) := pl [lpX S95_0 X95_0 ni1', lpX S95_1 X95_1 nh6']
theorem t95 : ∀ p ∈ [(74, e63), (112, e94), (102, e76)], FnOK Try.prog G p.1 p.2 := (tc k63 (tc k94 (tc k76 tn)))
theorem l95_1 : LoopOK Try.prog G 79 (P95 1) (ni' (ne' Try.f63) 1) := lk cx t95 J95 2 S95_1 X95_1 (rfl : nh6' = _) (by kernel_rfl) (an0 (by kernel_rfl)) fun x => by kernel_rfl
theorem l95_0 : LoopOK Try.prog G 79 (P95 0) (ni' (ne' Try.f63) 0) := lk cx t95 J95 1 S95_0 X95_0 (rfl : ni1' = _) (by kernel_rfl) (an0 (by kernel_rfl)) fun x => by kernel_rfl
noncomputable def e95 : Fe G := ⟨I95, E95, fun x => nd4' x.1.1.1 x.1.1.2.1 x.1.1.2.2.1 x.1.1.2.2.2.1 x.1.1.2.2.2.2.1 x.1.1.2.2.2.2.2.1 x.1.1.2.2.2.2.2.2.1 x.1.1.2.2.2.2.2.2.2.1 x.1.2.1.1 x.1.2.1.2.1 x.1.2.1.2.2.1 x.1.2.1.2.2.2.1, Try.f63.results.toList⟩
theorem k95 : FnOK Try.prog G 63 e95 := fk cx t95 J95 (lp := P95) Try.func63 (by kernel_rfl) (by kernel_rfl) rfl (nh' _ (by kernel_rfl) (nf' l95_0 (nf' l95_1 nk'))) fun x => by kernel_rfl
def I96 : Sp := ⟨[(0, oro 3)], [], []⟩
def E96 : SL := [(.ret, ⟨[(2, .one (.own 32768 3))], [], []⟩)]
noncomputable def e96 : Fe G := ⟨I96, E96, fun x => ndm' x.1.1, Try.f105.results.toList⟩
theorem s96 : cloFe G 2 3 = e96 := by kernel_rfl
theorem k96 : FnOK Try.prog G 105 e96 := s96 ▸ nse' (r := 2) (t := 3) sigOK ⟨_, Try.func105, by kernel_rfl, by kernel_rfl⟩ (tS := 24) (size := 1) (bytes := Try.t3.bytes) (by kernel_rfl) (by kernel_rfl) (Nat.le_of_ble_eq_true (by kernel_rfl)) (fun w a n c news => nwb' _ rfl (by kernel_rfl) w a n c news) (nxd')
def I97 : Sp := ⟨[(0, oro 4)], [], []⟩
def E97 : SL := [(.ret, ⟨[(2, .one (.own 32768 4))], [], []⟩)]
noncomputable def e97 : Fe G := ⟨I97, E97, fun x => nbq' x.1.1, Try.f106.results.toList⟩
theorem s97 : cloFe G 2 4 = e97 := by kernel_rfl
theorem k97 : FnOK Try.prog G 106 e97 := s97 ▸ nse' (r := 2) (t := 4) sigOK ⟨_, Try.func106, by kernel_rfl, by kernel_rfl⟩ (tS := 25) (size := 1) (bytes := Try.t4.bytes) (by kernel_rfl) (by kernel_rfl) (Nat.le_of_ble_eq_true (by kernel_rfl)) (fun w a n c news => nvw' _ rfl (by kernel_rfl) w a n c news) (nw3')
def I98 : Sp := ⟨[(0, oro 98)], [], []⟩
def E98 : SL := [(.ret, ⟨[(2, .one (.own 32768 98))], [], []⟩)]
noncomputable def e98 : Fe G := ⟨I98, E98, fun x => nb1' x.1.1, Try.f107.results.toList⟩
theorem s98 : cloFe G 2 98 = e98 := by kernel_rfl
theorem k98 : FnOK Try.prog G 107 e98 := s98 ▸ nse' (r := 2) (t := 98) sigOK ⟨_, Try.func107, by kernel_rfl, by kernel_rfl⟩ (tS := 26) (size := 5) (bytes := Try.t98.bytes) (by kernel_rfl) (by kernel_rfl) (Nat.le_of_ble_eq_true (by kernel_rfl)) (fun w a n c news => nv7' _ rfl (by kernel_rfl) w a n c news) (nwx')
def I99 : Sp := ⟨[(0, .agg c'13)], [], []⟩
def E99 : SL := [(.ret, ⟨[(2, op 32)], [(32, c'10)], []⟩)]
noncomputable def e99 : Fe G := ⟨I99, E99, fun x => nmb' x.1.1.1 x.1.1.2.1 x.1.1.2.2.1 x.1.1.2.2.2.1, Try.f55.results.toList⟩
theorem k99 : FnOK Try.prog G 55 e99 := fk cx (tc k96 (tc k97 (tc k98 tn))) (jl []) (lp := (pl [])) Try.func55 (by kernel_rfl) (by kernel_rfl) rfl (an0 (by kernel_rfl)) fun x => by kernel_rfl
def I100 : Sp := ⟨[(0, .agg c'2), (1, .agg c'13), (2, .agg c'11)], [], []⟩
def E100 : SL := [(.ret, ⟨[(6, op 96), (7, oi64)], [(96, c'10)], []⟩)]
noncomputable def e100 : Fe G := ⟨I100, E100, fun x => npp' x.1.1.1 x.1.1.2.1 x.1.1.2.2.1 x.1.1.2.2.2.1 x.1.1.2.2.2.2.1 x.1.1.2.2.2.2.2.1 x.1.1.2.2.2.2.2.2.1 x.1.1.2.2.2.2.2.2.2.1 x.1.2.1.1 x.1.2.1.2.1 x.1.2.1.2.2.1 x.1.2.1.2.2.2.1 x.1.2.2.1.1 x.1.2.2.1.2.1 x.1.2.2.1.2.2.1 x.1.2.2.1.2.2.2.1 x.1.2.2.1.2.2.2.2.1, Try.f48.results.toList⟩
theorem k100 : FnOK Try.prog G 48 e100 := fk cx (tc k95 (tc k70 (tc k99 (tc k81 tn)))) (jl []) (lp := (pl [])) Try.func48 (by kernel_rfl) (by kernel_rfl) rfl (an0 (by kernel_rfl)) fun x => by kernel_rfl
def I101 : Sp := ⟨[(0, oi64), (1, .agg c'19)], [], []⟩
def E101 : SL := [(.ret, ⟨[(4, ob)], [], []⟩)]
noncomputable def e101 : Fe G := ⟨I101, E101, fun x => nde' x.1.1 x.1.2.1.1 x.1.2.1.2.1 x.1.2.1.2.2.1, Try.f49.results.toList⟩
theorem k101 : FnOK Try.prog G 49 e101 := fk cx tn (jl [(1048577, [(.normal, ⟨[(4, ob)], [], []⟩)])]) (lp := (pl [])) Try.func49 (by kernel_rfl) (by kernel_rfl) rfl (an0 (by kernel_rfl)) fun x => by kernel_rfl
def I102 : Sp := ⟨[(0, .agg c'2), (1, .agg c'13)], [], []⟩
def E102 : SL := [(.ret, ⟨[(4, ob)], [], []⟩)]
noncomputable def e102 : Fe G := ⟨I102, E102, fun x => nq1' x.1.1.1 x.1.1.2.1 x.1.1.2.2.1 x.1.1.2.2.2.1 x.1.1.2.2.2.2.1 x.1.1.2.2.2.2.2.1 x.1.1.2.2.2.2.2.2.1 x.1.1.2.2.2.2.2.2.2.1 x.1.2.1.1 x.1.2.1.2.1 x.1.2.1.2.2.1 x.1.2.1.2.2.2.1, Try.f51.results.toList⟩
theorem k102 : FnOK Try.prog G 51 e102 := fk cx (tc k95 tn) (jl [(1048577, [(.normal, ⟨[(4, ob)], [], []⟩)])]) (lp := (pl [])) Try.func51 (by kernel_rfl) (by kernel_rfl) rfl (an0 (by kernel_rfl)) fun x => by kernel_rfl
def I103 : Sp := ⟨[(0, .agg c'2), (1, .agg c'11)], [], []⟩
def E103 : SL := [(.ret, ⟨[(4, os), (5, oi64)], [], []⟩)]
noncomputable def e103 : Fe G := ⟨I103, E103, fun x => nip' x.1.1.1 x.1.1.2.1 x.1.1.2.2.1 x.1.1.2.2.2.1 x.1.1.2.2.2.2.1 x.1.1.2.2.2.2.2.1 x.1.1.2.2.2.2.2.2.1 x.1.1.2.2.2.2.2.2.2.1 x.1.2.1.1 x.1.2.1.2.1 x.1.2.1.2.2.1 x.1.2.1.2.2.2.1 x.1.2.1.2.2.2.2.1, Try.f52.results.toList⟩
theorem k103 : FnOK Try.prog G 52 e103 := fk cx (tc k70 (tc k66 tn)) (jl []) (lp := (pl [])) Try.func52 (by kernel_rfl) (by kernel_rfl) rfl (an0 (by kernel_rfl)) fun x => by kernel_rfl
def I104 : Sp := ⟨[(0, oi64), (1, .agg c'19), (2, oi64), (3, oi64)], [], []⟩
def E104 : SL := [(.ret, ⟨[(8, oi64)], [], []⟩)]
noncomputable def e104 : Fe G := ⟨I104, E104, fun x => nhb' x.1.1 x.1.2.1.1 x.1.2.1.2.1 x.1.2.1.2.2.1 x.1.2.2.1 x.1.2.2.2.1, Try.f104.results.toList⟩
theorem k104 : FnOK Try.prog G 104 e104 := fk cx (tc k101 tn) (jl [(1048579, [(.normal, ⟨[(3, oi64), (14, ob)], [], []⟩)])]) (lp := (pl [])) Try.func104 (by kernel_rfl) (by kernel_rfl) rfl (an0 (by kernel_rfl)) fun x => by kernel_rfl
def I105 : Sp := ⟨[(0, oi64), (1, .agg c'19), (2, oi64), (3, os), (4, oi64)], [], []⟩
def E105 : SL := [(.ret, ⟨[(10, op 160), (11, oi64), (12, oi64)], [(160, c'19)], []⟩)]
noncomputable def e105 : Fe G := ⟨I105, E105, fun x => nka' x.1.1 x.1.2.1.1 x.1.2.1.2.1 x.1.2.1.2.2.1 x.1.2.2.1 x.1.2.2.2.1 x.1.2.2.2.2.1, Try.f54.results.toList⟩
theorem k105 : FnOK Try.prog G 54 e105 := fk cx (tc k104 tn) (jl []) (lp := (pl [])) Try.func54 (by kernel_rfl) (by kernel_rfl) rfl (an0 (by kernel_rfl)) fun x => by kernel_rfl
def I106 : Sp := ⟨[(0, oi64), (1, oi64), (2, op 65536), (3, op 65537)], [(65536, [.own 32768 56]), (65537, [.int .i64])], []⟩
def E106 : SL := [(.normal, ⟨[], [(65536, [.own 32768 56]), (65537, [.int .i64])], [65536, 65537]⟩)]
noncomputable def e106 : Fe G := ⟨I106, E106, fun x => nfc' x.1.1 x.1.2.1 x.2.1.1 x.2.2.1.1, Try.f113.results.toList⟩
theorem k106 : FnOK Try.prog G 113 e106 := fk cx tn (jl []) (lp := (pl [])) Try.func113 (by kernel_rfl) (by kernel_rfl) rfl (an0 (by kernel_rfl)) fun x => by kernel_rfl
def I107 : Sp := ⟨[(0, ob)], [], []⟩
def E107 : SL := [(.ret, ⟨[(2, oi64)], [], []⟩)]
noncomputable def e107 : Fe G := ⟨I107, E107, fun x => nij' x.1.1, Try.f114.results.toList⟩
theorem k107 : FnOK Try.prog G 114 e107 := fk cx tn (jl []) (lp := (pl [])) Try.func114 (by kernel_rfl) (by kernel_rfl) rfl (an0 (by kernel_rfl)) fun x => by kernel_rfl
def I108 : Sp := ⟨[(0, oi64), (1, oi64), (2, oi64), (3, op 65536), (4, op 65537)], [(65536, [.own 32768 56]), (65537, c'12)], []⟩
def E108 : SL := [(.normal, ⟨[], [(65536, [.own 32768 56]), (65537, c'12)], [65536, 65537]⟩)]
noncomputable def e108 : Fe G := ⟨I108, E108, fun x => nfb' x.1.1 x.1.2.1 x.1.2.2.1 x.2.1.1 x.2.2.1.1 x.2.2.1.2.1 x.2.2.1.2.2.1 x.2.2.1.2.2.2.1 x.2.2.1.2.2.2.2.1, Try.f115.results.toList⟩
theorem k108 : FnOK Try.prog G 115 e108 := fk cx tn (jl []) (lp := (pl [])) Try.func115 (by kernel_rfl) (by kernel_rfl) rfl (an0 (by kernel_rfl)) fun x => by kernel_rfl
def I109 : Sp := ⟨[(0, .agg c'2), (1, .agg c'13)], [], []⟩
def E109 : SL := [(.ret, ⟨[(4, .one (.own 32768 56))], [], []⟩)]
def n1s' : Sp := ⟨[(3, op 48), (5, op 80), (17, oi64), (18, oi64)], [(48, c'13), (80, [.own 32768 56])], []⟩
def nzc' : SL := [(.exit 0, ⟨[(3, op 48), (5, op 80)], [(48, c'13), (80, [.own 32768 56])], []⟩)]
def n1k' : Sp := ⟨[(5, op 80), (47, oro 98), (48, oi64), (49, oi64)], [(80, [.own 32768 56])], []⟩
def n0n' : SL := [(.exit 2, ⟨[(5, op 80)], [(80, [.own 32768 56])], []⟩)]
def J109 : Nat → Option SL := jl []
noncomputable def P109 : Nat → St G → M (Ex × St G) := pl [lpX n1s' nzc' nhi', lpX n1k' n0n' nhn']
theorem t109 : ∀ p ∈ [(63, e95), (113, e106), (114, e107), (115, e108)], FnOK Try.prog G p.1 p.2 := (tc k95 (tc k106 (tc k107 (tc k108 tn))))
theorem n30' : LoopOK Try.prog G 69 (P109 1) (ni' (ne' Try.f64) 1) := lk cx t109 J109 2 n1k' n0n' (rfl : nhn' = _) (by kernel_rfl) (an0 (by kernel_rfl)) fun x => by kernel_rfl
theorem n3z' : LoopOK Try.prog G 69 (P109 0) (ni' (ne' Try.f64) 0) := lk cx t109 J109 1 n1s' nzc' (rfl : nhi' = _) (by kernel_rfl) (an0 (by kernel_rfl)) fun x => by kernel_rfl
noncomputable def e109 : Fe G := ⟨I109, E109, fun x => nmy' x.1.1.1 x.1.1.2.1 x.1.1.2.2.1 x.1.1.2.2.2.1 x.1.1.2.2.2.2.1 x.1.1.2.2.2.2.2.1 x.1.1.2.2.2.2.2.2.1 x.1.1.2.2.2.2.2.2.2.1 x.1.2.1.1 x.1.2.1.2.1 x.1.2.1.2.2.1 x.1.2.1.2.2.2.1, Try.f64.results.toList⟩
theorem k109 : FnOK Try.prog G 64 e109 := fk cx t109 J109 (lp := P109) Try.func64 (by kernel_rfl) (by kernel_rfl) rfl (nh' _ (by kernel_rfl) (nf' n3z' (nf' n30' nk'))) fun x => by kernel_rfl
def I110 : Sp := ⟨[(0, op 65536), (1, os)], [(65536, c'26)], []⟩
def E110 : SL := [(.ret, ⟨[(4, oi64), (5, .one (.nili))], [(65536, c'26)], [65536]⟩)]
noncomputable def e110 : Fe G := ⟨I110, E110, fun x => nel' x.1.2.1 x.2.1.2.1, Try.f65.results.toList⟩
theorem s110 : wsFe G 4 5 133 5 (fun b => (b.toNat : Int)) = e110 := by kernel_rfl
theorem k110 : FnOK Try.prog G 65 e110 := s110 ▸ n29' (tb := 133) (te := 5) sigOK ⟨_, Try.func65, by kernel_rfl, by kernel_rfl⟩ (by intro h; cases h) (fun _ => rfl) (by kernel_rfl) (r0 := 4) (r1 := 5) (by decide) (ofB := fun b => (b.toNat : Int)) (fun _ => rfl) (fun b w a0 v ha hb n xs ho hne s h => ny0' b w a0 v ha hb n xs ho hne s h)
def I111 : Sp := ⟨[(0, op 65536), (1, op 65537)], [(65536, c'19), (65537, [.int .i64])], []⟩
def E111 : SL := [(.normal, ⟨[], [(65536, c'19), (65537, [.int .i64])], [65536, 65537]⟩)]
noncomputable def e111 : Fe G := ⟨I111, E111, fun x => nlx' x.2.1.1 x.2.1.2.1 x.2.1.2.2.1 x.2.2.1.1, Try.f118.results.toList⟩
theorem k111 : FnOK Try.prog G 118 e111 := fk cx tn (jl []) (lp := (pl [])) Try.func118 (by kernel_rfl) (by kernel_rfl) rfl (an0 (by kernel_rfl)) fun x => by kernel_rfl
def I112 : Sp := ⟨[(0, oi64), (1, .agg c'19), (2, oi64), (3, oi64), (4, .one (.clo 118 [] [(65536, 0)]))], [(65536, [.int .i64])], []⟩
def E112 : SL := [(.ret, ⟨[(10, op 160), (11, oi64), (12, oi64)], [(160, c'19), (65536, [.int .i64])], [65536]⟩)]
noncomputable def e112 : Fe G := ⟨I112, E112, fun x => nfo' x.1.1 x.1.2.1.1 x.1.2.1.2.1 x.1.2.1.2.2.1 x.1.2.2.1 x.1.2.2.2.1 x.2.1.1, Try.f117.results.toList⟩
theorem k112 : FnOK Try.prog G 117 e112 := fk cx (tc k104 (tc k111 tn)) (jl []) (lp := (pl [])) Try.func117 (by kernel_rfl) (by kernel_rfl) rfl (an0 (by kernel_rfl)) fun x => by kernel_rfl
def I113 : Sp := ⟨[(0, oi64), (1, .agg c'19), (2, oi64), (3, oi64)], [], []⟩
def E113 : SL := [(.ret, ⟨[(8, op 128), (9, oi64), (10, oi64)], [(128, c'19)], []⟩)]
noncomputable def e113 : Fe G := ⟨I113, E113, fun x => nns' x.1.1 x.1.2.1.1 x.1.2.1.2.1 x.1.2.1.2.2.1 x.1.2.2.1 x.1.2.2.2.1, Try.f66.results.toList⟩
theorem k113 : FnOK Try.prog G 66 e113 := fk cx (tc k112 tn) (jl []) (lp := (pl [])) Try.func66 (by kernel_rfl) (by kernel_rfl) rfl (an0 (by kernel_rfl)) fun x => by kernel_rfl
def I114 : Sp := ⟨[(0, op 65536)], [(65536, c'26)], []⟩
def E114 : SL := [(.ret, ⟨[(2, os)], [(65536, c'27)], [65536]⟩)]
noncomputable def e114 : Fe G := ⟨I114, E114, fun x => ngh' x.2.1.2.1, Try.f67.results.toList⟩
theorem s114 : stFe G 2 133 5 = e114 := by kernel_rfl
theorem k114 : FnOK Try.prog G 67 e114 := s114 ▸ n2r' (tb := 133) (te := 5) sigOK ⟨_, Try.func67, by kernel_rfl, by kernel_rfl⟩ (by intro h; cases h) (by kernel_rfl) (r0 := 2) (fun _ => rfl) (fun b w a0 g0 cap cur l h0 hb hg hn hc h63 hx => nyr' b w a0 g0 cap cur l h0 hb hg hn hc h63 hx)
def I115 : Sp := ⟨[(0, op 65536), (1, op 65537)], [(65536, c'19), (65537, [.int .i64])], []⟩
def E115 : SL := [(.normal, ⟨[], [(65536, c'19), (65537, [.int .i64])], [65536, 65537]⟩)]
noncomputable def e115 : Fe G := ⟨I115, E115, fun x => nk5' x.2.1.1 x.2.1.2.1 x.2.1.2.2.1 x.2.2.1.1, Try.f119.results.toList⟩
theorem k115 : FnOK Try.prog G 119 e115 := fk cx tn (jl []) (lp := (pl [])) Try.func119 (by kernel_rfl) (by kernel_rfl) rfl (an0 (by kernel_rfl)) fun x => by kernel_rfl
def I116 : Sp := ⟨[(0, oi64), (1, .agg c'19), (2, oi64), (3, oi64), (4, .one (.clo 119 [] [(65536, 0)]))], [(65536, [.int .i64])], []⟩
def E116 : SL := [(.ret, ⟨[(10, op 160), (11, oi64), (12, oi64)], [(160, c'19), (65536, [.int .i64])], [65536]⟩)]
noncomputable def e116 : Fe G := ⟨I116, E116, fun x => ne7' x.1.1 x.1.2.1.1 x.1.2.1.2.1 x.1.2.1.2.2.1 x.1.2.2.1 x.1.2.2.2.1 x.2.1.1, Try.f117.results.toList⟩
theorem k116 : FnOK Try.prog G 117 e116 := fk cx (tc k104 (tc k115 tn)) (jl []) (lp := (pl [])) Try.func117 (by kernel_rfl) (by kernel_rfl) rfl (an0 (by kernel_rfl)) fun x => by kernel_rfl
def I117 : Sp := ⟨[(0, oi64), (1, .agg c'19), (2, oi64), (3, oi64)], [], []⟩
def E117 : SL := [(.ret, ⟨[(8, op 128), (9, oi64), (10, oi64)], [(128, c'19)], []⟩)]
noncomputable def e117 : Fe G := ⟨I117, E117, fun x => nmn' x.1.1 x.1.2.1.1 x.1.2.1.2.1 x.1.2.1.2.2.1 x.1.2.2.1 x.1.2.2.2.1, Try.f68.results.toList⟩
theorem k117 : FnOK Try.prog G 68 e117 := fk cx (tc k116 tn) (jl []) (lp := (pl [])) Try.func68 (by kernel_rfl) (by kernel_rfl) rfl (an0 (by kernel_rfl)) fun x => by kernel_rfl
def I118 : Sp := ⟨[(0, .agg c'2), (1, .agg c'19), (2, .agg c'13), (3, oi64)], [], []⟩
def E118 : SL := [(.ret, ⟨[(8, op 128), (9, oi64), (10, oi64)], [(128, c'19)], []⟩)]
def n0o' : Sp := ⟨[(3, oi64), (4, op 64), (5, op 80), (8, op 128), (11, op 176), (36, .one (.own 32768 56)), (37, oi64), (38, oi64)], [(64, c'2), (80, c'19), (128, c'19), (176, c'28)], []⟩
def n0d' : SL := [(.exit 0, ⟨[(3, oi64), (4, op 64), (5, op 80), (8, op 128), (11, op 176)], [(64, c'2), (80, c'19), (128, c'19), (176, c'29)], []⟩)]
def J118 : Nat → Option SL := jl [(15, [(.normal, ⟨[(3, oi64), (4, op 64), (5, op 80), (8, op 128), (16, oi64), (17, oi64)], [(64, c'2), (80, c'19), (128, c'19)], []⟩)])]
noncomputable def P118 : Nat → St G → M (Ex × St G) := pl [lpX n0o' n0d' nir']
theorem t118 : ∀ p ∈ [(49, e101), (63, e95), (64, e109), (52, e103), (65, e110), (66, e113), (67, e114), (54, e105), (68, e117)], FnOK Try.prog G p.1 p.2 := (tc k101 (tc k95 (tc k109 (tc k103 (tc k110 (tc k113 (tc k114 (tc k105 (tc k117 tn)))))))))
theorem n46' : LoopOK Try.prog G 92 (P118 0) (ni' (ne' Try.f23) 0) := lk cx t118 J118 1 n0o' n0d' (rfl : nir' = _) (by kernel_rfl) (an0 (by kernel_rfl)) fun x => by kernel_rfl
noncomputable def e118 : Fe G := ⟨I118, E118, fun x => nj9' x.1.1.1 x.1.1.2.1 x.1.1.2.2.1 x.1.1.2.2.2.1 x.1.1.2.2.2.2.1 x.1.1.2.2.2.2.2.1 x.1.1.2.2.2.2.2.2.1 x.1.1.2.2.2.2.2.2.2.1 x.1.2.1.1 x.1.2.1.2.1 x.1.2.1.2.2.1 x.1.2.2.1.1 x.1.2.2.1.2.1 x.1.2.2.1.2.2.1 x.1.2.2.1.2.2.2.1 x.1.2.2.2.1, Try.f23.results.toList⟩
theorem k118 : FnOK Try.prog G 23 e118 := fk cx t118 J118 (lp := P118) Try.func23 (by kernel_rfl) (by kernel_rfl) rfl (nh' _ (by kernel_rfl) (nf' n46' nk')) fun x => by kernel_rfl
def I119 : Sp := ⟨[(0, .agg c'2), (1, .agg c'19), (2, .agg c'13), (3, .agg c'11), (4, oi64)], [], []⟩
def E119 : SL := [(.ret, ⟨[(10, op 160), (11, op 176), (12, oi64), (13, oi64)], [(160, c'19), (176, c'10)], []⟩)]
noncomputable def e119 : Fe G := ⟨I119, E119, fun x => ngl' x.1.1.1 x.1.1.2.1 x.1.1.2.2.1 x.1.1.2.2.2.1 x.1.1.2.2.2.2.1 x.1.1.2.2.2.2.2.1 x.1.1.2.2.2.2.2.2.1 x.1.1.2.2.2.2.2.2.2.1 x.1.2.1.1 x.1.2.1.2.1 x.1.2.1.2.2.1 x.1.2.2.1.1 x.1.2.2.1.2.1 x.1.2.2.1.2.2.1 x.1.2.2.1.2.2.2.1 x.1.2.2.2.1.1 x.1.2.2.2.1.2.1 x.1.2.2.2.1.2.2.1 x.1.2.2.2.1.2.2.2.1 x.1.2.2.2.1.2.2.2.2.1 x.1.2.2.2.2.1, Try.f20.results.toList⟩
theorem k119 : FnOK Try.prog G 20 e119 := fk cx (tc k100 (tc k101 (tc k78 (tc k102 (tc k103 (tc k65 (tc k105 (tc k118 (tc k99 tn))))))))) (jl [(12, [(.normal, ⟨[(4, oi64), (6, op 96), (7, op 112), (10, op 160), (11, op 176), (14, op 224), (15, oi64)], [(96, c'19), (112, c'13), (160, c'19), (176, c'10), (224, c'14)], []⟩)]), (1048581, [(.normal, ⟨[(4, oi64), (5, op 80), (6, op 96), (7, op 112), (8, op 128), (10, op 160), (11, op 176), (14, op 224), (63, ob)], [(80, c'2), (96, c'19), (112, c'13), (128, c'11), (160, c'19), (176, c'10), (224, c'14)], []⟩)])]) (lp := (pl [])) Try.func20 (by kernel_rfl) (by kernel_rfl) rfl (an0 (by kernel_rfl)) fun x => by kernel_rfl
def I120 : Sp := ⟨[], [], []⟩
def E120 : SL := [(.ret, ⟨[(0, ob)], [], []⟩)]
noncomputable def H120 (h_l10_Building : ((Int × Int × Unit) × Unit) → Option ((Unit × Unit) × (T'0 × Unit))) (h_log_Initial : ((T'0 × Unit) × Unit) → Option ((Unit × Unit) × (T'14 × Unit))) (h_log_Append : (T'76 × Unit) → Option (T'16 × (T'35 × T'14 × Unit))) (h_log_Same : ((T'14 × T'14 × Unit) × Unit) → Option ((Bool × Unit) × Unit)) (h_log_Replay : ((T'0 × T'35 × Unit) × Unit) → Option ((Unit × Unit) × (T'14 × Unit)))  : Option ((Bool × Unit) × Unit) :=
 (h_l10_Building (((9 : Int), (30 : Int), ()), ())).bind fun y1 =>
 (h_log_Initial ((y1.2.1, ()), ())).bind fun y2 =>
 (h_log_Append ((y1.2.1, ((ByteArray.mk (Array.mk [])), (ByteArray.mk (Array.mk [])), (0 : Int), ()), y2.2.1, ((1 : Int), (2 : Int), (1 : Int), (0 : Int), (0 : Int), ()), (100 : Int), ()), ())).bind fun y3 =>
 (h_log_Append ((y1.2.1, y3.2.1, y3.2.2.1, ((3 : Int), (2 : Int), (1 : Int), (0 : Int), (0 : Int), ()), y3.1.2.2.1, ()), ())).bind fun y4 =>
 (h_log_Append ((y1.2.1, y4.2.1, y4.2.2.1, ((2 : Int), (2 : Int), (1 : Int), (0 : Int), (0 : Int), ()), (5 : Int), ()), ())).bind fun y5 =>
 Option.bind (bif (y3.1.2.2.2.1 == (0 : Int)) then
 bif (y3.1.2.2.1 == (94 : Int)) then
 bif (y4.1.2.2.2.1 == (0 : Int)) then
 bif (y4.1.2.2.1 == (88 : Int)) then
 bif (((List.length y4.2.2.1.2.2.2.1 : Nat) : Int) == (1 : Int)) then
 bif (inB (0 : Int) (List.length y4.2.2.1.2.2.2.1)) then
 let z0 : Entry := (List.getD y4.2.2.1.2.2.2.1 (Int.toNat (0 : Int)) (Entry.mk (0 : Int) (0 : Int) (0 : Int) (0 : Int) false))
 bif ((z0.Floor == (2 : Int)) && ((z0.Dir == (1 : Int)) && ((z0.Car == (0 : Int)) && ((z0.Moves == (0 : Int)) && ((z0.Moved == false) && true))))) then
 bif (y5.1.2.2.2.1 == (8 : Int)) then
 (h_log_Same ((y5.2.2.1, y4.2.2.1, ()), ())).bind fun y6 =>
 bif y6.1.1 then
 (h_log_Replay ((y1.2.1, y5.2.1, ()), ())).bind fun y7 =>
 (h_log_Same ((y7.2.1, y4.2.2.1, ()), ())).bind fun y8 =>
 some ((y8.1.1, ()), ())
 else
 some ((false, ()), ())
 else
 some ((false, ()), ())
 else
 some ((false, ()), ())
 else
 none
 else
 some ((false, ()), ())
 else
 some ((false, ()), ())
 else
 some ((false, ()), ())
 else
 some ((false, ()), ())
 else
 some ((false, ()), ())) fun y9 =>
 some ((y9.1.1, ()), ())
theorem q120 (h_l10_Building : ((Int × Int × Unit) × Unit) → Option ((Unit × Unit) × (T'0 × Unit))) (h_log_Initial : ((T'0 × Unit) × Unit) → Option ((Unit × Unit) × (T'14 × Unit))) (h_log_Append : (T'76 × Unit) → Option (T'16 × (T'35 × T'14 × Unit))) (h_log_Same : ((T'14 × T'14 × Unit) × Unit) → Option ((Bool × Unit) × Unit)) (h_log_Replay : ((T'0 × T'35 × Unit) × Unit) → Option ((Unit × Unit) × (T'14 × Unit))) (x : I120.T G) : endI (cfP [(9, Fe.mk (G := G) I1 E1 h_l10_Building Try.f9.results.toList), (29, Fe.mk (G := G) I64 E64 h_log_Initial Try.f29.results.toList), (20, Fe.mk (G := G) I119 E119 h_log_Append Try.f20.results.toList), (46, Fe.mk (G := G) I86 E86 h_log_Same Try.f46.results.toList), (27, Fe.mk (G := G) I82 E82 h_log_Replay Try.f27.results.toList)]) (pl []) (jl [(1048581, [(.normal, ⟨[(0, ob)], [], []⟩)])]) 89 (ne' Try.f17) I120 E120 x = H120 h_l10_Building h_log_Initial h_log_Append h_log_Same h_log_Replay  := by kernel_rfl
noncomputable def e120 : Fe G := ⟨I120, E120, fun _ => nym', Try.f17.results.toList⟩
theorem k120 : FnOK Try.prog G 17 e120 := fk cx (tc k1 (tc k64 (tc k119 (tc k86 (tc k82 tn))))) (jl [(1048581, [(.normal, ⟨[(0, ob)], [], []⟩)])]) (lp := (pl [])) Try.func17 (by kernel_rfl) (by kernel_rfl) rfl (an0 (by kernel_rfl)) fun x => (q120 (fun x => nbb' x.1.1 x.1.2.1) (fun x => nd6' x.1.1.1 x.1.1.2.1 x.1.1.2.2.1 x.1.1.2.2.2.1 x.1.1.2.2.2.2.1 x.1.1.2.2.2.2.2.1 x.1.1.2.2.2.2.2.2.1 x.1.1.2.2.2.2.2.2.2.1) (fun x => ngl' x.1.1.1 x.1.1.2.1 x.1.1.2.2.1 x.1.1.2.2.2.1 x.1.1.2.2.2.2.1 x.1.1.2.2.2.2.2.1 x.1.1.2.2.2.2.2.2.1 x.1.1.2.2.2.2.2.2.2.1 x.1.2.1.1 x.1.2.1.2.1 x.1.2.1.2.2.1 x.1.2.2.1.1 x.1.2.2.1.2.1 x.1.2.2.1.2.2.1 x.1.2.2.1.2.2.2.1 x.1.2.2.2.1.1 x.1.2.2.2.1.2.1 x.1.2.2.2.1.2.2.1 x.1.2.2.2.1.2.2.2.1 x.1.2.2.2.1.2.2.2.2.1 x.1.2.2.2.2.1) (fun x => nec' x.1.1.1 x.1.1.2.1 x.1.1.2.2.1 x.1.1.2.2.2.1 x.1.2.1.1 x.1.2.1.2.1 x.1.2.1.2.2.1 x.1.2.1.2.2.2.1) (fun x => ndu' x.1.1.1 x.1.1.2.1 x.1.1.2.2.1 x.1.1.2.2.2.1 x.1.1.2.2.2.2.1 x.1.1.2.2.2.2.2.1 x.1.1.2.2.2.2.2.2.1 x.1.1.2.2.2.2.2.2.2.1 x.1.2.1.1 x.1.2.1.2.1 x.1.2.1.2.2.1) x).trans (by kernel_rfl)
def I121 : Sp := ⟨[(0, .agg c'2), (1, .agg c'19), (2, oi64)], [], []⟩
def E121 : SL := [(.ret, ⟨[(6, op 96), (7, op 112), (8, oi64), (9, oi64)], [(96, c'19), (112, c'10)], []⟩)]
noncomputable def e121 : Fe G := ⟨I121, E121, fun x => nno' x.1.1.1 x.1.1.2.1 x.1.1.2.2.1 x.1.1.2.2.2.1 x.1.1.2.2.2.2.1 x.1.1.2.2.2.2.2.1 x.1.1.2.2.2.2.2.2.1 x.1.1.2.2.2.2.2.2.2.1 x.1.2.1.1 x.1.2.1.2.1 x.1.2.1.2.2.1 x.1.2.2.1, Try.f25.results.toList⟩
theorem k121 : FnOK Try.prog G 25 e121 := fk cx (tc k82 (tc k118 tn)) (jl []) (lp := (pl [])) Try.func25 (by kernel_rfl) (by kernel_rfl) rfl (an0 (by kernel_rfl)) fun x => by kernel_rfl
def I122 : Sp := ⟨[(0, .agg c'2), (1, .agg c'13)], [], []⟩
def E122 : SL := [(.ret, ⟨[(4, ob)], [], []⟩)]
noncomputable def e122 : Fe G := ⟨I122, E122, fun x => ni8' x.1.1.1 x.1.1.2.1 x.1.1.2.2.1 x.1.1.2.2.2.1 x.1.1.2.2.2.2.1 x.1.1.2.2.2.2.2.1 x.1.1.2.2.2.2.2.2.1 x.1.1.2.2.2.2.2.2.2.1 x.1.2.1.1 x.1.2.1.2.1 x.1.2.1.2.2.1 x.1.2.1.2.2.2.1, Try.f76.results.toList⟩
theorem k122 : FnOK Try.prog G 76 e122 := fk cx (tc k95 tn) (jl [(1048577, [(.normal, ⟨[(4, ob)], [], []⟩)])]) (lp := (pl [])) Try.func76 (by kernel_rfl) (by kernel_rfl) rfl (an0 (by kernel_rfl)) fun x => by kernel_rfl
def I123 : Sp := ⟨[(0, .agg c'13)], [], []⟩
def E123 : SL := [(.ret, ⟨[(2, op 32)], [(32, c'10)], []⟩)]
noncomputable def e123 : Fe G := ⟨I123, E123, fun x => nhp' x.1.1.1 x.1.1.2.1 x.1.1.2.2.1 x.1.1.2.2.2.1, Try.f77.results.toList⟩
theorem k123 : FnOK Try.prog G 77 e123 := fk cx (tc k96 (tc k97 (tc k98 tn))) (jl []) (lp := (pl [])) Try.func77 (by kernel_rfl) (by kernel_rfl) rfl (an0 (by kernel_rfl)) fun x => by kernel_rfl
def I124 : Sp := ⟨[(0, .agg c'2), (1, .agg c'13), (2, .agg c'19)], [], []⟩
def E124 : SL := [(.ret, ⟨[(6, op 96), (7, oi64)], [(96, c'22)], []⟩)]
def S124_0 : Sp := ⟨[(3, op 48), (4, op 64), (6, op 96), (9, op 144), (42, oi64), (43, oi64)], [(48, c'2), (64, c'13), (96, c'22), (144, c'30)], []⟩
def nvi' : SL := [(.exit 0, ⟨[(3, op 48), (4, op 64), (6, op 96), (9, op 144)], [(48, c'2), (64, c'13), (96, c'22), (144, c'30)], []⟩)]
def S124_1 : Sp := ⟨[(3, op 48), (6, op 96), (9, op 144), (53, oro 98), (54, oi64), (55, oi64)], [(48, c'2), (96, c'22), (144, c'30)], []⟩
def nu5' : SL := [(.exit 2, ⟨[(6, op 96), (9, op 144)], [(96, c'22), (144, c'30)], []⟩)]
def J124 : Nat → Option SL := jl [(16, [(.normal, ⟨[(3, op 48), (6, op 96), (9, op 144), (12, oi64), (53, oro 98), (54, oi64), (55, oi64)], [(48, c'2), (96, c'22), (144, c'30)], []⟩)])]
noncomputable def P124 : Nat → St G → M (Ex × St G) := pl [lpX S124_0 nvi' neo', lpX S124_1 nu5' nem']
theorem t124 : ∀ p ∈ [(76, e122), (49, e101), (77, e123), (78, e91)], FnOK Try.prog G p.1 p.2 := (tc k122 (tc k101 (tc k123 (tc k91 tn))))
noncomputable def n25' (_h_belief_New : (Unit × Unit) → Option ((Unit × Unit) × (T'24 × Unit))) (s53 : List (Entry)) (s54 s55 b_Floors b_Debounce b_Room b_Park : Int) (b_Empty b_Full b_Over : Nat) (b_Cars : List (Car)) (b6_Image_Phases : List (Int)) (b6_Image_Flags b6_Image_Leaving : List (Bool)) (b6_Image_Entries : List (Entry)) (b6_Store_Halves_0 b6_Store_Halves_1 : ByteArray) (b6_Store_Select : Int) (b6_Contacts : List (Debounced)) (b6_Beliefs : List (Belief)) (b6_Cars : List (NewCar)) (b6_Loads : List (Loaded)) (b6_Expect : List (Int)) (b6_Lit : List (Calls)) (b6_Tick b6_Faults b6_Refused : Int) (out_Image_Phases : List (Int)) (out_Image_Flags out_Image_Leaving : List (Bool)) (out_Image_Entries : List (Entry)) (out_Store_Halves_0 out_Store_Halves_1 : ByteArray) (out_Store_Select : Int) (out_Contacts : List (Debounced)) (out_Beliefs : List (Belief)) (out_Cars : List (NewCar)) (out_Loads : List (Loaded)) (out_Expect : List (Int)) (out_Lit : List (Calls)) (out_Tick out_Faults out_Refused : Int) : Option (Sum (T'66 × T'67) ((Unit × Unit × Unit) × (T'25 × T'25 × Unit))) :=
 bif (decide (s55 < s54)) then
 bif (inB s55 (List.length s53)) then
 let z0 : Entry := (List.getD s53 (Int.toNat s55) (Entry.mk (0 : Int) (0 : Int) (0 : Int) (0 : Int) false))
 Option.bind (bif (decide ((0 : Int) ≤ z0.Car)) then
 bif (inB z0.Car (List.length b_Cars)) then
 some (((), (), (), (List.getD b_Cars (Int.toNat z0.Car) (Car.mk (0 : Int) (0 : Int) (0 : Int) (0 : Int) (0 : Int) (0 : Int) (0 : Int) (0 : Int) (0 : Int))).Deadline, s53, s54, s55, ()), ((b_Floors, b_Debounce, b_Room, b_Park, b_Empty, b_Full, b_Over, b_Cars, ()), (b6_Image_Phases, b6_Image_Flags, b6_Image_Leaving, b6_Image_Entries, b6_Store_Halves_0, b6_Store_Halves_1, b6_Store_Select, b6_Contacts, b6_Beliefs, b6_Cars, b6_Loads, b6_Expect, b6_Lit, b6_Tick, b6_Faults, b6_Refused, ()), (out_Image_Phases, out_Image_Flags, out_Image_Leaving, out_Image_Entries, out_Store_Halves_0, out_Store_Halves_1, out_Store_Select, out_Contacts, out_Beliefs, out_Cars, out_Loads, out_Expect, out_Lit, out_Tick, out_Faults, out_Refused, ()), ()))
 else
 none
 else
 some (((), (), (), (0 : Int), s53, s54, s55, ()), ((b_Floors, b_Debounce, b_Room, b_Park, b_Empty, b_Full, b_Over, b_Cars, ()), (b6_Image_Phases, b6_Image_Flags, b6_Image_Leaving, b6_Image_Entries, b6_Store_Halves_0, b6_Store_Halves_1, b6_Store_Select, b6_Contacts, b6_Beliefs, b6_Cars, b6_Loads, b6_Expect, b6_Lit, b6_Tick, b6_Faults, b6_Refused, ()), (out_Image_Phases, out_Image_Flags, out_Image_Leaving, out_Image_Entries, out_Store_Halves_0, out_Store_Halves_1, out_Store_Select, out_Contacts, out_Beliefs, out_Cars, out_Loads, out_Expect, out_Lit, out_Tick, out_Faults, out_Refused, ()), ()))) fun y1 =>
 let z1 : List (Int) := [y1.1.2.2.2.1]
 bif (Nat.ble ((List.length y1.2.2.2.1.2.2.2.2.2.2.2.2.2.2.2.1) + (List.length z1)) 2147483648) then
 some (Sum.inl (((), (), (), y1.1.2.2.2.2.1, y1.1.2.2.2.2.2.1, (IntKind.i64.wrap (y1.1.2.2.2.2.2.2.1 + (1 : Int))), ()), (y1.2.1, y1.2.2.1, (y1.2.2.2.1.1, y1.2.2.2.1.2.1, y1.2.2.2.1.2.2.1, y1.2.2.2.1.2.2.2.1, y1.2.2.2.1.2.2.2.2.1, y1.2.2.2.1.2.2.2.2.2.1, y1.2.2.2.1.2.2.2.2.2.2.1, y1.2.2.2.1.2.2.2.2.2.2.2.1, y1.2.2.2.1.2.2.2.2.2.2.2.2.1, y1.2.2.2.1.2.2.2.2.2.2.2.2.2.1, y1.2.2.2.1.2.2.2.2.2.2.2.2.2.2.1, (y1.2.2.2.1.2.2.2.2.2.2.2.2.2.2.2.1 ++ z1), y1.2.2.2.1.2.2.2.2.2.2.2.2.2.2.2.2.1, y1.2.2.2.1.2.2.2.2.2.2.2.2.2.2.2.2.2.1, y1.2.2.2.1.2.2.2.2.2.2.2.2.2.2.2.2.2.2.1, y1.2.2.2.1.2.2.2.2.2.2.2.2.2.2.2.2.2.2.2.1, ()), ())))
 else
 none
 else
 none
 else
 some (Sum.inr (((), (), ()), ((b6_Image_Phases, b6_Image_Flags, b6_Image_Leaving, b6_Image_Entries, b6_Store_Halves_0, b6_Store_Halves_1, b6_Store_Select, b6_Contacts, b6_Beliefs, b6_Cars, b6_Loads, b6_Expect, b6_Lit, b6_Tick, b6_Faults, b6_Refused, ()), (out_Image_Phases, out_Image_Flags, out_Image_Leaving, out_Image_Entries, out_Store_Halves_0, out_Store_Halves_1, out_Store_Select, out_Contacts, out_Beliefs, out_Cars, out_Loads, out_Expect, out_Lit, out_Tick, out_Faults, out_Refused, ()), ())))
theorem n39' (h_belief_New : (Unit × Unit) → Option ((Unit × Unit) × (T'24 × Unit))) (x : S124_1.T G) : rndI (cfP [(76, e122), (49, e101), (77, e123), (78, Fe.mk (G := G) I91 E91 h_belief_New Try.f78.results.toList)]) P124 J124 77 2 (ni' (ne' Try.f31) 1) S124_1 nu5' x = n25' h_belief_New x.1.2.2.2.1 x.1.2.2.2.2.1 x.1.2.2.2.2.2.1 x.2.1.1 x.2.1.2.1 x.2.1.2.2.1 x.2.1.2.2.2.1 x.2.1.2.2.2.2.1 x.2.1.2.2.2.2.2.1 x.2.1.2.2.2.2.2.2.1 x.2.1.2.2.2.2.2.2.2.1 x.2.2.1.1 x.2.2.1.2.1 x.2.2.1.2.2.1 x.2.2.1.2.2.2.1 x.2.2.1.2.2.2.2.1 x.2.2.1.2.2.2.2.2.1 x.2.2.1.2.2.2.2.2.2.1 x.2.2.1.2.2.2.2.2.2.2.1 x.2.2.1.2.2.2.2.2.2.2.2.1 x.2.2.1.2.2.2.2.2.2.2.2.2.1 x.2.2.1.2.2.2.2.2.2.2.2.2.2.1 x.2.2.1.2.2.2.2.2.2.2.2.2.2.2.1 x.2.2.1.2.2.2.2.2.2.2.2.2.2.2.2.1 x.2.2.1.2.2.2.2.2.2.2.2.2.2.2.2.2.1 x.2.2.1.2.2.2.2.2.2.2.2.2.2.2.2.2.2.1 x.2.2.1.2.2.2.2.2.2.2.2.2.2.2.2.2.2.2.1 x.2.2.2.1.1 x.2.2.2.1.2.1 x.2.2.2.1.2.2.1 x.2.2.2.1.2.2.2.1 x.2.2.2.1.2.2.2.2.1 x.2.2.2.1.2.2.2.2.2.1 x.2.2.2.1.2.2.2.2.2.2.1 x.2.2.2.1.2.2.2.2.2.2.2.1 x.2.2.2.1.2.2.2.2.2.2.2.2.1 x.2.2.2.1.2.2.2.2.2.2.2.2.2.1 x.2.2.2.1.2.2.2.2.2.2.2.2.2.2.1 x.2.2.2.1.2.2.2.2.2.2.2.2.2.2.2.1 x.2.2.2.1.2.2.2.2.2.2.2.2.2.2.2.2.1 x.2.2.2.1.2.2.2.2.2.2.2.2.2.2.2.2.2.1 x.2.2.2.1.2.2.2.2.2.2.2.2.2.2.2.2.2.2.1 x.2.2.2.1.2.2.2.2.2.2.2.2.2.2.2.2.2.2.2.1 := by kernel_rfl
theorem n32' : LoopOK Try.prog G 77 (P124 1) (ni' (ne' Try.f31) 1) := lk cx t124 J124 2 S124_1 nu5' (rfl : nem' = _) (by kernel_rfl) (an0 (by kernel_rfl)) fun x => (n39' (fun _ => ngi' ) x).trans (by kernel_rfl)
noncomputable def n3f' (h_belief_New : (Unit × Unit) → Option ((Unit × Unit) × (T'24 × Unit))) (s42 s43 b_Floors b_Debounce b_Room b_Park : Int) (b_Empty b_Full b_Over : Nat) (b_Cars : List (Car)) (m_Phases : List (Int)) (m_Flags m_Leaving : List (Bool)) (m_Entries : List (Entry)) (b6_Image_Phases : List (Int)) (b6_Image_Flags b6_Image_Leaving : List (Bool)) (b6_Image_Entries : List (Entry)) (b6_Store_Halves_0 b6_Store_Halves_1 : ByteArray) (b6_Store_Select : Int) (b6_Contacts : List (Debounced)) (b6_Beliefs : List (Belief)) (b6_Cars : List (NewCar)) (b6_Loads : List (Loaded)) (b6_Expect : List (Int)) (b6_Lit : List (Calls)) (b6_Tick b6_Faults b6_Refused : Int) (out_Image_Phases : List (Int)) (out_Image_Flags out_Image_Leaving : List (Bool)) (out_Image_Entries : List (Entry)) (out_Store_Halves_0 out_Store_Halves_1 : ByteArray) (out_Store_Select : Int) (out_Contacts : List (Debounced)) (out_Beliefs : List (Belief)) (out_Cars : List (NewCar)) (out_Loads : List (Loaded)) (out_Expect : List (Int)) (out_Lit : List (Calls)) (out_Tick out_Faults out_Refused : Int) : Option (Sum (T'65 × T'27) (T'28 × T'27)) :=
 bif (decide (s43 < s42)) then
 (h_belief_New ((), ())).bind fun y1 =>
 let z0 : List (Belief) := [(Belief.mk y1.2.1.1 y1.2.1.2.1 y1.2.1.2.2.1 y1.2.1.2.2.2.1 y1.2.1.2.2.2.2.1 y1.2.1.2.2.2.2.2.1)]
 bif (Nat.ble ((List.length out_Beliefs) + (List.length z0)) 2147483648) then
 some (Sum.inl (((), (), (), (), s42, (IntKind.i64.wrap (s43 + (1 : Int))), ()), ((b_Floors, b_Debounce, b_Room, b_Park, b_Empty, b_Full, b_Over, b_Cars, ()), (m_Phases, m_Flags, m_Leaving, m_Entries, ()), (b6_Image_Phases, b6_Image_Flags, b6_Image_Leaving, b6_Image_Entries, b6_Store_Halves_0, b6_Store_Halves_1, b6_Store_Select, b6_Contacts, b6_Beliefs, b6_Cars, b6_Loads, b6_Expect, b6_Lit, b6_Tick, b6_Faults, b6_Refused, ()), (out_Image_Phases, out_Image_Flags, out_Image_Leaving, out_Image_Entries, out_Store_Halves_0, out_Store_Halves_1, out_Store_Select, out_Contacts, (out_Beliefs ++ z0), out_Cars, out_Loads, out_Expect, out_Lit, out_Tick, out_Faults, out_Refused, ()), ())))
 else
 none
 else
 some (Sum.inr (((), (), (), (), ()), ((b_Floors, b_Debounce, b_Room, b_Park, b_Empty, b_Full, b_Over, b_Cars, ()), (m_Phases, m_Flags, m_Leaving, m_Entries, ()), (b6_Image_Phases, b6_Image_Flags, b6_Image_Leaving, b6_Image_Entries, b6_Store_Halves_0, b6_Store_Halves_1, b6_Store_Select, b6_Contacts, b6_Beliefs, b6_Cars, b6_Loads, b6_Expect, b6_Lit, b6_Tick, b6_Faults, b6_Refused, ()), (out_Image_Phases, out_Image_Flags, out_Image_Leaving, out_Image_Entries, out_Store_Halves_0, out_Store_Halves_1, out_Store_Select, out_Contacts, out_Beliefs, out_Cars, out_Loads, out_Expect, out_Lit, out_Tick, out_Faults, out_Refused, ()), ())))
theorem n42' (h_belief_New : (Unit × Unit) → Option ((Unit × Unit) × (T'24 × Unit))) (x : S124_0.T G) : rndI (cfP [(76, e122), (49, e101), (77, e123), (78, Fe.mk (G := G) I91 E91 h_belief_New Try.f78.results.toList)]) P124 J124 77 1 (ni' (ne' Try.f31) 0) S124_0 nvi' x = n3f' h_belief_New x.1.2.2.2.2.1 x.1.2.2.2.2.2.1 x.2.1.1 x.2.1.2.1 x.2.1.2.2.1 x.2.1.2.2.2.1 x.2.1.2.2.2.2.1 x.2.1.2.2.2.2.2.1 x.2.1.2.2.2.2.2.2.1 x.2.1.2.2.2.2.2.2.2.1 x.2.2.1.1 x.2.2.1.2.1 x.2.2.1.2.2.1 x.2.2.1.2.2.2.1 x.2.2.2.1.1 x.2.2.2.1.2.1 x.2.2.2.1.2.2.1 x.2.2.2.1.2.2.2.1 x.2.2.2.1.2.2.2.2.1 x.2.2.2.1.2.2.2.2.2.1 x.2.2.2.1.2.2.2.2.2.2.1 x.2.2.2.1.2.2.2.2.2.2.2.1 x.2.2.2.1.2.2.2.2.2.2.2.2.1 x.2.2.2.1.2.2.2.2.2.2.2.2.2.1 x.2.2.2.1.2.2.2.2.2.2.2.2.2.2.1 x.2.2.2.1.2.2.2.2.2.2.2.2.2.2.2.1 x.2.2.2.1.2.2.2.2.2.2.2.2.2.2.2.2.1 x.2.2.2.1.2.2.2.2.2.2.2.2.2.2.2.2.2.1 x.2.2.2.1.2.2.2.2.2.2.2.2.2.2.2.2.2.2.1 x.2.2.2.1.2.2.2.2.2.2.2.2.2.2.2.2.2.2.2.1 x.2.2.2.2.1.1 x.2.2.2.2.1.2.1 x.2.2.2.2.1.2.2.1 x.2.2.2.2.1.2.2.2.1 x.2.2.2.2.1.2.2.2.2.1 x.2.2.2.2.1.2.2.2.2.2.1 x.2.2.2.2.1.2.2.2.2.2.2.1 x.2.2.2.2.1.2.2.2.2.2.2.2.1 x.2.2.2.2.1.2.2.2.2.2.2.2.2.1 x.2.2.2.2.1.2.2.2.2.2.2.2.2.2.1 x.2.2.2.2.1.2.2.2.2.2.2.2.2.2.2.1 x.2.2.2.2.1.2.2.2.2.2.2.2.2.2.2.2.1 x.2.2.2.2.1.2.2.2.2.2.2.2.2.2.2.2.2.1 x.2.2.2.2.1.2.2.2.2.2.2.2.2.2.2.2.2.2.1 x.2.2.2.2.1.2.2.2.2.2.2.2.2.2.2.2.2.2.2.1 x.2.2.2.2.1.2.2.2.2.2.2.2.2.2.2.2.2.2.2.2.1 := by kernel_rfl
theorem n4w' : LoopOK Try.prog G 77 (P124 0) (ni' (ne' Try.f31) 0) := lk cx t124 J124 1 S124_0 nvi' (rfl : neo' = _) (by kernel_rfl) (an0 (by kernel_rfl)) fun x => (n42' (fun _ => ngi' ) x).trans (by kernel_rfl)
noncomputable def H124 (_h_belief_New : (Unit × Unit) → Option ((Unit × Unit) × (T'24 × Unit))) (b_Floors b_Debounce b_Room b_Park : Int) (b_Empty b_Full b_Over : Nat) (b_Cars : List (Car)) (m_Phases : List (Int)) (m_Flags m_Leaving : List (Bool)) (m_Entries : List (Entry)) (s_Halves_0 s_Halves_1 : ByteArray) (s_Select : Int) : Option ((Unit × Int × Unit) × (T'25 × Unit)) :=
 (ni8' b_Floors b_Debounce b_Room b_Park b_Empty b_Full b_Over b_Cars m_Phases m_Flags m_Leaving m_Entries).bind fun y1 =>
 bif (!y1.1.1) then
 some (((), (1 : Int), ()), ((([] : List (Int)), ([] : List (Bool)), ([] : List (Bool)), ([] : List (Entry)), (ByteArray.mk (Array.mk [])), (ByteArray.mk (Array.mk [])), (0 : Int), ([] : List (Debounced)), ([] : List (Belief)), ([] : List (NewCar)), ([] : List (Loaded)), ([] : List (Int)), ([] : List (Calls)), (0 : Int), (0 : Int), (0 : Int), ()), ()))
 else
 (nde' b_Room s_Halves_0 s_Halves_1 s_Select).bind fun y2 =>
 bif (!y2.1.1) then
 some (((), (1 : Int), ()), ((([] : List (Int)), ([] : List (Bool)), ([] : List (Bool)), ([] : List (Entry)), (ByteArray.mk (Array.mk [])), (ByteArray.mk (Array.mk [])), (0 : Int), ([] : List (Debounced)), ([] : List (Belief)), ([] : List (NewCar)), ([] : List (Loaded)), ([] : List (Int)), ([] : List (Calls)), (0 : Int), (0 : Int), (0 : Int), ()), ()))
 else
 let z0 : Int := ((List.length b_Cars : Nat) : Int)
 (nhp' m_Phases m_Flags m_Leaving m_Entries).bind fun y3 =>
 bif (((decide ((0 : Int) ≤ z0)) && (decide (z0 ≤ z0))) && (decide (z0 ≤ (2147483648 : Int)))) then
 bif (((decide ((0 : Int) ≤ z0)) && (decide (z0 ≤ z0))) && (decide (z0 ≤ (2147483648 : Int)))) then
 bif (((decide ((0 : Int) ≤ z0)) && (decide (z0 ≤ z0))) && (decide (z0 ≤ (2147483648 : Int)))) then
 bif (((decide ((0 : Int) ≤ z0)) && (decide (z0 ≤ z0))) && (decide (z0 ≤ (2147483648 : Int)))) then
 (neo' (((), (), (), (), ((List.length b_Cars : Nat) : Int), (0 : Int), ()), ((b_Floors, b_Debounce, b_Room, b_Park, b_Empty, b_Full, b_Over, b_Cars, ()), (m_Phases, m_Flags, m_Leaving, m_Entries, ()), (([] : List (Int)), ([] : List (Bool)), ([] : List (Bool)), ([] : List (Entry)), (ByteArray.mk (Array.mk [])), (ByteArray.mk (Array.mk [])), (0 : Int), ([] : List (Debounced)), ([] : List (Belief)), ([] : List (NewCar)), ([] : List (Loaded)), ([] : List (Int)), ([] : List (Calls)), (0 : Int), (0 : Int), (0 : Int), ()), (y3.2.1.1, y3.2.1.2.1, y3.2.1.2.2.1, y3.2.1.2.2.2.1, s_Halves_0, s_Halves_1, s_Select, (List.replicate (Int.toNat z0) (Debounced.mk (0 : Int) false false false false (0 : Int) (0 : Int) (0 : Int) (0 : Int) (0 : Int) (0 : Int) (0 : Int) (0 : Int) (0 : Int) (0 : Int) (0 : Int) (0 : Int) (0 : Int) (0 : Int) (0 : Int) (0 : Int) (0 : Int) (0 : Int) (0 : Int) (0 : Int) (0 : Int) (0 : Int) (0 : Int) (0 : Int) (0 : Int) (0 : Int) (0 : Int) (0 : Int) (0 : Int) (0 : Int) (0 : Int) (0 : Int) (0 : Int) (0 : Int) (0 : Int) (0 : Int))), ([] : List (Belief)), (List.replicate (Int.toNat z0) (NewCar.mk (0 : Int) (0 : Int) (0 : Int) (0 : Int) (0 : Int) false (0 : Int) (0 : Int) (0 : Int) (0 : Int) (0 : Int) (0 : Int) (0 : Int) false)), (List.replicate (Int.toNat z0) (Loaded.mk (0 : Int))), ([] : List (Int)), (List.replicate (Int.toNat z0) (Calls.mk (0 : Int) (0 : Int))), (0 : Int), (0 : Int), (0 : Int), ()), ()))).bind fun y4 =>
 (nem' (((), (), (), y4.2.2.1.2.2.2.1, ((List.length y4.2.2.1.2.2.2.1 : Nat) : Int), (0 : Int), ()), (y4.2.1, y4.2.2.2.1, y4.2.2.2.2.1, ()))).bind fun y5 =>
 some (((), (0 : Int), ()), (y5.2.2.1, ()))
 else
 none
 else
 none
 else
 none
 else
 none
theorem q124 (h_belief_New : (Unit × Unit) → Option ((Unit × Unit) × (T'24 × Unit))) (x : I124.T G) : endI (cfP [(76, e122), (49, e101), (77, e123), (78, Fe.mk (G := G) I91 E91 h_belief_New Try.f78.results.toList)]) P124 J124 77 (ne' Try.f31) I124 E124 x = H124 h_belief_New x.1.1.1 x.1.1.2.1 x.1.1.2.2.1 x.1.1.2.2.2.1 x.1.1.2.2.2.2.1 x.1.1.2.2.2.2.2.1 x.1.1.2.2.2.2.2.2.1 x.1.1.2.2.2.2.2.2.2.1 x.1.2.1.1 x.1.2.1.2.1 x.1.2.1.2.2.1 x.1.2.1.2.2.2.1 x.1.2.2.1.1 x.1.2.2.1.2.1 x.1.2.2.1.2.2.1 := by kernel_rfl
noncomputable def e124 : Fe G := ⟨I124, E124, fun x => nlz' x.1.1.1 x.1.1.2.1 x.1.1.2.2.1 x.1.1.2.2.2.1 x.1.1.2.2.2.2.1 x.1.1.2.2.2.2.2.1 x.1.1.2.2.2.2.2.2.1 x.1.1.2.2.2.2.2.2.2.1 x.1.2.1.1 x.1.2.1.2.1 x.1.2.1.2.2.1 x.1.2.1.2.2.2.1 x.1.2.2.1.1 x.1.2.2.1.2.1 x.1.2.2.1.2.2.1, Try.f31.results.toList⟩
theorem k124 : FnOK Try.prog G 31 e124 := fk cx t124 J124 (lp := P124) Try.func31 (by kernel_rfl) (by kernel_rfl) rfl (nh' _ (by kernel_rfl) (nf' n4w' (nf' n32' nk'))) fun x => (q124 (fun _ => ngi' ) x).trans (by kernel_rfl)
def I125 : Sp := ⟨[(0, .agg c'2), (1, .agg c'19), (2, oi64)], [], []⟩
def E125 : SL := [(.ret, ⟨[(6, op 96), (7, oi64), (8, oi64)], [(96, c'22)], []⟩)]
noncomputable def e125 : Fe G := ⟨I125, E125, fun x => nev' x.1.1.1 x.1.1.2.1 x.1.1.2.2.1 x.1.1.2.2.2.1 x.1.1.2.2.2.2.1 x.1.1.2.2.2.2.2.1 x.1.1.2.2.2.2.2.2.1 x.1.1.2.2.2.2.2.2.2.1 x.1.2.1.1 x.1.2.1.2.1 x.1.2.1.2.2.1 x.1.2.2.1, Try.f34.results.toList⟩
theorem k125 : FnOK Try.prog G 34 e125 := fk cx (tc k121 (tc k124 tn)) (jl [(2097156, [(.normal, ⟨[(3, op 48), (4, op 64), (6, op 96), (9, op 144), (10, oi64)], [(48, c'2), (64, c'19), (96, c'22), (144, c'13)], []⟩)])]) (lp := (pl [])) Try.func34 (by kernel_rfl) (by kernel_rfl) rfl (an0 (by kernel_rfl)) fun x => by kernel_rfl
def I126 : Sp := ⟨[(0, .agg c'2)], [], []⟩
def E126 : SL := [(.ret, ⟨[(2, op 32), (3, oi64)], [(32, c'22)], []⟩)]
noncomputable def e126 : Fe G := ⟨I126, E126, fun x => nim' x.1.1.1 x.1.1.2.1 x.1.1.2.2.1 x.1.1.2.2.2.1 x.1.1.2.2.2.2.1 x.1.1.2.2.2.2.2.1 x.1.1.2.2.2.2.2.2.1 x.1.1.2.2.2.2.2.2.2.1, Try.f79.results.toList⟩
theorem k126 : FnOK Try.prog G 79 e126 := fk cx (tc k63 (tc k125 tn)) (jl []) (lp := (pl [])) Try.func79 (by kernel_rfl) (by kernel_rfl) rfl (an0 (by kernel_rfl)) fun x => by kernel_rfl
def I127 : Sp := ⟨[(0, oro 81), (1, oro 81)], [], []⟩
def E127 : SL := [(.ret, ⟨[(4, ob)], [], []⟩)]
def nzg' : Sp := ⟨[(0, oro 81), (1, oro 81), (12, oi64), (13, oi64)], [], []⟩
def n1q' : SL := [(.exit 0, ⟨[], [], []⟩), (.ret, ⟨[(4, ob)], [], []⟩)]
def J127 : Nat → Option SL := jl []
noncomputable def P127 : Nat → St G → M (Ex × St G) := pl [lpX nzg' n1q' nbh']
theorem n4a' : LoopOK Try.prog G 26 (P127 0) (ni' (ne' Try.f127) 0) := lk cx tn J127 1 nzg' n1q' (rfl : nbh' = _) (by kernel_rfl) (an0 (by kernel_rfl)) fun x => by kernel_rfl
noncomputable def e127 : Fe G := ⟨I127, E127, fun x => nb7' x.1.1 x.1.2.1, Try.f127.results.toList⟩
theorem k127 : FnOK Try.prog G 127 e127 := fk cx tn J127 (lp := P127) Try.func127 (by kernel_rfl) (by kernel_rfl) rfl (nh' _ (by kernel_rfl) (nf' n4a' nk')) fun x => by kernel_rfl
def I128 : Sp := ⟨[(0, oro 84), (1, oro 84), (2, .one (.clo 129 [] []))], [], []⟩
def E128 : SL := [(.ret, ⟨[(6, ob)], [], []⟩)]
def nz3' : Sp := ⟨[(1, oro 84), (2, .one (.clo 129 [] [])), (15, oro 84), (16, oi64), (17, oi64)], [], []⟩
def nzd' : SL := [(.exit 0, ⟨[], [], []⟩), (.ret, ⟨[(6, ob)], [], []⟩)]
def J128 : Nat → Option SL := jl []
noncomputable def P128 : Nat → St G → M (Ex × St G) := pl [lpX nz3' nzd' np']
theorem t128 : ∀ p ∈ [(129, e93)], FnOK Try.prog G p.1 p.2 := (tc k93 tn)
theorem n35' : LoopOK Try.prog G 32 (P128 0) (ni' (ne' Try.f128) 0) := lk cx t128 J128 1 nz3' nzd' (rfl : np' = _) (by kernel_rfl) (an0 (by kernel_rfl)) fun x => by kernel_rfl
noncomputable def e128 : Fe G := ⟨I128, E128, fun x => n0' x.1.1 x.1.2.1, Try.f128.results.toList⟩
theorem k128 : FnOK Try.prog G 128 e128 := fk cx t128 J128 (lp := P128) Try.func128 (by kernel_rfl) (by kernel_rfl) rfl (nh' _ (by kernel_rfl) (nf' n35' nk')) fun x => by kernel_rfl
def I129 : Sp := ⟨[(0, oro 92), (1, oro 92)], [], []⟩
def E129 : SL := [(.ret, ⟨[(4, ob)], [], []⟩)]
def n0b' : Sp := ⟨[(0, oro 92), (1, oro 92), (12, oi64), (13, oi64)], [], []⟩
def n1l' : SL := [(.exit 0, ⟨[], [], []⟩), (.ret, ⟨[(4, ob)], [], []⟩)]
def J129 : Nat → Option SL := jl []
noncomputable def P129 : Nat → St G → M (Ex × St G) := pl [lpX n0b' n1l' nbn']
theorem n4z' : LoopOK Try.prog G 26 (P129 0) (ni' (ne' Try.f130) 0) := lk cx tn J129 1 n0b' n1l' (rfl : nbn' = _) (by kernel_rfl) (an0 (by kernel_rfl)) fun x => by kernel_rfl
noncomputable def e129 : Fe G := ⟨I129, E129, fun x => nco' x.1.1 x.1.2.1, Try.f130.results.toList⟩
theorem k129 : FnOK Try.prog G 130 e129 := fk cx tn J129 (lp := P129) Try.func130 (by kernel_rfl) (by kernel_rfl) rfl (nh' _ (by kernel_rfl) (nf' n4z' nk')) fun x => by kernel_rfl
def I130 : Sp := ⟨[(0, oro 94), (1, oro 94)], [], []⟩
def E130 : SL := [(.ret, ⟨[(4, ob)], [], []⟩)]
def nzk' : Sp := ⟨[(0, oro 94), (1, oro 94), (12, oi64), (13, oi64)], [], []⟩
def nzl' : SL := [(.exit 0, ⟨[], [], []⟩), (.ret, ⟨[(4, ob)], [], []⟩)]
def J130 : Nat → Option SL := jl []
noncomputable def P130 : Nat → St G → M (Ex × St G) := pl [lpX nzk' nzl' nbo']
theorem n47' : LoopOK Try.prog G 26 (P130 0) (ni' (ne' Try.f131) 0) := lk cx tn J130 1 nzk' nzl' (rfl : nbo' = _) (by kernel_rfl) (an0 (by kernel_rfl)) fun x => by kernel_rfl
noncomputable def e130 : Fe G := ⟨I130, E130, fun x => ncp' x.1.1 x.1.2.1, Try.f131.results.toList⟩
theorem k130 : FnOK Try.prog G 131 e130 := fk cx tn J130 (lp := P130) Try.func131 (by kernel_rfl) (by kernel_rfl) rfl (nh' _ (by kernel_rfl) (nf' n47' nk')) fun x => by kernel_rfl
def I131 : Sp := ⟨[(0, oro 96), (1, oro 96)], [], []⟩
def E131 : SL := [(.ret, ⟨[(4, ob)], [], []⟩)]
def n07' : Sp := ⟨[(0, oro 96), (1, oro 96), (12, oi64), (13, oi64)], [], []⟩
def n1e' : SL := [(.exit 0, ⟨[], [], []⟩), (.ret, ⟨[(4, ob)], [], []⟩)]
def J131 : Nat → Option SL := jl []
noncomputable def P131 : Nat → St G → M (Ex × St G) := pl [lpX n07' n1e' nbt']
theorem n4u' : LoopOK Try.prog G 26 (P131 0) (ni' (ne' Try.f132) 0) := lk cx tn J131 1 n07' n1e' (rfl : nbt' = _) (by kernel_rfl) (an0 (by kernel_rfl)) fun x => by kernel_rfl
noncomputable def e131 : Fe G := ⟨I131, E131, fun x => nc3' x.1.1 x.1.2.1, Try.f132.results.toList⟩
theorem k131 : FnOK Try.prog G 132 e131 := fk cx tn J131 (lp := P131) Try.func132 (by kernel_rfl) (by kernel_rfl) rfl (nh' _ (by kernel_rfl) (nf' n4u' nk')) fun x => by kernel_rfl
def I132 : Sp := ⟨[(0, .agg c'24), (1, .agg c'24)], [], []⟩
def E132 : SL := [(.ret, ⟨[(4, ob)], [], []⟩)]
noncomputable def e132 : Fe G := ⟨I132, E132, fun x => njd' x.1.1.1 x.1.1.2.1 x.1.1.2.2.1 x.1.1.2.2.2.1 x.1.1.2.2.2.2.1 x.1.1.2.2.2.2.2.1 x.1.1.2.2.2.2.2.2.1 x.1.1.2.2.2.2.2.2.2.1 x.1.1.2.2.2.2.2.2.2.2.1 x.1.1.2.2.2.2.2.2.2.2.2.1 x.1.1.2.2.2.2.2.2.2.2.2.2.1 x.1.1.2.2.2.2.2.2.2.2.2.2.2.1 x.1.1.2.2.2.2.2.2.2.2.2.2.2.2.1 x.1.1.2.2.2.2.2.2.2.2.2.2.2.2.2.1 x.1.1.2.2.2.2.2.2.2.2.2.2.2.2.2.2.1 x.1.1.2.2.2.2.2.2.2.2.2.2.2.2.2.2.2.1 x.1.2.1.1 x.1.2.1.2.1 x.1.2.1.2.2.1 x.1.2.1.2.2.2.1 x.1.2.1.2.2.2.2.1 x.1.2.1.2.2.2.2.2.1 x.1.2.1.2.2.2.2.2.2.1 x.1.2.1.2.2.2.2.2.2.2.1 x.1.2.1.2.2.2.2.2.2.2.2.1 x.1.2.1.2.2.2.2.2.2.2.2.2.1 x.1.2.1.2.2.2.2.2.2.2.2.2.2.1 x.1.2.1.2.2.2.2.2.2.2.2.2.2.2.1 x.1.2.1.2.2.2.2.2.2.2.2.2.2.2.2.1 x.1.2.1.2.2.2.2.2.2.2.2.2.2.2.2.2.1 x.1.2.1.2.2.2.2.2.2.2.2.2.2.2.2.2.2.1 x.1.2.1.2.2.2.2.2.2.2.2.2.2.2.2.2.2.2.1, Try.f80.results.toList⟩
theorem k132 : FnOK Try.prog G 80 e132 := fk cx (tc k127 (tc k128 (tc k129 (tc k130 (tc k131 (tc k86 (tc k83 tn))))))) (jl [(1048577, [(.normal, ⟨[(2, op 32), (3, op 48), (5, ob)], [(32, c'24), (48, c'24)], []⟩)]), (1048578, [(.normal, ⟨[(4, ob)], [], []⟩)])]) (lp := (pl [])) Try.func80 (by kernel_rfl) (by kernel_rfl) rfl (an0 (by kernel_rfl)) fun x => by kernel_rfl
def I133 : Sp := ⟨[], [], []⟩
def E133 : SL := [(.ret, ⟨[(0, ob)], [], []⟩)]
noncomputable def H133 (h_l10_Building : ((Int × Int × Unit) × Unit) → Option ((Unit × Unit) × (T'0 × Unit))) (h_restart_Start : ((T'0 × Unit) × Unit) → Option ((Unit × Int × Unit) × (T'25 × Unit))) (h_restart_Boot : ((T'0 × T'35 × Int × Unit) × Unit) → Option ((Unit × Int × Int × Unit) × (T'25 × Unit))) (h_restart_Same : ((T'25 × T'25 × Unit) × Unit) → Option ((Bool × Unit) × Unit))  : Option ((Bool × Unit) × Unit) :=
 (h_l10_Building (((9 : Int), (90 : Int), ()), ())).bind fun y1 =>
 Option.bind (some (((), ()), (y1.2.1, ()))) fun y2 =>
 (h_restart_Start ((y2.2.1, ()), ())).bind fun y3 =>
 (h_restart_Boot ((y2.2.1, (y3.2.1.2.2.2.2.1, y3.2.1.2.2.2.2.2.1, y3.2.1.2.2.2.2.2.2.1, ()), (100 : Int), ()), ())).bind fun y4 =>
 (h_restart_Boot ((y2.2.1, (y3.2.1.2.2.2.2.1, y3.2.1.2.2.2.2.2.1, y3.2.1.2.2.2.2.2.2.1, ()), (0 : Int), ()), ())).bind fun y5 =>
 Option.bind (bif (y3.1.2.1 == (0 : Int)) then
 bif (((List.length y3.2.1.2.2.2.2.2.2.2.2.1 : Nat) : Int) == (2 : Int)) then
 bif (inB (1 : Int) (List.length y3.2.1.2.2.2.2.2.2.2.2.1)) then
 bif ((List.getD y3.2.1.2.2.2.2.2.2.2.2.1 (Int.toNat (1 : Int)) (Belief.mk (0 : Int) (0 : Int) (0 : Int) [] (0 : Int) false)).Floor == (-1 : Int)) then
 bif (((List.length y3.2.1.1 : Nat) : Int) == (2 : Int)) then
 bif (y4.1.2.2.1 == (0 : Int)) then
 bif (y4.1.2.1 == (62 : Int)) then
 (h_restart_Same ((y4.2.1, y4.2.1, ()), ())).bind fun y6 =>
 bif y6.1.1 then
 some (((y5.1.2.2.1 == (8 : Int)), ()), ())
 else
 some ((false, ()), ())
 else
 some ((false, ()), ())
 else
 some ((false, ()), ())
 else
 some ((false, ()), ())
 else
 some ((false, ()), ())
 else
 none
 else
 some ((false, ()), ())
 else
 some ((false, ()), ())) fun y7 =>
 some ((y7.1.1, ()), ())
theorem q133 (h_l10_Building : ((Int × Int × Unit) × Unit) → Option ((Unit × Unit) × (T'0 × Unit))) (h_restart_Start : ((T'0 × Unit) × Unit) → Option ((Unit × Int × Unit) × (T'25 × Unit))) (h_restart_Boot : ((T'0 × T'35 × Int × Unit) × Unit) → Option ((Unit × Int × Int × Unit) × (T'25 × Unit))) (h_restart_Same : ((T'25 × T'25 × Unit) × Unit) → Option ((Bool × Unit) × Unit)) (x : I133.T G) : endI (cfP [(9, Fe.mk (G := G) I1 E1 h_l10_Building Try.f9.results.toList), (79, Fe.mk (G := G) I126 E126 h_restart_Start Try.f79.results.toList), (34, Fe.mk (G := G) I125 E125 h_restart_Boot Try.f34.results.toList), (80, Fe.mk (G := G) I132 E132 h_restart_Same Try.f80.results.toList)]) (pl []) (jl [(1048581, [(.normal, ⟨[(0, ob)], [], []⟩)]), (2097154, [(.normal, ⟨[(1, op 16)], [(16, c'2)], []⟩)])]) 72 (ne' Try.f32) I133 E133 x = H133 h_l10_Building h_restart_Start h_restart_Boot h_restart_Same  := by kernel_rfl
noncomputable def e133 : Fe G := ⟨I133, E133, fun _ => nys', Try.f32.results.toList⟩
theorem k133 : FnOK Try.prog G 32 e133 := fk cx (tc k1 (tc k126 (tc k125 (tc k132 tn)))) (jl [(1048581, [(.normal, ⟨[(0, ob)], [], []⟩)]), (2097154, [(.normal, ⟨[(1, op 16)], [(16, c'2)], []⟩)])]) (lp := (pl [])) Try.func32 (by kernel_rfl) (by kernel_rfl) rfl (an0 (by kernel_rfl)) fun x => (q133 (fun x => nbb' x.1.1 x.1.2.1) (fun x => nim' x.1.1.1 x.1.1.2.1 x.1.1.2.2.1 x.1.1.2.2.2.1 x.1.1.2.2.2.2.1 x.1.1.2.2.2.2.2.1 x.1.1.2.2.2.2.2.2.1 x.1.1.2.2.2.2.2.2.2.1) (fun x => nev' x.1.1.1 x.1.1.2.1 x.1.1.2.2.1 x.1.1.2.2.2.1 x.1.1.2.2.2.2.1 x.1.1.2.2.2.2.2.1 x.1.1.2.2.2.2.2.2.1 x.1.1.2.2.2.2.2.2.2.1 x.1.2.1.1 x.1.2.1.2.1 x.1.2.1.2.2.1 x.1.2.2.1) (fun x => njd' x.1.1.1 x.1.1.2.1 x.1.1.2.2.1 x.1.1.2.2.2.1 x.1.1.2.2.2.2.1 x.1.1.2.2.2.2.2.1 x.1.1.2.2.2.2.2.2.1 x.1.1.2.2.2.2.2.2.2.1 x.1.1.2.2.2.2.2.2.2.2.1 x.1.1.2.2.2.2.2.2.2.2.2.1 x.1.1.2.2.2.2.2.2.2.2.2.2.1 x.1.1.2.2.2.2.2.2.2.2.2.2.2.1 x.1.1.2.2.2.2.2.2.2.2.2.2.2.2.1 x.1.1.2.2.2.2.2.2.2.2.2.2.2.2.2.1 x.1.1.2.2.2.2.2.2.2.2.2.2.2.2.2.2.1 x.1.1.2.2.2.2.2.2.2.2.2.2.2.2.2.2.2.1 x.1.2.1.1 x.1.2.1.2.1 x.1.2.1.2.2.1 x.1.2.1.2.2.2.1 x.1.2.1.2.2.2.2.1 x.1.2.1.2.2.2.2.2.1 x.1.2.1.2.2.2.2.2.2.1 x.1.2.1.2.2.2.2.2.2.2.1 x.1.2.1.2.2.2.2.2.2.2.2.1 x.1.2.1.2.2.2.2.2.2.2.2.2.1 x.1.2.1.2.2.2.2.2.2.2.2.2.2.1 x.1.2.1.2.2.2.2.2.2.2.2.2.2.2.1 x.1.2.1.2.2.2.2.2.2.2.2.2.2.2.2.1 x.1.2.1.2.2.2.2.2.2.2.2.2.2.2.2.2.1 x.1.2.1.2.2.2.2.2.2.2.2.2.2.2.2.2.2.1 x.1.2.1.2.2.2.2.2.2.2.2.2.2.2.2.2.2.2.1) x).trans (by kernel_rfl)
def I134 : Sp := ⟨[(0, .agg c'2), (1, .agg c'13)], [], []⟩
def E134 : SL := [(.ret, ⟨[(4, ob)], [], []⟩)]
noncomputable def e134 : Fe G := ⟨I134, E134, fun x => nri' x.1.1.1 x.1.1.2.1 x.1.1.2.2.1 x.1.1.2.2.2.1 x.1.1.2.2.2.2.1 x.1.1.2.2.2.2.2.1 x.1.1.2.2.2.2.2.2.1 x.1.1.2.2.2.2.2.2.2.1 x.1.2.1.1 x.1.2.1.2.1 x.1.2.1.2.2.1 x.1.2.1.2.2.2.1, Try.f60.results.toList⟩
theorem k134 : FnOK Try.prog G 60 e134 := fk cx (tc k26 tn) (jl [(1048577, [(.normal, ⟨[(4, ob)], [], []⟩)])]) (lp := (pl [])) Try.func60 (by kernel_rfl) (by kernel_rfl) rfl (an0 (by kernel_rfl)) fun x => by kernel_rfl
def I135 : Sp := ⟨[(0, .agg c'2), (1, .agg c'19), (2, .agg c'13), (3, .agg c'11), (4, oi64)], [], []⟩
def E135 : SL := [(.ret, ⟨[(10, op 160), (11, op 176), (12, oi64), (13, oi64)], [(160, c'19), (176, c'13)], []⟩)]
noncomputable def e135 : Fe G := ⟨I135, E135, fun x => nu8' x.1.1.1 x.1.1.2.1 x.1.1.2.2.1 x.1.1.2.2.2.1 x.1.1.2.2.2.2.1 x.1.1.2.2.2.2.2.1 x.1.1.2.2.2.2.2.2.1 x.1.1.2.2.2.2.2.2.2.1 x.1.2.1.1 x.1.2.1.2.1 x.1.2.1.2.2.1 x.1.2.2.1.1 x.1.2.2.1.2.1 x.1.2.2.1.2.2.1 x.1.2.2.1.2.2.2.1 x.1.2.2.2.1.1 x.1.2.2.2.1.2.1 x.1.2.2.2.1.2.2.1 x.1.2.2.2.1.2.2.2.1 x.1.2.2.2.1.2.2.2.2.1 x.1.2.2.2.2.1, Try.f21.results.toList⟩
theorem k135 : FnOK Try.prog G 21 e135 := fk cx (tc k37 (tc k26 (tc k28 (tc k29 (tc k134 (tc k31 (tc k38 (tc k48 (tc k49 (tc k51 tn)))))))))) (jl [(11, [(.normal, ⟨[(4, oi64), (6, op 96), (7, op 112), (10, op 160), (11, op 176), (14, op 224), (16, oi64)], [(96, c'19), (112, c'13), (160, c'19), (176, c'10), (224, c'14)], []⟩)]), (1048579, [(.normal, ⟨[(4, oi64), (5, op 80), (6, op 96), (7, op 112), (8, op 128), (10, op 160), (11, op 176), (53, ob)], [(80, c'2), (96, c'19), (112, c'13), (128, c'11), (160, c'19), (176, c'10)], []⟩)])]) (lp := (pl [])) Try.func21 (by kernel_rfl) (by kernel_rfl) rfl (an0 (by kernel_rfl)) fun x => by kernel_rfl
def I136 : Sp := ⟨[(0, .agg c'25), (1, .agg c'25)], [], []⟩
def E136 : SL := [(.ret, ⟨[(4, ob)], [], []⟩)]
def n1n' : Sp := ⟨[(2, op 32), (3, op 48), (5, oi64)], [(32, c'25), (48, c'25)], []⟩
def nzy' : SL := [(.exit 0, ⟨[], [], []⟩), (.ret, ⟨[(4, ob)], [], []⟩)]
def J136 : Nat → Option SL := jl []
noncomputable def P136 : Nat → St G → M (Ex × St G) := pl [lpX n1n' nzy' nld']
theorem n4i' : LoopOK Try.prog G 66 (P136 0) (ni' (ne' Try.f84) 0) := lk cx tn J136 1 n1n' nzy' (rfl : nld' = _) (by kernel_rfl) (an0 (by kernel_rfl)) fun x => by kernel_rfl
noncomputable def e136 : Fe G := ⟨I136, E136, fun x => nrs' x.1.1.1 x.1.1.2.1 x.1.1.2.2.1 x.1.1.2.2.2.1 x.1.1.2.2.2.2.1 x.1.1.2.2.2.2.2.1 x.1.2.1.1 x.1.2.1.2.1 x.1.2.1.2.2.1 x.1.2.1.2.2.2.1 x.1.2.1.2.2.2.2.1 x.1.2.1.2.2.2.2.2.1, Try.f84.results.toList⟩
theorem k136 : FnOK Try.prog G 84 e136 := fk cx tn J136 (lp := P136) Try.func84 (by kernel_rfl) (by kernel_rfl) rfl (nh' _ (by kernel_rfl) (nf' n4i' nk')) fun x => by kernel_rfl
def I137 : Sp := ⟨[(0, oro 3), (1, oro 3)], [], []⟩
def E137 : SL := [(.ret, ⟨[(4, ob)], [], []⟩)]
def n0c' : Sp := ⟨[(0, oro 3), (1, oro 3), (5, oi64)], [], []⟩
def n0v' : SL := [(.exit 0, ⟨[], [], []⟩), (.ret, ⟨[(4, ob)], [], []⟩)]
def J137 : Nat → Option SL := jl []
noncomputable def P137 : Nat → St G → M (Ex × St G) := pl [lpX n0c' n0v' nhl']
theorem n4g' : LoopOK Try.prog G 26 (P137 0) (ni' (ne' Try.f83) 0) := lk cx tn J137 1 n0c' n0v' (rfl : nhl' = _) (by kernel_rfl) (an0 (by kernel_rfl)) fun x => by kernel_rfl
noncomputable def e137 : Fe G := ⟨I137, E137, fun x => nmk' x.1.1 x.1.2.1, Try.f83.results.toList⟩
theorem k137 : FnOK Try.prog G 83 e137 := fk cx tn J137 (lp := P137) Try.func83 (by kernel_rfl) (by kernel_rfl) rfl (nh' _ (by kernel_rfl) (nf' n4g' nk')) fun x => by kernel_rfl
def I138 : Sp := ⟨[(0, oro 96), (1, oro 96)], [], []⟩
def E138 : SL := [(.ret, ⟨[(4, ob)], [], []⟩)]
def nzf' : Sp := ⟨[(0, oro 96), (1, oro 96), (5, oi64)], [], []⟩
def nzn' : SL := [(.exit 0, ⟨[], [], []⟩), (.ret, ⟨[(4, ob)], [], []⟩)]
def J138 : Nat → Option SL := jl []
noncomputable def P138 : Nat → St G → M (Ex × St G) := pl [lpX nzf' nzn' ngv']
theorem n4s' : LoopOK Try.prog G 26 (P138 0) (ni' (ne' Try.f82) 0) := lk cx tn J138 1 nzf' nzn' (rfl : ngv' = _) (by kernel_rfl) (an0 (by kernel_rfl)) fun x => by kernel_rfl
noncomputable def e138 : Fe G := ⟨I138, E138, fun x => nlu' x.1.1 x.1.2.1, Try.f82.results.toList⟩
theorem k138 : FnOK Try.prog G 82 e138 := fk cx tn J138 (lp := P138) Try.func82 (by kernel_rfl) (by kernel_rfl) rfl (nh' _ (by kernel_rfl) (nf' n4s' nk')) fun x => by kernel_rfl
def I139 : Sp := ⟨[(0, .agg c'24), (1, .agg c'24)], [], []⟩
def E139 : SL := [(.ret, ⟨[(4, ob)], [], []⟩)]
def nzt' : Sp := ⟨[(2, op 32), (3, op 48), (5, oi64)], [(32, c'24), (48, c'24)], []⟩
def n1u' : SL := [(.exit 0, ⟨[(2, op 32), (3, op 48)], [(32, c'24), (48, c'24)], []⟩), (.ret, ⟨[(4, ob)], [], []⟩)]
def n0y' : Sp := ⟨[(2, op 32), (3, op 48), (6, oi64)], [(32, c'24), (48, c'24)], []⟩
def n0e' : SL := [(.exit 2, ⟨[(2, op 32), (3, op 48)], [(32, c'24), (48, c'24)], []⟩), (.ret, ⟨[(4, ob)], [], []⟩)]
def n0f' : Sp := ⟨[(2, op 32), (3, op 48), (7, oi64)], [(32, c'24), (48, c'24)], []⟩
def n1i' : SL := [(.exit 4, ⟨[(2, op 32), (3, op 48)], [(32, c'24), (48, c'24)], []⟩), (.ret, ⟨[(4, ob)], [], []⟩)]
def nzq' : Sp := ⟨[(2, op 32), (3, op 48), (8, oi64)], [(32, c'24), (48, c'24)], []⟩
def nzj' : SL := [(.exit 6, ⟨[], [], []⟩), (.ret, ⟨[(4, ob)], [], []⟩)]
def J139 : Nat → Option SL := jl []
noncomputable def P139 : Nat → St G → M (Ex × St G) := pl [lpX nzt' n1u' nla', lpX n0y' n0e' nk7', lpX n0f' n1i' nlf', lpX nzq' nzj' nk0']
theorem t139 : ∀ p ∈ [(22, e88), (82, e138), (83, e137), (84, e136)], FnOK Try.prog G p.1 p.2 := (tc k88 (tc k138 (tc k137 (tc k136 tn))))
theorem n40' : LoopOK Try.prog G 168 (P139 3) (ni' (ne' Try.f35) 3) := lk cx t139 J139 4 nzq' nzj' (rfl : nk0' = _) (by kernel_rfl) (an0 (by kernel_rfl)) fun x => by kernel_rfl
theorem n43' : LoopOK Try.prog G 168 (P139 2) (ni' (ne' Try.f35) 2) := lk cx t139 J139 3 n0f' n1i' (rfl : nlf' = _) (by kernel_rfl) (an0 (by kernel_rfl)) fun x => by kernel_rfl
theorem n4v' : LoopOK Try.prog G 168 (P139 1) (ni' (ne' Try.f35) 1) := lk cx t139 J139 2 n0y' n0e' (rfl : nk7' = _) (by kernel_rfl) (an0 (by kernel_rfl)) fun x => by kernel_rfl
theorem n4k' : LoopOK Try.prog G 168 (P139 0) (ni' (ne' Try.f35) 0) := lk cx t139 J139 1 nzt' n1u' (rfl : nla' = _) (by kernel_rfl) (an0 (by kernel_rfl)) fun x => by kernel_rfl
noncomputable def e139 : Fe G := ⟨I139, E139, fun x => nyn' x.1.1.1 x.1.1.2.1 x.1.1.2.2.1 x.1.1.2.2.2.1 x.1.1.2.2.2.2.1 x.1.1.2.2.2.2.2.1 x.1.1.2.2.2.2.2.2.1 x.1.1.2.2.2.2.2.2.2.1 x.1.1.2.2.2.2.2.2.2.2.1 x.1.1.2.2.2.2.2.2.2.2.2.1 x.1.1.2.2.2.2.2.2.2.2.2.2.1 x.1.1.2.2.2.2.2.2.2.2.2.2.2.1 x.1.1.2.2.2.2.2.2.2.2.2.2.2.2.1 x.1.1.2.2.2.2.2.2.2.2.2.2.2.2.2.1 x.1.1.2.2.2.2.2.2.2.2.2.2.2.2.2.2.1 x.1.1.2.2.2.2.2.2.2.2.2.2.2.2.2.2.2.1 x.1.2.1.1 x.1.2.1.2.1 x.1.2.1.2.2.1 x.1.2.1.2.2.2.1 x.1.2.1.2.2.2.2.1 x.1.2.1.2.2.2.2.2.1 x.1.2.1.2.2.2.2.2.2.1 x.1.2.1.2.2.2.2.2.2.2.1 x.1.2.1.2.2.2.2.2.2.2.2.1 x.1.2.1.2.2.2.2.2.2.2.2.2.1 x.1.2.1.2.2.2.2.2.2.2.2.2.2.1 x.1.2.1.2.2.2.2.2.2.2.2.2.2.2.1 x.1.2.1.2.2.2.2.2.2.2.2.2.2.2.2.1 x.1.2.1.2.2.2.2.2.2.2.2.2.2.2.2.2.1 x.1.2.1.2.2.2.2.2.2.2.2.2.2.2.2.2.2.1 x.1.2.1.2.2.2.2.2.2.2.2.2.2.2.2.2.2.2.1, Try.f35.results.toList⟩
theorem k139 : FnOK Try.prog G 35 e139 := fk cx t139 J139 (lp := P139) Try.func35 (by kernel_rfl) (by kernel_rfl) rfl (nh' _ (by kernel_rfl) (nf' n4k' (nf' n4v' (nf' n43' (nf' n40' nk'))))) fun x => by kernel_rfl
end Go.Ovl
