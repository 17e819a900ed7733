/- The contracts of the program's functions: part 1. -/
import Derived.Test.YthdomhdippmaiaaGreatDoorSig
import Derived.Test.YthdomhdippmaiaaGreatDoorDefs2
import Derived.Test.YthdomhdippmaiaaGreatDoorHandL
namespace Go.Ovl
open Go Go.Ab Go.Proofs
set_option maxRecDepth 100000
def c'0:List CSh:=[.int .i64,.int .i64,.int .i64,.int .i64,.flt .f64,.flt .f64,.flt .f64,.own 32768 100]
def c'1:List CSh:=[.int .i64,.int .i64,.int .i64,.int .i64,.flt .f64,.flt .f64,.flt .f64,.own 32769 100]
def c'2:List CSh:=[.int .i64,.int .i64,.int .i64,.int .i64,.flt .f64,.flt .f64,.flt .f64,.ro 100]
def c'3:List CSh:=[.int .i64,.int .i64,.int .i64,.int .i64,.int .i64,.int .i64,.int .i64,.int .i64,.int .i64]
def c'4:List CSh:=[.own 32768 3,.own 32769 4,.own 32770 4,.own 32771 63]
def c'5:List CSh:=[.int .i64,.int .i64,.int .i64,.int .i64,.int .i64]
def c'6:List CSh:=[.int .i64,.int .i64,.int .i64,.int .i64,.bool]
def c'7:List CSh:=[.ro 3,.ro 4,.ro 4,.ro 63]
def c'8:List CSh:=[.own 32772 3,.own 32773 4,.own 32774 4,.own 32775 63]
def c'9:List CSh:=[.own 32768 3,.own 32769 4,.own 32770 4,.ro 63]
def c'10:List CSh:=[.own 32771 3,.own 32772 4,.own 32773 4,.own 32774 63]
def c'11:List CSh:=[.own 32769 3,.own 32770 4,.own 32771 4,.own 32772 63]
def c'12:List CSh:=[.own 32773 3,.own 32774 4,.own 32775 4,.own 32776 63]
def c'13:List CSh:=[.int .u8,.int .u8,.int .u8,.int .u8]
def c'14:List CSh:=[.int .u32,.int .u32]
def c'15:List CSh:=[.bool,.bool,.bool,.bool,.int .i64,.int .i64,.int .i64,.int .u32,.int .u32,.int .u32,.int .u32,.int .u32]
def c'16:List CSh:=[.own 32768 26,.own 32769 4,.int .u32,.int .u32]
def c'17:List CSh:=[.own 32770 26,.own 32771 4,.int .u32,.int .u32]
def c'18:List CSh:=[.own 32768 66,.own 32769 3,.own 32770 4,.own 32771 4,.own 32772 63,.own 32773 3,.own 32774 26,.own 32775 4,.int .u32,.int .u32,.int .u32,.int .u32,.int .i64,.int .i64,.int .i64,.int .i64,.flt .f64,.flt .f64,.flt .f64,.ro 100]
def c'19:List CSh:=[.own 32769 66,.own 32770 3,.own 32771 4,.own 32772 4,.own 32773 63,.own 32774 3,.own 32775 26,.own 32776 4,.int .u32,.int .u32,.int .u32,.int .u32,.int .i64,.int .i64,.int .i64,.int .i64,.flt .f64,.flt .f64,.flt .f64,.ro 100]
def c'20:List CSh:=[.int .u32,.int .u32,.int .u32]
def c'21:List CSh:=[.int .i64,.int .i64]
def c'22:List CSh:=[.int .i64,.int .i64,.int .i64,.int .i64,.flt .f64,.flt .f64,.flt .f64,.ro 100,.ro 46]
def c'23:List CSh:=[.own 32768 66,.own 32769 3,.own 32770 4,.own 32771 4,.own 32772 63,.own 32773 3,.own 32774 26,.own 32775 4,.int .u32,.int .u32,.int .u32,.int .u32]
def c'24:List CSh:=[.own 32776 66,.own 32777 3,.own 32778 4,.own 32779 4,.own 32780 63,.own 32781 3,.own 32782 26,.own 32783 4,.int .u32,.int .u32,.int .u32,.int .u32,.int .i64,.int .i64,.int .i64,.int .i64,.flt .f64,.flt .f64,.flt .f64,.ro 100]
def c'25:List CSh:=[.ro 26,.ro 4,.int .u32,.int .u32]
def c'26:List CSh:=[.ro 66,.ro 3,.ro 4,.ro 4,.ro 63,.ro 3,.ro 26,.ro 4,.int .u32,.int .u32,.int .u32,.int .u32]
def c'27:List CSh:=[.int .u8,.int .u8,.ro 5,.ro 5,.int .u32,.int .u32]
def c'28:List CSh:=[.own 32769 66,.own 32770 3,.own 32771 4,.own 32772 4,.own 32773 63,.own 32774 3,.own 32775 26,.own 32776 4,.int .u32,.int .u32,.int .u32,.int .u32]
theorem cx:Ctx Tryz.prog G:=⟨sigOK,eqOK,hmix⟩
def I0:Sp:=⟨[(0,oi64),(1,oi64)],[],[]⟩
def E0:SL:=[(.ret,⟨[(4,op 64)],[(64,c'0)],[]⟩)]
def S0_0:Sp:=⟨[(0,oi64),(1,oi64),(4,op 64),(5,op 80),(6,oi64)],[(64,c'0),(80,c'1)],[]⟩
def X0_0:SL:=[(.exit 0,⟨[(4,op 64),(5,op 80)],[(64,c'0),(80,c'1)],[]⟩)]
def J0:Nat→Option SL:=jl []
noncomputable def P0:Nat→St G→M (Ex×St G):=pl [lpX S0_0 X0_0 nfg']
theorem l0_0:LoopOK Tryz.prog G 24 (P0 0) (no' (ni' Tryz.f26) 0):=lk cx tn J0 1 S0_0 X0_0 (rfl:nfg'=_) (by kernel_rfl) (an0 (by kernel_rfl)) fun x=>by kernel_rfl
noncomputable def e0:Fe G:=⟨I0,E0,fun x=>nii' x.1.1 x.1.2.1,Tryz.f26.results.toList⟩
theorem k0:FnOK Tryz.prog G 26 e0:=fk cx tn J0 (lp:=P0) Tryz.func26 (by kernel_rfl) (by kernel_rfl) rfl (nj' _ (by kernel_rfl) (nf' l0_0 nl')) fun x=>by kernel_rfl
def I1:Sp:=⟨[(0,ou8),(1,ou8)],[],[]⟩
def E1:SL:=[(.ret,⟨[(4,op 64)],[(64,c'0)],[]⟩)]
noncomputable def e1:Fe G:=⟨I1,E1,fun x=>ncr' x.1.1 x.1.2.1,Tryz.f8.results.toList⟩
theorem k1:FnOK Tryz.prog G 8 e1:=fk cx (tc k0 tn) (jl []) (lp:=(pl [])) Tryz.func8 (by kernel_rfl) (by kernel_rfl) rfl (an0 (by kernel_rfl)) fun x=>by kernel_rfl
def I2:Sp:=⟨[(0,oi64),(1,oi64),(2,oi64)],[],[]⟩
def E2:SL:=[(.ret,⟨[(6,ob)],[],[]⟩)]
noncomputable def e2:Fe G:=⟨I2,E2,fun x=>ndi' x.1.1 x.1.2.1 x.1.2.2.1,Tryz.f96.results.toList⟩
theorem k2:FnOK Tryz.prog G 96 e2:=fk cx tn (jl [(1048577,[(.normal,⟨[(6,ob)],[],[]⟩)])]) (lp:=(pl [])) Tryz.func96 (by kernel_rfl) (by kernel_rfl) rfl (an0 (by kernel_rfl)) fun x=>by kernel_rfl
def I3:Sp:=⟨[(0,.agg c'2),(1,.agg c'3)],[],[]⟩
def E3:SL:=[(.ret,⟨[(4,ob)],[],[]⟩)]
def S3_0:Sp:=⟨[(2,op 32),(3,op 48),(5,.one (.own 32768 3)),(6,oi64)],[(32,c'2),(48,c'3)],[]⟩
def X3_0:SL:=[(.exit 0,⟨[(2,op 32),(3,op 48)],[(32,c'2),(48,c'3)],[]⟩),(.ret,⟨[(4,ob)],[],[]⟩)]
def J3:Nat→Option SL:=jl [(1048585,[(.normal,⟨[(4,ob)],[],[]⟩)])]
noncomputable def P3:Nat→St G→M (Ex×St G):=pl [lpX S3_0 X3_0 nhh']
theorem t3:∀ p ∈ [(96,e2)],FnOK Tryz.prog G p.1 p.2:=(tc k2 tn)
theorem l3_0:LoopOK Tryz.prog G 56 (P3 0) (no' (ni' Tryz.f100) 0):=lk cx t3 J3 1 S3_0 X3_0 (rfl:nhh'=_) (by kernel_rfl) (an0 (by kernel_rfl)) fun x=>by kernel_rfl
noncomputable def e3:Fe G:=⟨I3,E3,fun x=>ni5' x.1.1.1 x.1.1.2.1 x.1.1.2.2.1 x.1.1.2.2.2.1 x.1.1.2.2.2.2.1 x.1.1.2.2.2.2.2.1 x.1.1.2.2.2.2.2.2.1 x.1.1.2.2.2.2.2.2.2.1 x.1.2.1.1 x.1.2.1.2.1 x.1.2.1.2.2.1 x.1.2.1.2.2.2.1 x.1.2.1.2.2.2.2.1 x.1.2.1.2.2.2.2.2.1 x.1.2.1.2.2.2.2.2.2.1 x.1.2.1.2.2.2.2.2.2.2.1 x.1.2.1.2.2.2.2.2.2.2.2.1,Tryz.f100.results.toList⟩
theorem k3:FnOK Tryz.prog G 100 e3:=fk cx t3 J3 (lp:=P3) Tryz.func100 (by kernel_rfl) (by kernel_rfl) rfl (nj' _ (by kernel_rfl) (nf' l3_0 nl')) fun x=>by kernel_rfl
def I4:Sp:=⟨[(0,.agg c'2)],[],[]⟩
def E4:SL:=[(.ret,⟨[(2,oi64)],[],[]⟩)]
def S4_0:Sp:=⟨[(1,op 16),(3,ob),(4,oi64)],[(16,c'2)],[]⟩
def X4_0:SL:=[(.exit 0,⟨[(1,op 16),(3,ob)],[(16,c'2)],[]⟩)]
def J4:Nat→Option SL:=jl [(1048581,[(.normal,⟨[(1,op 16),(3,ob)],[(16,c'2)],[]⟩)]),(1048585,[(.normal,⟨[(1,op 16),(3,ob),(4,oi64)],[(16,c'2)],[]⟩)])]
noncomputable def P4:Nat→St G→M (Ex×St G):=pl [lpX S4_0 X4_0 nhg']
theorem t4:∀ p ∈ [(96,e2),(100,e3)],FnOK Tryz.prog G p.1 p.2:=(tc k2 (tc k3 tn))
theorem l4_0:LoopOK Tryz.prog G 73 (P4 0) (no' (ni' Tryz.f60) 0):=lk cx t4 J4 1 S4_0 X4_0 (rfl:nhg'=_) (by kernel_rfl) (an0 (by kernel_rfl)) fun x=>by kernel_rfl
noncomputable def e4:Fe G:=⟨I4,E4,fun x=>ncu' x.1.1.1 x.1.1.2.1 x.1.1.2.2.1 x.1.1.2.2.2.1 x.1.1.2.2.2.2.1 x.1.1.2.2.2.2.2.1 x.1.1.2.2.2.2.2.2.1 x.1.1.2.2.2.2.2.2.2.1,Tryz.f60.results.toList⟩
theorem k4:FnOK Tryz.prog G 60 e4:=fk cx t4 J4 (lp:=P4) Tryz.func60 (by kernel_rfl) (by kernel_rfl) rfl (nj' _ (by kernel_rfl) (nf' l4_0 nl')) fun x=>by kernel_rfl
def I5:Sp:=⟨[(0,.agg c'2)],[],[]⟩
def E5:SL:=[(.ret,⟨[(2,op 32)],[(32,c'4)],[]⟩)]
noncomputable def e5:Fe G:=⟨I5,E5,fun x=>neq' x.1.1.1 x.1.1.2.1 x.1.1.2.2.1 x.1.1.2.2.2.1 x.1.1.2.2.2.2.1 x.1.1.2.2.2.2.2.1 x.1.1.2.2.2.2.2.2.1 x.1.1.2.2.2.2.2.2.2.1,Tryz.f27.results.toList⟩
theorem k5:FnOK Tryz.prog G 27 e5:=fk cx (tc k4 tn) (jl []) (lp:=(pl [])) Tryz.func27 (by kernel_rfl) (by kernel_rfl) rfl (an0 (by kernel_rfl)) fun x=>by kernel_rfl
def I6:Sp:=⟨[(0,.agg c'2),(1,oro 5),(2,oi64)],[],[]⟩
def E6:SL:=[(.ret,⟨[(6,.one (.own 32768 66))],[],[]⟩)]
def S6_0:Sp:=⟨[(1,oro 5),(2,oi64),(7,.one (.own 32768 66)),(8,oi64),(9,oi64),(10,oi64)],[],[]⟩
def X6_0:SL:=[(.exit 0,⟨[(7,.one (.own 32768 66))],[],[]⟩)]
def J6:Nat→Option SL:=jl [(18,[(.normal,⟨[(1,oro 5),(2,oi64),(7,.one (.own 32768 66)),(8,oi64),(9,oi64),(10,oi64),(11,oi64),(13,op 208)],[(208,c'5)],[]⟩)]),(20,[(.normal,⟨[(1,oro 5),(2,oi64),(7,.one (.own 32768 66)),(8,oi64),(9,oi64),(10,oi64),(11,oi64),(13,op 208)],[(208,c'5)],[]⟩)])]
noncomputable def P6:Nat→St G→M (Ex×St G):=pl [lpX S6_0 X6_0 ngq']
theorem l6_0:LoopOK Tryz.prog G 112 (P6 0) (no' (ni' Tryz.f28) 0):=lk cx tn J6 1 S6_0 X6_0 (rfl:ngq'=_) (by kernel_rfl) (an0 (by kernel_rfl)) fun x=>by kernel_rfl
noncomputable def e6:Fe G:=⟨I6,E6,fun x=>nhl' x.1.1.1 x.1.1.2.1 x.1.1.2.2.1 x.1.1.2.2.2.1 x.1.1.2.2.2.2.1 x.1.1.2.2.2.2.2.1 x.1.1.2.2.2.2.2.2.1 x.1.1.2.2.2.2.2.2.2.1 x.1.2.1 x.1.2.2.1,Tryz.f28.results.toList⟩
theorem k6:FnOK Tryz.prog G 28 e6:=fk cx tn J6 (lp:=P6) Tryz.func28 (by kernel_rfl) (by kernel_rfl) rfl (nj' _ (by kernel_rfl) (nf' l6_0 nl')) fun x=>by kernel_rfl
def I7:Sp:=⟨[(0,.agg c'2),(1,oi64),(2,oi64)],[],[]⟩
def E7:SL:=[(.ret,⟨[(6,ob)],[],[]⟩)]
noncomputable def e7:Fe G:=⟨I7,E7,fun x=>nec' x.1.1.1 x.1.1.2.1 x.1.1.2.2.1 x.1.1.2.2.2.1 x.1.1.2.2.2.2.1 x.1.1.2.2.2.2.2.1 x.1.1.2.2.2.2.2.2.1 x.1.1.2.2.2.2.2.2.2.1 x.1.2.1 x.1.2.2.1,Tryz.f58.results.toList⟩
theorem k7:FnOK Tryz.prog G 58 e7:=fk cx (tc k4 (tc k2 tn)) (jl [(1048579,[(.normal,⟨[(6,ob)],[],[]⟩)])]) (lp:=(pl [])) Tryz.func58 (by kernel_rfl) (by kernel_rfl) rfl (an0 (by kernel_rfl)) fun x=>by kernel_rfl
def I8:Sp:=⟨[(0,.agg c'6),(1,.agg c'6)],[],[]⟩
def E8:SL:=[(.ret,⟨[(4,ob)],[],[]⟩)]
noncomputable def e8:Fe G:=⟨I8,E8,fun x=>nh6' x.1.1.1 x.1.1.2.1 x.1.1.2.2.1 x.1.1.2.2.2.1 x.1.1.2.2.2.2.1 x.1.2.1.1 x.1.2.1.2.1 x.1.2.1.2.2.1 x.1.2.1.2.2.2.1 x.1.2.1.2.2.2.2.1,Tryz.f87.results.toList⟩
theorem k8:FnOK Tryz.prog G 87 e8:=fk cx tn (jl [(1048577,[(.normal,⟨[(4,ob)],[],[]⟩)])]) (lp:=(pl [])) Tryz.func87 (by kernel_rfl) (by kernel_rfl) rfl (an0 (by kernel_rfl)) fun x=>by kernel_rfl
def I9:Sp:=⟨[(0,.agg c'2),(1,.agg c'7)],[],[]⟩
def E9:SL:=[(.ret,⟨[(4,ob)],[],[]⟩)]
def S9_0:Sp:=⟨[(2,op 32),(3,op 48),(5,oi64),(6,oi64)],[(32,c'2),(48,c'7)],[]⟩
def X9_0:SL:=[(.exit 0,⟨[(2,op 32),(3,op 48),(5,oi64)],[(32,c'2),(48,c'7)],[]⟩),(.ret,⟨[(4,ob)],[],[]⟩)]
def S9_1:Sp:=⟨[(2,op 32),(3,op 48),(5,oi64),(7,oi64)],[(32,c'2),(48,c'7)],[]⟩
def X9_1:SL:=[(.exit 2,⟨[],[],[]⟩),(.ret,⟨[(4,ob)],[],[]⟩)]
def J9:Nat→Option SL:=jl [(1048589,[(.normal,⟨[(2,op 32),(3,op 48),(5,oi64),(7,oi64),(109,ob)],[(32,c'2),(48,c'7)],[]⟩)])]
noncomputable def P9:Nat→St G→M (Ex×St G):=pl [lpX S9_0 X9_0 ngi',lpX S9_1 X9_1 ngu']
theorem t9:∀ p ∈ [(60,e4),(58,e7),(87,e8)],FnOK Tryz.prog G p.1 p.2:=(tc k4 (tc k7 (tc k8 tn)))
theorem l9_1:LoopOK Tryz.prog G 110 (P9 1) (no' (ni' Tryz.f43) 1):=lk cx t9 J9 2 S9_1 X9_1 (rfl:ngu'=_) (by kernel_rfl) (an0 (by kernel_rfl)) fun x=>by kernel_rfl
theorem l9_0:LoopOK Tryz.prog G 110 (P9 0) (no' (ni' Tryz.f43) 0):=lk cx t9 J9 1 S9_0 X9_0 (rfl:ngi'=_) (by kernel_rfl) (an0 (by kernel_rfl)) fun x=>by kernel_rfl
noncomputable def e9:Fe G:=⟨I9,E9,fun x=>net' x.1.1.1 x.1.1.2.1 x.1.1.2.2.1 x.1.1.2.2.2.1 x.1.1.2.2.2.2.1 x.1.1.2.2.2.2.2.1 x.1.1.2.2.2.2.2.2.1 x.1.1.2.2.2.2.2.2.2.1 x.1.2.1.1 x.1.2.1.2.1 x.1.2.1.2.2.1 x.1.2.1.2.2.2.1,Tryz.f43.results.toList⟩
theorem k9:FnOK Tryz.prog G 43 e9:=fk cx t9 J9 (lp:=P9) Tryz.func43 (by kernel_rfl) (by kernel_rfl) rfl (nj' _ (by kernel_rfl) (nf' l9_0 (nf' l9_1 nl'))) fun x=>by kernel_rfl
def I10:Sp:=⟨[(0,oi64),(1,oi64),(2,oi64)],[],[]⟩
def E10:SL:=[(.ret,⟨[(6,ob)],[],[]⟩)]
noncomputable def e10:Fe G:=⟨I10,E10,fun x=>ne8' x.1.1 x.1.2.1 x.1.2.2.1,Tryz.f101.results.toList⟩
theorem k10:FnOK Tryz.prog G 101 e10:=fk cx tn (jl [(1048577,[(.normal,⟨[(6,ob)],[],[]⟩)])]) (lp:=(pl [])) Tryz.func101 (by kernel_rfl) (by kernel_rfl) rfl (an0 (by kernel_rfl)) fun x=>by kernel_rfl
def I11:Sp:=⟨[(0,.agg c'2),(1,.agg c'5)],[],[]⟩
def E11:SL:=[(.ret,⟨[(4,ob)],[],[]⟩)]
noncomputable def e11:Fe G:=⟨I11,E11,fun x=>ni6' x.1.1.1 x.1.1.2.1 x.1.1.2.2.1 x.1.1.2.2.2.1 x.1.1.2.2.2.2.1 x.1.1.2.2.2.2.2.1 x.1.1.2.2.2.2.2.2.1 x.1.1.2.2.2.2.2.2.2.1 x.1.2.1.1 x.1.2.1.2.1 x.1.2.1.2.2.1 x.1.2.1.2.2.2.1 x.1.2.1.2.2.2.2.1,Tryz.f61.results.toList⟩
theorem k11:FnOK Tryz.prog G 61 e11:=fk cx (tc k4 (tc k7 (tc k10 tn))) (jl [(1048580,[(.normal,⟨[(2,op 32),(3,op 48),(5,ob),(6,ob)],[(32,c'2),(48,c'5)],[]⟩)]),(1048584,[(.normal,⟨[(4,ob)],[],[]⟩)]),(1048586,[(.normal,⟨[(4,ob)],[],[]⟩)]),(1048588,[(.normal,⟨[(4,ob)],[],[]⟩)]),(1048591,[(.normal,⟨[(4,ob)],[],[]⟩)]),(1048593,[(.normal,⟨[(4,ob)],[],[]⟩)])]) (lp:=(pl [])) Tryz.func61 (by kernel_rfl) (by kernel_rfl) rfl (an0 (by kernel_rfl)) fun x=>by kernel_rfl
def I12:Sp:=⟨[(0,.agg c'7),(1,oi64),(2,oi64)],[],[]⟩
def E12:SL:=[(.ret,⟨[(6,oi64)],[],[]⟩)]
def S12_0:Sp:=⟨[(1,oi64),(2,oi64),(3,op 48),(7,oi64)],[(48,c'7)],[]⟩
def X12_0:SL:=[(.exit 0,⟨[],[],[]⟩),(.ret,⟨[(6,oi64)],[],[]⟩)]
def J12:Nat→Option SL:=jl [(1048580,[(.normal,⟨[(1,oi64),(2,oi64),(3,op 48),(7,oi64),(32,ob)],[(48,c'7)],[]⟩)])]
noncomputable def P12:Nat→St G→M (Ex×St G):=pl [lpX S12_0 X12_0 nid']
theorem l12_0:LoopOK Tryz.prog G 34 (P12 0) (no' (ni' Tryz.f22) 0):=lk cx tn J12 1 S12_0 X12_0 (rfl:nid'=_) (by kernel_rfl) (an0 (by kernel_rfl)) fun x=>by kernel_rfl
noncomputable def e12:Fe G:=⟨I12,E12,fun x=>nkj' x.1.1.1 x.1.1.2.1 x.1.1.2.2.1 x.1.1.2.2.2.1 x.1.2.1 x.1.2.2.1,Tryz.f22.results.toList⟩
theorem k12:FnOK Tryz.prog G 22 e12:=fk cx tn J12 (lp:=P12) Tryz.func22 (by kernel_rfl) (by kernel_rfl) rfl (nj' _ (by kernel_rfl) (nf' l12_0 nl')) fun x=>by kernel_rfl
def I13:Sp:=⟨[(0,oro 63),(1,.agg c'6)],[],[]⟩
def E13:SL:=[(.ret,⟨[(4,.one (.own 32768 63))],[],[]⟩)]
def S13_0:Sp:=⟨[(0,oro 63),(3,op 48),(5,.one (.own 32768 63)),(6,ob),(7,oi64)],[(48,c'6)],[]⟩
def X13_0:SL:=[(.exit 0,⟨[(3,op 48),(5,.one (.own 32768 63)),(6,ob)],[(48,c'6)],[]⟩)]
def J13:Nat→Option SL:=jl [(10,[(.normal,⟨[(0,oro 63),(3,op 48),(5,.one (.own 32768 63)),(6,ob),(7,oi64)],[(48,c'6)],[]⟩)]),(1048582,[(.normal,⟨[(0,oro 63),(3,op 48),(5,.one (.own 32768 63)),(6,ob),(7,oi64),(23,ob)],[(48,c'6)],[]⟩)])]
noncomputable def P13:Nat→St G→M (Ex×St G):=pl [lpX S13_0 X13_0 ngn']
theorem t13:∀ p ∈ [(87,e8)],FnOK Tryz.prog G p.1 p.2:=(tc k8 tn)
theorem l13_0:LoopOK Tryz.prog G 42 (P13 0) (no' (ni' Tryz.f62) 0):=lk cx t13 J13 1 S13_0 X13_0 (rfl:ngn'=_) (by kernel_rfl) (an0 (by kernel_rfl)) fun x=>by kernel_rfl
noncomputable def e13:Fe G:=⟨I13,E13,fun x=>nhn' x.1.1 x.1.2.1.1 x.1.2.1.2.1 x.1.2.1.2.2.1 x.1.2.1.2.2.2.1 x.1.2.1.2.2.2.2.1,Tryz.f62.results.toList⟩
theorem k13:FnOK Tryz.prog G 62 e13:=fk cx t13 J13 (lp:=P13) Tryz.func62 (by kernel_rfl) (by kernel_rfl) rfl (nj' _ (by kernel_rfl) (nf' l13_0 nl')) fun x=>by kernel_rfl
def I14:Sp:=⟨[(0,.agg c'2),(1,.agg c'7),(2,.agg c'5)],[],[]⟩
def E14:SL:=[(.ret,⟨[(6,op 96),(7,oi64)],[(96,c'4)],[]⟩)]
noncomputable def e14:Fe G:=⟨I14,E14,fun x=>ni8' x.1.1.1 x.1.1.2.1 x.1.1.2.2.1 x.1.1.2.2.2.1 x.1.1.2.2.2.2.1 x.1.1.2.2.2.2.2.1 x.1.1.2.2.2.2.2.2.1 x.1.1.2.2.2.2.2.2.2.1 x.1.2.1.1 x.1.2.1.2.1 x.1.2.1.2.2.1 x.1.2.1.2.2.2.1 x.1.2.2.1.1 x.1.2.2.1.2.1 x.1.2.2.1.2.2.1 x.1.2.2.1.2.2.2.1 x.1.2.2.1.2.2.2.2.1,Tryz.f29.results.toList⟩
theorem k14:FnOK Tryz.prog G 29 e14:=fk cx (tc k9 (tc k11 (tc k12 (tc k13 tn)))) (jl [(1048588,[(.normal,⟨[(4,op 64),(5,op 80),(6,op 96),(8,oi64),(77,ob)],[(64,c'4),(80,c'5),(96,c'8)],[]⟩)]),(2097168,[(.normal,⟨[(4,op 64),(6,op 96),(8,oi64)],[(64,c'9),(96,c'10)],[]⟩)])]) (lp:=(pl [])) Tryz.func29 (by kernel_rfl) (by kernel_rfl) rfl (an0 (by kernel_rfl)) fun x=>by kernel_rfl
def I15:Sp:=⟨[(0,.agg c'2),(1,oro 5)],[],[]⟩
def E15:SL:=[(.ret,⟨[(4,op 64)],[(64,c'4)],[]⟩)]
def S15_0:Sp:=⟨[(2,op 32),(4,op 64),(5,op 80),(6,.one (.own 32768 66)),(7,oi64)],[(32,c'2),(64,c'11),(80,c'12)],[]⟩
def X15_0:SL:=[(.exit 0,⟨[(4,op 64),(5,op 80)],[(64,c'4),(80,c'8)],[]⟩)]
def J15:Nat→Option SL:=jl []
noncomputable def P15:Nat→St G→M (Ex×St G):=pl [lpX S15_0 X15_0 nhq']
theorem t15:∀ p ∈ [(27,e5),(28,e6),(29,e14)],FnOK Tryz.prog G p.1 p.2:=(tc k5 (tc k6 (tc k14 tn)))
theorem l15_0:LoopOK Tryz.prog G 30 (P15 0) (no' (ni' Tryz.f9) 0):=lk cx t15 J15 1 S15_0 X15_0 (rfl:nhq'=_) (by kernel_rfl) (an0 (by kernel_rfl)) fun x=>by kernel_rfl
noncomputable def e15:Fe G:=⟨I15,E15,fun x=>ngd' x.1.1.1 x.1.1.2.1 x.1.1.2.2.1 x.1.1.2.2.2.1 x.1.1.2.2.2.2.1 x.1.1.2.2.2.2.2.1 x.1.1.2.2.2.2.2.2.1 x.1.1.2.2.2.2.2.2.2.1 x.1.2.1,Tryz.f9.results.toList⟩
theorem k15:FnOK Tryz.prog G 9 e15:=fk cx t15 J15 (lp:=P15) Tryz.func9 (by kernel_rfl) (by kernel_rfl) rfl (nj' _ (by kernel_rfl) (nf' l15_0 nl')) fun x=>by kernel_rfl
def I16:Sp:=⟨[(0,.agg c'7),(1,oro 5)],[],[]⟩
def E16:SL:=[(.ret,⟨[(4,.one (.own 32768 3))],[],[]⟩)]
def S16_0:Sp:=⟨[(1,oro 5),(5,.one (.own 32768 3)),(6,oi64)],[],[]⟩
def X16_0:SL:=[(.exit 0,⟨[(5,.one (.own 32768 3))],[],[]⟩)]
def J16:Nat→Option SL:=jl []
noncomputable def P16:Nat→St G→M (Ex×St G):=pl [lpX S16_0 X16_0 ngl']
theorem l16_0:LoopOK Tryz.prog G 33 (P16 0) (no' (ni' Tryz.f12) 0):=lk cx tn J16 1 S16_0 X16_0 (rfl:ngl'=_) (by kernel_rfl) (an0 (by kernel_rfl)) fun x=>by kernel_rfl
noncomputable def e16:Fe G:=⟨I16,E16,fun x=>nes' x.1.1.1 x.1.1.2.1 x.1.1.2.2.1 x.1.1.2.2.2.1 x.1.2.1,Tryz.f12.results.toList⟩
theorem k16:FnOK Tryz.prog G 12 e16:=fk cx tn J16 (lp:=P16) Tryz.func12 (by kernel_rfl) (by kernel_rfl) rfl (nj' _ (by kernel_rfl) (nf' l16_0 nl')) fun x=>by kernel_rfl
def I17:Sp:=⟨[(0,.agg c'2),(1,oro 5)],[],[]⟩
def E17:SL:=[(.ret,⟨[(4,.one (.own 32768 46))],[],[]⟩)]
def S17_0:Sp:=⟨[(1,oro 5),(2,op 32),(5,.one (.own 32768 46)),(6,oi64)],[(32,c'2)],[]⟩
def X17_0:SL:=[(.exit 0,⟨[(5,.one (.own 32768 46))],[],[]⟩)]
def S17_1:Sp:=⟨[(1,oro 5),(2,op 32),(5,.one (.own 32768 46)),(6,oi64),(7,op 112),(8,oi64)],[(32,c'2),(112,c'13)],[]⟩
def X17_1:SL:=[(.exit 2,⟨[(1,oro 5),(2,op 32),(5,.one (.own 32768 46)),(6,oi64),(7,op 112)],[(32,c'2),(112,c'13)],[]⟩)]
def J17:Nat→Option SL:=jl []
noncomputable def P17:Nat→St G→M (Ex×St G):=pl [lpX S17_0 X17_0 nf4',lpX S17_1 X17_1 nf9']
theorem l17_1:LoopOK Tryz.prog G 101 (P17 1) (no' (ni' Tryz.f30) 1):=lk cx tn J17 2 S17_1 X17_1 (rfl:nf9'=_) (by kernel_rfl) (an0 (by kernel_rfl)) fun x=>by kernel_rfl
theorem l17_0:LoopOK Tryz.prog G 101 (P17 0) (no' (ni' Tryz.f30) 0):=lk cx tn J17 1 S17_0 X17_0 (rfl:nf4'=_) (by kernel_rfl) (nj' _ (by kernel_rfl) (nf' l17_1 nl')) fun x=>by kernel_rfl
noncomputable def e17:Fe G:=⟨I17,E17,fun x=>ni2' x.1.1.1 x.1.1.2.1 x.1.1.2.2.1 x.1.1.2.2.2.1 x.1.1.2.2.2.2.1 x.1.1.2.2.2.2.2.1 x.1.1.2.2.2.2.2.2.1 x.1.1.2.2.2.2.2.2.2.1 x.1.2.1,Tryz.f30.results.toList⟩
theorem k17:FnOK Tryz.prog G 30 e17:=fk cx tn J17 (lp:=P17) Tryz.func30 (by kernel_rfl) (by kernel_rfl) rfl (nj' _ (by kernel_rfl) (nf' l17_0 (nf' l17_1 nl'))) fun x=>by kernel_rfl
def I18:Sp:=⟨[(0,oi64),(1,oi64)],[],[]⟩
def E18:SL:=[(.ret,⟨[(4,op 64)],[(64,c'14)],[]⟩)]
noncomputable def e18:Fe G:=⟨I18,E18,fun x=>nhy' x.1.1 x.1.2.1,Tryz.f31.results.toList⟩
theorem k18:FnOK Tryz.prog G 31 e18:=fk cx tn (jl []) (lp:=(pl [])) Tryz.func31 (by kernel_rfl) (by kernel_rfl) rfl (an0 (by kernel_rfl)) fun x=>by kernel_rfl
def I19:Sp:=⟨[(0,.agg c'2),(1,oro 5)],[],[]⟩
def E19:SL:=[(.ret,⟨[(4,.one (.own 32768 46))],[],[]⟩)]
def S19_0:Sp:=⟨[(1,oro 5),(2,op 32),(5,.one (.own 32768 46)),(6,oi64)],[(32,c'2)],[]⟩
def X19_0:SL:=[(.exit 0,⟨[(5,.one (.own 32768 46))],[],[]⟩)]
def J19:Nat→Option SL:=jl []
noncomputable def P19:Nat→St G→M (Ex×St G):=pl [lpX S19_0 X19_0 nhr']
theorem t19:∀ p ∈ [(30,e17),(31,e18)],FnOK Tryz.prog G p.1 p.2:=(tc k17 (tc k18 tn))
theorem l19_0:LoopOK Tryz.prog G 51 (P19 0) (no' (ni' Tryz.f10) 0):=lk cx t19 J19 1 S19_0 X19_0 (rfl:nhr'=_) (by kernel_rfl) (an0 (by kernel_rfl)) fun x=>by kernel_rfl
noncomputable def e19:Fe G:=⟨I19,E19,fun x=>ngf' x.1.1.1 x.1.1.2.1 x.1.1.2.2.1 x.1.1.2.2.2.1 x.1.1.2.2.2.2.1 x.1.1.2.2.2.2.2.1 x.1.1.2.2.2.2.2.2.1 x.1.1.2.2.2.2.2.2.2.1 x.1.2.1,Tryz.f10.results.toList⟩
theorem k19:FnOK Tryz.prog G 10 e19:=fk cx t19 J19 (lp:=P19) Tryz.func10 (by kernel_rfl) (by kernel_rfl) rfl (nj' _ (by kernel_rfl) (nf' l19_0 nl')) fun x=>by kernel_rfl
def I20:Sp:=⟨[(0,oi64),(1,oi64),(2,oro 3)],[],[]⟩
def E20:SL:=[(.ret,⟨[(6,ob)],[],[]⟩)]
def S20_0:Sp:=⟨[(0,oi64),(1,oi64),(9,oro 3),(10,oi64),(11,oi64)],[],[]⟩
def X20_0:SL:=[(.exit 0,⟨[],[],[]⟩),(.ret,⟨[(6,ob)],[],[]⟩)]
def J20:Nat→Option SL:=jl []
noncomputable def P20:Nat→St G→M (Ex×St G):=pl [lpX S20_0 X20_0 nei']
theorem l20_0:LoopOK Tryz.prog G 24 (P20 0) (no' (ni' Tryz.f102) 0):=lk cx tn J20 1 S20_0 X20_0 (rfl:nei'=_) (by kernel_rfl) (an0 (by kernel_rfl)) fun x=>by kernel_rfl
noncomputable def e20:Fe G:=⟨I20,E20,fun x=>n1' x.1.1 x.1.2.1 x.1.2.2.1,Tryz.f102.results.toList⟩
theorem k20:FnOK Tryz.prog G 102 e20:=fk cx tn J20 (lp:=P20) Tryz.func102 (by kernel_rfl) (by kernel_rfl) rfl (nj' _ (by kernel_rfl) (nf' l20_0 nl')) fun x=>by kernel_rfl
def I21:Sp:=⟨[(0,.agg c'3),(1,oi64)],[],[]⟩
def E21:SL:=[(.ret,⟨[(4,ob)],[],[]⟩)]
noncomputable def e21:Fe G:=⟨I21,E21,fun x=>nfy' x.1.1.1 x.1.1.2.1 x.1.1.2.2.1 x.1.1.2.2.2.1 x.1.1.2.2.2.2.1 x.1.1.2.2.2.2.2.1 x.1.1.2.2.2.2.2.2.1 x.1.1.2.2.2.2.2.2.2.1 x.1.1.2.2.2.2.2.2.2.2.1 x.1.2.1,Tryz.f103.results.toList⟩
theorem k21:FnOK Tryz.prog G 103 e21:=fk cx (tc k20 tn) (jl [(1048577,[(.normal,⟨[(4,ob)],[],[]⟩)])]) (lp:=(pl [])) Tryz.func103 (by kernel_rfl) (by kernel_rfl) rfl (an0 (by kernel_rfl)) fun x=>by kernel_rfl
def I22:Sp:=⟨[(0,.agg c'2)],[],[]⟩
def E22:SL:=[(.ret,⟨[(2,ob)],[],[]⟩)]
noncomputable def e22:Fe G:=⟨I22,E22,fun x=>nfx' x.1.1.1 x.1.1.2.1 x.1.1.2.2.1 x.1.1.2.2.2.1 x.1.1.2.2.2.2.1 x.1.1.2.2.2.2.2.1 x.1.1.2.2.2.2.2.2.1 x.1.1.2.2.2.2.2.2.2.1,Tryz.f104.results.toList⟩
theorem k22:FnOK Tryz.prog G 104 e22:=fk cx tn (jl [(1048577,[(.normal,⟨[(2,ob)],[],[]⟩)])]) (lp:=(pl [])) Tryz.func104 (by kernel_rfl) (by kernel_rfl) rfl (an0 (by kernel_rfl)) fun x=>by kernel_rfl
def I23:Sp:=⟨[(0,.agg c'2)],[],[]⟩
def E23:SL:=[(.ret,⟨[(2,oi64)],[],[]⟩)]
def S23_0:Sp:=⟨[(1,op 16),(3,ob),(28,oro 100),(29,oi64),(30,oi64)],[(16,c'2)],[]⟩
def X23_0:SL:=[(.exit 0,⟨[(1,op 16),(3,ob)],[(16,c'2)],[]⟩)]
def J23:Nat→Option SL:=jl [(1048581,[(.normal,⟨[(1,op 16),(3,ob)],[(16,c'2)],[]⟩)]),(1048585,[(.normal,⟨[(1,op 16),(3,ob),(28,oro 100),(29,oi64),(30,oi64)],[(16,c'2)],[]⟩)])]
noncomputable def P23:Nat→St G→M (Ex×St G):=pl [lpX S23_0 X23_0 ne3']
theorem t23:∀ p ∈ [(102,e20),(103,e21),(104,e22)],FnOK Tryz.prog G p.1 p.2:=(tc k20 (tc k21 (tc k22 tn)))
theorem l23_0:LoopOK Tryz.prog G 60 (P23 0) (no' (ni' Tryz.f63) 0):=lk cx t23 J23 1 S23_0 X23_0 (rfl:ne3'=_) (by kernel_rfl) (an0 (by kernel_rfl)) fun x=>by kernel_rfl
noncomputable def e23:Fe G:=⟨I23,E23,fun x=>nbr' x.1.1.1 x.1.1.2.1 x.1.1.2.2.1 x.1.1.2.2.2.1 x.1.1.2.2.2.2.1 x.1.1.2.2.2.2.2.1 x.1.1.2.2.2.2.2.2.1 x.1.1.2.2.2.2.2.2.2.1,Tryz.f63.results.toList⟩
theorem k23:FnOK Tryz.prog G 63 e23:=fk cx t23 J23 (lp:=P23) Tryz.func63 (by kernel_rfl) (by kernel_rfl) rfl (nj' _ (by kernel_rfl) (nf' l23_0 nl')) fun x=>by kernel_rfl
def I24:Sp:=⟨[(0,.agg c'2)],[],[]⟩
def E24:SL:=[(.ret,⟨[(2,op 32)],[(32,c'14)],[]⟩)]
noncomputable def e24:Fe G:=⟨I24,E24,fun x=>ne4' x.1.1.1 x.1.1.2.1 x.1.1.2.2.1 x.1.1.2.2.2.1 x.1.1.2.2.2.2.1 x.1.1.2.2.2.2.2.1 x.1.1.2.2.2.2.2.2.1 x.1.1.2.2.2.2.2.2.2.1,Tryz.f79.results.toList⟩
theorem k24:FnOK Tryz.prog G 79 e24:=fk cx (tc k23 tn) (jl []) (lp:=(pl [])) Tryz.func79 (by kernel_rfl) (by kernel_rfl) rfl (an0 (by kernel_rfl)) fun x=>by kernel_rfl
def I25:Sp:=⟨[(0,.agg c'14),(1,.agg c'14)],[],[]⟩
def E25:SL:=[(.ret,⟨[(4,op 64)],[(64,c'14)],[]⟩)]
noncomputable def e25:Fe G:=⟨I25,E25,fun x=>ndp' x.1.1.1 x.1.1.2.1 x.1.2.1.1 x.1.2.1.2.1,Tryz.f78.results.toList⟩
theorem k25:FnOK Tryz.prog G 78 e25:=fk cx tn (jl []) (lp:=(pl [])) Tryz.func78 (by kernel_rfl) (by kernel_rfl) rfl (an0 (by kernel_rfl)) fun x=>by kernel_rfl
def I26:Sp:=⟨[(0,.agg c'2),(1,.agg c'15)],[],[]⟩
def E26:SL:=[(.ret,⟨[(4,op 64)],[(64,c'14)],[]⟩)]
noncomputable def e26:Fe G:=⟨I26,E26,fun x=>ned' x.1.1.1 x.1.1.2.1 x.1.1.2.2.1 x.1.1.2.2.2.1 x.1.1.2.2.2.2.1 x.1.1.2.2.2.2.2.1 x.1.1.2.2.2.2.2.2.1 x.1.1.2.2.2.2.2.2.2.1 x.1.2.1.1 x.1.2.1.2.1 x.1.2.1.2.2.1 x.1.2.1.2.2.2.1 x.1.2.1.2.2.2.2.1 x.1.2.1.2.2.2.2.2.1 x.1.2.1.2.2.2.2.2.2.1 x.1.2.1.2.2.2.2.2.2.2.1 x.1.2.1.2.2.2.2.2.2.2.2.1 x.1.2.1.2.2.2.2.2.2.2.2.2.1 x.1.2.1.2.2.2.2.2.2.2.2.2.2.1 x.1.2.1.2.2.2.2.2.2.2.2.2.2.2.1,Tryz.f65.results.toList⟩
theorem k26:FnOK Tryz.prog G 65 e26:=fk cx (tc k24 (tc k25 tn)) (jl []) (lp:=(pl [])) Tryz.func65 (by kernel_rfl) (by kernel_rfl) rfl (an0 (by kernel_rfl)) fun x=>by kernel_rfl
def I27:Sp:=⟨[(0,.agg c'14),(1,.agg c'14)],[],[]⟩
def E27:SL:=[(.ret,⟨[(4,op 64)],[(64,c'14)],[]⟩)]
noncomputable def e27:Fe G:=⟨I27,E27,fun x=>ner' x.1.1.1 x.1.1.2.1 x.1.2.1.1 x.1.2.1.2.1,Tryz.f64.results.toList⟩
theorem k27:FnOK Tryz.prog G 64 e27:=fk cx tn (jl []) (lp:=(pl [])) Tryz.func64 (by kernel_rfl) (by kernel_rfl) rfl (an0 (by kernel_rfl)) fun x=>by kernel_rfl
def I28:Sp:=⟨[(0,.agg c'14),(1,.agg c'14)],[],[]⟩
def E28:SL:=[(.ret,⟨[(4,op 64)],[(64,c'14)],[]⟩)]
noncomputable def e28:Fe G:=⟨I28,E28,fun x=>nd0' x.1.1.1 x.1.1.2.1 x.1.2.1.1 x.1.2.1.2.1,Tryz.f66.results.toList⟩
theorem k28:FnOK Tryz.prog G 66 e28:=fk cx tn (jl []) (lp:=(pl [])) Tryz.func66 (by kernel_rfl) (by kernel_rfl) rfl (an0 (by kernel_rfl)) fun x=>by kernel_rfl
def I29:Sp:=⟨[(0,.agg c'2),(1,oro 46),(2,oro 26)],[],[]⟩
def E29:SL:=[(.ret,⟨[(6,op 96),(7,oi64)],[(96,c'16)],[]⟩)]
def S29_0:Sp:=⟨[(2,oro 26),(3,op 48),(6,op 96),(8,op 128),(32,oro 46),(33,oi64),(34,oi64)],[(48,c'2),(96,c'16),(128,c'17)],[]⟩
def X29_0:SL:=[(.exit 0,⟨[(6,op 96),(8,op 128)],[(96,c'16),(128,c'17)],[]⟩)]
def J29:Nat→Option SL:=jl []
noncomputable def P29:Nat→St G→M (Ex×St G):=pl [lpX S29_0 X29_0 nfe']
theorem t29:∀ p ∈ [(63,e23),(65,e26),(64,e27),(66,e28)],FnOK Tryz.prog G p.1 p.2:=(tc k23 (tc k26 (tc k27 (tc k28 tn))))
theorem l29_0:LoopOK Tryz.prog G 71 (P29 0) (no' (ni' Tryz.f32) 0):=lk cx t29 J29 1 S29_0 X29_0 (rfl:nfe'=_) (by kernel_rfl) (an0 (by kernel_rfl)) fun x=>by kernel_rfl
noncomputable def e29:Fe G:=⟨I29,E29,fun x=>ngt' x.1.1.1 x.1.1.2.1 x.1.1.2.2.1 x.1.1.2.2.2.1 x.1.1.2.2.2.2.1 x.1.1.2.2.2.2.2.1 x.1.1.2.2.2.2.2.2.1 x.1.1.2.2.2.2.2.2.2.1 x.1.2.1 x.1.2.2.1,Tryz.f32.results.toList⟩
theorem k29:FnOK Tryz.prog G 32 e29:=fk cx t29 J29 (lp:=P29) Tryz.func32 (by kernel_rfl) (by kernel_rfl) rfl (nj' _ (by kernel_rfl) (nf' l29_0 nl')) fun x=>by kernel_rfl
def I30:Sp:=⟨[(0,oi64),(1,oi64),(2,oi64)],[],[]⟩
def E30:SL:=[(.ret,⟨[(6,ob)],[],[]⟩)]
noncomputable def e30:Fe G:=⟨I30,E30,fun x=>nfb' x.1.1 x.1.2.1 x.1.2.2.1,Tryz.f129.results.toList⟩
theorem k30:FnOK Tryz.prog G 129 e30:=fk cx (tc k20 tn) (jl [(1048577,[(.normal,⟨[(6,ob)],[],[]⟩)])]) (lp:=(pl [])) Tryz.func129 (by kernel_rfl) (by kernel_rfl) rfl (an0 (by kernel_rfl)) fun x=>by kernel_rfl
def I31:Sp:=⟨[(0,.agg c'2),(1,oi64),(2,oi64)],[],[]⟩
def E31:SL:=[(.ret,⟨[(6,ob)],[],[]⟩)]
noncomputable def e31:Fe G:=⟨I31,E31,fun x=>nd3' x.1.1.1 x.1.1.2.1 x.1.1.2.2.1 x.1.1.2.2.2.1 x.1.1.2.2.2.2.1 x.1.1.2.2.2.2.2.1 x.1.1.2.2.2.2.2.2.1 x.1.1.2.2.2.2.2.2.2.1 x.1.2.1 x.1.2.2.1,Tryz.f105.results.toList⟩
theorem k31:FnOK Tryz.prog G 105 e31:=fk cx (tc k23 (tc k30 tn)) (jl [(1048577,[(.normal,⟨[(6,ob)],[],[]⟩)])]) (lp:=(pl [])) Tryz.func105 (by kernel_rfl) (by kernel_rfl) rfl (an0 (by kernel_rfl)) fun x=>by kernel_rfl
def I32:Sp:=⟨[(0,.agg c'2),(1,.agg c'6)],[],[]⟩
def E32:SL:=[(.ret,⟨[(4,ob)],[],[]⟩)]
noncomputable def e32:Fe G:=⟨I32,E32,fun x=>nho' x.1.1.1 x.1.1.2.1 x.1.1.2.2.1 x.1.1.2.2.2.1 x.1.1.2.2.2.2.1 x.1.1.2.2.2.2.2.1 x.1.1.2.2.2.2.2.2.1 x.1.1.2.2.2.2.2.2.2.1 x.1.2.1.1 x.1.2.1.2.1 x.1.2.1.2.2.1 x.1.2.1.2.2.2.1 x.1.2.1.2.2.2.2.1,Tryz.f67.results.toList⟩
theorem k32:FnOK Tryz.prog G 67 e32:=fk cx (tc k31 tn) (jl [(1048577,[(.normal,⟨[(4,ob)],[],[]⟩)])]) (lp:=(pl [])) Tryz.func67 (by kernel_rfl) (by kernel_rfl) rfl (an0 (by kernel_rfl)) fun x=>by kernel_rfl
def I33:Sp:=⟨[(0,oi64)],[],[]⟩
def E33:SL:=[(.ret,⟨[(2,ob)],[],[]⟩)]
noncomputable def e33:Fe G:=⟨I33,E33,fun x=>ngk' x.1.1,Tryz.f130.results.toList⟩
theorem k33:FnOK Tryz.prog G 130 e33:=fk cx tn (jl []) (lp:=(pl [])) Tryz.func130 (by kernel_rfl) (by kernel_rfl) rfl (an0 (by kernel_rfl)) fun x=>by kernel_rfl
def I34:Sp:=⟨[(0,oi64),(1,oi64)],[],[]⟩
def E34:SL:=[(.ret,⟨[(4,oi64)],[],[]⟩)]
noncomputable def e34:Fe G:=⟨I34,E34,fun x=>nd4' x.1.1 x.1.2.1,Tryz.f107.results.toList⟩
theorem k34:FnOK Tryz.prog G 107 e34:=fk cx (tc k33 tn) (jl []) (lp:=(pl [])) Tryz.func107 (by kernel_rfl) (by kernel_rfl) rfl (an0 (by kernel_rfl)) fun x=>by kernel_rfl
def I35:Sp:=⟨[(0,oro 3)],[],[]⟩
def E35:SL:=[(.ret,⟨[(2,oi64)],[],[]⟩)]
def S35_0:Sp:=⟨[(3,oi64),(6,oro 3),(7,oi64),(8,oi64)],[],[]⟩
def X35_0:SL:=[(.exit 0,⟨[(3,oi64)],[],[]⟩),(.ret,⟨[(2,oi64)],[],[]⟩)]
def J35:Nat→Option SL:=jl []
noncomputable def P35:Nat→St G→M (Ex×St G):=pl [lpX S35_0 X35_0 ng9']
theorem l35_0:LoopOK Tryz.prog G 18 (P35 0) (no' (ni' Tryz.f106) 0):=lk cx tn J35 1 S35_0 X35_0 (rfl:ng9'=_) (by kernel_rfl) (an0 (by kernel_rfl)) fun x=>by kernel_rfl
noncomputable def e35:Fe G:=⟨I35,E35,fun x=>nh5' x.1.1,Tryz.f106.results.toList⟩
theorem k35:FnOK Tryz.prog G 106 e35:=fk cx tn J35 (lp:=P35) Tryz.func106 (by kernel_rfl) (by kernel_rfl) rfl (nj' _ (by kernel_rfl) (nf' l35_0 nl')) fun x=>by kernel_rfl
def I36:Sp:=⟨[(0,.agg c'6),(1,.agg c'6)],[],[]⟩
def E36:SL:=[(.ret,⟨[(4,oi64)],[],[]⟩)]
noncomputable def e36:Fe G:=⟨I36,E36,fun x=>nep' x.1.1.1 x.1.1.2.1 x.1.1.2.2.1 x.1.1.2.2.2.1 x.1.1.2.2.2.2.1 x.1.2.1.1 x.1.2.1.2.1 x.1.2.1.2.2.1 x.1.2.1.2.2.2.1 x.1.2.1.2.2.2.2.1,Tryz.f68.results.toList⟩
theorem k36:FnOK Tryz.prog G 68 e36:=fk cx (tc k34 (tc k35 tn)) (jl []) (lp:=(pl [])) Tryz.func68 (by kernel_rfl) (by kernel_rfl) rfl (an0 (by kernel_rfl)) fun x=>by kernel_rfl
def I37:Sp:=⟨[(0,.agg c'2),(1,.agg c'7)],[],[]⟩
def E37:SL:=[(.ret,⟨[(4,ob)],[],[]⟩)]
def S37_0:Sp:=⟨[(2,op 32),(3,op 48),(38,oro 3),(39,oi64),(40,oi64)],[(32,c'2),(48,c'7)],[]⟩
def X37_0:SL:=[(.exit 0,⟨[(2,op 32),(3,op 48)],[(32,c'2),(48,c'7)],[]⟩),(.ret,⟨[(4,ob)],[],[]⟩)]
def S37_1:Sp:=⟨[(2,op 32),(3,op 48),(52,oro 63),(53,oi64),(54,oi64)],[(32,c'2),(48,c'7)],[]⟩
def X37_1:SL:=[(.exit 2,⟨[],[],[]⟩),(.ret,⟨[(4,ob)],[],[]⟩)]
def J37:Nat→Option SL:=jl [(1048589,[(.normal,⟨[(2,op 32),(3,op 48),(52,oro 63),(53,oi64),(54,oi64),(77,ob)],[(32,c'2),(48,c'7)],[]⟩)])]
noncomputable def P37:Nat→St G→M (Ex×St G):=pl [lpX S37_0 X37_0 ngo',lpX S37_1 X37_1 ngj']
theorem t37:∀ p ∈ [(63,e23),(67,e32),(68,e36)],FnOK Tryz.prog G p.1 p.2:=(tc k23 (tc k32 (tc k36 tn)))
theorem l37_1:LoopOK Tryz.prog G 79 (P37 1) (no' (ni' Tryz.f33) 1):=lk cx t37 J37 2 S37_1 X37_1 (rfl:ngj'=_) (by kernel_rfl) (an0 (by kernel_rfl)) fun x=>by kernel_rfl
theorem l37_0:LoopOK Tryz.prog G 79 (P37 0) (no' (ni' Tryz.f33) 0):=lk cx t37 J37 1 S37_0 X37_0 (rfl:ngo'=_) (by kernel_rfl) (an0 (by kernel_rfl)) fun x=>by kernel_rfl
noncomputable def e37:Fe G:=⟨I37,E37,fun x=>nc8' x.1.1.1 x.1.1.2.1 x.1.1.2.2.1 x.1.1.2.2.2.1 x.1.1.2.2.2.2.1 x.1.1.2.2.2.2.2.1 x.1.1.2.2.2.2.2.2.1 x.1.1.2.2.2.2.2.2.2.1 x.1.2.1.1 x.1.2.1.2.1 x.1.2.1.2.2.1 x.1.2.1.2.2.2.1,Tryz.f33.results.toList⟩
theorem k37:FnOK Tryz.prog G 33 e37:=fk cx t37 J37 (lp:=P37) Tryz.func33 (by kernel_rfl) (by kernel_rfl) rfl (nj' _ (by kernel_rfl) (nf' l37_0 (nf' l37_1 nl'))) fun x=>by kernel_rfl
def I38:Sp:=⟨[(0,oi64)],[],[]⟩
def E38:SL:=[(.ret,⟨[(2,ob)],[],[]⟩)]
noncomputable def e38:Fe G:=⟨I38,E38,fun x=>ndx' x.1.1,Tryz.f70.results.toList⟩
theorem k38:FnOK Tryz.prog G 70 e38:=fk cx tn (jl [(1048577,[(.normal,⟨[(2,ob)],[],[]⟩)])]) (lp:=(pl [])) Tryz.func70 (by kernel_rfl) (by kernel_rfl) rfl (an0 (by kernel_rfl)) fun x=>by kernel_rfl
def I39:Sp:=⟨[(0,oro 3),(1,.one (.clo 70 [] []))],[],[]⟩
def E39:SL:=[(.ret,⟨[(4,oi64)],[],[]⟩)]
def S39_0:Sp:=⟨[(0,oro 3),(1,.one (.clo 70 [] [])),(7,oi64),(8,oi64)],[],[]⟩
def X39_0:SL:=[(.exit 0,⟨[],[],[]⟩),(.ret,⟨[(4,oi64)],[],[]⟩)]
def J39:Nat→Option SL:=jl []
noncomputable def P39:Nat→St G→M (Ex×St G):=pl [lpX S39_0 X39_0 n3']
theorem t39:∀ p ∈ [(70,e38)],FnOK Tryz.prog G p.1 p.2:=(tc k38 tn)
theorem l39_0:LoopOK Tryz.prog G 19 (P39 0) (no' (ni' Tryz.f108) 0):=lk cx t39 J39 1 S39_0 X39_0 (rfl:n3'=_) (by kernel_rfl) (an0 (by kernel_rfl)) fun x=>by kernel_rfl
noncomputable def e39:Fe G:=⟨I39,E39,fun x=>nbo' x.1.1,Tryz.f108.results.toList⟩
theorem k39:FnOK Tryz.prog G 108 e39:=fk cx t39 J39 (lp:=P39) Tryz.func108 (by kernel_rfl) (by kernel_rfl) rfl (nj' _ (by kernel_rfl) (nf' l39_0 nl')) fun x=>by kernel_rfl
def I40:Sp:=⟨[(0,oro 3),(1,.one (.clo 70 [] []))],[],[]⟩
def E40:SL:=[(.ret,⟨[(4,ob)],[],[]⟩)]
noncomputable def e40:Fe G:=⟨I40,E40,fun x=>n2' x.1.1,Tryz.f69.results.toList⟩
theorem k40:FnOK Tryz.prog G 69 e40:=fk cx (tc k39 tn) (jl []) (lp:=(pl [])) Tryz.func69 (by kernel_rfl) (by kernel_rfl) rfl (an0 (by kernel_rfl)) fun x=>by kernel_rfl
def I41:Sp:=⟨[(0,.agg c'7),(1,oro 3)],[],[]⟩
def E41:SL:=[(.ret,⟨[(4,ob)],[],[]⟩)]
noncomputable def e41:Fe G:=⟨I41,E41,fun x=>neh' x.1.1.1 x.1.1.2.1 x.1.1.2.2.1 x.1.1.2.2.2.1 x.1.2.1,Tryz.f34.results.toList⟩
theorem k41:FnOK Tryz.prog G 34 e41:=fk cx (tc k40 tn) (jl [(1048577,[(.normal,⟨[(4,ob)],[],[]⟩)])]) (lp:=(pl [])) Tryz.func34 (by kernel_rfl) (by kernel_rfl) rfl (an0 (by kernel_rfl)) fun x=>by kernel_rfl
def I42:Sp:=⟨[(0,oro 3)],[],[]⟩
def E42:SL:=[(.ret,⟨[(2,.one (.own 32768 3))],[],[]⟩)]
noncomputable def e42:Fe G:=⟨I42,E42,fun x=>nbs' x.1.1,Tryz.f36.results.toList⟩
theorem s42:cloFe G 2 3=e42:=by kernel_rfl
theorem k42:FnOK Tryz.prog G 36 e42:=s42 ▸ nse' (r:=2) (t:=3) sigOK ⟨_,Tryz.func36,by kernel_rfl,by kernel_rfl⟩ (tS:=34) (size:=1) (bytes:=Tryz.t3.bytes) (by kernel_rfl) (by kernel_rfl) (Nat.le_of_ble_eq_true (by kernel_rfl)) (fun w a n c news=>nw3' _ rfl (by kernel_rfl) w a n c news) (nyp')
def I43:Sp:=⟨[(0,oro 4)],[],[]⟩
def E43:SL:=[(.ret,⟨[(2,.one (.own 32768 4))],[],[]⟩)]
noncomputable def e43:Fe G:=⟨I43,E43,fun x=>nbh' x.1.1,Tryz.f71.results.toList⟩
theorem s43:cloFe G 2 4=e43:=by kernel_rfl
theorem k43:FnOK Tryz.prog G 71 e43:=s43 ▸ nse' (r:=2) (t:=4) sigOK ⟨_,Tryz.func71,by kernel_rfl,by kernel_rfl⟩ (tS:=35) (size:=1) (bytes:=Tryz.t4.bytes) (by kernel_rfl) (by kernel_rfl) (Nat.le_of_ble_eq_true (by kernel_rfl)) (fun w a n c news=>nwq' _ rfl (by kernel_rfl) w a n c news) (ny4')
def I44:Sp:=⟨[(0,oro 63)],[],[]⟩
def E44:SL:=[(.ret,⟨[(2,.one (.own 32768 63))],[],[]⟩)]
noncomputable def e44:Fe G:=⟨I44,E44,fun x=>nbe' x.1.1,Tryz.f72.results.toList⟩
theorem s44:cloFe G 2 63=e44:=by kernel_rfl
theorem k44:FnOK Tryz.prog G 72 e44:=s44 ▸ nse' (r:=2) (t:=63) sigOK ⟨_,Tryz.func72,by kernel_rfl,by kernel_rfl⟩ (tS:=36) (size:=5) (bytes:=Tryz.t63.bytes) (by kernel_rfl) (by kernel_rfl) (Nat.le_of_ble_eq_true (by kernel_rfl)) (fun w a n c news=>nwt' _ rfl (by kernel_rfl) w a n c news) (nyh')
def I45:Sp:=⟨[(0,.agg c'7)],[],[]⟩
def E45:SL:=[(.ret,⟨[(2,op 32)],[(32,c'4)],[]⟩)]
noncomputable def e45:Fe G:=⟨I45,E45,fun x=>nha' x.1.1.1 x.1.1.2.1 x.1.1.2.2.1 x.1.1.2.2.2.1,Tryz.f35.results.toList⟩
theorem k45:FnOK Tryz.prog G 35 e45:=fk cx (tc k42 (tc k43 (tc k44 tn))) (jl []) (lp:=(pl [])) Tryz.func35 (by kernel_rfl) (by kernel_rfl) rfl (an0 (by kernel_rfl)) fun x=>by kernel_rfl
def I46:Sp:=⟨[(0,oi64)],[],[]⟩
def E46:SL:=[(.ret,⟨[(2,op 32)],[(32,c'16)],[]⟩)]
noncomputable def e46:Fe G:=⟨I46,E46,fun x=>nik' x.1.1,Tryz.f37.results.toList⟩
theorem k46:FnOK Tryz.prog G 37 e46:=fk cx tn (jl []) (lp:=(pl [])) Tryz.func37 (by kernel_rfl) (by kernel_rfl) rfl (an0 (by kernel_rfl)) fun x=>by kernel_rfl
def I47:Sp:=⟨[(0,oi64),(1,oi64)],[],[]⟩
def E47:SL:=[(.ret,⟨[(4,op 64)],[(64,c'14)],[]⟩)]
noncomputable def e47:Fe G:=⟨I47,E47,fun x=>ngg' x.1.1 x.1.2.1,Tryz.f81.results.toList⟩
theorem k47:FnOK Tryz.prog G 81 e47:=fk cx tn (jl [(1048577,[(.normal,⟨[(0,oi64),(1,oi64),(4,op 64),(10,ob)],[(64,c'14)],[]⟩)])]) (lp:=(pl [])) Tryz.func81 (by kernel_rfl) (by kernel_rfl) rfl (an0 (by kernel_rfl)) fun x=>by kernel_rfl
def I48:Sp:=⟨[(0,.agg c'14),(1,oi64),(2,oi64)],[],[]⟩
def E48:SL:=[(.ret,⟨[(6,ob)],[],[]⟩)]
noncomputable def e48:Fe G:=⟨I48,E48,fun x=>ncv' x.1.1.1 x.1.1.2.1 x.1.2.1 x.1.2.2.1,Tryz.f76.results.toList⟩
theorem k48:FnOK Tryz.prog G 76 e48:=fk cx (tc k47 (tc k25 tn)) (jl []) (lp:=(pl [])) Tryz.func76 (by kernel_rfl) (by kernel_rfl) rfl (an0 (by kernel_rfl)) fun x=>by kernel_rfl
def I49:Sp:=⟨[(0,.agg c'2),(1,.agg c'7),(2,oro 46)],[],[]⟩
def E49:SL:=[(.ret,⟨[(6,.one (.own 32768 66))],[],[]⟩)]
def S49_0:Sp:=⟨[(3,op 48),(4,op 64),(7,op 112),(25,oro 46),(26,oi64),(27,oi64)],[(48,c'2),(64,c'7),(112,c'14)],[]⟩
def X49_0:SL:=[(.exit 0,⟨[(4,op 64),(7,op 112)],[(64,c'7),(112,c'14)],[]⟩)]
def S49_1:Sp:=⟨[(7,op 112),(10,.one (.own 32768 66)),(38,oro 63),(39,oi64),(40,oi64)],[(112,c'14)],[]⟩
def X49_1:SL:=[(.exit 2,⟨[(10,.one (.own 32768 66))],[],[]⟩)]
def J49:Nat→Option SL:=jl []
noncomputable def P49:Nat→St G→M (Ex×St G):=pl [lpX S49_0 X49_0 nfc',lpX S49_1 X49_1 nfa']
theorem t49:∀ p ∈ [(33,e37),(65,e26),(66,e28),(76,e48)],FnOK Tryz.prog G p.1 p.2:=(tc k37 (tc k26 (tc k28 (tc k48 tn))))
theorem l49_1:LoopOK Tryz.prog G 60 (P49 1) (no' (ni' Tryz.f39) 1):=lk cx t49 J49 2 S49_1 X49_1 (rfl:nfa'=_) (by kernel_rfl) (an0 (by kernel_rfl)) fun x=>by kernel_rfl
theorem l49_0:LoopOK Tryz.prog G 60 (P49 0) (no' (ni' Tryz.f39) 0):=lk cx t49 J49 1 S49_0 X49_0 (rfl:nfc'=_) (by kernel_rfl) (an0 (by kernel_rfl)) fun x=>by kernel_rfl
noncomputable def e49:Fe G:=⟨I49,E49,fun x=>ngr' x.1.1.1 x.1.1.2.1 x.1.1.2.2.1 x.1.1.2.2.2.1 x.1.1.2.2.2.2.1 x.1.1.2.2.2.2.2.1 x.1.1.2.2.2.2.2.2.1 x.1.1.2.2.2.2.2.2.2.1 x.1.2.1.1 x.1.2.1.2.1 x.1.2.1.2.2.1 x.1.2.1.2.2.2.1 x.1.2.2.1,Tryz.f39.results.toList⟩
theorem k49:FnOK Tryz.prog G 39 e49:=fk cx t49 J49 (lp:=P49) Tryz.func39 (by kernel_rfl) (by kernel_rfl) rfl (nj' _ (by kernel_rfl) (nf' l49_0 (nf' l49_1 nl'))) fun x=>by kernel_rfl
def I50:Sp:=⟨[(0,.agg c'6),(1,op 65536),(2,op 65537)],[(65536,[.int .i64]),(65537,[.int .i64])],[]⟩
def E50:SL:=[(.ret,⟨[(4,ob)],[(65536,[.int .i64]),(65537,[.int .i64])],[65536,65537]⟩)]
noncomputable def e50:Fe G:=⟨I50,E50,fun x=>nev' x.1.1.1 x.1.1.2.1 x.1.1.2.2.1 x.1.1.2.2.2.1 x.1.1.2.2.2.2.1 x.2.1.1 x.2.2.1.1,Tryz.f110.results.toList⟩
theorem k50:FnOK Tryz.prog G 110 e50:=fk cx tn (jl [(1048577,[(.normal,⟨[(4,ob)],[(65536,[.int .i64]),(65537,[.int .i64])],[65536,65537]⟩)])]) (lp:=(pl [])) Tryz.func110 (by kernel_rfl) (by kernel_rfl) rfl (an0 (by kernel_rfl)) fun x=>by kernel_rfl
def I51:Sp:=⟨[(0,oro 63),(1,.one (.clo 110 [] [(65536,0),(65537,0)]))],[(65536,[.int .i64]),(65537,[.int .i64])],[]⟩
def E51:SL:=[(.ret,⟨[(4,oi64)],[(65536,[.int .i64]),(65537,[.int .i64])],[65536,65537]⟩)]
def S51_0:Sp:=⟨[(0,oro 63),(1,.one (.clo 110 [] [(65536,0),(65537,0)])),(7,oi64),(8,oi64)],[(65536,[.int .i64]),(65537,[.int .i64])],[65536,65537]⟩
def X51_0:SL:=[(.exit 0,⟨[],[(65536,[.int .i64]),(65537,[.int .i64])],[65536,65537]⟩),(.ret,⟨[(4,oi64)],[(65536,[.int .i64]),(65537,[.int .i64])],[65536,65537]⟩)]
def J51:Nat→Option SL:=jl []
noncomputable def P51:Nat→St G→M (Ex×St G):=pl [lpX S51_0 X51_0 nw']
theorem t51:∀ p ∈ [(110,e50)],FnOK Tryz.prog G p.1 p.2:=(tc k50 tn)
theorem l51_0:LoopOK Tryz.prog G 19 (P51 0) (no' (ni' Tryz.f109) 0):=lk cx t51 J51 1 S51_0 X51_0 (rfl:nw'=_) (by kernel_rfl) (an0 (by kernel_rfl)) fun x=>by kernel_rfl
noncomputable def e51:Fe G:=⟨I51,E51,fun x=>n8' x.1.1 x.2.1.1 x.2.2.1.1,Tryz.f109.results.toList⟩
theorem k51:FnOK Tryz.prog G 109 e51:=fk cx t51 J51 (lp:=P51) Tryz.func109 (by kernel_rfl) (by kernel_rfl) rfl (nj' _ (by kernel_rfl) (nf' l51_0 nl')) fun x=>by kernel_rfl
def I52:Sp:=⟨[(0,.agg c'7),(1,oi64),(2,oi64)],[],[]⟩
def E52:SL:=[(.ret,⟨[(6,oi64),(7,ob)],[],[]⟩)]
noncomputable def e52:Fe G:=⟨I52,E52,fun x=>nf2' x.1.1.1 x.1.1.2.1 x.1.1.2.2.1 x.1.1.2.2.2.1 x.1.2.1 x.1.2.2.1,Tryz.f73.results.toList⟩
theorem k52:FnOK Tryz.prog G 73 e52:=fk cx (tc k51 tn) (jl [(1048580,[(.normal,⟨[(6,oi64),(7,ob)],[],[]⟩)])]) (lp:=(pl [])) Tryz.func73 (by kernel_rfl) (by kernel_rfl) rfl (an0 (by kernel_rfl)) fun x=>by kernel_rfl
def I53:Sp:=⟨[(0,.one (.own 32768 3)),(1,oi64),(2,oi64)],[],[]⟩
def E53:SL:=[(.ret,⟨[(6,.one (.own 32768 3))],[],[]⟩)]
noncomputable def e53:Fe G:=⟨I53,E53,fun x=>nco' x.1.1 x.1.2.1 x.1.2.2.1,Tryz.f74.results.toList⟩
theorem s53:delFe G 6 3=e53:=by kernel_rfl
theorem k53:FnOK Tryz.prog G 74 e53:=s53 ▸ nvj' (r:=6) (t:=3) sigOK ⟨_,Tryz.func74,by kernel_rfl,by kernel_rfl⟩ (by intro h; cases h) (fun _=>rfl) (nqk')
def I54:Sp:=⟨[(0,.one (.own 32768 3)),(1,oi64),(2,.one (.own 32769 3))],[],[]⟩
def E54:SL:=[(.ret,⟨[(6,.one (.own 32768 3))],[],[]⟩)]
noncomputable def e54:Fe G:=⟨I54,E54,fun x=>ncq' x.1.1 x.1.2.1 x.1.2.2.1,Tryz.f75.results.toList⟩
theorem s54:insFe G 6 3=e54:=by kernel_rfl
theorem k54:FnOK Tryz.prog G 75 e54:=s54 ▸ nwc' (r:=6) (t:=3) sigOK ⟨_,Tryz.func75,by kernel_rfl,by kernel_rfl⟩ (by intro h; cases h) (fun _=>rfl) (nqe')
def I55:Sp:=⟨[(0,oi64),(1,oi64),(2,oi64)],[],[]⟩
def E55:SL:=[(.ret,⟨[(6,ob)],[],[]⟩)]
noncomputable def e55:Fe G:=⟨I55,E55,fun x=>nbv' x.1.1 x.1.2.1 x.1.2.2.1,Tryz.f125.results.toList⟩
theorem k55:FnOK Tryz.prog G 125 e55:=fk cx tn (jl [(1048577,[(.normal,⟨[(6,ob)],[],[]⟩)])]) (lp:=(pl [])) Tryz.func125 (by kernel_rfl) (by kernel_rfl) rfl (an0 (by kernel_rfl)) fun x=>by kernel_rfl
def I56:Sp:=⟨[(0,.agg c'2),(1,.agg c'5)],[],[]⟩
def E56:SL:=[(.ret,⟨[(4,ob)],[],[]⟩)]
noncomputable def e56:Fe G:=⟨I56,E56,fun x=>ng5' x.1.1.1 x.1.1.2.1 x.1.1.2.2.1 x.1.1.2.2.2.1 x.1.1.2.2.2.2.1 x.1.1.2.2.2.2.2.1 x.1.1.2.2.2.2.2.2.1 x.1.1.2.2.2.2.2.2.2.1 x.1.2.1.1 x.1.2.1.2.1 x.1.2.1.2.2.1 x.1.2.1.2.2.2.1 x.1.2.1.2.2.2.2.1,Tryz.f97.results.toList⟩
theorem k56:FnOK Tryz.prog G 97 e56:=fk cx (tc k23 (tc k31 (tc k55 tn))) (jl [(1048580,[(.normal,⟨[(2,op 32),(3,op 48),(5,ob),(6,ob)],[(32,c'2),(48,c'5)],[]⟩)]),(1048584,[(.normal,⟨[(4,ob)],[],[]⟩)]),(1048586,[(.normal,⟨[(4,ob)],[],[]⟩)]),(1048588,[(.normal,⟨[(4,ob)],[],[]⟩)]),(1048590,[(.normal,⟨[(4,ob)],[],[]⟩)]),(1048593,[(.normal,⟨[(4,ob)],[],[]⟩)])]) (lp:=(pl [])) Tryz.func97 (by kernel_rfl) (by kernel_rfl) rfl (an0 (by kernel_rfl)) fun x=>by kernel_rfl
def I57:Sp:=⟨[(0,.agg c'7)],[],[]⟩
def E57:SL:=[(.ret,⟨[(2,op 32)],[(32,c'4)],[]⟩)]
noncomputable def e57:Fe G:=⟨I57,E57,fun x=>ni0' x.1.1.1 x.1.1.2.1 x.1.1.2.2.1 x.1.1.2.2.2.1,Tryz.f98.results.toList⟩
theorem k57:FnOK Tryz.prog G 98 e57:=fk cx (tc k42 (tc k43 (tc k44 tn))) (jl []) (lp:=(pl [])) Tryz.func98 (by kernel_rfl) (by kernel_rfl) rfl (an0 (by kernel_rfl)) fun x=>by kernel_rfl
def I58:Sp:=⟨[(0,oro 63),(1,.agg c'6),(2,.one (.clo 68 [] []))],[],[]⟩
def E58:SL:=[(.ret,⟨[(6,oi64),(7,ob)],[],[]⟩)]
def S58_0:Sp:=⟨[(0,oro 63),(2,.one (.clo 68 [] [])),(4,op 64),(8,oi64),(9,oi64),(10,oi64)],[(64,c'6)],[]⟩
def X58_0:SL:=[(.exit 0,⟨[(0,oro 63),(2,.one (.clo 68 [] [])),(4,op 64),(8,oi64),(9,oi64)],[(64,c'6)],[]⟩)]
def J58:Nat→Option SL:=jl [(1048584,[(.normal,⟨[(6,oi64),(7,ob)],[],[]⟩)])]
noncomputable def P58:Nat→St G→M (Ex×St G):=pl [lpX S58_0 X58_0 np']
theorem t58:∀ p ∈ [(68,e36)],FnOK Tryz.prog G p.1 p.2:=(tc k36 tn)
theorem l58_0:LoopOK Tryz.prog G 49 (P58 0) (no' (ni' Tryz.f145) 0):=lk cx t58 J58 1 S58_0 X58_0 (rfl:np'=_) (by kernel_rfl) (an0 (by kernel_rfl)) fun x=>by kernel_rfl
noncomputable def e58:Fe G:=⟨I58,E58,fun x=>n0' x.1.1 x.1.2.1.1 x.1.2.1.2.1 x.1.2.1.2.2.1 x.1.2.1.2.2.2.1 x.1.2.1.2.2.2.2.1,Tryz.f145.results.toList⟩
theorem k58:FnOK Tryz.prog G 145 e58:=fk cx t58 J58 (lp:=P58) Tryz.func145 (by kernel_rfl) (by kernel_rfl) rfl (nj' _ (by kernel_rfl) (nf' l58_0 nl')) fun x=>by kernel_rfl
def I59:Sp:=⟨[(0,.agg c'7),(1,oi64),(2,oi64)],[],[]⟩
def E59:SL:=[(.ret,⟨[(6,oi64),(7,ob)],[],[]⟩)]
noncomputable def e59:Fe G:=⟨I59,E59,fun x=>nkk' x.1.1.1 x.1.1.2.1 x.1.1.2.2.1 x.1.1.2.2.2.1 x.1.2.1 x.1.2.2.1,Tryz.f126.results.toList⟩
theorem k59:FnOK Tryz.prog G 126 e59:=fk cx (tc k58 tn) (jl []) (lp:=(pl [])) Tryz.func126 (by kernel_rfl) (by kernel_rfl) rfl (an0 (by kernel_rfl)) fun x=>by kernel_rfl
def I60:Sp:=⟨[(0,.one (.own 32768 63)),(1,oi64),(2,.one (.own 32769 63))],[],[]⟩
def E60:SL:=[(.ret,⟨[(6,.one (.own 32768 63))],[],[]⟩)]
noncomputable def e60:Fe G:=⟨I60,E60,fun x=>nb7' x.1.1 x.1.2.1 x.1.2.2.1,Tryz.f127.results.toList⟩
theorem s60:insFe G 6 63=e60:=by kernel_rfl
theorem k60:FnOK Tryz.prog G 127 e60:=s60 ▸ nwc' (r:=6) (t:=63) sigOK ⟨_,Tryz.func127,by kernel_rfl,by kernel_rfl⟩ (by intro h; cases h) (fun _=>rfl) (np4')
def I61:Sp:=⟨[(0,.one (.own 32768 63)),(1,oi64),(2,oi64)],[],[]⟩
def E61:SL:=[(.ret,⟨[(6,.one (.own 32768 63))],[],[]⟩)]
noncomputable def e61:Fe G:=⟨I61,E61,fun x=>nb6' x.1.1 x.1.2.1 x.1.2.2.1,Tryz.f128.results.toList⟩
theorem s61:delFe G 6 63=e61:=by kernel_rfl
theorem k61:FnOK Tryz.prog G 128 e61:=s61 ▸ nvj' (r:=6) (t:=63) sigOK ⟨_,Tryz.func128,by kernel_rfl,by kernel_rfl⟩ (by intro h; cases h) (fun _=>rfl) (npm')
def I62:Sp:=⟨[(0,op 65536),(1,.agg c'5)],[(65536,c'4)],[]⟩
def E62:SL:=[(.normal,⟨[],[(65536,c'4)],[65536]⟩)]
noncomputable def e62:Fe G:=⟨I62,E62,fun x=>nic' x.1.2.1.1 x.1.2.1.2.1 x.1.2.1.2.2.1 x.1.2.1.2.2.2.1 x.1.2.1.2.2.2.2.1 x.2.1.1 x.2.1.2.1 x.2.1.2.2.1 x.2.1.2.2.2.1,Tryz.f99.results.toList⟩
theorem k62:FnOK Tryz.prog G 99 e62:=fk cx (tc k59 (tc k60 (tc k61 tn))) (jl []) (lp:=(pl [])) Tryz.func99 (by kernel_rfl) (by kernel_rfl) rfl (an0 (by kernel_rfl)) fun x=>by kernel_rfl
def I63:Sp:=⟨[(0,.agg c'2),(1,.agg c'7),(2,.agg c'5)],[],[]⟩
def E63:SL:=[(.ret,⟨[(6,op 96),(7,oi64)],[(96,c'4)],[]⟩)]
noncomputable def e63:Fe G:=⟨I63,E63,fun x=>ni4' x.1.1.1 x.1.1.2.1 x.1.1.2.2.1 x.1.1.2.2.2.1 x.1.1.2.2.2.2.1 x.1.1.2.2.2.2.2.1 x.1.1.2.2.2.2.2.2.1 x.1.1.2.2.2.2.2.2.2.1 x.1.2.1.1 x.1.2.1.2.1 x.1.2.1.2.2.1 x.1.2.1.2.2.2.1 x.1.2.2.1.1 x.1.2.2.1.2.1 x.1.2.2.1.2.2.1 x.1.2.2.1.2.2.2.1 x.1.2.2.1.2.2.2.2.1,Tryz.f59.results.toList⟩
theorem k63:FnOK Tryz.prog G 59 e63:=fk cx (tc k37 (tc k56 (tc k57 (tc k62 tn)))) (jl []) (lp:=(pl [])) Tryz.func59 (by kernel_rfl) (by kernel_rfl) rfl (an0 (by kernel_rfl)) fun x=>by kernel_rfl
def I64:Sp:=⟨[(0,op 65536),(1,oro 66)],[(65536,c'18)],[]⟩
def E64:SL:=[(.normal,⟨[],[(65536,c'18)],[65536]⟩)]
def S64_0:Sp:=⟨[(0,op 65536),(10,oro 66),(11,oi64),(12,oi64)],[(65536,c'18)],[65536]⟩
def X64_0:SL:=[(.exit 0,⟨[],[(65536,c'18)],[65536]⟩)]
def J64:Nat→Option SL:=jl [(9,[(.normal,⟨[(0,op 65536),(5,op 80),(10,oro 66),(11,oi64),(12,oi64)],[(80,c'5),(65536,c'18)],[65536]⟩)]),(1048580,[(.normal,⟨[(0,op 65536),(5,op 80),(6,oi64),(7,ob),(10,oro 66),(11,oi64),(12,oi64),(29,ob)],[(80,c'5),(65536,c'18)],[65536]⟩)]),(1048582,[(.normal,⟨[(0,op 65536),(5,op 80),(6,oi64),(10,oro 66),(11,oi64),(12,oi64),(49,ob)],[(80,c'5),(65536,c'18)],[65536]⟩)])]
noncomputable def P64:Nat→St G→M (Ex×St G):=pl [lpX S64_0 X64_0 nbq']
theorem t64:∀ p ∈ [(73,e52),(74,e53),(75,e54),(59,e63)],FnOK Tryz.prog G p.1 p.2:=(tc k52 (tc k53 (tc k54 (tc k63 tn))))
theorem l64_0:LoopOK Tryz.prog G 103 (P64 0) (no' (ni' Tryz.f38) 0):=lk cx t64 J64 1 S64_0 X64_0 (rfl:nbq'=_) (by kernel_rfl) (an0 (by kernel_rfl)) fun x=>by kernel_rfl
noncomputable def e64:Fe G:=⟨I64,E64,fun x=>n9' x.1.2.1 x.2.1.1 x.2.1.2.1 x.2.1.2.2.1 x.2.1.2.2.2.1 x.2.1.2.2.2.2.1 x.2.1.2.2.2.2.2.1 x.2.1.2.2.2.2.2.2.1 x.2.1.2.2.2.2.2.2.2.1 x.2.1.2.2.2.2.2.2.2.2.1 x.2.1.2.2.2.2.2.2.2.2.2.1 x.2.1.2.2.2.2.2.2.2.2.2.2.1 x.2.1.2.2.2.2.2.2.2.2.2.2.2.1 x.2.1.2.2.2.2.2.2.2.2.2.2.2.2.1 x.2.1.2.2.2.2.2.2.2.2.2.2.2.2.2.1 x.2.1.2.2.2.2.2.2.2.2.2.2.2.2.2.2.1 x.2.1.2.2.2.2.2.2.2.2.2.2.2.2.2.2.2.1 x.2.1.2.2.2.2.2.2.2.2.2.2.2.2.2.2.2.2.1 x.2.1.2.2.2.2.2.2.2.2.2.2.2.2.2.2.2.2.2.1 x.2.1.2.2.2.2.2.2.2.2.2.2.2.2.2.2.2.2.2.2.1 x.2.1.2.2.2.2.2.2.2.2.2.2.2.2.2.2.2.2.2.2.2.1,Tryz.f38.results.toList⟩
theorem k64:FnOK Tryz.prog G 38 e64:=fk cx t64 J64 (lp:=P64) Tryz.func38 (by kernel_rfl) (by kernel_rfl) rfl (nj' _ (by kernel_rfl) (nf' l64_0 nl')) fun x=>by kernel_rfl
def I65:Sp:=⟨[(0,oro 63)],[],[]⟩
def E65:SL:=[(.ret,⟨[(2,op 32)],[(32,c'14)],[]⟩)]
def S65_0:Sp:=⟨[(2,op 32),(3,op 48),(6,oro 63),(7,oi64),(8,oi64)],[(32,c'14),(48,c'14)],[]⟩
def X65_0:SL:=[(.exit 0,⟨[(2,op 32),(3,op 48)],[(32,c'14),(48,c'14)],[]⟩)]
def J65:Nat→Option SL:=jl []
noncomputable def P65:Nat→St G→M (Ex×St G):=pl [lpX S65_0 X65_0 nh4']
theorem t65:∀ p ∈ [(81,e47),(66,e28)],FnOK Tryz.prog G p.1 p.2:=(tc k47 (tc k28 tn))
theorem l65_0:LoopOK Tryz.prog G 21 (P65 0) (no' (ni' Tryz.f82) 0):=lk cx t65 J65 1 S65_0 X65_0 (rfl:nh4'=_) (by kernel_rfl) (an0 (by kernel_rfl)) fun x=>by kernel_rfl
noncomputable def e65:Fe G:=⟨I65,E65,fun x=>nki' x.1.1,Tryz.f82.results.toList⟩
theorem k65:FnOK Tryz.prog G 82 e65:=fk cx t65 J65 (lp:=P65) Tryz.func82 (by kernel_rfl) (by kernel_rfl) rfl (nj' _ (by kernel_rfl) (nf' l65_0 nl')) fun x=>by kernel_rfl
def I66:Sp:=⟨[(0,.agg c'7)],[],[]⟩
def E66:SL:=[(.ret,⟨[(2,op 32)],[(32,c'14)],[]⟩)]
noncomputable def e66:Fe G:=⟨I66,E66,fun x=>nib' x.1.1.1 x.1.1.2.1 x.1.1.2.2.1 x.1.1.2.2.2.1,Tryz.f41.results.toList⟩
theorem k66:FnOK Tryz.prog G 41 e66:=fk cx (tc k65 tn) (jl []) (lp:=(pl [])) Tryz.func41 (by kernel_rfl) (by kernel_rfl) rfl (an0 (by kernel_rfl)) fun x=>by kernel_rfl
def I67:Sp:=⟨[(0,.agg c'14)],[],[]⟩
def E67:SL:=[(.ret,⟨[(2,.one (.own 32768 63))],[],[]⟩)]
noncomputable def e67:Fe G:=⟨I67,E67,fun x=>nih' x.1.1.1 x.1.1.2.1,Tryz.f77.results.toList⟩
theorem s67:lstFe G 2 63 (fun u d f k=>ncv' u d f k) (fun f d=>Entry.mk f d (-1) 0 false)=e67:=by kernel_rfl
theorem k67:FnOK Tryz.prog G 77 e67:=s67 ▸ n5a' (t:=63) (h:=(fun u d f k=>ncv' u d f k)) (mk:=fun f d=>Entry.mk f d (-1) 0 false) sigOK ⟨_,Tryz.func77,by kernel_rfl,by kernel_rfl⟩ (by kernel_rfl) (fun _ _=>by kernel_rfl) (fun w u d hb hh hgl=>n2f' w u d hb fun p hp w' hw=>ny8' (h:=(fun u d f k=>ncv' u d f k)) ((show e48=hasFe G 6 (fun u d f k=>ncv' u d f k) by kernel_rfl) ▸ k48) (hh p hp) (hgl.below hw) hw.size)
def I68:Sp:=⟨[(0,.agg c'2),(1,.agg c'7)],[],[]⟩
def E68:SL:=[(.ret,⟨[(4,ob)],[],[]⟩)]
noncomputable def e68:Fe G:=⟨I68,E68,fun x=>nkf' x.1.1.1 x.1.1.2.1 x.1.1.2.2.1 x.1.1.2.2.2.1 x.1.1.2.2.2.2.1 x.1.1.2.2.2.2.2.1 x.1.1.2.2.2.2.2.2.1 x.1.1.2.2.2.2.2.2.2.1 x.1.2.1.1 x.1.2.1.2.1 x.1.2.1.2.2.1 x.1.2.1.2.2.2.1,Tryz.f80.results.toList⟩
theorem k68:FnOK Tryz.prog G 80 e68:=fk cx (tc k37 tn) (jl [(1048577,[(.normal,⟨[(4,ob)],[],[]⟩)])]) (lp:=(pl [])) Tryz.func80 (by kernel_rfl) (by kernel_rfl) rfl (an0 (by kernel_rfl)) fun x=>by kernel_rfl
def I69:Sp:=⟨[(0,op 65536),(1,.agg c'14),(2,.agg c'14)],[(65536,c'18)],[]⟩
def E69:SL:=[(.normal,⟨[],[(65536,c'18)],[65536]⟩)]
def S69_0:Sp:=⟨[(0,op 65536),(17,.one (.own 32768 63)),(18,oi64),(19,oi64)],[(65536,c'19)],[65536]⟩
def X69_0:SL:=[(.exit 0,⟨[],[(65536,c'18)],[65536]⟩)]
def J69:Nat→Option SL:=jl []
noncomputable def P69:Nat→St G→M (Ex×St G):=pl [lpX S69_0 X69_0 nbu']
theorem t69:∀ p ∈ [(79,e24),(78,e25),(64,e27),(77,e67),(80,e68),(38,e64),(81,e47),(66,e28)],FnOK Tryz.prog G p.1 p.2:=(tc k24 (tc k25 (tc k27 (tc k67 (tc k68 (tc k64 (tc k47 (tc k28 tn))))))))
theorem l69_0:LoopOK Tryz.prog G 57 (P69 0) (no' (ni' Tryz.f40) 0):=lk cx t69 J69 1 S69_0 X69_0 (rfl:nbu'=_) (by kernel_rfl) (an0 (by kernel_rfl)) fun x=>by kernel_rfl
noncomputable def e69:Fe G:=⟨I69,E69,fun x=>nb1' x.1.2.1.1 x.1.2.1.2.1 x.1.2.2.1.1 x.1.2.2.1.2.1 x.2.1.1 x.2.1.2.1 x.2.1.2.2.1 x.2.1.2.2.2.1 x.2.1.2.2.2.2.1 x.2.1.2.2.2.2.2.1 x.2.1.2.2.2.2.2.2.1 x.2.1.2.2.2.2.2.2.2.1 x.2.1.2.2.2.2.2.2.2.2.1 x.2.1.2.2.2.2.2.2.2.2.2.1 x.2.1.2.2.2.2.2.2.2.2.2.2.1 x.2.1.2.2.2.2.2.2.2.2.2.2.2.1 x.2.1.2.2.2.2.2.2.2.2.2.2.2.2.1 x.2.1.2.2.2.2.2.2.2.2.2.2.2.2.2.1 x.2.1.2.2.2.2.2.2.2.2.2.2.2.2.2.2.1 x.2.1.2.2.2.2.2.2.2.2.2.2.2.2.2.2.2.1 x.2.1.2.2.2.2.2.2.2.2.2.2.2.2.2.2.2.2.1 x.2.1.2.2.2.2.2.2.2.2.2.2.2.2.2.2.2.2.2.1 x.2.1.2.2.2.2.2.2.2.2.2.2.2.2.2.2.2.2.2.2.1 x.2.1.2.2.2.2.2.2.2.2.2.2.2.2.2.2.2.2.2.2.2.1,Tryz.f40.results.toList⟩
theorem k69:FnOK Tryz.prog G 40 e69:=fk cx t69 J69 (lp:=P69) Tryz.func40 (by kernel_rfl) (by kernel_rfl) rfl (nj' _ (by kernel_rfl) (nf' l69_0 nl')) fun x=>by kernel_rfl
def I70:Sp:=⟨[(0,oi64)],[],[]⟩
def E70:SL:=[(.ret,⟨[(2,ob)],[],[]⟩)]
noncomputable def e70:Fe G:=⟨I70,E70,fun x=>ngm' x.1.1,Tryz.f83.results.toList⟩
theorem k70:FnOK Tryz.prog G 83 e70:=fk cx tn (jl [(1048577,[(.normal,⟨[(2,ob)],[],[]⟩)])]) (lp:=(pl [])) Tryz.func83 (by kernel_rfl) (by kernel_rfl) rfl (an0 (by kernel_rfl)) fun x=>by kernel_rfl
def I71:Sp:=⟨[(0,oro 3),(1,.one (.clo 83 [] []))],[],[]⟩
def E71:SL:=[(.ret,⟨[(4,oi64)],[],[]⟩)]
def S71_0:Sp:=⟨[(0,oro 3),(1,.one (.clo 83 [] [])),(7,oi64),(8,oi64)],[],[]⟩
def X71_0:SL:=[(.exit 0,⟨[],[],[]⟩),(.ret,⟨[(4,oi64)],[],[]⟩)]
def J71:Nat→Option SL:=jl []
noncomputable def P71:Nat→St G→M (Ex×St G):=pl [lpX S71_0 X71_0 nbc']
theorem t71:∀ p ∈ [(83,e70)],FnOK Tryz.prog G p.1 p.2:=(tc k70 tn)
theorem l71_0:LoopOK Tryz.prog G 19 (P71 0) (no' (ni' Tryz.f108) 0):=lk cx t71 J71 1 S71_0 X71_0 (rfl:nbc'=_) (by kernel_rfl) (an0 (by kernel_rfl)) fun x=>by kernel_rfl
noncomputable def e71:Fe G:=⟨I71,E71,fun x=>nbt' x.1.1,Tryz.f108.results.toList⟩
theorem k71:FnOK Tryz.prog G 108 e71:=fk cx t71 J71 (lp:=P71) Tryz.func108 (by kernel_rfl) (by kernel_rfl) rfl (nj' _ (by kernel_rfl) (nf' l71_0 nl')) fun x=>by kernel_rfl
def I72:Sp:=⟨[(0,oro 3),(1,.one (.clo 83 [] []))],[],[]⟩
def E72:SL:=[(.ret,⟨[(4,ob)],[],[]⟩)]
noncomputable def e72:Fe G:=⟨I72,E72,fun x=>nba' x.1.1,Tryz.f69.results.toList⟩
theorem k72:FnOK Tryz.prog G 69 e72:=fk cx (tc k71 tn) (jl []) (lp:=(pl [])) Tryz.func69 (by kernel_rfl) (by kernel_rfl) rfl (an0 (by kernel_rfl)) fun x=>by kernel_rfl
def I73:Sp:=⟨[(0,oi64)],[],[]⟩
def E73:SL:=[(.ret,⟨[(2,ob)],[],[]⟩)]
noncomputable def e73:Fe G:=⟨I73,E73,fun x=>nez' x.1.1,Tryz.f136.results.toList⟩
theorem k73:FnOK Tryz.prog G 136 e73:=fk cx tn (jl [(1048577,[(.normal,⟨[(2,ob)],[],[]⟩)])]) (lp:=(pl [])) Tryz.func136 (by kernel_rfl) (by kernel_rfl) rfl (an0 (by kernel_rfl)) fun x=>by kernel_rfl
def I74:Sp:=⟨[(0,oi64),(1,oi64),(2,oi64)],[],[]⟩
def E74:SL:=[(.ret,⟨[(6,ob)],[],[]⟩)]
noncomputable def e74:Fe G:=⟨I74,E74,fun x=>nhk' x.1.1 x.1.2.1 x.1.2.2.1,Tryz.f137.results.toList⟩
theorem k74:FnOK Tryz.prog G 137 e74:=fk cx tn (jl [(1048577,[(.normal,⟨[(6,ob)],[],[]⟩)])]) (lp:=(pl [])) Tryz.func137 (by kernel_rfl) (by kernel_rfl) rfl (an0 (by kernel_rfl)) fun x=>by kernel_rfl
def I75:Sp:=⟨[(0,oi64),(1,.agg c'20)],[],[]⟩
def E75:SL:=[(.ret,⟨[(4,op 64)],[(64,c'20)],[]⟩)]
noncomputable def e75:Fe G:=⟨I75,E75,fun x=>nfo' x.1.1 x.1.2.1.1 x.1.2.1.2.1 x.1.2.1.2.2.1,Tryz.f138.results.toList⟩
theorem k75:FnOK Tryz.prog G 138 e75:=fk cx (tc k25 tn) (jl []) (lp:=(pl [])) Tryz.func138 (by kernel_rfl) (by kernel_rfl) rfl (an0 (by kernel_rfl)) fun x=>by kernel_rfl
def I76:Sp:=⟨[(0,ou32)],[],[]⟩
def E76:SL:=[(.ret,⟨[(2,oi64)],[],[]⟩)]
noncomputable def e76:Fe G:=⟨I76,E76,fun x=>ncm' x.1.1,Tryz.f139.results.toList⟩
theorem k76:FnOK Tryz.prog G 139 e76:=fk cx tn (jl []) (lp:=(pl [])) Tryz.func139 (by kernel_rfl) (by kernel_rfl) rfl (an0 (by kernel_rfl)) fun x=>by kernel_rfl
def I77:Sp:=⟨[(0,ou32)],[],[]⟩
def E77:SL:=[(.ret,⟨[(2,oi64)],[],[]⟩)]
noncomputable def e77:Fe G:=⟨I77,E77,fun x=>ngw' x.1.1,Tryz.f140.results.toList⟩
theorem k77:FnOK Tryz.prog G 140 e77:=fk cx tn (jl [(5,[(.normal,⟨[(0,ou32),(2,oi64)],[],[]⟩)]),(8,[(.normal,⟨[(0,ou32),(2,oi64)],[],[]⟩)])]) (lp:=(pl [])) Tryz.func140 (by kernel_rfl) (by kernel_rfl) rfl (an0 (by kernel_rfl)) fun x=>by kernel_rfl
def I78:Sp:=⟨[(0,.one (.own 32768 3)),(1,op 65536),(2,op 65537)],[(65536,[.int .i64]),(65537,[.int .i64])],[]⟩
def E78:SL:=[(.ret,⟨[(4,oi64)],[(65536,[.int .i64]),(65537,[.int .i64])],[65536,65537]⟩)]
def S78_0:Sp:=⟨[(5,oi64),(6,oi64),(13,.one (.own 32768 3)),(14,oi64),(15,oi64)],[(65536,[.int .i64]),(65537,[.int .i64])],[65536,65537]⟩
def X78_0:SL:=[(.exit 0,⟨[(5,oi64)],[(65536,[.int .i64]),(65537,[.int .i64])],[65536,65537]⟩)]
def J78:Nat→Option SL:=jl []
noncomputable def P78:Nat→St G→M (Ex×St G):=pl [lpX S78_0 X78_0 ndo']
theorem l78_0:LoopOK Tryz.prog G 31 (P78 0) (no' (ni' Tryz.f141) 0):=lk cx tn J78 1 S78_0 X78_0 (rfl:ndo'=_) (by kernel_rfl) (an0 (by kernel_rfl)) fun x=>by kernel_rfl
noncomputable def e78:Fe G:=⟨I78,E78,fun x=>ns' x.1.1 x.2.1.1 x.2.2.1.1,Tryz.f141.results.toList⟩
theorem k78:FnOK Tryz.prog G 141 e78:=fk cx tn J78 (lp:=P78) Tryz.func141 (by kernel_rfl) (by kernel_rfl) rfl (nj' _ (by kernel_rfl) (nf' l78_0 nl')) fun x=>by kernel_rfl
def I79:Sp:=⟨[(0,oi64),(1,oi64),(2,oi64),(3,.agg c'20),(4,oi64),(5,oi64)],[],[]⟩
def E79:SL:=[(.ret,⟨[(12,oi64)],[],[]⟩)]
noncomputable def e79:Fe G:=⟨I79,E79,fun x=>ndm' x.1.1 x.1.2.1 x.1.2.2.1 x.1.2.2.2.1.1 x.1.2.2.2.1.2.1 x.1.2.2.2.1.2.2.1 x.1.2.2.2.2.1 x.1.2.2.2.2.2.1,Tryz.f116.results.toList⟩
theorem k79:FnOK Tryz.prog G 116 e79:=fk cx (tc k73 (tc k74 (tc k75 (tc k76 (tc k77 (tc k78 tn)))))) (jl [(1048583,[(.normal,⟨[(2,oi64),(5,oi64),(15,oi64),(16,oi64),(17,.one (.clo 141 [] [(112,0),(160,0)])),(18,ob)],[(112,[.int .i64]),(160,[.int .i64])],[]⟩)]),(1048584,[(.normal,⟨[(2,oi64),(5,oi64),(15,oi64),(16,oi64),(17,.one (.clo 141 [] [(112,0),(160,0)])),(87,ob)],[(112,[.int .i64]),(160,[.int .i64])],[]⟩)]),(1048586,[(.normal,⟨[(2,oi64),(5,oi64),(15,oi64),(16,oi64),(17,.one (.clo 141 [] [(112,0),(160,0)])),(100,ob)],[(112,[.int .i64]),(160,[.int .i64])],[]⟩)])]) (lp:=(pl [])) Tryz.func116 (by kernel_rfl) (by kernel_rfl) rfl (an0 (by kernel_rfl)) fun x=>by kernel_rfl
def I80:Sp:=⟨[(0,ou32)],[],[]⟩
def E80:SL:=[(.ret,⟨[(2,oi64)],[],[]⟩)]
noncomputable def e80:Fe G:=⟨I80,E80,fun x=>ncd' x.1.1,Tryz.f142.results.toList⟩
theorem k80:FnOK Tryz.prog G 142 e80:=fk cx tn (jl []) (lp:=(pl [])) Tryz.func142 (by kernel_rfl) (by kernel_rfl) rfl (an0 (by kernel_rfl)) fun x=>by kernel_rfl
def I81:Sp:=⟨[(0,.agg c'14)],[],[]⟩
def E81:SL:=[(.ret,⟨[(2,oi64)],[],[]⟩)]
noncomputable def e81:Fe G:=⟨I81,E81,fun x=>njx' x.1.1.1 x.1.1.2.1,Tryz.f143.results.toList⟩
theorem k81:FnOK Tryz.prog G 143 e81:=fk cx (tc k80 tn) (jl []) (lp:=(pl [])) Tryz.func143 (by kernel_rfl) (by kernel_rfl) rfl (an0 (by kernel_rfl)) fun x=>by kernel_rfl
def I82:Sp:=⟨[(0,oi64),(1,.agg c'20)],[],[]⟩
def E82:SL:=[(.ret,⟨[(4,oi64)],[],[]⟩)]
noncomputable def e82:Fe G:=⟨I82,E82,fun x=>nft' x.1.1 x.1.2.1.1 x.1.2.1.2.1 x.1.2.1.2.2.1,Tryz.f117.results.toList⟩
theorem k82:FnOK Tryz.prog G 117 e82:=fk cx (tc k73 (tc k75 (tc k80 (tc k81 tn)))) (jl []) (lp:=(pl [])) Tryz.func117 (by kernel_rfl) (by kernel_rfl) rfl (an0 (by kernel_rfl)) fun x=>by kernel_rfl
def I83:Sp:=⟨[(0,.agg c'2),(1,oi64),(2,.agg c'15),(3,oi64),(4,oi64)],[],[]⟩
def E83:SL:=[(.ret,⟨[(10,oi64)],[],[]⟩)]
noncomputable def e83:Fe G:=⟨I83,E83,fun x=>ncy' x.1.1.1 x.1.1.2.1 x.1.1.2.2.1 x.1.1.2.2.2.1 x.1.1.2.2.2.2.1 x.1.1.2.2.2.2.2.1 x.1.1.2.2.2.2.2.2.1 x.1.1.2.2.2.2.2.2.2.1 x.1.2.1 x.1.2.2.1.1 x.1.2.2.1.2.1 x.1.2.2.1.2.2.1 x.1.2.2.1.2.2.2.1 x.1.2.2.1.2.2.2.2.1 x.1.2.2.1.2.2.2.2.2.1 x.1.2.2.1.2.2.2.2.2.2.1 x.1.2.2.1.2.2.2.2.2.2.2.1 x.1.2.2.1.2.2.2.2.2.2.2.2.1 x.1.2.2.1.2.2.2.2.2.2.2.2.2.1 x.1.2.2.1.2.2.2.2.2.2.2.2.2.2.1 x.1.2.2.1.2.2.2.2.2.2.2.2.2.2.2.1 x.1.2.2.2.1 x.1.2.2.2.2.1,Tryz.f86.results.toList⟩
theorem k83:FnOK Tryz.prog G 86 e83:=fk cx (tc k23 (tc k79 (tc k82 tn))) (jl [(7,[(.normal,⟨[(1,oi64),(3,oi64),(4,oi64),(5,op 80),(7,op 112),(11,oi64)],[(80,c'2),(112,c'15)],[]⟩)])]) (lp:=(pl [])) Tryz.func86 (by kernel_rfl) (by kernel_rfl) rfl (an0 (by kernel_rfl)) fun x=>by kernel_rfl
def I84:Sp:=⟨[(0,.agg c'15)],[],[]⟩
def E84:SL:=[(.ret,⟨[(2,ob)],[],[]⟩)]
noncomputable def e84:Fe G:=⟨I84,E84,fun x=>nd2' x.1.1.1 x.1.1.2.1 x.1.1.2.2.1 x.1.1.2.2.2.1 x.1.1.2.2.2.2.1 x.1.1.2.2.2.2.2.1 x.1.1.2.2.2.2.2.2.1 x.1.1.2.2.2.2.2.2.2.1 x.1.1.2.2.2.2.2.2.2.2.1 x.1.1.2.2.2.2.2.2.2.2.2.1 x.1.1.2.2.2.2.2.2.2.2.2.2.1 x.1.1.2.2.2.2.2.2.2.2.2.2.2.1,Tryz.f135.results.toList⟩
theorem k84:FnOK Tryz.prog G 135 e84:=fk cx tn (jl [(1048577,[(.normal,⟨[(2,ob)],[],[]⟩)])]) (lp:=(pl [])) Tryz.func135 (by kernel_rfl) (by kernel_rfl) rfl (an0 (by kernel_rfl)) fun x=>by kernel_rfl
def I85:Sp:=⟨[(0,.agg c'2),(1,oro 46),(2,oi64),(3,oi64),(4,oi64)],[],[]⟩
def E85:SL:=[(.ret,⟨[(10,op 160)],[(160,c'21)],[]⟩)]
noncomputable def e85:Fe G:=⟨I85,E85,fun x=>nem' x.1.1.1 x.1.1.2.1 x.1.1.2.2.1 x.1.1.2.2.2.1 x.1.1.2.2.2.2.1 x.1.1.2.2.2.2.2.1 x.1.1.2.2.2.2.2.2.1 x.1.1.2.2.2.2.2.2.2.1 x.1.2.1 x.1.2.2.1 x.1.2.2.2.1 x.1.2.2.2.2.1,Tryz.f133.results.toList⟩
theorem k85:FnOK Tryz.prog G 133 e85:=fk cx (tc k83 (tc k84 tn)) (jl []) (lp:=(pl [])) Tryz.func133 (by kernel_rfl) (by kernel_rfl) rfl (an0 (by kernel_rfl)) fun x=>by kernel_rfl
def I86:Sp:=⟨[(0,.agg c'21),(1,.agg c'21)],[],[]⟩
def E86:SL:=[(.ret,⟨[(4,ob)],[],[]⟩)]
noncomputable def e86:Fe G:=⟨I86,E86,fun x=>ne2' x.1.1.1 x.1.1.2.1 x.1.2.1.1 x.1.2.1.2.1,Tryz.f134.results.toList⟩
theorem k86:FnOK Tryz.prog G 134 e86:=fk cx tn (jl [(1048579,[(.normal,⟨[(4,ob)],[],[]⟩)])]) (lp:=(pl [])) Tryz.func134 (by kernel_rfl) (by kernel_rfl) rfl (an0 (by kernel_rfl)) fun x=>by kernel_rfl
def I87:Sp:=⟨[(0,.agg c'2),(1,oro 46),(2,oi64),(3,oi64),(4,oi64)],[],[]⟩
def E87:SL:=[(.ret,⟨[(10,oi64)],[],[]⟩)]
def S87_0:Sp:=⟨[(1,oro 46),(2,oi64),(3,oi64),(4,oi64),(5,op 80),(11,oi64),(12,op 192),(28,oro 46),(29,oi64),(30,oi64)],[(80,c'2),(192,c'21)],[]⟩
def X87_0:SL:=[(.exit 0,⟨[(11,oi64)],[],[]⟩)]
def J87:Nat→Option SL:=jl [(1048585,[(.normal,⟨[(1,oro 46),(2,oi64),(3,oi64),(4,oi64),(5,op 80),(11,oi64),(12,op 192),(13,oi64),(15,op 240),(28,oro 46),(29,oi64),(30,oi64),(55,ob)],[(80,c'2),(192,c'21),(240,c'21)],[]⟩)])]
noncomputable def P87:Nat→St G→M (Ex×St G):=pl [lpX S87_0 X87_0 nfd']
theorem t87:∀ p ∈ [(63,e23),(133,e85),(134,e86)],FnOK Tryz.prog G p.1 p.2:=(tc k23 (tc k85 (tc k86 tn)))
theorem l87_0:LoopOK Tryz.prog G 60 (P87 0) (no' (ni' Tryz.f114) 0):=lk cx t87 J87 1 S87_0 X87_0 (rfl:nfd'=_) (by kernel_rfl) (an0 (by kernel_rfl)) fun x=>by kernel_rfl
noncomputable def e87:Fe G:=⟨I87,E87,fun x=>ndv' x.1.1.1 x.1.1.2.1 x.1.1.2.2.1 x.1.1.2.2.2.1 x.1.1.2.2.2.2.1 x.1.1.2.2.2.2.2.1 x.1.1.2.2.2.2.2.2.1 x.1.1.2.2.2.2.2.2.2.1 x.1.2.1 x.1.2.2.1 x.1.2.2.2.1 x.1.2.2.2.2.1,Tryz.f114.results.toList⟩
theorem k87:FnOK Tryz.prog G 114 e87:=fk cx t87 J87 (lp:=P87) Tryz.func114 (by kernel_rfl) (by kernel_rfl) rfl (nj' _ (by kernel_rfl) (nf' l87_0 nl')) fun x=>by kernel_rfl
def I88:Sp:=⟨[(0,.agg c'22),(1,.agg c'6),(2,oi64)],[],[]⟩
def E88:SL:=[(.ret,⟨[(6,oi64)],[],[]⟩)]
noncomputable def e88:Fe G:=⟨I88,E88,fun x=>ndn' x.1.1.1 x.1.1.2.1 x.1.1.2.2.1 x.1.1.2.2.2.1 x.1.1.2.2.2.2.1 x.1.1.2.2.2.2.2.1 x.1.1.2.2.2.2.2.2.1 x.1.1.2.2.2.2.2.2.2.1 x.1.1.2.2.2.2.2.2.2.2.1 x.1.2.1.1 x.1.2.1.2.1 x.1.2.1.2.2.1 x.1.2.1.2.2.2.1 x.1.2.1.2.2.2.2.1 x.1.2.2.1,Tryz.f115.results.toList⟩
theorem k88:FnOK Tryz.prog G 115 e88:=fk cx (tc k87 (tc k85 (tc k86 (tc k84 tn)))) (jl [(1048581,[(.normal,⟨[(3,op 48),(7,oi64),(8,op 128),(9,ob)],[(48,c'22),(128,c'15)],[]⟩)]),(1048582,[(.normal,⟨[(7,oi64),(78,ob)],[],[]⟩)])]) (lp:=(pl [])) Tryz.func115 (by kernel_rfl) (by kernel_rfl) rfl (an0 (by kernel_rfl)) fun x=>by kernel_rfl
def I89:Sp:=⟨[(0,.agg c'22),(1,.agg c'6),(2,oi64)],[],[]⟩
def E89:SL:=[(.ret,⟨[(6,op 96)],[(96,c'6)],[]⟩)]
noncomputable def e89:Fe G:=⟨I89,E89,fun x=>ndb' x.1.1.1 x.1.1.2.1 x.1.1.2.2.1 x.1.1.2.2.2.1 x.1.1.2.2.2.2.1 x.1.1.2.2.2.2.2.1 x.1.1.2.2.2.2.2.2.1 x.1.1.2.2.2.2.2.2.2.1 x.1.1.2.2.2.2.2.2.2.2.1 x.1.2.1.1 x.1.2.1.2.1 x.1.2.1.2.2.1 x.1.2.1.2.2.2.1 x.1.2.1.2.2.2.2.1 x.1.2.2.1,Tryz.f84.results.toList⟩
theorem k89:FnOK Tryz.prog G 84 e89:=fk cx (tc k87 (tc k88 tn)) (jl [(1048581,[(.normal,⟨[(2,oi64),(3,op 48),(4,op 64),(6,op 96),(7,oi64),(31,ob)],[(48,c'22),(64,c'6),(96,c'6)],[]⟩)]),(1048586,[(.normal,⟨[(2,oi64),(3,op 48),(4,op 64),(6,op 96),(70,ob)],[(48,c'22),(64,c'6),(96,c'6)],[]⟩)])]) (lp:=(pl [])) Tryz.func84 (by kernel_rfl) (by kernel_rfl) rfl (an0 (by kernel_rfl)) fun x=>by kernel_rfl
def I90:Sp:=⟨[(0,.agg c'6),(1,.agg c'6)],[],[]⟩
def E90:SL:=[(.ret,⟨[(4,.one (.own 32768 66))],[],[]⟩)]
noncomputable def e90:Fe G:=⟨I90,E90,fun x=>nf1' x.1.1.1 x.1.1.2.1 x.1.1.2.2.1 x.1.1.2.2.2.1 x.1.1.2.2.2.2.1 x.1.2.1.1 x.1.2.1.2.1 x.1.2.1.2.2.1 x.1.2.1.2.2.2.1 x.1.2.1.2.2.2.2.1,Tryz.f85.results.toList⟩
theorem k90:FnOK Tryz.prog G 85 e90:=fk cx tn (jl [(8,[(.normal,⟨[(2,op 32),(3,op 48),(5,.one (.own 32768 66))],[(32,c'6),(48,c'6)],[]⟩)]),(1048578,[(.normal,⟨[(2,op 32),(3,op 48),(5,.one (.own 32768 66)),(18,ob)],[(32,c'6),(48,c'6)],[]⟩)])]) (lp:=(pl [])) Tryz.func85 (by kernel_rfl) (by kernel_rfl) rfl (an0 (by kernel_rfl)) fun x=>by kernel_rfl
def I91:Sp:=⟨[(0,.agg c'2),(1,.agg c'7),(2,oro 3),(3,oro 46)],[],[]⟩
def E91:SL:=[(.ret,⟨[(8,.one (.own 32768 66)),(9,.one (.own 32769 3)),(10,oi64)],[],[]⟩)]
def S91_0:Sp:=⟨[(2,oro 3),(3,oro 46),(4,op 64),(11,op 176),(12,.one (.own 32768 66)),(13,.one (.own 32769 3)),(48,oro 63),(49,oi64),(50,oi64)],[(64,c'2),(176,c'22)],[]⟩
def X91_0:SL:=[(.exit 0,⟨[(12,.one (.own 32768 66)),(13,.one (.own 32769 3))],[],[]⟩)]
def J91:Nat→Option SL:=jl [(1048588,[(.normal,⟨[(2,oro 3),(3,oro 46),(4,op 64),(11,op 176),(12,.one (.own 32768 66)),(13,.one (.own 32769 3)),(14,oi64),(15,op 240),(16,op 256),(48,oro 63),(49,oi64),(50,oi64),(85,ob)],[(64,c'2),(176,c'22),(240,c'6),(256,c'6)],[]⟩)])]
noncomputable def P91:Nat→St G→M (Ex×St G):=pl [lpX S91_0 X91_0 ngp']
theorem t91:∀ p ∈ [(33,e37),(69,e72),(84,e89),(85,e90),(86,e83)],FnOK Tryz.prog G p.1 p.2:=(tc k37 (tc k72 (tc k89 (tc k90 (tc k83 tn)))))
theorem l91_0:LoopOK Tryz.prog G 114 (P91 0) (no' (ni' Tryz.f42) 0):=lk cx t91 J91 1 S91_0 X91_0 (rfl:ngp'=_) (by kernel_rfl) (an0 (by kernel_rfl)) fun x=>by kernel_rfl
noncomputable def e91:Fe G:=⟨I91,E91,fun x=>nel' x.1.1.1 x.1.1.2.1 x.1.1.2.2.1 x.1.1.2.2.2.1 x.1.1.2.2.2.2.1 x.1.1.2.2.2.2.2.1 x.1.1.2.2.2.2.2.2.1 x.1.1.2.2.2.2.2.2.2.1 x.1.2.1.1 x.1.2.1.2.1 x.1.2.1.2.2.1 x.1.2.1.2.2.2.1 x.1.2.2.1 x.1.2.2.2.1,Tryz.f42.results.toList⟩
theorem k91:FnOK Tryz.prog G 42 e91:=fk cx t91 J91 (lp:=P91) Tryz.func42 (by kernel_rfl) (by kernel_rfl) rfl (nj' _ (by kernel_rfl) (nf' l91_0 nl')) fun x=>by kernel_rfl
def I92:Sp:=⟨[(0,.agg c'2),(1,.agg c'7),(2,oro 3),(3,oro 46),(4,oro 26),(5,.agg c'14),(6,ob)],[],[]⟩
def E92:SL:=[(.ret,⟨[(14,op 224),(15,oi64)],[(224,c'23)],[]⟩)]
noncomputable def e92:Fe G:=⟨I92,E92,fun x=>nbw' x.1.1.1 x.1.1.2.1 x.1.1.2.2.1 x.1.1.2.2.2.1 x.1.1.2.2.2.2.1 x.1.1.2.2.2.2.2.1 x.1.1.2.2.2.2.2.2.1 x.1.1.2.2.2.2.2.2.2.1 x.1.2.1.1 x.1.2.1.2.1 x.1.2.1.2.2.1 x.1.2.1.2.2.2.1 x.1.2.2.1 x.1.2.2.2.1 x.1.2.2.2.2.1 x.1.2.2.2.2.2.1.1 x.1.2.2.2.2.2.1.2.1 x.1.2.2.2.2.2.2.1,Tryz.f11.results.toList⟩
theorem k92:FnOK Tryz.prog G 11 e92:=fk cx (tc k29 (tc k37 (tc k41 (tc k45 (tc k42 (tc k46 (tc k49 (tc k64 (tc k66 (tc k69 (tc k91 tn))))))))))) (jl [(11,[(.normal,⟨[(3,oro 46),(7,op 112),(14,op 224),(18,op 736)],[(112,c'2),(224,c'23),(736,c'24)],[]⟩)])]) (lp:=(pl [])) Tryz.func11 (by kernel_rfl) (by kernel_rfl) rfl (an0 (by kernel_rfl)) fun x=>by kernel_rfl
def I93:Sp:=⟨[(0,oro 66),(1,oro 66)],[],[]⟩
def E93:SL:=[(.ret,⟨[(4,ob)],[],[]⟩)]
def S93_0:Sp:=⟨[(0,oro 66),(1,oro 66),(12,oi64),(13,oi64)],[],[]⟩
def X93_0:SL:=[(.exit 0,⟨[],[],[]⟩),(.ret,⟨[(4,ob)],[],[]⟩)]
def J93:Nat→Option SL:=jl []
noncomputable def P93:Nat→St G→M (Ex×St G):=pl [lpX S93_0 X93_0 nbx']
theorem l93_0:LoopOK Tryz.prog G 26 (P93 0) (no' (ni' Tryz.f54) 0):=lk cx tn J93 1 S93_0 X93_0 (rfl:nbx'=_) (by kernel_rfl) (an0 (by kernel_rfl)) fun x=>by kernel_rfl
noncomputable def e93:Fe G:=⟨I93,E93,fun x=>nc9' x.1.1 x.1.2.1,Tryz.f54.results.toList⟩
theorem k93:FnOK Tryz.prog G 54 e93:=fk cx tn J93 (lp:=P93) Tryz.func54 (by kernel_rfl) (by kernel_rfl) rfl (nj' _ (by kernel_rfl) (nf' l93_0 nl')) fun x=>by kernel_rfl
def I94:Sp:=⟨[(0,oro 3),(1,oro 3)],[],[]⟩
def E94:SL:=[(.ret,⟨[(4,ob)],[],[]⟩)]
def S94_0:Sp:=⟨[(0,oro 3),(1,oro 3),(12,oi64),(13,oi64)],[],[]⟩
def X94_0:SL:=[(.exit 0,⟨[],[],[]⟩),(.ret,⟨[(4,ob)],[],[]⟩)]
def J94:Nat→Option SL:=jl []
noncomputable def P94:Nat→St G→M (Ex×St G):=pl [lpX S94_0 X94_0 ndq']
theorem l94_0:LoopOK Tryz.prog G 26 (P94 0) (no' (ni' Tryz.f56) 0):=lk cx tn J94 1 S94_0 X94_0 (rfl:ndq'=_) (by kernel_rfl) (an0 (by kernel_rfl)) fun x=>by kernel_rfl
noncomputable def e94:Fe G:=⟨I94,E94,fun x=>nd6' x.1.1 x.1.2.1,Tryz.f56.results.toList⟩
theorem k94:FnOK Tryz.prog G 56 e94:=fk cx tn J94 (lp:=P94) Tryz.func56 (by kernel_rfl) (by kernel_rfl) rfl (nj' _ (by kernel_rfl) (nf' l94_0 nl')) fun x=>by kernel_rfl
def I95:Sp:=⟨[(0,oro 4),(1,oro 4)],[],[]⟩
def E95:SL:=[(.ret,⟨[(4,ob)],[],[]⟩)]
def S95_0:Sp:=⟨[(0,oro 4),(1,oro 4),(12,oi64),(13,oi64)],[],[]⟩
def X95_0:SL:=[(.exit 0,⟨[],[],[]⟩),(.ret,⟨[(4,ob)],[],[]⟩)]
def J95:Nat→Option SL:=jl []
noncomputable def P95:Nat→St G→M (Ex×St G):=pl [lpX S95_0 X95_0 nda']
theorem l95_0:LoopOK Tryz.prog G 26 (P95 0) (no' (ni' Tryz.f93) 0):=lk cx tn J95 1 S95_0 X95_0 (rfl:nda'=_) (by kernel_rfl) (an0 (by kernel_rfl)) fun x=>by kernel_rfl
noncomputable def e95:Fe G:=⟨I95,E95,fun x=>nci' x.1.1 x.1.2.1,Tryz.f93.results.toList⟩
theorem k95:FnOK Tryz.prog G 93 e95:=fk cx tn J95 (lp:=P95) Tryz.func93 (by kernel_rfl) (by kernel_rfl) rfl (nj' _ (by kernel_rfl) (nf' l95_0 nl')) fun x=>by kernel_rfl
def I96:Sp:=⟨[(0,oro 63),(1,oro 63)],[],[]⟩
def E96:SL:=[(.ret,⟨[(4,ob)],[],[]⟩)]
def S96_0:Sp:=⟨[(0,oro 63),(1,oro 63),(12,oi64),(13,oi64)],[],[]⟩
def X96_0:SL:=[(.exit 0,⟨[],[],[]⟩),(.ret,⟨[(4,ob)],[],[]⟩)]
def J96:Nat→Option SL:=jl []
noncomputable def P96:Nat→St G→M (Ex×St G):=pl [lpX S96_0 X96_0 nb3']
theorem l96_0:LoopOK Tryz.prog G 26 (P96 0) (no' (ni' Tryz.f94) 0):=lk cx tn J96 1 S96_0 X96_0 (rfl:nb3'=_) (by kernel_rfl) (an0 (by kernel_rfl)) fun x=>by kernel_rfl
noncomputable def e96:Fe G:=⟨I96,E96,fun x=>ndk' x.1.1 x.1.2.1,Tryz.f94.results.toList⟩
theorem k96:FnOK Tryz.prog G 94 e96:=fk cx tn J96 (lp:=P96) Tryz.func94 (by kernel_rfl) (by kernel_rfl) rfl (nj' _ (by kernel_rfl) (nf' l96_0 nl')) fun x=>by kernel_rfl
def I97:Sp:=⟨[(0,.agg c'7),(1,.agg c'7)],[],[]⟩
def E97:SL:=[(.ret,⟨[(4,ob)],[],[]⟩)]
noncomputable def e97:Fe G:=⟨I97,E97,fun x=>nq1' x.1.1.1 x.1.1.2.1 x.1.1.2.2.1 x.1.1.2.2.2.1 x.1.2.1.1 x.1.2.1.2.1 x.1.2.1.2.2.1 x.1.2.1.2.2.2.1,Tryz.f55.results.toList⟩
theorem k97:FnOK Tryz.prog G 55 e97:=fk cx (tc k94 (tc k95 (tc k96 tn))) (jl [(1048577,[(.normal,⟨[(4,ob)],[],[]⟩)])]) (lp:=(pl [])) Tryz.func55 (by kernel_rfl) (by kernel_rfl) rfl (an0 (by kernel_rfl)) fun x=>by kernel_rfl
def I98:Sp:=⟨[(0,oro 26),(1,oro 26)],[],[]⟩
def E98:SL:=[(.ret,⟨[(4,ob)],[],[]⟩)]
def S98_0:Sp:=⟨[(0,oro 26),(1,oro 26),(12,oi64),(13,oi64)],[],[]⟩
def X98_0:SL:=[(.exit 0,⟨[],[],[]⟩),(.ret,⟨[(4,ob)],[],[]⟩)]
def J98:Nat→Option SL:=jl []
noncomputable def P98:Nat→St G→M (Ex×St G):=pl [lpX S98_0 X98_0 nb2']
theorem l98_0:LoopOK Tryz.prog G 26 (P98 0) (no' (ni' Tryz.f95) 0):=lk cx tn J98 1 S98_0 X98_0 (rfl:nb2'=_) (by kernel_rfl) (an0 (by kernel_rfl)) fun x=>by kernel_rfl
noncomputable def e98:Fe G:=⟨I98,E98,fun x=>ndl' x.1.1 x.1.2.1,Tryz.f95.results.toList⟩
theorem k98:FnOK Tryz.prog G 95 e98:=fk cx tn J98 (lp:=P98) Tryz.func95 (by kernel_rfl) (by kernel_rfl) rfl (nj' _ (by kernel_rfl) (nf' l98_0 nl')) fun x=>by kernel_rfl
def I99:Sp:=⟨[(0,.agg c'25),(1,.agg c'25)],[],[]⟩
def E99:SL:=[(.ret,⟨[(4,ob)],[],[]⟩)]
noncomputable def e99:Fe G:=⟨I99,E99,fun x=>nma' x.1.1.1 x.1.1.2.1 x.1.1.2.2.1 x.1.1.2.2.2.1 x.1.2.1.1 x.1.2.1.2.1 x.1.2.1.2.2.1 x.1.2.1.2.2.2.1,Tryz.f57.results.toList⟩
theorem k99:FnOK Tryz.prog G 57 e99:=fk cx (tc k98 (tc k95 tn)) (jl [(1048577,[(.normal,⟨[(4,ob)],[],[]⟩)])]) (lp:=(pl [])) Tryz.func57 (by kernel_rfl) (by kernel_rfl) rfl (an0 (by kernel_rfl)) fun x=>by kernel_rfl
def I100:Sp:=⟨[(0,.agg c'26),(1,.agg c'26)],[],[]⟩
def E100:SL:=[(.ret,⟨[(4,ob)],[],[]⟩)]
noncomputable def e100:Fe G:=⟨I100,E100,fun x=>ngs' x.1.1.1 x.1.1.2.1 x.1.1.2.2.1 x.1.1.2.2.2.1 x.1.1.2.2.2.2.1 x.1.1.2.2.2.2.2.1 x.1.1.2.2.2.2.2.2.1 x.1.1.2.2.2.2.2.2.2.1 x.1.1.2.2.2.2.2.2.2.2.1 x.1.1.2.2.2.2.2.2.2.2.2.1 x.1.1.2.2.2.2.2.2.2.2.2.2.1 x.1.1.2.2.2.2.2.2.2.2.2.2.2.1 x.1.2.1.1 x.1.2.1.2.1 x.1.2.1.2.2.1 x.1.2.1.2.2.2.1 x.1.2.1.2.2.2.2.1 x.1.2.1.2.2.2.2.2.1 x.1.2.1.2.2.2.2.2.2.1 x.1.2.1.2.2.2.2.2.2.2.1 x.1.2.1.2.2.2.2.2.2.2.2.1 x.1.2.1.2.2.2.2.2.2.2.2.2.1 x.1.2.1.2.2.2.2.2.2.2.2.2.2.1 x.1.2.1.2.2.2.2.2.2.2.2.2.2.2.1,Tryz.f15.results.toList⟩
theorem k100:FnOK Tryz.prog G 15 e100:=fk cx (tc k93 (tc k97 (tc k94 (tc k99 tn)))) (jl [(1048577,[(.normal,⟨[(4,ob)],[],[]⟩)])]) (lp:=(pl [])) Tryz.func15 (by kernel_rfl) (by kernel_rfl) rfl (an0 (by kernel_rfl)) fun x=>by kernel_rfl
def I101:Sp:=⟨[],[],[]⟩
def E101:SL:=[(.ret,⟨[(0,ob)],[],[]⟩)]
noncomputable def H101 (h_l10_Building:((Int×Int×Unit)×Unit)→Option ((Unit×Unit)×(T'0×Unit))) (h_r10_Initial:((T'0×Unit)×Unit)→Option ((Unit×Unit)×(T'5×Unit))) (h_dispatch_Tick:(T'70×Unit)→Option ((Unit×Int×Unit)×(T'48×Unit))) (h_dispatch_Same:((T'48×T'48×Unit)×Unit)→Option ((Bool×Unit)×Unit)) :Option ((Bool×Unit)×Unit):=
 (h_l10_Building (((9:Int),(90:Int),()),())).bind fun y1=>
 let z0:List (View):=[(View.mk true true false false (0:Int) (0:Int) (0:Int) (0:Int) (0:Int) (0:Int) (0:Int) (0:Int)),(View.mk false false false false (0:Int) (0:Int) (0:Int) (0:Int) (0:Int) (0:Int) (0:Int) (0:Int))]
 (h_r10_Initial ((y1.2.1,()),())).bind fun y2=>
 (h_dispatch_Tick ((y1.2.1,y2.2.1,([]:List (Int)),z0,(List.replicate (Int.toNat (2:Int)) (Calls.mk (0:Int) (0:Int))),((4:Int),(0:Int),()),true,()),())).bind fun y3=>
 bif (inB (0:Int) (List.length z0)) then
 let z1:Nat:=(Int.toNat (0:Int))
 let z2:View:=(List.getD z0 z1 (View.mk false false false false (0:Int) (0:Int) (0:Int) (0:Int) (0:Int) (0:Int) (0:Int) (0:Int)))
 (h_dispatch_Tick ((y1.2.1,(y3.2.1.2.1,y3.2.1.2.2.1,y3.2.1.2.2.2.1,y3.2.1.2.2.2.2.1,()),y3.2.1.2.2.2.2.2.1,(List.set z0 z1 (View.mk z2.Ready z2.Serving z2.Legacy z2.Lost z2.Floor z2.Dir z2.Load (4:Int) (0:Int) z2.Stops_Car z2.Stops_Hall_Up z2.Stops_Hall_Down)),(List.replicate (Int.toNat (2:Int)) (Calls.mk (0:Int) (0:Int))),((4:Int),(0:Int),()),true,()),())).bind fun y4=>
 Option.bind (bif (y3.1.2.1==(0:Int)) then
 bif (((List.length y3.2.1.1:Nat):Int)==(2:Int)) then
 bif (((List.length y3.2.1.2.2.2.2.1:Nat):Int)==(1:Int)) then
 bif (inB (0:Int) (List.length y3.2.1.2.2.2.2.1)) then
 let z3:Entry:=(List.getD y3.2.1.2.2.2.2.1 (Int.toNat (0:Int)) (Entry.mk (0:Int) (0:Int) (0:Int) (0:Int) false))
 bif ((z3.Floor==(2:Int))&&((z3.Dir==(1:Int))&&((z3.Car==(0:Int))&&((z3.Moves==(0:Int))&&((z3.Moved==false)&&true))))) then
 bif (y4.1.2.1==(0:Int)) then
 bif (((List.length y4.2.1.2.2.2.2.1:Nat):Int)==(0:Int)) then
 bif ((y4.2.1.2.2.2.2.2.2.2.2.1==(4:Int))&&((y4.2.1.2.2.2.2.2.2.2.2.2.1==(0:Int))&&true)) then
 (h_dispatch_Same ((y4.2.1,y4.2.1,()),())).bind fun y5=>
 bif y5.1.1 then
 (h_dispatch_Same ((y3.2.1,y4.2.1,()),())).bind fun y6=>
 some (((!y6.1.1),()),())
 else
 some ((false,()),())
 else
 some ((false,()),())
 else
 some ((false,()),())
 else
 some ((false,()),())
 else
 some ((false,()),())
 else
 none
 else
 some ((false,()),())
 else
 some ((false,()),())
 else
 some ((false,()),())) fun y7=>
 some ((y7.1.1,()),())
 else
 none
theorem q101 (h_l10_Building:((Int×Int×Unit)×Unit)→Option ((Unit×Unit)×(T'0×Unit))) (h_r10_Initial:((T'0×Unit)×Unit)→Option ((Unit×Unit)×(T'5×Unit))) (h_dispatch_Tick:(T'70×Unit)→Option ((Unit×Int×Unit)×(T'48×Unit))) (h_dispatch_Same:((T'48×T'48×Unit)×Unit)→Option ((Bool×Unit)×Unit)) (x:I101.T G):endI (cfP [(8,Fe.mk (G:=G) I1 E1 h_l10_Building Tryz.f8.results.toList),(27,Fe.mk (G:=G) I5 E5 h_r10_Initial Tryz.f27.results.toList),(11,Fe.mk (G:=G) I92 E92 h_dispatch_Tick Tryz.f11.results.toList),(15,Fe.mk (G:=G) I100 E100 h_dispatch_Same Tryz.f15.results.toList)]) (pl []) (jl [(1048584,[(.normal,⟨[(0,ob)],[],[]⟩)])]) 94 (ni' Tryz.f16) I101 E101 x=H101 h_l10_Building h_r10_Initial h_dispatch_Tick h_dispatch_Same :=by kernel_rfl
noncomputable def e101:Fe G:=⟨I101,E101,fun _=>ng7',Tryz.f16.results.toList⟩
theorem k101:FnOK Tryz.prog G 16 e101:=fk cx (tc k1 (tc k5 (tc k92 (tc k100 tn)))) (jl [(1048584,[(.normal,⟨[(0,ob)],[],[]⟩)])]) (lp:=(pl [])) Tryz.func16 (by kernel_rfl) (by kernel_rfl) rfl (an0 (by kernel_rfl)) fun x=>(q101 (fun x=>ncr' x.1.1 x.1.2.1) (fun x=>neq' x.1.1.1 x.1.1.2.1 x.1.1.2.2.1 x.1.1.2.2.2.1 x.1.1.2.2.2.2.1 x.1.1.2.2.2.2.2.1 x.1.1.2.2.2.2.2.2.1 x.1.1.2.2.2.2.2.2.2.1) (fun x=>nbw' x.1.1.1 x.1.1.2.1 x.1.1.2.2.1 x.1.1.2.2.2.1 x.1.1.2.2.2.2.1 x.1.1.2.2.2.2.2.1 x.1.1.2.2.2.2.2.2.1 x.1.1.2.2.2.2.2.2.2.1 x.1.2.1.1 x.1.2.1.2.1 x.1.2.1.2.2.1 x.1.2.1.2.2.2.1 x.1.2.2.1 x.1.2.2.2.1 x.1.2.2.2.2.1 x.1.2.2.2.2.2.1.1 x.1.2.2.2.2.2.1.2.1 x.1.2.2.2.2.2.2.1) (fun x=>ngs' x.1.1.1 x.1.1.2.1 x.1.1.2.2.1 x.1.1.2.2.2.1 x.1.1.2.2.2.2.1 x.1.1.2.2.2.2.2.1 x.1.1.2.2.2.2.2.2.1 x.1.1.2.2.2.2.2.2.2.1 x.1.1.2.2.2.2.2.2.2.2.1 x.1.1.2.2.2.2.2.2.2.2.2.1 x.1.1.2.2.2.2.2.2.2.2.2.2.1 x.1.1.2.2.2.2.2.2.2.2.2.2.2.1 x.1.2.1.1 x.1.2.1.2.1 x.1.2.1.2.2.1 x.1.2.1.2.2.2.1 x.1.2.1.2.2.2.2.1 x.1.2.1.2.2.2.2.2.1 x.1.2.1.2.2.2.2.2.2.1 x.1.2.1.2.2.2.2.2.2.2.1 x.1.2.1.2.2.2.2.2.2.2.2.1 x.1.2.1.2.2.2.2.2.2.2.2.2.1 x.1.2.1.2.2.2.2.2.2.2.2.2.2.1 x.1.2.1.2.2.2.2.2.2.2.2.2.2.2.1) x).trans (by kernel_rfl)
def I102:Sp:=⟨[(0,.agg c'27)],[],[]⟩
def E102:SL:=[(.ret,⟨[(2,ob)],[],[]⟩)]
def S102_0:Sp:=⟨[(3,op 48),(5,op 80),(7,oi64)],[(48,c'0),(80,c'28)],[]⟩
def nug':SL:=[(.exit 0,⟨[(5,op 80)],[(80,c'23)],[]⟩),(.ret,⟨[(2,ob)],[],[]⟩)]
def S102_1:Sp:=⟨[(5,op 80),(8,oi64)],[(80,c'23)],[]⟩
def nu5':SL:=[(.exit 2,⟨[],[],[]⟩),(.ret,⟨[(2,ob)],[],[]⟩)]
def J102:Nat→Option SL:=jl [(1048591,[(.normal,⟨[(5,op 80),(8,oi64),(117,ob)],[(80,c'23)],[]⟩)])]
noncomputable def P102:Nat→St G→M (Ex×St G):=pl [lpX S102_0 nug' nde',lpX S102_1 nu5' ndc']
theorem t102:∀ p ∈ [(8,e1),(9,e15),(12,e16),(10,e19),(11,e92),(16,e101)],FnOK Tryz.prog G p.1 p.2:=(tc k1 (tc k15 (tc k16 (tc k19 (tc k92 (tc k101 tn))))))
noncomputable def n29' (_h_l24_sane:(Unit×Unit)→Option ((Bool×Unit)×Unit)) (i:Int) (r_Records:List (Record)) (r_Image_Phases:List (Int)) (r_Image_Flags r_Image_Leaving:List (Bool)) (r_Image_Entries:List (Entry)) (r_Expect:List (Int)) (r_Lanterns_Lit:List (Calls)) (r_Lanterns_Gong:List (Bool)) (r_Lanterns_Clear_Up r_Lanterns_Clear_Down r_Refused_Up r_Refused_Down:Int):Option (Sum ((Unit×Int×Unit)×(T'48×Unit)) ((Unit×Unit) ⊕ ((Bool×Unit)×Unit))):=
 bif (decide (i < ((List.length r_Records:Nat):Int))) then
 bif (inB i (List.length r_Records)) then
 let z0:Record:=(List.getD r_Records (Int.toNat i) (Record.mk (0:Int) (0:Int) (0:Int) (0:Int) (0:Int)))
 Option.bind (bif (z0.Kind != (3:Int)) then
 some (((),i,(z0.Kind != (7:Int)),()),((r_Records,r_Image_Phases,r_Image_Flags,r_Image_Leaving,r_Image_Entries,r_Expect,r_Lanterns_Lit,r_Lanterns_Gong,r_Lanterns_Clear_Up,r_Lanterns_Clear_Down,r_Refused_Up,r_Refused_Down,()),()))
 else
 some (((),i,false,()),((r_Records,r_Image_Phases,r_Image_Flags,r_Image_Leaving,r_Image_Entries,r_Expect,r_Lanterns_Lit,r_Lanterns_Gong,r_Lanterns_Clear_Up,r_Lanterns_Clear_Down,r_Refused_Up,r_Refused_Down,()),()))) fun y1=>
 bif y1.1.2.2.1 then
 some (Sum.inr (Sum.inr ((false,()),())))
 else
 some (Sum.inl (((),(IntKind.i64.wrap (y1.1.2.1 + (1:Int))),()),(y1.2.1,())))
 else
 none
 else
 some (Sum.inr (Sum.inl ((),())))
theorem n4r' (h_l24_sane:(Unit×Unit)→Option ((Bool×Unit)×Unit)) (x:S102_1.T G):rndI (cfP [(8,e1),(9,e15),(12,e16),(10,e19),(11,e92),(16,Fe.mk (G:=G) I101 E101 h_l24_sane Tryz.f16.results.toList)]) P102 J102 119 2 (no' (ni' Tryz.f6) 1) S102_1 nu5' x=n29' h_l24_sane x.1.2.1 x.2.1.1 x.2.1.2.1 x.2.1.2.2.1 x.2.1.2.2.2.1 x.2.1.2.2.2.2.1 x.2.1.2.2.2.2.2.1 x.2.1.2.2.2.2.2.2.1 x.2.1.2.2.2.2.2.2.2.1 x.2.1.2.2.2.2.2.2.2.2.1 x.2.1.2.2.2.2.2.2.2.2.2.1 x.2.1.2.2.2.2.2.2.2.2.2.2.1 x.2.1.2.2.2.2.2.2.2.2.2.2.2.1:=by kernel_rfl
theorem n44':LoopOK Tryz.prog G 119 (P102 1) (no' (ni' Tryz.f6) 1):=lk cx t102 J102 2 S102_1 nu5' (rfl:ndc'=_) (by kernel_rfl) (an0 (by kernel_rfl)) fun x=>(n4r' (fun _=>ng7' ) x).trans (by kernel_rfl)
noncomputable def n3y' (_h_l24_sane:(Unit×Unit)→Option ((Bool×Unit)×Unit)) (i b_Floors b_Debounce b_Room b_Park:Int) (b_Empty b_Full b_Over:Nat) (b_Cars:List (Car)) (r_Records:List (Record)) (r_Image_Phases:List (Int)) (r_Image_Flags r_Image_Leaving:List (Bool)) (r_Image_Entries:List (Entry)) (r_Expect:List (Int)) (r_Lanterns_Lit:List (Calls)) (r_Lanterns_Gong:List (Bool)) (r_Lanterns_Clear_Up r_Lanterns_Clear_Down r_Refused_Up r_Refused_Down:Int):Option (Sum (T'8×(T'0×T'48×Unit)) (((Unit×Unit)×(T'48×Unit)) ⊕ ((Bool×Unit)×Unit))):=
 bif (decide (i < ((List.length b_Cars:Nat):Int))) then
 bif (inB i (List.length r_Lanterns_Lit)) then
 let z0:Calls:=(List.getD r_Lanterns_Lit (Int.toNat i) (Calls.mk (0:Int) (0:Int)))
 bif (!((z0.Up==(0:Int))&&((z0.Down==(0:Int))&&true))) then
 some (Sum.inr (Sum.inr ((false,()),())))
 else
 bif (inB i (List.length r_Lanterns_Gong)) then
 bif (List.getD r_Lanterns_Gong (Int.toNat i) false) then
 some (Sum.inr (Sum.inr ((false,()),())))
 else
 some (Sum.inl (((),(),(IntKind.i64.wrap (i + (1:Int))),()),((b_Floors,b_Debounce,b_Room,b_Park,b_Empty,b_Full,b_Over,b_Cars,()),(r_Records,r_Image_Phases,r_Image_Flags,r_Image_Leaving,r_Image_Entries,r_Expect,r_Lanterns_Lit,r_Lanterns_Gong,r_Lanterns_Clear_Up,r_Lanterns_Clear_Down,r_Refused_Up,r_Refused_Down,()),())))
 else
 none
 else
 none
 else
 some (Sum.inr (Sum.inl (((),()),((r_Records,r_Image_Phases,r_Image_Flags,r_Image_Leaving,r_Image_Entries,r_Expect,r_Lanterns_Lit,r_Lanterns_Gong,r_Lanterns_Clear_Up,r_Lanterns_Clear_Down,r_Refused_Up,r_Refused_Down,()),()))))
theorem n4e' (h_l24_sane:(Unit×Unit)→Option ((Bool×Unit)×Unit)) (x:S102_0.T G):rndI (cfP [(8,e1),(9,e15),(12,e16),(10,e19),(11,e92),(16,Fe.mk (G:=G) I101 E101 h_l24_sane Tryz.f16.results.toList)]) P102 J102 119 1 (no' (ni' Tryz.f6) 0) S102_0 nug' x=n3y' h_l24_sane x.1.2.2.1 x.2.1.1 x.2.1.2.1 x.2.1.2.2.1 x.2.1.2.2.2.1 x.2.1.2.2.2.2.1 x.2.1.2.2.2.2.2.1 x.2.1.2.2.2.2.2.2.1 x.2.1.2.2.2.2.2.2.2.1 x.2.2.1.1 x.2.2.1.2.1 x.2.2.1.2.2.1 x.2.2.1.2.2.2.1 x.2.2.1.2.2.2.2.1 x.2.2.1.2.2.2.2.2.1 x.2.2.1.2.2.2.2.2.2.1 x.2.2.1.2.2.2.2.2.2.2.1 x.2.2.1.2.2.2.2.2.2.2.2.1 x.2.2.1.2.2.2.2.2.2.2.2.2.1 x.2.2.1.2.2.2.2.2.2.2.2.2.2.1 x.2.2.1.2.2.2.2.2.2.2.2.2.2.2.1:=by kernel_rfl
theorem n4z':LoopOK Tryz.prog G 119 (P102 0) (no' (ni' Tryz.f6) 0):=lk cx t102 J102 1 S102_0 nug' (rfl:nde'=_) (by kernel_rfl) (an0 (by kernel_rfl)) fun x=>(n4e' (fun _=>ng7' ) x).trans (by kernel_rfl)
noncomputable def H102 (h_l24_sane:(Unit×Unit)→Option ((Bool×Unit)×Unit)) (c_N_0 c_N_1:Int) (c_L c_K:List (Int)) (c_Press_Up c_Press_Down:Int):Option ((Bool×Unit)×Unit):=
 (ncr' c_N_0 c_N_1).bind fun y1=>
 (ngd' y1.2.1.1 y1.2.1.2.1 y1.2.1.2.2.1 y1.2.1.2.2.2.1 y1.2.1.2.2.2.2.1 y1.2.1.2.2.2.2.2.1 y1.2.1.2.2.2.2.2.2.1 y1.2.1.2.2.2.2.2.2.2.1 c_L).bind fun y2=>
 (nes' y2.2.1.1 y2.2.1.2.1 y2.2.1.2.2.1 y2.2.1.2.2.2.1 c_K).bind fun y3=>
 (ngf' y1.2.1.1 y1.2.1.2.1 y1.2.1.2.2.1 y1.2.1.2.2.2.1 y1.2.1.2.2.2.2.1 y1.2.1.2.2.2.2.2.1 y1.2.1.2.2.2.2.2.2.1 y1.2.1.2.2.2.2.2.2.2.1 c_K).bind fun y4=>
 let z0:Int:=((List.length y1.2.1.2.2.2.2.2.2.2.1:Nat):Int)
 bif (((decide ((0:Int)≤z0))&&(decide (z0≤z0)))&&(decide (z0≤(2147483648:Int)))) then
 (nbw' y1.2.1.1 y1.2.1.2.1 y1.2.1.2.2.1 y1.2.1.2.2.2.1 y1.2.1.2.2.2.2.1 y1.2.1.2.2.2.2.2.1 y1.2.1.2.2.2.2.2.2.1 y1.2.1.2.2.2.2.2.2.2.1 y2.2.1.1 y2.2.1.2.1 y2.2.1.2.2.1 y2.2.1.2.2.2.1 y3.1.1 y4.1.1 (List.replicate (Int.toNat z0) (Calls.mk (0:Int) (0:Int))) c_Press_Up c_Press_Down false).bind fun y5=>
 bif (y5.1.2.1 != (0:Int)) then
 some ((false,()),())
 else
 bif (!((y5.2.1.2.2.2.2.2.2.2.2.2.2.1==(0:Int))&&((y5.2.1.2.2.2.2.2.2.2.2.2.2.2.1==(0:Int))&&true))) then
 some ((false,()),())
 else
 bif (!((y5.2.1.2.2.2.2.2.2.2.2.1==(0:Int))&&((y5.2.1.2.2.2.2.2.2.2.2.2.1==(0:Int))&&true))) then
 some ((false,()),())
 else
 bif (((List.length y5.2.1.2.2.2.2.2.2.1:Nat):Int) != ((List.length y1.2.1.2.2.2.2.2.2.2.1:Nat):Int)) then
 some ((false,()),())
 else
 bif (((List.length y5.2.1.2.2.2.2.2.2.2.1:Nat):Int) != ((List.length y1.2.1.2.2.2.2.2.2.2.1:Nat):Int)) then
 some ((false,()),())
 else
 (nde' (((),(),(0:Int),()),(y1.2.1,y5.2.1,()))).bind fun y6=>
 (match y6 with
 | .inl y7=>
 (ndc' (((),(0:Int),()),(y7.2.1,()))).bind fun y8=>
 (match y8 with
 | .inl y9=>
 (h_l24_sane ((),())).bind fun y10=>
 some ((y10.1.1,()),())
 | .inr y9=>
 some ((y9.1.1,()),()))
 | .inr y7=>
 some ((y7.1.1,()),()))
 else
 none
theorem q102 (h_l24_sane:(Unit×Unit)→Option ((Bool×Unit)×Unit)) (x:I102.T G):endI (cfP [(8,e1),(9,e15),(12,e16),(10,e19),(11,e92),(16,Fe.mk (G:=G) I101 E101 h_l24_sane Tryz.f16.results.toList)]) P102 J102 119 (ni' Tryz.f6) I102 E102 x=H102 h_l24_sane x.1.1.1 x.1.1.2.1 x.1.1.2.2.1 x.1.1.2.2.2.1 x.1.1.2.2.2.2.1 x.1.1.2.2.2.2.2.1:=by kernel_rfl
noncomputable def e102:Fe G:=⟨I102,E102,fun x=>F_l24_DispatchBad x.1.1.1 x.1.1.2.1 x.1.1.2.2.1 x.1.1.2.2.2.1 x.1.1.2.2.2.2.1 x.1.1.2.2.2.2.2.1,Tryz.f6.results.toList⟩
theorem k102:FnOK Tryz.prog G 6 e102:=fk cx t102 J102 (lp:=P102) Tryz.func6 (by kernel_rfl) (by kernel_rfl) rfl (nj' _ (by kernel_rfl) (nf' n4z' (nf' n44' nl'))) fun x=>(q102 (fun _=>ng7' ) x).trans (by kernel_rfl)
def I103:Sp:=⟨[(0,.agg c'2)],[],[]⟩
def E103:SL:=[(.ret,⟨[(2,op 32)],[(32,c'14)],[]⟩)]
def n1s':Sp:=⟨[(1,op 16),(2,op 32),(3,op 48),(4,oi64)],[(16,c'2),(32,c'14),(48,c'14)],[]⟩
def nz6':SL:=[(.exit 0,⟨[(2,op 32),(3,op 48)],[(32,c'14),(48,c'14)],[]⟩)]
def J103:Nat→Option SL:=jl [(8,[(.normal,⟨[(1,op 16),(2,op 32),(3,op 48),(4,oi64)],[(16,c'2),(32,c'14),(48,c'14)],[]⟩)])]
noncomputable def P103:Nat→St G→M (Ex×St G):=pl [lpX n1s' nz6' nk8']
theorem t103:∀ p ∈ [(58,e7)],FnOK Tryz.prog G p.1 p.2:=(tc k7 tn)
theorem n5c':LoopOK Tryz.prog G 30 (P103 0) (no' (ni' Tryz.f20) 0):=lk cx t103 J103 1 n1s' nz6' (rfl:nk8'=_) (by kernel_rfl) (an0 (by kernel_rfl)) fun x=>by kernel_rfl
noncomputable def e103:Fe G:=⟨I103,E103,fun x=>nqc' x.1.1.1 x.1.1.2.1 x.1.1.2.2.1 x.1.1.2.2.2.1 x.1.1.2.2.2.2.1 x.1.1.2.2.2.2.2.1 x.1.1.2.2.2.2.2.2.1 x.1.1.2.2.2.2.2.2.2.1,Tryz.f20.results.toList⟩
theorem k103:FnOK Tryz.prog G 20 e103:=fk cx t103 J103 (lp:=P103) Tryz.func20 (by kernel_rfl) (by kernel_rfl) rfl (nj' _ (by kernel_rfl) (nf' n5c' nl')) fun x=>by kernel_rfl
def I104:Sp:=⟨[(0,.agg c'14),(1,.agg c'14)],[],[]⟩
def E104:SL:=[(.ret,⟨[(4,op 64)],[(64,c'14)],[]⟩)]
noncomputable def e104:Fe G:=⟨I104,E104,fun x=>nq2' x.1.1.1 x.1.1.2.1 x.1.2.1.1 x.1.2.1.2.1,Tryz.f19.results.toList⟩
theorem k104:FnOK Tryz.prog G 19 e104:=fk cx tn (jl []) (lp:=(pl [])) Tryz.func19 (by kernel_rfl) (by kernel_rfl) rfl (an0 (by kernel_rfl)) fun x=>by kernel_rfl
def I105:Sp:=⟨[(0,.agg c'14),(1,oi64),(2,oi64)],[],[]⟩
def E105:SL:=[(.ret,⟨[(6,ob)],[],[]⟩)]
noncomputable def e105:Fe G:=⟨I105,E105,fun x=>noc' x.1.1.1 x.1.1.2.1 x.1.2.1 x.1.2.2.1,Tryz.f90.results.toList⟩
theorem k105:FnOK Tryz.prog G 90 e105:=fk cx tn (jl [(1048579,[(.normal,⟨[(6,ob)],[],[]⟩)])]) (lp:=(pl [])) Tryz.func90 (by kernel_rfl) (by kernel_rfl) rfl (an0 (by kernel_rfl)) fun x=>by kernel_rfl
def I106:Sp:=⟨[(0,.agg c'14)],[],[]⟩
def E106:SL:=[(.ret,⟨[(2,.one (.own 32768 63))],[],[]⟩)]
def n1o':Sp:=⟨[(1,op 16),(3,.one (.own 32768 63)),(4,oi64)],[(16,c'14)],[]⟩
def n05':SL:=[(.exit 0,⟨[(3,.one (.own 32768 63))],[],[]⟩)]
def nzd':Sp:=⟨[(1,op 16),(3,.one (.own 32768 63)),(4,oi64),(5,oi64)],[(16,c'14)],[]⟩
def n1d':SL:=[(.exit 2,⟨[(1,op 16),(3,.one (.own 32768 63)),(4,oi64)],[(16,c'14)],[]⟩)]
def J106:Nat→Option SL:=jl []
noncomputable def P106:Nat→St G→M (Ex×St G):=pl [lpX n1o' n05' nk2',lpX nzd' n1d' nky']
theorem t106:∀ p ∈ [(90,e105)],FnOK Tryz.prog G p.1 p.2:=(tc k105 tn)
theorem nz1':LoopOK Tryz.prog G 25 (P106 1) (no' (ni' Tryz.f48) 1):=lk cx t106 J106 2 nzd' n1d' (rfl:nky'=_) (by kernel_rfl) (an0 (by kernel_rfl)) fun x=>by kernel_rfl
theorem n40':LoopOK Tryz.prog G 25 (P106 0) (no' (ni' Tryz.f48) 0):=lk cx t106 J106 1 n1o' n05' (rfl:nk2'=_) (by kernel_rfl) (nj' _ (by kernel_rfl) (nf' nz1' nl')) fun x=>by kernel_rfl
noncomputable def e106:Fe G:=⟨I106,E106,fun x=>nyl' x.1.1.1 x.1.1.2.1,Tryz.f48.results.toList⟩
theorem k106:FnOK Tryz.prog G 48 e106:=fk cx t106 J106 (lp:=P106) Tryz.func48 (by kernel_rfl) (by kernel_rfl) rfl (nj' _ (by kernel_rfl) (nf' n40' (nf' nz1' nl'))) fun x=>by kernel_rfl
def I107:Sp:=⟨[(0,.agg c'14),(1,.agg c'14)],[],[]⟩
def E107:SL:=[(.ret,⟨[(4,op 64)],[(64,c'14)],[]⟩)]
noncomputable def e107:Fe G:=⟨I107,E107,fun x=>nl6' x.1.1.1 x.1.1.2.1 x.1.2.1.1 x.1.2.1.2.1,Tryz.f18.results.toList⟩
theorem k107:FnOK Tryz.prog G 18 e107:=fk cx tn (jl []) (lp:=(pl [])) Tryz.func18 (by kernel_rfl) (by kernel_rfl) rfl (an0 (by kernel_rfl)) fun x=>by kernel_rfl
def I108:Sp:=⟨[(0,.agg c'14),(1,.agg c'14)],[],[]⟩
def E108:SL:=[(.ret,⟨[(4,op 64)],[(64,c'14)],[]⟩)]
noncomputable def e108:Fe G:=⟨I108,E108,fun x=>nl2' x.1.1.1 x.1.1.2.1 x.1.2.1.1 x.1.2.1.2.1,Tryz.f21.results.toList⟩
theorem k108:FnOK Tryz.prog G 21 e108:=fk cx tn (jl []) (lp:=(pl [])) Tryz.func21 (by kernel_rfl) (by kernel_rfl) rfl (an0 (by kernel_rfl)) fun x=>by kernel_rfl
def I109:Sp:=⟨[(0,oro 63)],[],[]⟩
def E109:SL:=[(.ret,⟨[(2,op 32)],[(32,c'14)],[]⟩)]
def nzw':Sp:=⟨[(0,oro 63),(2,op 32),(3,op 48),(4,oi64)],[(32,c'14),(48,c'14)],[]⟩
def n0y':SL:=[(.exit 0,⟨[(2,op 32),(3,op 48)],[(32,c'14),(48,c'14)],[]⟩)]
def J109:Nat→Option SL:=jl []
noncomputable def P109:Nat→St G→M (Ex×St G):=pl [lpX nzw' n0y' nmr']
theorem t109:∀ p ∈ [(31,e18),(21,e108)],FnOK Tryz.prog G p.1 p.2:=(tc k18 (tc k108 tn))
theorem n4h':LoopOK Tryz.prog G 25 (P109 0) (no' (ni' Tryz.f17) 0):=lk cx t109 J109 1 nzw' n0y' (rfl:nmr'=_) (by kernel_rfl) (an0 (by kernel_rfl)) fun x=>by kernel_rfl
noncomputable def e109:Fe G:=⟨I109,E109,fun x=>n15' x.1.1,Tryz.f17.results.toList⟩
theorem k109:FnOK Tryz.prog G 17 e109:=fk cx t109 J109 (lp:=P109) Tryz.func17 (by kernel_rfl) (by kernel_rfl) rfl (nj' _ (by kernel_rfl) (nf' n4h' nl')) fun x=>by kernel_rfl
def I110:Sp:=⟨[(0,oro 66),(1,oro 66)],[],[]⟩
def E110:SL:=[(.ret,⟨[(4,ob)],[],[]⟩)]
def nzb':Sp:=⟨[(0,oro 66),(1,oro 66),(5,oi64)],[],[]⟩
def nzy':SL:=[(.exit 0,⟨[],[],[]⟩),(.ret,⟨[(4,ob)],[],[]⟩)]
def J110:Nat→Option SL:=jl []
noncomputable def P110:Nat→St G→M (Ex×St G):=pl [lpX nzb' nzy' nlj']
theorem n43':LoopOK Tryz.prog G 26 (P110 0) (no' (ni' Tryz.f51) 0):=lk cx tn J110 1 nzb' nzy' (rfl:nlj'=_) (by kernel_rfl) (an0 (by kernel_rfl)) fun x=>by kernel_rfl
noncomputable def e110:Fe G:=⟨I110,E110,fun x=>nx1' x.1.1 x.1.2.1,Tryz.f51.results.toList⟩
theorem k110:FnOK Tryz.prog G 51 e110:=fk cx tn J110 (lp:=P110) Tryz.func51 (by kernel_rfl) (by kernel_rfl) rfl (nj' _ (by kernel_rfl) (nf' n43' nl')) fun x=>by kernel_rfl
def I111:Sp:=⟨[(0,.agg c'7),(1,.agg c'7)],[],[]⟩
def E111:SL:=[(.ret,⟨[(4,ob)],[],[]⟩)]
def ny7':Sp:=⟨[(2,op 32),(3,op 48),(5,oi64)],[(32,c'7),(48,c'7)],[]⟩
def n0n':SL:=[(.exit 0,⟨[(2,op 32),(3,op 48)],[(32,c'7),(48,c'7)],[]⟩),(.ret,⟨[(4,ob)],[],[]⟩)]
def nzx':Sp:=⟨[(2,op 32),(3,op 48),(6,oi64)],[(32,c'7),(48,c'7)],[]⟩
def nzg':SL:=[(.exit 2,⟨[(2,op 32),(3,op 48)],[(32,c'7),(48,c'7)],[]⟩),(.ret,⟨[(4,ob)],[],[]⟩)]
def nzc':Sp:=⟨[(2,op 32),(3,op 48),(7,oi64)],[(32,c'7),(48,c'7)],[]⟩
def nz5':SL:=[(.exit 4,⟨[(2,op 32),(3,op 48)],[(32,c'7),(48,c'7)],[]⟩),(.ret,⟨[(4,ob)],[],[]⟩)]
def n0g':Sp:=⟨[(2,op 32),(3,op 48),(8,oi64)],[(32,c'7),(48,c'7)],[]⟩
def n0b':SL:=[(.exit 6,⟨[],[],[]⟩),(.ret,⟨[(4,ob)],[],[]⟩)]
def J111:Nat→Option SL:=jl []
noncomputable def P111:Nat→St G→M (Ex×St G):=pl [lpX ny7' n0n' nku',lpX nzx' nzg' nlh',lpX nzc' nz5' nk9',lpX n0g' n0b' nlk']
theorem n4c':LoopOK Tryz.prog G 115 (P111 3) (no' (ni' Tryz.f25) 3):=lk cx tn J111 4 n0g' n0b' (rfl:nlk'=_) (by kernel_rfl) (an0 (by kernel_rfl)) fun x=>by kernel_rfl
theorem n36':LoopOK Tryz.prog G 115 (P111 2) (no' (ni' Tryz.f25) 2):=lk cx tn J111 3 nzc' nz5' (rfl:nk9'=_) (by kernel_rfl) (an0 (by kernel_rfl)) fun x=>by kernel_rfl
theorem n46':LoopOK Tryz.prog G 115 (P111 1) (no' (ni' Tryz.f25) 1):=lk cx tn J111 2 nzx' nzg' (rfl:nlh'=_) (by kernel_rfl) (an0 (by kernel_rfl)) fun x=>by kernel_rfl
theorem n37':LoopOK Tryz.prog G 115 (P111 0) (no' (ni' Tryz.f25) 0):=lk cx tn J111 1 ny7' n0n' (rfl:nku'=_) (by kernel_rfl) (an0 (by kernel_rfl)) fun x=>by kernel_rfl
noncomputable def e111:Fe G:=⟨I111,E111,fun x=>nx5' x.1.1.1 x.1.1.2.1 x.1.1.2.2.1 x.1.1.2.2.2.1 x.1.2.1.1 x.1.2.1.2.1 x.1.2.1.2.2.1 x.1.2.1.2.2.2.1,Tryz.f25.results.toList⟩
theorem k111:FnOK Tryz.prog G 25 e111:=fk cx tn J111 (lp:=P111) Tryz.func25 (by kernel_rfl) (by kernel_rfl) rfl (nj' _ (by kernel_rfl) (nf' n37' (nf' n46' (nf' n36' (nf' n4c' nl'))))) fun x=>by kernel_rfl
def I112:Sp:=⟨[(0,oi64),(1,.agg c'20),(2,oi64),(3,oi64)],[],[]⟩
def E112:SL:=[(.ret,⟨[(8,ob)],[],[]⟩)]
noncomputable def e112:Fe G:=⟨I112,E112,fun x=>nd1' x.1.1 x.1.2.1.1 x.1.2.1.2.1 x.1.2.1.2.2.1 x.1.2.2.1 x.1.2.2.2.1,Tryz.f144.results.toList⟩
theorem k112:FnOK Tryz.prog G 144 e112:=fk cx tn (jl [(1048579,[(.normal,⟨[(8,ob)],[],[]⟩)]),(1048581,[(.normal,⟨[(8,ob)],[],[]⟩)])]) (lp:=(pl [])) Tryz.func144 (by kernel_rfl) (by kernel_rfl) rfl (an0 (by kernel_rfl)) fun x=>by kernel_rfl
def I113:Sp:=⟨[(0,oi64),(1,.agg c'20)],[],[]⟩
def E113:SL:=[(.ret,⟨[(4,oi64)],[],[]⟩)]
def n0l':Sp:=⟨[(0,oi64),(3,op 48),(5,oi64),(6,oi64)],[(48,c'20)],[]⟩
def nzi':SL:=[(.exit 0,⟨[(5,oi64)],[],[]⟩)]
def n0f':Sp:=⟨[(0,oi64),(3,op 48),(5,oi64),(6,oi64),(7,oi64)],[(48,c'20)],[]⟩
def n0i':SL:=[(.exit 2,⟨[(0,oi64),(3,op 48),(5,oi64),(6,oi64)],[(48,c'20)],[]⟩)]
def J113:Nat→Option SL:=jl []
noncomputable def P113:Nat→St G→M (Ex×St G):=pl [lpX n0l' nzi' nhp',lpX n0f' n0i' nhj']
theorem t113:∀ p ∈ [(144,e112)],FnOK Tryz.prog G p.1 p.2:=(tc k112 tn)
theorem n1e':LoopOK Tryz.prog G 31 (P113 1) (no' (ni' Tryz.f124) 1):=lk cx t113 J113 2 n0f' n0i' (rfl:nhj'=_) (by kernel_rfl) (an0 (by kernel_rfl)) fun x=>by kernel_rfl
theorem n4j':LoopOK Tryz.prog G 31 (P113 0) (no' (ni' Tryz.f124) 0):=lk cx t113 J113 1 n0l' nzi' (rfl:nhp'=_) (by kernel_rfl) (nj' _ (by kernel_rfl) (nf' n1e' nl')) fun x=>by kernel_rfl
noncomputable def e113:Fe G:=⟨I113,E113,fun x=>nge' x.1.1 x.1.2.1.1 x.1.2.1.2.1 x.1.2.1.2.2.1,Tryz.f124.results.toList⟩
theorem k113:FnOK Tryz.prog G 124 e113:=fk cx t113 J113 (lp:=P113) Tryz.func124 (by kernel_rfl) (by kernel_rfl) rfl (nj' _ (by kernel_rfl) (nf' n4j' (nf' n1e' nl'))) fun x=>by kernel_rfl
def I114:Sp:=⟨[(0,oi64),(1,oi64),(2,oi64),(3,.agg c'20),(4,oi64),(5,oi64)],[],[]⟩
def E114:SL:=[(.ret,⟨[(12,oi64)],[],[]⟩)]
def n1i':Sp:=⟨[(0,oi64),(1,oi64),(2,oi64),(4,oi64),(5,oi64),(9,op 144),(13,oi64),(14,oi64),(15,oi64)],[(144,c'20)],[]⟩
def n1m':SL:=[(.exit 0,⟨[(1,oi64),(2,oi64),(4,oi64),(5,oi64),(13,oi64),(14,oi64)],[],[]⟩)]
def J114:Nat→Option SL:=jl [(1048579,[(.normal,⟨[(0,oi64),(1,oi64),(2,oi64),(4,oi64),(5,oi64),(9,op 144),(64,ob)],[(144,c'20)],[]⟩)]),(1048585,[(.normal,⟨[(0,oi64),(1,oi64),(2,oi64),(4,oi64),(5,oi64),(9,op 144),(13,oi64),(14,oi64),(15,oi64),(91,ob)],[(144,c'20)],[]⟩)]),(1048589,[(.normal,⟨[(1,oi64),(2,oi64),(4,oi64),(5,oi64),(13,oi64),(14,oi64),(108,ob)],[],[]⟩)]),(1048591,[(.normal,⟨[(1,oi64),(2,oi64),(4,oi64),(5,oi64),(13,oi64),(14,oi64),(123,ob)],[],[]⟩)]),(1048595,[(.normal,⟨[(1,oi64),(4,oi64),(5,oi64),(13,oi64),(14,oi64),(151,ob)],[],[]⟩)])]
noncomputable def P114:Nat→St G→M (Ex×St G):=pl [lpX n1i' n1m' nh9']
theorem t114:∀ p ∈ [(144,e112)],FnOK Tryz.prog G p.1 p.2:=(tc k112 tn)
theorem n4b':LoopOK Tryz.prog G 183 (P114 0) (no' (ni' Tryz.f123) 0):=lk cx t114 J114 1 n1i' n1m' (rfl:nh9'=_) (by kernel_rfl) (an0 (by kernel_rfl)) fun x=>by kernel_rfl
noncomputable def e114:Fe G:=⟨I114,E114,fun x=>nd7' x.1.1 x.1.2.1 x.1.2.2.1 x.1.2.2.2.1.1 x.1.2.2.2.1.2.1 x.1.2.2.2.1.2.2.1 x.1.2.2.2.2.1 x.1.2.2.2.2.2.1,Tryz.f123.results.toList⟩
theorem k114:FnOK Tryz.prog G 123 e114:=fk cx t114 J114 (lp:=P114) Tryz.func123 (by kernel_rfl) (by kernel_rfl) rfl (nj' _ (by kernel_rfl) (nf' n4b' nl')) fun x=>by kernel_rfl
def I115:Sp:=⟨[(0,.agg c'2),(1,oi64),(2,.agg c'15),(3,oi64),(4,oi64)],[],[]⟩
def E115:SL:=[(.ret,⟨[(10,oi64)],[],[]⟩)]
noncomputable def e115:Fe G:=⟨I115,E115,fun x=>nfh' x.1.1.1 x.1.1.2.1 x.1.1.2.2.1 x.1.1.2.2.2.1 x.1.1.2.2.2.2.1 x.1.1.2.2.2.2.2.1 x.1.1.2.2.2.2.2.2.1 x.1.1.2.2.2.2.2.2.2.1 x.1.2.1 x.1.2.2.1.1 x.1.2.2.1.2.1 x.1.2.2.1.2.2.1 x.1.2.2.1.2.2.2.1 x.1.2.2.1.2.2.2.2.1 x.1.2.2.1.2.2.2.2.2.1 x.1.2.2.1.2.2.2.2.2.2.1 x.1.2.2.1.2.2.2.2.2.2.2.1 x.1.2.2.1.2.2.2.2.2.2.2.2.1 x.1.2.2.1.2.2.2.2.2.2.2.2.2.1 x.1.2.2.1.2.2.2.2.2.2.2.2.2.2.1 x.1.2.2.1.2.2.2.2.2.2.2.2.2.2.2.1 x.1.2.2.2.1 x.1.2.2.2.2.1,Tryz.f92.results.toList⟩
theorem k115:FnOK Tryz.prog G 92 e115:=fk cx (tc k4 (tc k114 (tc k113 tn))) (jl [(7,[(.normal,⟨[(1,oi64),(3,oi64),(4,oi64),(5,op 80),(7,op 112),(11,oi64)],[(80,c'2),(112,c'15)],[]⟩)])]) (lp:=(pl [])) Tryz.func92 (by kernel_rfl) (by kernel_rfl) rfl (an0 (by kernel_rfl)) fun x=>by kernel_rfl
def I116:Sp:=⟨[(0,.agg c'21),(1,.agg c'21)],[],[]⟩
def E116:SL:=[(.ret,⟨[(4,ob)],[],[]⟩)]
noncomputable def e116:Fe G:=⟨I116,E116,fun x=>nkz' x.1.1.1 x.1.1.2.1 x.1.2.1.1 x.1.2.1.2.1,Tryz.f120.results.toList⟩
theorem k116:FnOK Tryz.prog G 120 e116:=fk cx tn (jl [(1048577,[(.normal,⟨[(4,ob)],[],[]⟩)])]) (lp:=(pl [])) Tryz.func120 (by kernel_rfl) (by kernel_rfl) rfl (an0 (by kernel_rfl)) fun x=>by kernel_rfl
def I117:Sp:=⟨[(0,.agg c'15)],[],[]⟩
def E117:SL:=[(.ret,⟨[(2,ob)],[],[]⟩)]
noncomputable def e117:Fe G:=⟨I117,E117,fun x=>nkb' x.1.1.1 x.1.1.2.1 x.1.1.2.2.1 x.1.1.2.2.2.1 x.1.1.2.2.2.2.1 x.1.1.2.2.2.2.2.1 x.1.1.2.2.2.2.2.2.1 x.1.1.2.2.2.2.2.2.2.1 x.1.1.2.2.2.2.2.2.2.2.1 x.1.1.2.2.2.2.2.2.2.2.2.1 x.1.1.2.2.2.2.2.2.2.2.2.2.1 x.1.1.2.2.2.2.2.2.2.2.2.2.2.1,Tryz.f122.results.toList⟩
theorem k117:FnOK Tryz.prog G 122 e117:=fk cx tn (jl [(1048577,[(.normal,⟨[(2,ob)],[],[]⟩)])]) (lp:=(pl [])) Tryz.func122 (by kernel_rfl) (by kernel_rfl) rfl (an0 (by kernel_rfl)) fun x=>by kernel_rfl
def I118:Sp:=⟨[(0,.agg c'2),(1,oro 46),(2,oi64),(3,oi64),(4,oi64)],[],[]⟩
def E118:SL:=[(.ret,⟨[(10,op 160)],[(160,c'21)],[]⟩)]
noncomputable def e118:Fe G:=⟨I118,E118,fun x=>nh7' x.1.1.1 x.1.1.2.1 x.1.1.2.2.1 x.1.1.2.2.2.1 x.1.1.2.2.2.2.1 x.1.1.2.2.2.2.2.1 x.1.1.2.2.2.2.2.2.1 x.1.1.2.2.2.2.2.2.2.1 x.1.2.1 x.1.2.2.1 x.1.2.2.2.1 x.1.2.2.2.2.1,Tryz.f121.results.toList⟩
theorem k118:FnOK Tryz.prog G 121 e118:=fk cx (tc k117 (tc k115 tn)) (jl [(5,[(.normal,⟨[(1,oro 46),(2,oi64),(3,oi64),(4,oi64),(5,op 80),(10,op 160),(11,oi64)],[(80,c'2),(160,c'21)],[]⟩)])]) (lp:=(pl [])) Tryz.func121 (by kernel_rfl) (by kernel_rfl) rfl (an0 (by kernel_rfl)) fun x=>by kernel_rfl
def I119:Sp:=⟨[(0,.agg c'2),(1,oro 46),(2,oi64),(3,oi64),(4,oi64)],[],[]⟩
def E119:SL:=[(.ret,⟨[(10,oi64)],[],[]⟩)]
def n1u':Sp:=⟨[(1,oro 46),(2,oi64),(3,oi64),(4,oi64),(5,op 80),(11,oi64),(12,oi64)],[(80,c'2)],[]⟩
def nzt':SL:=[(.exit 0,⟨[(11,oi64)],[],[]⟩)]
def J119:Nat→Option SL:=jl [(1048584,[(.normal,⟨[(1,oro 46),(2,oi64),(3,oi64),(4,oi64),(5,op 80),(11,oi64),(12,oi64),(57,ob)],[(80,c'2)],[]⟩)])]
noncomputable def P119:Nat→St G→M (Ex×St G):=pl [lpX n1u' nzt' niy']
theorem t119:∀ p ∈ [(60,e4),(121,e118),(120,e116)],FnOK Tryz.prog G p.1 p.2:=(tc k4 (tc k118 (tc k116 tn)))
theorem n34':LoopOK Tryz.prog G 60 (P119 0) (no' (ni' Tryz.f119) 0):=lk cx t119 J119 1 n1u' nzt' (rfl:niy'=_) (by kernel_rfl) (an0 (by kernel_rfl)) fun x=>by kernel_rfl
noncomputable def e119:Fe G:=⟨I119,E119,fun x=>nig' x.1.1.1 x.1.1.2.1 x.1.1.2.2.1 x.1.1.2.2.2.1 x.1.1.2.2.2.2.1 x.1.1.2.2.2.2.2.1 x.1.1.2.2.2.2.2.2.1 x.1.1.2.2.2.2.2.2.2.1 x.1.2.1 x.1.2.2.1 x.1.2.2.2.1 x.1.2.2.2.2.1,Tryz.f119.results.toList⟩
theorem k119:FnOK Tryz.prog G 119 e119:=fk cx t119 J119 (lp:=P119) Tryz.func119 (by kernel_rfl) (by kernel_rfl) rfl (nj' _ (by kernel_rfl) (nf' n34' nl')) fun x=>by kernel_rfl
def I120:Sp:=⟨[(0,.agg c'7),(1,oro 3)],[],[]⟩
def E120:SL:=[(.ret,⟨[(4,ob)],[],[]⟩)]
def n0z':Sp:=⟨[(1,oro 3),(2,op 32),(5,oi64)],[(32,c'7)],[]⟩
def nzv':SL:=[(.exit 0,⟨[(1,oro 3),(2,op 32)],[(32,c'7)],[]⟩),(.ret,⟨[(4,ob)],[],[]⟩)]
def J120:Nat→Option SL:=jl []
noncomputable def P120:Nat→St G→M (Ex×St G):=pl [lpX n0z' nzv' nhs']
theorem n4p':LoopOK Tryz.prog G 30 (P120 0) (no' (ni' Tryz.f44) 0):=lk cx tn J120 1 n0z' nzv' (rfl:nhs'=_) (by kernel_rfl) (an0 (by kernel_rfl)) fun x=>by kernel_rfl
noncomputable def e120:Fe G:=⟨I120,E120,fun x=>nmo' x.1.1.1 x.1.1.2.1 x.1.1.2.2.1 x.1.1.2.2.2.1 x.1.2.1,Tryz.f44.results.toList⟩
theorem k120:FnOK Tryz.prog G 44 e120:=fk cx tn J120 (lp:=P120) Tryz.func44 (by kernel_rfl) (by kernel_rfl) rfl (nj' _ (by kernel_rfl) (nf' n4p' nl')) fun x=>by kernel_rfl
def I121:Sp:=⟨[(0,.agg c'2),(1,.agg c'6),(2,oi64),(3,oro 46)],[],[]⟩
def E121:SL:=[(.ret,⟨[(8,op 128)],[(128,c'6)],[]⟩)]
noncomputable def e121:Fe G:=⟨I121,E121,fun x=>nni' x.1.1.1 x.1.1.2.1 x.1.1.2.2.1 x.1.1.2.2.2.1 x.1.1.2.2.2.2.1 x.1.1.2.2.2.2.2.1 x.1.1.2.2.2.2.2.2.1 x.1.1.2.2.2.2.2.2.2.1 x.1.2.1.1 x.1.2.1.2.1 x.1.2.1.2.2.1 x.1.2.1.2.2.2.1 x.1.2.1.2.2.2.2.1 x.1.2.2.1 x.1.2.2.2.1,Tryz.f91.results.toList⟩
theorem k121:FnOK Tryz.prog G 91 e121:=fk cx (tc k119 (tc k118 (tc k116 (tc k117 tn)))) (jl [(1048583,[(.normal,⟨[(2,oi64),(3,oro 46),(4,op 64),(5,op 80),(8,op 128),(9,oi64),(35,ob)],[(64,c'2),(80,c'6),(128,c'6)],[]⟩)]),(1048594,[(.normal,⟨[(3,oro 46),(5,op 80),(8,op 128),(10,op 160),(11,oi64),(12,ob)],[(80,c'6),(128,c'6),(160,c'15)],[]⟩)]),(1048595,[(.normal,⟨[(5,op 80),(8,op 128),(11,oi64),(141,ob)],[(80,c'6),(128,c'6)],[]⟩)])]) (lp:=(pl [])) Tryz.func91 (by kernel_rfl) (by kernel_rfl) rfl (an0 (by kernel_rfl)) fun x=>by kernel_rfl
def I122:Sp:=⟨[(0,.agg c'2),(1,.agg c'7),(2,oro 3),(3,oro 46)],[],[]⟩
def E122:SL:=[(.ret,⟨[(8,.one (.own 32768 66)),(9,.one (.own 32769 3)),(10,oi64)],[],[]⟩)]
def nz8':Sp:=⟨[(2,oro 3),(3,oro 46),(4,op 64),(5,op 80),(11,.one (.own 32768 66)),(12,.one (.own 32769 3)),(13,oi64)],[(64,c'2),(80,c'7)],[]⟩
def n0w':SL:=[(.exit 0,⟨[(11,.one (.own 32768 66)),(12,.one (.own 32769 3))],[],[]⟩)]
def J122:Nat→Option SL:=jl [(16,[(.normal,⟨[(2,oro 3),(3,oro 46),(4,op 64),(5,op 80),(11,.one (.own 32768 66)),(12,.one (.own 32769 3)),(13,oi64),(14,op 224),(15,op 240)],[(64,c'2),(80,c'7),(224,c'6),(240,c'6)],[]⟩)]),(18,[(.normal,⟨[(2,oro 3),(3,oro 46),(4,op 64),(5,op 80),(11,.one (.own 32768 66)),(12,.one (.own 32769 3)),(13,oi64),(14,op 224),(15,op 240)],[(64,c'2),(80,c'7),(224,c'6),(240,c'6)],[]⟩)]),(1048586,[(.normal,⟨[(2,oro 3),(3,oro 46),(4,op 64),(5,op 80),(11,.one (.own 32768 66)),(12,.one (.own 32769 3)),(13,oi64),(14,op 224),(15,op 240),(66,ob)],[(64,c'2),(80,c'7),(224,c'6),(240,c'6)],[]⟩)]),(1048593,[(.normal,⟨[(2,oro 3),(3,oro 46),(4,op 64),(5,op 80),(11,.one (.own 32768 66)),(12,.one (.own 32769 3)),(13,oi64),(14,op 224),(15,op 240),(105,ob)],[(64,c'2),(80,c'7),(224,c'6),(240,c'6)],[]⟩)])]
noncomputable def P122:Nat→St G→M (Ex×St G):=pl [lpX nz8' n0w' nkx']
theorem t122:∀ p ∈ [(43,e9),(44,e120),(91,e121),(92,e115)],FnOK Tryz.prog G p.1 p.2:=(tc k9 (tc k120 (tc k121 (tc k115 tn))))
theorem n4t':LoopOK Tryz.prog G 142 (P122 0) (no' (ni' Tryz.f50) 0):=lk cx t122 J122 1 nz8' n0w' (rfl:nkx'=_) (by kernel_rfl) (an0 (by kernel_rfl)) fun x=>by kernel_rfl
noncomputable def e122:Fe G:=⟨I122,E122,fun x=>nyd' x.1.1.1 x.1.1.2.1 x.1.1.2.2.1 x.1.1.2.2.2.1 x.1.1.2.2.2.2.1 x.1.1.2.2.2.2.2.1 x.1.1.2.2.2.2.2.2.1 x.1.1.2.2.2.2.2.2.2.1 x.1.2.1.1 x.1.2.1.2.1 x.1.2.1.2.2.1 x.1.2.1.2.2.2.1 x.1.2.2.1 x.1.2.2.2.1,Tryz.f50.results.toList⟩
theorem k122:FnOK Tryz.prog G 50 e122:=fk cx t122 J122 (lp:=P122) Tryz.func50 (by kernel_rfl) (by kernel_rfl) rfl (nj' _ (by kernel_rfl) (nf' n4t' nl')) fun x=>by kernel_rfl
def I123:Sp:=⟨[(0,oro 3),(1,oro 3)],[],[]⟩
def E123:SL:=[(.ret,⟨[(4,ob)],[],[]⟩)]
def nz0':Sp:=⟨[(0,oro 3),(1,oro 3),(5,oi64)],[],[]⟩
def n01':SL:=[(.exit 0,⟨[],[],[]⟩),(.ret,⟨[(4,ob)],[],[]⟩)]
def J123:Nat→Option SL:=jl []
noncomputable def P123:Nat→St G→M (Ex×St G):=pl [lpX nz0' n01' nhu']
theorem n4s':LoopOK Tryz.prog G 26 (P123 0) (no' (ni' Tryz.f52) 0):=lk cx tn J123 1 nz0' n01' (rfl:nhu'=_) (by kernel_rfl) (an0 (by kernel_rfl)) fun x=>by kernel_rfl
noncomputable def e123:Fe G:=⟨I123,E123,fun x=>nsd' x.1.1 x.1.2.1,Tryz.f52.results.toList⟩
theorem k123:FnOK Tryz.prog G 52 e123:=fk cx tn J123 (lp:=P123) Tryz.func52 (by kernel_rfl) (by kernel_rfl) rfl (nj' _ (by kernel_rfl) (nf' n4s' nl')) fun x=>by kernel_rfl
def I124:Sp:=⟨[(0,.agg c'2),(1,.agg c'15)],[],[]⟩
def E124:SL:=[(.ret,⟨[(4,op 64)],[(64,c'14)],[]⟩)]
noncomputable def e124:Fe G:=⟨I124,E124,fun x=>nkv' x.1.1.1 x.1.1.2.1 x.1.1.2.2.1 x.1.1.2.2.2.1 x.1.1.2.2.2.2.1 x.1.1.2.2.2.2.2.1 x.1.1.2.2.2.2.2.2.1 x.1.1.2.2.2.2.2.2.2.1 x.1.2.1.1 x.1.2.1.2.1 x.1.2.1.2.2.1 x.1.2.1.2.2.2.1 x.1.2.1.2.2.2.2.1 x.1.2.1.2.2.2.2.2.1 x.1.2.1.2.2.2.2.2.2.1 x.1.2.1.2.2.2.2.2.2.2.1 x.1.2.1.2.2.2.2.2.2.2.2.1 x.1.2.1.2.2.2.2.2.2.2.2.2.1 x.1.2.1.2.2.2.2.2.2.2.2.2.2.1 x.1.2.1.2.2.2.2.2.2.2.2.2.2.2.1,Tryz.f88.results.toList⟩
theorem k124:FnOK Tryz.prog G 88 e124:=fk cx (tc k103 (tc k104 tn)) (jl []) (lp:=(pl [])) Tryz.func88 (by kernel_rfl) (by kernel_rfl) rfl (an0 (by kernel_rfl)) fun x=>by kernel_rfl
def I125:Sp:=⟨[(0,.agg c'2),(1,oro 46),(2,oro 26)],[],[]⟩
def E125:SL:=[(.ret,⟨[(6,op 96),(7,oi64)],[(96,c'16)],[]⟩)]
def n0t':Sp:=⟨[(1,oro 46),(2,oro 26),(3,op 48),(6,op 96),(8,op 128),(9,oi64)],[(48,c'2),(96,c'16),(128,c'17)],[]⟩
def n0r':SL:=[(.exit 0,⟨[(6,op 96),(8,op 128)],[(96,c'16),(128,c'17)],[]⟩)]
def J125:Nat→Option SL:=jl []
noncomputable def P125:Nat→St G→M (Ex×St G):=pl [lpX n0t' n0r' nju']
theorem t125:∀ p ∈ [(60,e4),(88,e124),(18,e107),(21,e108)],FnOK Tryz.prog G p.1 p.2:=(tc k4 (tc k124 (tc k107 (tc k108 tn))))
theorem n4m':LoopOK Tryz.prog G 71 (P125 0) (no' (ni' Tryz.f45) 0):=lk cx t125 J125 1 n0t' n0r' (rfl:nju'=_) (by kernel_rfl) (an0 (by kernel_rfl)) fun x=>by kernel_rfl
noncomputable def e125:Fe G:=⟨I125,E125,fun x=>nw4' x.1.1.1 x.1.1.2.1 x.1.1.2.2.1 x.1.1.2.2.2.1 x.1.1.2.2.2.2.1 x.1.1.2.2.2.2.2.1 x.1.1.2.2.2.2.2.2.1 x.1.1.2.2.2.2.2.2.2.1 x.1.2.1 x.1.2.2.1,Tryz.f45.results.toList⟩
theorem k125:FnOK Tryz.prog G 45 e125:=fk cx t125 J125 (lp:=P125) Tryz.func45 (by kernel_rfl) (by kernel_rfl) rfl (nj' _ (by kernel_rfl) (nf' n4m' nl')) fun x=>by kernel_rfl
def I126:Sp:=⟨[(0,.agg c'2),(1,.agg c'7),(2,oro 46)],[],[]⟩
def E126:SL:=[(.ret,⟨[(6,.one (.own 32768 66))],[],[]⟩)]
def nzj':Sp:=⟨[(2,oro 46),(3,op 48),(4,op 64),(7,.one (.own 32768 66)),(8,oi64)],[(48,c'2),(64,c'7)],[]⟩
def n1q':SL:=[(.exit 0,⟨[(7,.one (.own 32768 66))],[],[]⟩)]
def nzl':Sp:=⟨[(2,oro 46),(3,op 48),(4,op 64),(7,.one (.own 32768 66)),(8,oi64),(9,op 144),(10,oi64)],[(48,c'2),(64,c'7),(144,c'6)],[]⟩
def n0k':SL:=[(.exit 2,⟨[(2,oro 46),(3,op 48),(4,op 64),(7,.one (.own 32768 66)),(8,oi64)],[(48,c'2),(64,c'7)],[]⟩)]
def J126:Nat→Option SL:=jl []
noncomputable def P126:Nat→St G→M (Ex×St G):=pl [lpX nzj' n1q' njz',lpX nzl' n0k' njw']
theorem t126:∀ p ∈ [(43,e9),(88,e124),(90,e105)],FnOK Tryz.prog G p.1 p.2:=(tc k9 (tc k124 (tc k105 tn)))
theorem n1f':LoopOK Tryz.prog G 61 (P126 1) (no' (ni' Tryz.f47) 1):=lk cx t126 J126 2 nzl' n0k' (rfl:njw'=_) (by kernel_rfl) (an0 (by kernel_rfl)) fun x=>by kernel_rfl
theorem n47':LoopOK Tryz.prog G 61 (P126 0) (no' (ni' Tryz.f47) 0):=lk cx t126 J126 1 nzj' n1q' (rfl:njz'=_) (by kernel_rfl) (nj' _ (by kernel_rfl) (nf' n1f' nl')) fun x=>by kernel_rfl
noncomputable def e126:Fe G:=⟨I126,E126,fun x=>nwe' x.1.1.1 x.1.1.2.1 x.1.1.2.2.1 x.1.1.2.2.2.1 x.1.1.2.2.2.2.1 x.1.1.2.2.2.2.2.1 x.1.1.2.2.2.2.2.2.1 x.1.1.2.2.2.2.2.2.2.1 x.1.2.1.1 x.1.2.1.2.1 x.1.2.1.2.2.1 x.1.2.1.2.2.2.1 x.1.2.2.1,Tryz.f47.results.toList⟩
theorem k126:FnOK Tryz.prog G 47 e126:=fk cx t126 J126 (lp:=P126) Tryz.func47 (by kernel_rfl) (by kernel_rfl) rfl (nj' _ (by kernel_rfl) (nf' n47' (nf' n1f' nl'))) fun x=>by kernel_rfl
end Go.Ovl
