import Derived.Test.YtdaocffjgcokgaaGreatDoorSig
import Derived.Test.YtdaocffjgcokgaaGreatDoorDefs4
import Derived.Test.YtdaocffjgcokgaaGreatDoorAbC
import Derived.Test.YtdaocffjgcokgaaGreatDoorFns1
set_option linter.all false
open Option renaming some->A,bind->aB
open Array renaming mk->B
open ByteArray renaming mk->C
open Go.IntKind renaming i64->aA
namespace Go.Ovl
open Go Go.Ab Go.Proofs Go.Proofs.Tryz
set_option maxRecDepth 100000
noncomputable section
def Aih:Sp:=sh [(1,oro 42),(4,op 64),(8,op 608),(50,oro 92),(51,oi),(52,oi)] [(64,JJ),(608,Awc)]
def Aj4:SL:=[xh 1 [(1,oro 42),(4,op 64),(8,op 608)] [(64,JJ),(608,Awc)]]
def Aii:Sp:=sh [(4,op 64),(8,op 608),(70,oro 42),(71,oi),(72,oi)] [(64,JJ),(608,Aee)]
def Aj5:SL:=[xh 3 [(4,op 64),(8,op 608)] [(64,JJ),(608,Aee)]]
def Aij:Sp:=sh [(4,op 64),(8,op 608),(70,oro 42),(71,oi),(72,oi),(84,oi),(85,oi)] [(64,JJ),(608,Aee)]
def Aj6:SL:=[xh 6 [(4,op 64),(8,op 608),(70,oro 42),(71,oi),(72,oi)] [(64,JJ),(608,Aee)]]
def Adk:LP:=pl [lpX Aih Aj4 Lr,lpX Aii Aj5 Gz,lpX Aij Aj6 GA]
def t332:KS [(14,e25),(23,e44),(45,e94),(46,Ayk),(47,Ayl)]:=(tc k25 (tc k44 (tc k94 (tc Bpz (tc Bp0 tn)))))
def Akx:LK f22 Adk 2:=lk0 t332 (js []) 3 Aij Aj6 GA
def Bb8:LK f22 Adk 1:=lk0 t332 (js []) 2 Aii Aj5 Gz (hin:=(aa (Ad Akx Ae)))
def Bb7:LK f22 Adk 0:=lk0 t332 (js []) 1 Aih Aj4 Lr
def e332:Fe G:=fe f22 (ia [oA c'2,oro 42]) (rh [(4,op 64),(5,.one (cw 0 89)),(6,oi)] [(64,Amq)]) HP
def Bp1:K 22 e332:=fk1 t332 (js []) Adk func22 (aa (Ad Bb7 (Ad Bb8 (Ad Akx Ae))))
def I333:Sp:=ia []
def As6:SL:=rt [(0,ob)]
def Bgd(p0:(KL×Unit)→Option ((Unit×Unit)×(T'0×Unit)))(p1:((T'0×ByteArray×Unit)×Unit)→Option (Zm×Unit))(p2:(YK×Unit)→Option ((ByteArray×Int×Unit)×Unit))(p3:(YK×Unit)→Option (Adn×(Fj×Unit)))(p4:((List Event×Unit)×Unit)→Option ((Int×Unit)×Unit)) :Option ((Bool×Unit)×Unit):=letI a:=32;letI b:=((false,()),());letI c:=(0:Int);letI d:=10;letI e:=112;letI f:=101;letI g:=115;letI h:=116;letI j:=97;letI l:=114;letI m:=117;letI n:=119;letI o:=105;letI q:=49;(p0 ((((2:Int),c,c,()),()),())).bind λy1=>(p1 ((y1.2.1,C (B [e,l,f,g,g,a,q,a,m,e,a,35,a,110,111,h,f,d,d,a,a,n,j,o,h,a,50,48,d]),()),())).bind λy2=>(p2 ((y1.2.1,y2.1.1,()),())).bind λy3=>aB (A (((),y2.1.1,y2.1.2.2.1,y3.1.1,y3.1.2.1,()),(y1.2.1,()))) λy4=>letI k:=y4.1.2;(p3 ((y4.2.1,k.1,()),())).bind λy5=>letI r:=y5.1.2.1.length;(p1 ((y4.2.1,C (B [98,j,100,d,n,j,o,h,a,120]),()),())).bind λy6=>aB (cond (k.2.1==c) (cond ((k.1.length:Int)==2) (cond (k.2.2.2.1==c) (cond (eqB k.2.2.1 (C (B [e,l,f,g,g,a,q,a,m,e,d,n,j,o,h,a,50,48,d]))) (cond (y5.1.2.2.1==c) (cond (((r:Nat):Int)==1) (cond (inB c r) (cond (eqB (y5.1.2.1.getD c.toNat (Line.mk c (C (B [])))).A5 (C (B [g,f,l,118,f,100,a,q,a,m,e]))) (cond (y6.1.2.2.1==300) (cond (y6.1.2.1==2) ((p4 ((k.1,()),())).bind λy7=>A ((y7.1.1==20,()),())) (A b)) (A b)) (A b)) none) (A b)) (A b)) (A b)) (A b)) (A b)) (A b)) λy8=>A ((y8.1.1,()),())
def Bqh(p0:(KL×Unit)→Option ((Unit×Unit)×(T'0×Unit)))(p1:((T'0×ByteArray×Unit)×Unit)→Option (Zm×Unit))(p2:(YK×Unit)→Option ((ByteArray×Int×Unit)×Unit))(p3:(YK×Unit)→Option (Adn×(Fj×Unit)))(p4:((List Event×Unit)×Unit)→Option ((Int×Unit)×Unit))(x:I333.T G):MK (cfQ [(4,Fe.mk (G:=G) e9.I e9.E p0 e9.rs),(7,Fe.mk (G:=G) e42.I e42.E p1 e42.rs),(6,Fe.mk (G:=G) e34.I e34.E p2 e34.rs),(22,Fe.mk (G:=G) e332.I e332.E p3 e332.rs),(23,Fe.mk (G:=G) e44.I e44.E p4 e44.rs)]) (pl []) (js [(6,jn [(0,ob)]),(1048580,jh [(1,op 16),(2,oro 42),(4,oi),(5,os),(6,oi)] [(16,c'2)])]) 84 (AE f9) I333 As6 x=Bgd p0 p1 p2 p3 p4:=κ
def e333:Fe G:=fe f9 I333 As6 Il
def Bp2:K 9 e333:=fk cx (tc k9 (tc k42 (tc k34 (tc Bp1 (tc k44 tn))))) (js [(6,jn [(0,ob)]),(1048580,jh [(1,op 16),(2,oro 42),(4,oi),(5,os),(6,oi)] [(16,c'2)])]) (lp:=(pl [])) func9 κ κ rfl (an0 κ) λx=>(Bqh (λx=>DU x.1.1.1 x.1.1.2.1 x.1.1.2.2.1) (λx=>letI a:=x.1.1.2.2;letI b:=a.2.2;Dd x.1.1.1 x.1.1.2.1 a.1 a.2.1 b.1 b.2.1 b.2.2.1 b.2.2.2.1 x.1.2.1) (λx=>letI a:=x.1.1.2.2;letI b:=a.2.2;Dt x.1.1.1 x.1.1.2.1 a.1 a.2.1 b.1 b.2.1 b.2.2.1 b.2.2.2.1 x.1.2.1) (λx=>letI a:=x.1.1.2.2;letI b:=a.2.2;HP x.1.1.1 x.1.1.2.1 a.1 a.2.1 b.1 b.2.1 b.2.2.1 b.2.2.2.1 x.1.2.1) (λx=>Ir x.1.1) x).trans κ
def I334:Sp:=ia [oA [c1,c1,c1],oro 5,oro 5]
def E334:SL:=rt [(6,ob)]
def S334_0:Sp:=sh [(2,oro 5),(7,op 112),(8,oro 42),(9,os),(10,oi)] [(112,c'2)]
def Zt:SL:=[xh 0 [(7,op 112),(8,oro 42),(9,os)] [(112,c'2)],rx [(6,ob)]]
def Adi:=jl [(14,jh [(2,oro 5),(7,op 112),(8,oro 42),(9,os),(10,oi),(11,os),(13,oi)] [(112,c'2)]),(1048591,jn [(6,ob)])]
def Adl:LP:=pl [lpX S334_0 Zt BP]
def t334:KS [(4,e9),(5,e13),(6,e34),(7,e42),(8,e43),(9,e333)]:=(tc k9 (tc k13 (tc k34 (tc k42 (tc k43 (tc Bp2 tn))))))
def Ar2(p0:(Unit×Unit)→Option ((Bool×Unit)×Unit))(m:List Int)(x_1:List Event)(s:ByteArray)(i p1 p2 p3 p4:Int)(p5 p6 p7:Nat)(p8:List Car):Option (Sum (Aqh×(T'0×Unit)) ((Aqi×(T'0×Unit))⊕((Bool×Unit)×Unit))):=letI b:=32;letI c:=10;letI d:=((p1,p2,p3,p4,p5,p6,p7,p8,()),());letI f:=(0:Int);letI h:=35;cond (decide (i<(x_1.length:Int))) (let z0:Int:=aA.wrap (i+1);cond (decide (f≤z0)&&decide (z0≤(x_1.length:Int))) (cond (decide (f≤i)&&decide (i≤((z0.toNat:Nat):Int))) ((Dt p1 p2 p3 p4 p5 p6 p7 p8 ((x_1.take z0.toNat).drop i.toNat)).bind λy1=>cond (y1.1.2.1 !=f) (A (Sum.inr (Sum.inr ((false,()),())))) (cond (decide ((y1.1.1.size:Int)<2)) (A (Sum.inr (Sum.inr ((false,()),())))) (aB (cond (decide (i<(m.length:Int))) (cond (inB i m.length) (A ((m,(),x_1,s,i,y1.1.1,Int.tmod (IntKind.wrap aA (m.getD i.toNat f)) 5,()),d)) none) (A ((m,(),x_1,s,i,y1.1.1,f,()),d))) λy2=>letI a:=y2.1.2.2.2;letI e:=a.2.2;letI g:=e.2.1;let z1:List (ByteArray):=[C (B []),C (B [b]),C (B [c]),C (B [h,b,110,111,116,101,c]),C (B [b,b,b])];cond (inB g z1.length) (let z2:ByteArray:=z1.getD g.toNat (C (B []));cond ((a.1.size+z2.size).ble 4611686018427387904) (let z3:ByteArray:=a.1++z2;let z4:Int:=aA.wrap ((e.1.size:Int)-1);cond (decide (f≤z4)&&decide (z4≤(e.1.size:Int))) (let z5:ByteArray:=ByteArray.extract e.1 0 z4.toNat;cond ((z3.size+z5.size).ble 4611686018427387904) (let z6:ByteArray:=z3++z5;let z7:List (ByteArray):=[C (B [c]),C (B [b,c]),C (B [h,c]),C (B [b,h,b,120,c,c]),C (B [c])];cond (inB g z7.length) (let z8:ByteArray:=z7.getD g.toNat (C (B []));cond ((z6.size+z8.size).ble 4611686018427387904) (A (Sum.inl ((y2.1.1,(),y2.1.2.2.1,z6++z8,aA.wrap (a.2.1+1),()),(y2.2.1,())))) none) none) none) none) none) none))) none) none) (A (Sum.inr (Sum.inl (((),x_1,s,()),d))))
def Ayt(h_l29_sane:(Unit×Unit)→Option ((Bool×Unit)×Unit))(x:S334_0.T G):PF (cfQ [(4,e9),(5,e13),(6,e34),(7,e42),(8,e43),(9,Fe.mk (G:=G) e333.I e333.E h_l29_sane e333.rs)]) Adl Adi 89 1 (Je (AE f3) 0) S334_0 Zt x=(letI a:=x.2.1.2.2;letI b:=a.2.2;Ar2 h_l29_sane x.1.1 x.1.2.2.1 x.1.2.2.2.1 x.1.2.2.2.2.1 x.2.1.1 x.2.1.2.1 a.1 a.2.1 b.1 b.2.1 b.2.2.1 b.2.2.2.1):=κ
def Bb9:LK f3 Adl 0:=lk cx t334 Adi 1 S334_0 Zt (rfl:BP=_) κ (an0 κ) λx=>(Ayt (λ_=>Il) x).trans κ
def Bge(p0:(Unit×Unit)→Option ((Bool×Unit)×Unit))(p1 p2 p3:Int)(l m:List Int):Option ((Bool×Unit)×Unit):=(DU p1 p2 p3).bind λy1=>letI a:=y1.2.1.2.2;letI c:=a.2;letI e:=c.2;(HO y1.2.1.1 y1.2.1.2.1 a.1 c.1 e.1 e.2.1 e.2.2.1 e.2.2.2.1 l 2000).bind λy2=>(BP ((m,(),y2.1.1,C (B []),(0:Int),()),(y1.2.1,()))).bind λy3=>match y3 with| .inl y4=>letI b:=y4.2.1.2.2;letI d:=b.2;letI f:=d.2;(Dd y4.2.1.1 y4.2.1.2.1 b.1 d.1 f.1 f.2.1 f.2.2.1 f.2.2.2.1 y4.1.2.2.1).bind λy5=>aB (cond (y5.1.2.2.1==0) ((Fc y4.1.2.1 y5.1.1).bind λy6=>cond y6.1.1 ((p0 ((),())).bind λy7=>A ((y7.1.1,()),())) (A ((false,()),()))) (A ((false,()),()))) λy8=>A ((y8.1.1,()),())| .inr y4=>A ((y4.1.1,()),())
def Bqi(p0:(Unit×Unit)→Option ((Bool×Unit)×Unit))(x:I334.T G):MK (cfQ [(4,e9),(5,e13),(6,e34),(7,e42),(8,e43),(9,Fe.mk (G:=G) e333.I e333.E p0 e333.rs)]) Adl Adi 89 (AE f3) I334 E334 x=Bge p0 x.1.1.1 x.1.1.2.1 x.1.1.2.2.1 x.1.2.1 x.1.2.2.1:=κ
def e334:Fe G:=fe f3 I334 E334 F_l29_ScriptSpaces
def k334:K 3 e334:=fk cx t334 Adi (lp:=Adl) func3 κ κ rfl (aa (Ad Bb9 Ae)) λx=>(Bqi (λ_=>Il) x).trans κ
end
end Go.Ovl
