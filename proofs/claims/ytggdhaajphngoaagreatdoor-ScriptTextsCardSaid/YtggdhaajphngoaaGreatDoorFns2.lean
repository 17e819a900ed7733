import Derived.Test.YtggdhaajphngoaaGreatDoorSig
import Derived.Test.YtggdhaajphngoaaGreatDoorDefs4
import Derived.Test.YtggdhaajphngoaaGreatDoorAbC
import Derived.Test.YtggdhaajphngoaaGreatDoorFns1
set_option linter.all false
open Option renaming some->A,none->E
open Array renaming mk->B
open ByteArray renaming mk->C
open Go.Ab renaming oi->D,oro->H
open Sum renaming inr->I
namespace Go.Ovl
open Go Go.Ab Go.Proofs Go.Proofs.Tryz
set_option maxRecDepth 100000
noncomputable section
def I328:Sp:=ia []
def Atx:SL:=rt [(0,ob)]
def Bhd(p0:(KU×Unit)→Option ((Unit×Unit)×(T'0×Unit)))(p1:((T'0×ByteArray×Unit)×Unit)→Option (ZC×Unit))(p2:(YY×Unit)→Option ((ByteArray×Int×Unit)×Unit))(p3:(YY×Unit)→Option (Ad6×(Fm×Unit)))(p4:((List Event×Unit)×Unit)→Option ((Int×Unit)×Unit)) :Option ((Bool×Unit)×Unit):=letI a:=32;letI b:=((false,()),());letI c:=(0:Int);letI d:=10;letI e:=112;letI f:=101;letI g:=115;letI h:=116;letI j:=97;letI l:=114;letI m:=117;letI n:=119;letI o:=105;letI q:=49;(p0 ((((2:Int),c,c,()),()),())).bind λy1=>(p1 ((y1.2.1,C (B [e,l,f,g,g,a,q,a,m,e,a,35,a,110,111,h,f,d,d,a,a,n,j,o,h,a,50,48,d]),()),())).bind λy2=>(p2 ((y1.2.1,y2.1.1,()),())).bind λy3=>Option.bind (A (((),y2.1.1,y2.1.2.2.1,y3.1.1,y3.1.2.1,()),(y1.2.1,()))) λy4=>letI k:=y4.1.2;(p3 ((y4.2.1,k.1,()),())).bind λy5=>letI r:=y5.1.2.1.length;(p1 ((y4.2.1,C (B [98,j,100,d,n,j,o,h,a,120]),()),())).bind λy6=>Option.bind (cond (k.2.1==c) (cond ((k.1.length:Int)==2) (cond (k.2.2.2.1==c) (cond (eqB k.2.2.1 (C (B [e,l,f,g,g,a,q,a,m,e,d,n,j,o,h,a,50,48,d]))) (cond (y5.1.2.2.1==c) (cond (((r:Nat):Int)==1) (cond (inB c r) (cond (eqB (y5.1.2.1.getD c.toNat (Line.mk c (C (B [])))).A5 (C (B [g,f,l,118,f,100,a,q,a,m,e]))) (cond (y6.1.2.2.1==300) (cond (y6.1.2.1==2) ((p4 ((k.1,()),())).bind λy7=>A ((y7.1.1==20,()),())) (A b)) (A b)) (A b)) E) (A b)) (A b)) (A b)) (A b)) (A b)) (A b)) λy8=>A ((y8.1.1,()),())
def Brs(p0:(KU×Unit)→Option ((Unit×Unit)×(T'0×Unit)))(p1:((T'0×ByteArray×Unit)×Unit)→Option (ZC×Unit))(p2:(YY×Unit)→Option ((ByteArray×Int×Unit)×Unit))(p3:(YY×Unit)→Option (Ad6×(Fm×Unit)))(p4:((List Event×Unit)×Unit)→Option ((Int×Unit)×Unit))(x:I328.T G):LM (cfQ [(5,Fe.mk (G:=G) e9.I e9.E p0 e9.rs),(13,Fe.mk (G:=G) e28.I e28.E p1 e28.rs),(7,Fe.mk (G:=G) e38.I e38.E p2 e38.rs),(15,Fe.mk (G:=G) e327.I e327.E p3 e327.rs),(11,Fe.mk (G:=G) e39.I e39.E p4 e39.rs)]) (pl []) (js [(6,jn [(0,ob)]),(1048580,jh [(1,op 16),(2,H 68),(4,D),(5,os),(6,D)] [(16,c'2)])]) 84 (AD f4) I328 Atx x=Bhd p0 p1 p2 p3 p4:=κ
def e328:Fe G:=fe f4 I328 Atx GY
def Bq1:K 4 e328:=fk cx (tc k9 (tc k28 (tc k38 (tc Bq0 (tc k39 tn))))) (js [(6,jn [(0,ob)]),(1048580,jh [(1,op 16),(2,H 68),(4,D),(5,os),(6,D)] [(16,c'2)])]) (lp:=(pl [])) func4 κ κ rfl (an0 κ) λx=>(Brs (λx=>DV x.1.1.1 x.1.1.2.1 x.1.1.2.2.1) (λx=>letI a:=x.1.1.2.2;letI b:=a.2.2;Dc x.1.1.1 x.1.1.2.1 a.1 a.2.1 b.1 b.2.1 b.2.2.1 b.2.2.2.1 x.1.2.1) (λx=>letI a:=x.1.1.2.2;letI b:=a.2.2;Du x.1.1.1 x.1.1.2.1 a.1 a.2.1 b.1 b.2.1 b.2.2.1 b.2.2.2.1 x.1.2.1) (λx=>letI a:=x.1.1.2.2;letI b:=a.2.2;HW x.1.1.1 x.1.1.2.1 a.1 a.2.1 b.1 b.2.1 b.2.2.1 b.2.2.2.1 x.1.2.1) (λx=>Dd x.1.1) x).trans κ
def Azf:Fe G:=fe f37 (ia [oA [c4,c4],D,D]) (rt [(6,ob)]) Ya
def Bq2:K 37 Azf:=fkj tn (js [(3,jn [(6,ob)])]) func37
def Ai8:Sp:=sh [(1,op 16),(3,.one (cw 0 75)),(4,D)] [(16,[c4,c4])]
def Akz:SL:=[xt 0 [(3,.one (cw 0 75))]]
def Ai9:Sp:=sh [(1,op 16),(3,.one (cw 0 75)),(4,D),(5,D)] [(16,[c4,c4])]
def Ak0:SL:=[xh 2 [(1,op 16),(3,.one (cw 0 75)),(4,D)] [(16,[c4,c4])]]
def Am6:LP:=pl [lpX Ai8 Akz Og,lpX Ai9 Ak0 Oh]
def t330:KS [(37,Azf)]:=(tc Bq2 tn)
def Aly:LK f18 Am6 1:=lk0 t330 (js []) 2 Ai9 Ak0 Oh
def Bc6:LK f18 Am6 0:=lk0 t330 (js []) 1 Ai8 Akz Og (hin:=(aa (Ad Aly Ae)))
def Azg:Fe G:=fe f18 (ia [oA [c4,c4]]) (rt [(2,.one (cw 0 75))]) Nk
def Bq3:K 18 Azg:=fk1 t330 (js []) Am6 func18 (aa (Ad Bc6 (Ad Aly Ae)))
def Aja:Sp:=sp [(0,H 68),(3,D),(4,D)]
def Ak1:SL:=[xt 0 [(3,D)]]
def Avu:LP:=pl [lpX Aja Ak1 MT]
def Bc7:LK f12 Avu 0:=lk0 tn (js []) 1 Aja Ak1 MT
def Aan:Fe G:=fe f12 (ia [H 68]) (rt [(2,D)]) Hv
def Bbk:K 12 Aan:=fk1 tn (js []) Avu func12 (aa (Ad Bc7 Ae))
def Ajb:Sp:=sh [(1,H 5),(3,op 48),(7,.one (cw 0 68)),(8,D),(9,D)] [(48,c'2)]
def Ak2:SL:=[xt 0 [(7,.one (cw 0 68))]]
def Aui:=jl [(26,jh [(1,H 5),(3,op 48),(7,.one (cw 0 68)),(8,D),(9,D),(12,op 192)] [(48,c'2),(192,[ci,ci,ci,ci,ci])])]
def Avv:LP:=pl [lpX Ajb Ak2 IC]
def t332:KS [(18,Azg),(12,Aan)]:=(tc Bq3 (tc Bbk tn))
def Bc8:LK f6 Avv 0:=lk0 t332 Aui 1 Ajb Ak2 IC
def Afm:Fe G:=fe f6 (ia [oA c'2,H 5,D]) (rt [(6,.one (cw 0 68))]) HU
def Bq4:K 6 Afm:=fk1 t332 Aui Avv func6 (aa (Ad Bc8 Ae))
def Bmp:Fe G:=fe f55 (ia [D,D,D]) (rt [(6,ob)]) Lu
def Bq5:K 55 Bmp:=fkj tn (js [(1,jn [(6,ob)])]) func55
def Bmq:Fe G:=fe f56 (ia [oA c'2,D,D]) (rt [(6,ob)]) Kz
def Bq6:K 56 Bmq:=fkj (tc k6 (tc k4 tn)) (js [(3,jn [(6,ob)])]) func56
def Azh:Fe G:=fe f28 (ia [oA c'2,oA [ci,ci,ci,ci,ci]]) (rt [(4,ob)]) OX
def Bq7:K 28 Azh:=fkj (tc Bq5 (tc Bq6 tn)) (js [(2,jh [(2,op 32),(3,op 48),(5,ob),(6,ob),(7,ob)] [(32,c'2),(48,[ci,ci,ci,ci,ci])]),(5,jn [(4,ob)]),(7,jn [(4,ob)]),(9,jn [(4,ob)]),(11,jn [(4,ob)]),(13,jn [(4,ob)]),(15,jn [(4,ob)]),(17,jn [(4,ob)]),(19,jn [(4,ob)])]) func28
def Ajc:Sp:=sh [(1,H 68),(2,op 32),(5,ob),(6,D)] [(32,c'2)]
def Ak3:SL:=[xt 0 [(5,ob)]]
def Auj:=js [(5,jh [(1,H 68),(2,op 32),(5,ob),(6,D)] [(32,c'2)])]
def Avw:LP:=pl [lpX Ajc Ak3 MU]
def t336:KS [(27,e6),(28,Azh)]:=(tc k6 (tc Bq7 tn))
def Bc9:LK f10 Avw 0:=lk0 t336 Auj 1 Ajc Ak3 MU
def Aao:Fe G:=fe f10 (ia [oA c'2,H 68]) (rt [(4,ob)]) Hw
def Bbl:K 10 Aao:=fk1 t336 Auj Avw func10 (aa (Ad Bc9 Ae))
def Bhs:Sp:=sp [(0,D)]
def Bhb:SL:=rt [(2,os)]
def Aom:Fe G:=fe f44 Bhs Bhb BH
def Bsa:Af6 G 2 Anz=Aom:=κ
def Bq8:K 44 Aom:=Bsa▸Asf ⟨_,Tryz.func44,κ,κ⟩ (λ_ _ h=>An0 h) (λw n h _=>Alf w n h)
def Azi:Fe G:=fe f45 (ia [D]) (rt [(2,os)]) Mk
def Bq9:K 45 Azi:=fk0 tn func45
def e339:Fe G:=fe f46 (ia []) (rt [(0,.one (cw 0 9))]) Ls
def Bra:K 46 e339:=fk0 tn func46
def I340:Sp:=ia [oA [ci,ci,ci,ci,ci]]
def Aty:SL:=rt [(2,os)]
def Bhe(p0:(Unit×Unit)→Option ((List ByteArray×Unit)×Unit))(p1 p2 p3 p4 e_N:Int):Option ((ByteArray×Unit)×Unit):=letI a:=32;letI b:=97;letI c:=114;letI d:=115;letI e:=99;letI f:=108;letI g:=111;letI h:=BH e_N;letI j:=BH p4;letI k:=100;letI l:=h.bind;letI m:=j.bind;letI n:=98;cond (p1==1) (l λy1=>cond (((C (B [119,b,105,116,a])).size+y1.1.1.size).ble 4611686018427387904) (A ((C (B [119,b,105,116,a])++y1.1.1,()),())) E) (cond (p1==2) ((BH p2).bind λy2=>cond (((C (B [112,c,101,d,d,a])).size+y2.1.1.size).ble 4611686018427387904) (let z0:ByteArray:=C (B [112,c,101,d,d,a])++y2.1.1;cond ((z0.size+(C (B [a])).size).ble 4611686018427387904) (let z1:ByteArray:=z0++C (B [a]);(Mk p3).bind λy3=>cond ((z1.size+y3.1.1.size).ble 4611686018427387904) (A ((z1++y3.1.1,()),())) E) E) E) (cond (p1==3) (m λy4=>cond (((C (B [e,b,c,a])).size+y4.1.1.size).ble 4611686018427387904) (let z2:ByteArray:=C (B [e,b,c,a])++y4.1.1;cond ((z2.size+(C (B [a])).size).ble 4611686018427387904) (let z3:ByteArray:=z2++C (B [a]);(BH p2).bind λy5=>cond ((z3.size+y5.1.1.size).ble 4611686018427387904) (A ((z3++y5.1.1,()),())) E) E) E) (cond (p1==4) (m λy6=>cond (((C (B [f,g,b,k,a])).size+y6.1.1.size).ble 4611686018427387904) (let z4:ByteArray:=C (B [f,g,b,k,a])++y6.1.1;cond ((z4.size+(C (B [a])).size).ble 4611686018427387904) (let z5:ByteArray:=z4++C (B [a]);l λy7=>cond ((z5.size+y7.1.1.size).ble 4611686018427387904) (A ((z5++y7.1.1,()),())) E) E) E) (cond (p1==5) (m λy8=>cond (((C (B [n,f,g,e,107,a])).size+y8.1.1.size).ble 4611686018427387904) (let z6:ByteArray:=C (B [n,f,g,e,107,a])++y8.1.1;cond ((z6.size+(C (B [a])).size).ble 4611686018427387904) (let z7:ByteArray:=z6++C (B [a]);l λy9=>cond ((z7.size+y9.1.1.size).ble 4611686018427387904) (A ((z7++y9.1.1,()),())) E) E) E) (cond (p1==6) ((p0 ((),())).bind λy10=>let z8:Int:=IntKind.i64.wrap (e_N-1);cond (inB z8 y10.1.1.length) (let z9:ByteArray:=y10.1.1.getD z8.toNat (C (B []));cond ((z9.size+(C (B [a])).size).ble 4611686018427387904) (let z10:ByteArray:=z9++C (B [a]);m λy11=>cond ((z10.size+y11.1.1.size).ble 4611686018427387904) (A ((z10++y11.1.1,()),())) E) E) E) (cond (p1==7) (A ((C (B [n,b,k]),()),())) (l λy12=>cond (((C (B [e,c,b,d,104,a])).size+y12.1.1.size).ble 4611686018427387904) (A ((C (B [e,c,b,d,104,a])++y12.1.1,()),())) E)))))))
def Brt(p0:(Unit×Unit)→Option ((List ByteArray×Unit)×Unit))(x:I340.T G):LM (cfQ [(44,Aom),(45,Azi),(46,Fe.mk (G:=G) e339.I e339.E p0 e339.rs)]) (pl []) (js []) 74 (AD f22) I340 Aty x=Bhe p0 x.1.1.1 x.1.1.2.1 x.1.1.2.2.1 x.1.1.2.2.2.1 x.1.1.2.2.2.2.1:=κ
def Azj:Fe G:=fe f22 I340 Aty Py
def Brb:K 22 Azj:=fk cx (tc Bq8 (tc Bq9 (tc Bra tn))) (js []) (lp:=(pl [])) func22 κ κ rfl (an0 κ) λx=>(Brt (λ_=>Ls) x).trans κ
def Ajd:Sp:=sp [(1,H 68),(6,os),(7,D)]
def Ak4:SL:=[xt 0 [(6,os)]]
def Avx:LP:=pl [lpX Ajd Ak4 LD]
def t341:KS [(10,Aao),(22,Azj)]:=(tc Bbl (tc Brb tn))
def Bda:LK f8 Avx 0:=lk0 t341 (js []) 1 Ajd Ak4 LD
def Afn:Fe G:=fe f8 (ia [oA c'2,H 68]) (rt [(4,os),(5,D)]) HV
def Brc:K 8 Afn:=fk1 t341 (js []) Avx func8 (aa (Ad Bda Ae))
def Aje:Sp:=sp [(0,H 68),(1,H 68),(5,D)]
def Ak5:SL:=[xt 0 [],rx [(4,ob)]]
def Avy:LP:=pl [lpX Aje Ak5 FL]
def Bdb:LK f14 Avy 0:=lk0 tn (js []) 1 Aje Ak5 FL
def Afo:Fe G:=fe f14 (ia [H 68,H 68]) (rt [(4,ob)]) Ff
def Brd:K 14 Afo:=fk1 tn (js []) Avy func14 (aa (Ad Bdb Ae))
def I343:Sp:=ia [oA [c1,c1,c1],H 5,H 68]
def E343:SL:=rt [(6,ob)]
def S343_0:Sp:=sh [(7,op 112),(27,.one (cw 0 24)),(28,D),(29,D)] [(112,c'2)]
def ZJ:SL:=[xt 0 [],rx [(6,ob)]]
def Ad2:=js [(16,jn [(6,ob)])]
def Ad5:LP:=pl [lpX S343_0 ZJ BF]
def t343:KS [(4,e328),(5,e9),(6,Afm),(7,e38),(8,Afn),(9,e32),(10,Aao),(11,e39),(12,Aan),(13,e28),(14,Afo)]:=(tc Bq1 (tc k9 (tc Bq4 (tc k38 (tc Brc (tc k32 (tc Bbl (tc k39 (tc Bbk (tc k28 (tc Brd tn)))))))))))
def Asw(p0:(Unit×Unit)→Option ((Bool×Unit)×Unit))(s27:List (List Event))(s28 s29 p1 p2 p3 p4:Int)(p5 p6 p7:Nat)(p8:List Car):Option (Sum (Arh×(T'0×Unit)) ((Unit×Unit)⊕((Bool×Unit)×Unit))):=letI a:=(((),s27,s28,IntKind.i64.wrap (s29+1),()),((p1,p2,p3,p4,p5,p6,p7,p8,()),()));letI b:=((false,()),());cond (decide (s29<s28)) (cond (inB s29 s27.length) (let z0:List (Event):=s27.getD s29.toNat [];(Du p1 p2 p3 p4 p5 p6 p7 p8 z0).bind λy1=>(HV p1 p2 p3 p4 p5 p6 p7 p8 z0).bind λy2=>cond (! eqB y1.1.1 y2.1.1) (A (I (I b))) (cond (y1.1.2.1 !=y2.1.2.1) (A (I (I b))) ((CA p1 p2 p3 p4 p5 p6 p7 p8 z0).bind λy3=>(Hw p1 p2 p3 p4 p5 p6 p7 p8 z0).bind λy4=>cond (! (y3.1.1==y4.1.1)) (A (I (I b))) ((Dd z0).bind λy5=>(Hv z0).bind λy6=>cond (y5.1.1 !=y6.1.1) (A (I (I b))) (cond (y1.1.2.1==0) ((Dc p1 p2 p3 p4 p5 p6 p7 p8 y1.1.1).bind λy7=>cond (y7.1.2.2.1 !=0) (A (I (I b))) (cond (y7.1.2.1 !=0) (A (I (I b))) ((Ff z0 y7.1.1).bind λy8=>cond (! y8.1.1) (A (I (I b))) (A (Sum.inl a))))) (A (Sum.inl a))))))) E) (A (I (Sum.inl ((),()))))
def Azr(h_l29_sane:(Unit×Unit)→Option ((Bool×Unit)×Unit))(x:S343_0.T G):PU (cfQ [(4,Fe.mk (G:=G) e328.I e328.E h_l29_sane e328.rs),(5,e9),(6,Afm),(7,e38),(8,Afn),(9,e32),(10,Aao),(11,e39),(12,Aan),(13,e28),(14,Afo)]) Ad5 Ad2 97 1 (Ji (AD f3) 0) S343_0 ZJ x=(letI a:=x.2.1.2.2;letI b:=a.2.2;Asw h_l29_sane x.1.2.1 x.1.2.2.1 x.1.2.2.2.1 x.2.1.1 x.2.1.2.1 a.1 a.2.1 b.1 b.2.1 b.2.2.1 b.2.2.2.1):=κ
def Bdc:LK f3 Ad5 0:=lk cx t343 Ad2 1 S343_0 ZJ (rfl:BF=_) κ (an0 κ) λx=>(Azr (λ_=>GY) x).trans κ
def Bhf(p0:(Unit×Unit)→Option ((Bool×Unit)×Unit))(p1 p2 p3:Int)(l:List Int)(raw:List Event):Option ((Bool×Unit)×Unit):=letI b:=(0:Int);cond (decide (100<(raw.length:Int))) ((p0 ((),())).bind λy1=>A ((y1.1.1,()),())) ((DV p1 p2 p3).bind λy2=>letI a:=y2.2.1.2.2;letI c:=a.2;letI d:=c.2;(HU y2.2.1.1 y2.2.1.2.1 a.1 c.1 d.1 d.2.1 d.2.2.1 d.2.2.2.1 l 2000).bind λy3=>let z0:List (List (Event)):=[y3.1.1,raw];(BF (((),z0,(z0.length:Int),b,()),(y2.2.1,()))).bind λy4=>match y4 with| .inl y5=>Option.bind ((CA b b b b 0 0 0 [] []).bind λy6=>cond (! y6.1.1) ((p0 ((),())).bind λy7=>A ((y7.1.1,()),())) (A ((false,()),()))) λy8=>A ((y8.1.1,()),())| .inr y5=>A ((y5.1.1,()),()))
def Bru(p0:(Unit×Unit)→Option ((Bool×Unit)×Unit))(x:I343.T G):LM (cfQ [(4,Fe.mk (G:=G) e328.I e328.E p0 e328.rs),(5,e9),(6,Afm),(7,e38),(8,Afn),(9,e32),(10,Aao),(11,e39),(12,Aan),(13,e28),(14,Afo)]) Ad5 Ad2 97 (AD f3) I343 E343 x=Bhf p0 x.1.1.1 x.1.1.2.1 x.1.1.2.2.1 x.1.2.1 x.1.2.2.1:=κ
def e343:Fe G:=fe f3 I343 E343 F_l29_ScriptTexts
def k343:K 3 e343:=fk cx t343 Ad2 (lp:=Ad5) func3 κ κ rfl (aa (Ad Bdc Ae)) λx=>(Bru (λ_=>GY) x).trans κ
end
end Go.Ovl
