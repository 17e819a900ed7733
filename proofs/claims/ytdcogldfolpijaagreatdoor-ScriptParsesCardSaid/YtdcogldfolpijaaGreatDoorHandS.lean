import Derived.Test.YtdcogldfolpijaaGreatDoorChecked
import Derived.Test.YtdcogldfolpijaaGreatDoorAbH
import Derived.Laws.IdiomStrings
import Derived.Shelf.Strings.OnBuilder
import Derived.Shelf.LaysM
import Derived.Shelf.Strconv.Itoa3
import Derived.Shelf.Strings.Cut
import Derived.Shelf.Strings.Split
import Derived.Shelf.Strings.Fields
import Derived.Shelf.Strings.SplitShaped
import Derived.Ground.SlgfProg
import Derived.Shelf.SlicesE.DeleteFunc
import Derived.Test.YtdcogldfolpijaaGreatDoorHandL
set_option linter.all false
open Option renaming some->A
open Go renaming z_->B
open UInt8 renaming ofNat->aA
namespace Go.Proofs
open Go.Shelf
def Tryz.lays156_ren:Go.Shelf.Ren:=⟨fun | 156=>71 | 165=>94 | 166=>50 | 169=>52 | 240=>69 | 241=>114 | 276=>92 | 277=>154 | n=>n,fun | 31=>34 | 9=>9 | 3=>3 | 4=>4 | 0=>0 | 20=>20 | 72=>112 | 76=>115 | 70=>110 | 37=>23 | 75=>114 | 127=>142 | 164=>171 | 5=>5 | 80=>117 | n=>n,fun | n=>n⟩
theorem Tryz.lays156:Go.Proofs.Lays.n156 Tryz.prog Tryz.lays156_ren:={
 mixed:=κ
 f156:=Tryz.func71.trans (B A κ)
 f165:=Tryz.func94.trans (B A κ)
 f166:=Tryz.func50.trans (B A κ)
 f169:=Tryz.func52.trans (B A κ)
 f240:=Tryz.func69.trans (B A κ)
 f241:=Tryz.func114.trans (B A κ)
 f276:=Tryz.func92.trans (B A κ)
 f277:=Tryz.func154.trans (B A κ)
 t0:=Tryz.underlying0
 a0:=Tryz.isAgg0
 z0:=Tryz.sizeOf0
 v0:=Tryz.zeroValue0
 t3:=Tryz.underlying3
 a3:=Tryz.isAgg3
 z3:=Tryz.sizeOf3
 v3:=Tryz.zeroValue3
 t4:=Tryz.underlying4
 a4:=Tryz.isAgg4
 z4:=Tryz.sizeOf4
 v4:=Tryz.zeroValue4
 t9:=Tryz.underlying9
 a9:=Tryz.isAgg9
 z9:=Tryz.sizeOf9
 v9:=Tryz.zeroValue9
 t20:=Tryz.underlying20
 a20:=Tryz.isAgg20
 z20:=Tryz.sizeOf20
 v20:=Tryz.zeroValue20
 t31:=Tryz.underlying34
 a31:=Tryz.isAgg34
 z31:=Tryz.sizeOf34
 v31:=Tryz.zeroValue34
 t37:=Tryz.underlying23
 a37:=Tryz.isAgg23
 z37:=Tryz.sizeOf23
 v37:=Tryz.zeroValue23
 t70:=Tryz.underlying110
 a70:=Tryz.isAgg110
 z70:=Tryz.sizeOf110
 v70:=Tryz.zeroValue110
 t72:=Tryz.underlying112
 a72:=Tryz.isAgg112
 z72:=Tryz.sizeOf112
 v72:=Tryz.zeroValue112
 t75:=Tryz.underlying114
 a75:=Tryz.isAgg114
 z75:=Tryz.sizeOf114
 v75:=Tryz.zeroValue114
 t76:=Tryz.underlying115
 a76:=Tryz.isAgg115
 z76:=Tryz.sizeOf115
 v76:=Tryz.zeroValue115
 t127:=Tryz.underlying142
 a127:=Tryz.isAgg142
 z127:=Tryz.sizeOf142
 v127:=Tryz.zeroValue142
 t164:=Tryz.underlying171
 a164:=Tryz.isAgg171
 z164:=Tryz.sizeOf171
 v164:=Tryz.zeroValue171 }
theorem Tryz.Builder_Extra_156:Builder.Extra Tryz.prog Tryz.lays156_ren:={
 sizeBuilder:=κ
 liesBuilder:=κ
 t5:=Tryz.underlying5
 a5:=Tryz.isAgg5
 z5:=Tryz.sizeOf5
 v5:=Tryz.zeroValue5
 infoByte:=κ
 cellsByte:=κ
 sizeByte:=κ
 neB5:=by decide }
def Tryz.laysM171_ren:Go.Shelf.Ren:=⟨fun | 171=>70 | 243=>93 | 246=>113 | 283=>150 | 284=>151 | 285=>152 | 286=>153 | 129=>201 | 317=>200 | 318=>202 | 319=>203 | 320=>204 | 337=>231 | 338=>232 | n=>n,fun | 3=>3 | 9=>9 | 2=>2 | 4=>4 | 171=>258 | 0=>0 | 53=>222 | 37=>23 | 5=>5 | 173=>261 | 212=>327 | 51=>47 | 20=>20 | 213=>328 | 46=>48 | 232=>411 | 233=>412 | n=>n,fun | 17=>6 | 18=>7 | 19=>8 | n=>n⟩
theorem Tryz.laysM171:Go.Proofs.LaysM.n171 Tryz.prog Tryz.laysM171_ren:={
 mixed:=κ
 f129:=Tryz.func201.trans (B A κ)
 f171:=Tryz.func70.trans (B A κ)
 f243:=Tryz.func93.trans (B A κ)
 f246:=Tryz.func113.trans (B A κ)
 f283:=Tryz.func150.trans (B A κ)
 f284:=Tryz.func151.trans (B A κ)
 f285:=Tryz.func152.trans (B A κ)
 f286:=Tryz.func153.trans (B A κ)
 f317:=Tryz.func200.trans (B A κ)
 f318:=Tryz.func202.trans (B A κ)
 f319:=Tryz.func203.trans (B A κ)
 f320:=Tryz.func204.trans (B A κ)
 f337:=Tryz.func231.trans (B A κ)
 f338:=Tryz.func232.trans (B A κ)
 t0:=Tryz.underlying0
 a0:=Tryz.isAgg0
 z0:=Tryz.sizeOf0
 v0:=Tryz.zeroValue0
 t2:=Tryz.underlying2
 a2:=Tryz.isAgg2
 z2:=Tryz.sizeOf2
 v2:=Tryz.zeroValue2
 t3:=Tryz.underlying3
 a3:=Tryz.isAgg3
 z3:=Tryz.sizeOf3
 v3:=Tryz.zeroValue3
 t4:=Tryz.underlying4
 a4:=Tryz.isAgg4
 z4:=Tryz.sizeOf4
 v4:=Tryz.zeroValue4
 t5:=Tryz.underlying5
 a5:=Tryz.isAgg5
 z5:=Tryz.sizeOf5
 v5:=Tryz.zeroValue5
 t9:=Tryz.underlying9
 a9:=Tryz.isAgg9
 z9:=Tryz.sizeOf9
 v9:=Tryz.zeroValue9
 t20:=Tryz.underlying20
 a20:=Tryz.isAgg20
 z20:=Tryz.sizeOf20
 v20:=Tryz.zeroValue20
 t37:=Tryz.underlying23
 a37:=Tryz.isAgg23
 z37:=Tryz.sizeOf23
 v37:=Tryz.zeroValue23
 t46:=Tryz.underlying48
 a46:=Tryz.isAgg48
 z46:=Tryz.sizeOf48
 v46:=Tryz.zeroValue48
 t51:=Tryz.underlying47
 a51:=Tryz.isAgg47
 z51:=Tryz.sizeOf47
 v51:=Tryz.zeroValue47
 t53:=Tryz.underlying222
 a53:=Tryz.isAgg222
 z53:=Tryz.sizeOf222
 v53:=Tryz.zeroValue222
 t171:=Tryz.underlying258
 a171:=Tryz.isAgg258
 z171:=Tryz.sizeOf258
 v171:=Tryz.zeroValue258
 t173:=Tryz.underlying261
 a173:=Tryz.isAgg261
 z173:=Tryz.sizeOf261
 v173:=Tryz.zeroValue261
 t212:=Tryz.underlying327
 a212:=Tryz.isAgg327
 z212:=Tryz.sizeOf327
 v212:=Tryz.zeroValue327
 t213:=Tryz.underlying328
 a213:=Tryz.isAgg328
 z213:=Tryz.sizeOf328
 t232:=Tryz.underlying411
 a232:=Tryz.isAgg411
 z232:=Tryz.sizeOf411
 v232:=Tryz.zeroValue411
 t233:=Tryz.underlying412
 a233:=Tryz.isAgg412
 z233:=Tryz.sizeOf412
 v233:=Tryz.zeroValue412
 g17:=κ
 g18:=κ
 g19:=κ
 i0:=κ
 i2:=κ
 i3:=κ
 i4:=κ
 i5:=κ
 i9:=κ
 i20:=κ
 i37:=κ
 i46:=κ
 i51:=κ
 i53:=κ
 i171:=κ
 i173:=κ
 i212:=κ
 i232:=κ
 i233:=κ
 m17:=κ
 m18:=κ
 m19:=by kernel_rfl }
def Tryz.lays145_ren:Go.Shelf.Ren:=⟨fun | 145=>38 | 220=>60 | 219=>87 | 217=>108 | 225=>109 | 224=>110 | 267=>111 | 266=>146 | 314=>147 | n=>n,fun | 9=>9 | 4=>4 | 59=>98 | 3=>3 | 5=>5 | 46=>48 | 146=>245 | 51=>47 | n=>n,fun | 1=>1 | n=>n⟩
theorem Tryz.lays145:Go.Proofs.Lays.n145 Tryz.prog Tryz.lays145_ren:={
 mixed:=κ
 f145:=Tryz.func38.trans (B A κ)
 f217:=Tryz.func108.trans (B A κ)
 f219:=Tryz.func87.trans (B A κ)
 f220:=Tryz.func60.trans (B A κ)
 f224:=Tryz.func110.trans (B A κ)
 f225:=Tryz.func109.trans (B A κ)
 f266:=Tryz.func146.trans (B A κ)
 f267:=Tryz.func111.trans (B A κ)
 f314:=Tryz.func147.trans (B A κ)
 t3:=Tryz.underlying3
 a3:=Tryz.isAgg3
 z3:=Tryz.sizeOf3
 v3:=Tryz.zeroValue3
 t4:=Tryz.underlying4
 a4:=Tryz.isAgg4
 z4:=Tryz.sizeOf4
 v4:=Tryz.zeroValue4
 t5:=Tryz.underlying5
 a5:=Tryz.isAgg5
 z5:=Tryz.sizeOf5
 v5:=Tryz.zeroValue5
 t9:=Tryz.underlying9
 a9:=Tryz.isAgg9
 z9:=Tryz.sizeOf9
 v9:=Tryz.zeroValue9
 t46:=Tryz.underlying48
 a46:=Tryz.isAgg48
 z46:=Tryz.sizeOf48
 v46:=Tryz.zeroValue48
 t51:=Tryz.underlying47
 a51:=Tryz.isAgg47
 z51:=Tryz.sizeOf47
 v51:=Tryz.zeroValue47
 t59:=Tryz.underlying98
 a59:=Tryz.isAgg98
 z59:=Tryz.sizeOf98
 v59:=Tryz.zeroValue98
 t146:=Tryz.underlying245
 a146:=Tryz.isAgg245
 z146:=Tryz.sizeOf245
 v146:=Tryz.zeroValue245
 g1:=by kernel_rfl }
def Tryz.lays146_ren:Go.Shelf.Ren:=⟨fun | 146=>18 | 221=>37 | 268=>57 | 138=>58 | 143=>59 | 195=>84 | 197=>85 | 218=>86 | 219=>87 | 260=>107 | 217=>108 | 225=>109 | 224=>110 | 267=>111 | 266=>146 | 314=>147 | n=>n,fun | 9=>9 | 31=>34 | 3=>3 | 4=>4 | 0=>0 | 105=>164 | 21=>21 | 5=>5 | 46=>48 | 119=>167 | 139=>244 | 138=>243 | 146=>245 | 51=>47 | n=>n,fun | 1=>1 | 3=>3 | 4=>4 | n=>n⟩
theorem Tryz.lays146:Go.Proofs.Lays.n146 Tryz.prog Tryz.lays146_ren:={
 mixed:=κ
 f138:=Tryz.func58.trans (B A κ)
 f143:=Tryz.func59.trans (B A κ)
 f146:=Tryz.func18.trans (B A κ)
 f195:=Tryz.func84.trans (B A κ)
 f197:=Tryz.func85.trans (B A κ)
 f217:=Tryz.func108.trans (B A κ)
 f218:=Tryz.func86.trans (B A κ)
 f219:=Tryz.func87.trans (B A κ)
 f221:=Tryz.func37.trans (B A κ)
 f224:=Tryz.func110.trans (B A κ)
 f225:=Tryz.func109.trans (B A κ)
 f260:=Tryz.func107.trans (B A κ)
 f266:=Tryz.func146.trans (B A κ)
 f267:=Tryz.func111.trans (B A κ)
 f268:=Tryz.func57.trans (B A κ)
 f314:=Tryz.func147.trans (B A κ)
 t0:=Tryz.underlying0
 a0:=Tryz.isAgg0
 z0:=Tryz.sizeOf0
 v0:=Tryz.zeroValue0
 t3:=Tryz.underlying3
 a3:=Tryz.isAgg3
 z3:=Tryz.sizeOf3
 v3:=Tryz.zeroValue3
 t4:=Tryz.underlying4
 a4:=Tryz.isAgg4
 z4:=Tryz.sizeOf4
 v4:=Tryz.zeroValue4
 t5:=Tryz.underlying5
 a5:=Tryz.isAgg5
 z5:=Tryz.sizeOf5
 v5:=Tryz.zeroValue5
 t9:=Tryz.underlying9
 a9:=Tryz.isAgg9
 z9:=Tryz.sizeOf9
 v9:=Tryz.zeroValue9
 t21:=Tryz.underlying21
 a21:=Tryz.isAgg21
 z21:=Tryz.sizeOf21
 v21:=Tryz.zeroValue21
 t31:=Tryz.underlying34
 a31:=Tryz.isAgg34
 z31:=Tryz.sizeOf34
 v31:=Tryz.zeroValue34
 t46:=Tryz.underlying48
 a46:=Tryz.isAgg48
 z46:=Tryz.sizeOf48
 v46:=Tryz.zeroValue48
 t51:=Tryz.underlying47
 a51:=Tryz.isAgg47
 z51:=Tryz.sizeOf47
 v51:=Tryz.zeroValue47
 t105:=Tryz.underlying164
 a105:=Tryz.isAgg164
 z105:=Tryz.sizeOf164
 v105:=Tryz.zeroValue164
 t119:=Tryz.underlying167
 a119:=Tryz.isAgg167
 z119:=Tryz.sizeOf167
 t138:=Tryz.underlying243
 a138:=Tryz.isAgg243
 z138:=Tryz.sizeOf243
 v138:=Tryz.zeroValue243
 t139:=Tryz.underlying244
 a139:=Tryz.isAgg244
 z139:=Tryz.sizeOf244
 v139:=Tryz.zeroValue244
 t146:=Tryz.underlying245
 a146:=Tryz.isAgg245
 z146:=Tryz.sizeOf245
 v146:=Tryz.zeroValue245
 g1:=κ
 g3:=κ
 g4:=by kernel_rfl }
def Tryz.lays157_ren:Go.Shelf.Ren:=⟨fun | 157=>62 | 229=>88 | 199=>89 | 261=>112 | 311=>148 | 312=>149 | n=>n,fun | 9=>9 | 31=>34 | 3=>3 | 5=>5 | 4=>4 | 119=>167 | 0=>0 | 40=>169 | 152=>198 | 21=>21 | 154=>200 | 51=>47 | 141=>202 | 196=>250 | 193=>247 | 198=>253 | 49=>251 | 194=>248 | 201=>256 | 226=>324 | 46=>48 | 227=>325 | n=>n,fun | 0=>0 | 6=>2 | n=>n⟩
theorem Tryz.lays157:Go.Proofs.Lays.n157 Tryz.prog Tryz.lays157_ren:={
 mixed:=κ
 f157:=Tryz.func62.trans (B A κ)
 f199:=Tryz.func89.trans (B A κ)
 f229:=Tryz.func88.trans (B A κ)
 f261:=Tryz.func112.trans (B A κ)
 f311:=Tryz.func148.trans (B A κ)
 f312:=Tryz.func149.trans (B A κ)
 t0:=Tryz.underlying0
 a0:=Tryz.isAgg0
 z0:=Tryz.sizeOf0
 v0:=Tryz.zeroValue0
 t3:=Tryz.underlying3
 a3:=Tryz.isAgg3
 z3:=Tryz.sizeOf3
 v3:=Tryz.zeroValue3
 t4:=Tryz.underlying4
 a4:=Tryz.isAgg4
 z4:=Tryz.sizeOf4
 v4:=Tryz.zeroValue4
 t5:=Tryz.underlying5
 a5:=Tryz.isAgg5
 z5:=Tryz.sizeOf5
 v5:=Tryz.zeroValue5
 t9:=Tryz.underlying9
 a9:=Tryz.isAgg9
 z9:=Tryz.sizeOf9
 v9:=Tryz.zeroValue9
 t21:=Tryz.underlying21
 a21:=Tryz.isAgg21
 z21:=Tryz.sizeOf21
 v21:=Tryz.zeroValue21
 t31:=Tryz.underlying34
 a31:=Tryz.isAgg34
 z31:=Tryz.sizeOf34
 v31:=Tryz.zeroValue34
 t40:=Tryz.underlying169
 a40:=Tryz.isAgg169
 z40:=Tryz.sizeOf169
 v40:=Tryz.zeroValue169
 t46:=Tryz.underlying48
 a46:=Tryz.isAgg48
 z46:=Tryz.sizeOf48
 v46:=Tryz.zeroValue48
 t49:=Tryz.underlying251
 a49:=Tryz.isAgg251
 z49:=Tryz.sizeOf251
 v49:=Tryz.zeroValue251
 t51:=Tryz.underlying47
 a51:=Tryz.isAgg47
 z51:=Tryz.sizeOf47
 v51:=Tryz.zeroValue47
 t119:=Tryz.underlying167
 a119:=Tryz.isAgg167
 z119:=Tryz.sizeOf167
 t141:=Tryz.underlying202
 a141:=Tryz.isAgg202
 z141:=Tryz.sizeOf202
 v141:=Tryz.zeroValue202
 t152:=Tryz.underlying198
 a152:=Tryz.isAgg198
 z152:=Tryz.sizeOf198
 v152:=Tryz.zeroValue198
 t154:=Tryz.underlying200
 a154:=Tryz.isAgg200
 z154:=Tryz.sizeOf200
 v154:=Tryz.zeroValue200
 t193:=Tryz.underlying247
 a193:=Tryz.isAgg247
 z193:=Tryz.sizeOf247
 v193:=Tryz.zeroValue247
 t194:=Tryz.underlying248
 a194:=Tryz.isAgg248
 z194:=Tryz.sizeOf248
 v194:=Tryz.zeroValue248
 t196:=Tryz.underlying250
 a196:=Tryz.isAgg250
 z196:=Tryz.sizeOf250
 v196:=Tryz.zeroValue250
 t198:=Tryz.underlying253
 a198:=Tryz.isAgg253
 z198:=Tryz.sizeOf253
 v198:=Tryz.zeroValue253
 t201:=Tryz.underlying256
 a201:=Tryz.isAgg256
 z201:=Tryz.sizeOf256
 v201:=Tryz.zeroValue256
 t226:=Tryz.underlying324
 a226:=Tryz.isAgg324
 z226:=Tryz.sizeOf324
 v226:=Tryz.zeroValue324
 t227:=Tryz.underlying325
 a227:=Tryz.isAgg325
 z227:=Tryz.sizeOf325
 v227:=Tryz.zeroValue325
 g0:=κ
 g6:=by kernel_rfl }
def Tryz.laysSlH10_f39_ren:Go.Shelf.Ren:=⟨fun | 10=>39 | 6=>61 | n=>n,fun | 22=>34 | 23=>9 | 25=>101 | 3=>3 | 4=>4 | 0=>0 | n=>n,fun | n=>n⟩
theorem Tryz.laysSlH10_f39:Go.Proofs.SlLaysH.n10 Tryz.prog Tryz.laysSlH10_f39_ren:={
 mixed:=κ
 f6:=⟨Tryz.f61.name,by decide,Tryz.func61.trans (B A κ)⟩
 f10:=⟨Tryz.f39.name,by decide,Tryz.func39.trans (B A κ)⟩
 t0:=Tryz.underlying0
 a0:=Tryz.isAgg0
 z0:=Tryz.sizeOf0
 v0:=Tryz.zeroValue0
 t3:=Tryz.underlying3
 a3:=Tryz.isAgg3
 z3:=Tryz.sizeOf3
 v3:=Tryz.zeroValue3
 t4:=Tryz.underlying4
 a4:=Tryz.isAgg4
 z4:=Tryz.sizeOf4
 v4:=Tryz.zeroValue4
 t22:=Tryz.underlying34
 a22:=Tryz.isAgg34
 z22:=Tryz.sizeOf34
 v22:=Tryz.zeroValue34
 a23:=Tryz.isAgg9
 z23:=Tryz.sizeOf9
 t25:=Tryz.underlying101
 a25:=Tryz.isAgg101
 z25:=Tryz.sizeOf101
 v25:=Tryz.zeroValue101 }
end Go.Proofs
namespace Go.Ovl
open Go Go.Ab Go.Proofs Go.RowKit Go.Lib
set_option maxHeartbeats 4000000
set_option maxRecDepth 100000
theorem UX(n:Int)(S:ByteArray)(w:World)(h0:0≤n)(h2:n≤9223372036854775807)(hS:S.size≤1000)(hrec:¬n<10→∀w,Calls Tryz.prog 30 #[.int .i64 (n/10)] w λe w'=>e=.returned (.string S)∧Below w.heap.size w w') :
  Calls Tryz.prog 30 #[.int .i64 n] w λe w'=>e=.returned (.string (if n<10 then Aa [aA (48+n.toNat%10)]else S++Aa [aA (48+n.toNat%10)]))∧Below w.heap.size w w':=by
 have mixed:Tryz.prog.follows .mixedOrders=true:=κ;have hb:((aA (48+n.toNat%10)).toNat:Int)=48+n%10:=by rw[UInt8.toNat_ofNat'];omega
 have hcv:(convert 23 9 (.slice (A ⟨w.heap.size,0,none⟩) 1 1)).run Tryz.prog (w.alloc (.cells #[.int .u8 (48+n%10)] 5))=.ok (.string (Aa [aA (48+n.toNat%10)])) (w.alloc (.cells #[.int .u8 (48+n%10)] 5)):=
  run_convert_bytes_back _ 23 9 5 ⟨w.heap.size,0,none⟩ 1 [aA (48+n.toNat%10)] Tryz.underlying23 Tryz.underlying5 Tryz.underlying9 (λj hj=>by
   obtain rfl:j=0:=by simpa using hj
   rw[Es,World.cell?_alloc_new];simp only[List.getElem_cons_zero,hb];rfl)
 have hB:Below w.heap.size w (w.alloc (.cells #[.int .u8 (48+n%10)] 5)):=(Below.refl _ w).alloc (A_ _) _;have hD:(Aa [aA (48+n.toNat%10)]).size=1:=rfl;generalize Aa [aA (48+n.toNat%10)]=D at hcv hD⊢;clear hb
 go_enter Tryz.func30,Tryz.ntmps30
 go_wp2_with (go_at_call 30;refine(hrec ω _).mono ?_;rintro e w' ⟨rfl,hb⟩)
 ·go_ret
  exact⟨rfl,hB⟩
 ·go_ret
  exact⟨rfl,hB.trans (hb.mono hB.size)⟩
theorem UY:∀(k:Nat) (n:Int) (w:World),k≤19→0≤n→n<10^(k+1)→n≤9223372036854775807→Calls Tryz.prog 30 #[.int .i64 n] w λe w'=>e=.returned (.string (Aa (EN (k+1) n.toNat)))∧Below w.heap.size w w'
 |0,n,w,_,h0,h1,h2=>by replace h1:n<10:=h1;refine(UX n ⟨#[]⟩ w h0 h2 (by decide) (λh=>absurd h1 h)).mono ?_;rintro e w' ⟨rfl,hb⟩;exact⟨by rw[if_pos h1,EN,show Nat.blt n.toNat 10=true by rw[c1_];omega,e_,show n.toNat%10=n.toNat by omega],hb⟩
 |k+1,n,w,hk,h0,h1,h2=>by
  have ih:=λw=>UY k (n/10) w ω ω (by rw[Int.pow_succ]at h1;omega) ω;refine(UX n (Aa (EN (k+1) (n/10).toNat)) w h0 h2 (by show(EN (k+1) (n/10).toNat).toArray.size≤1000;rw[List.size_toArray];exact a3_ (Aax _ _) ω) (λ_=>ih)).mono ?_;rintro e w' ⟨rfl,hb⟩;refine⟨?_,hb⟩;by_cases h:n<10
  ·rw[if_pos h,EN,show Nat.blt n.toNat 10=true by rw[c1_];omega,e_,show n.toNat%10=n.toNat by omega]
  ·rw[if_neg h,show EN (k+1+1) n.toNat=EN (k+1) (n.toNat/10)++[aA (48+n.toNat%10)]by rw[EN,show Nat.blt n.toNat 10=false from Bool.eq_false_iff.2 λe=>by rw[c1_]at e;omega];rfl,show(n/10).toNat=n.toNat/10 by omega,IU]
theorem Aln(w:World)(n:Int)(h:0≤n∧n≤9223372036854775807):Calls Tryz.prog 30 #[.int .i64 n] w λe w'=>e=.returned (.string (Aa (BP n)))∧Below w.heap.size w w':=by
 obtain⟨u,rfl⟩:∃u:Nat,n=(u:Int):=⟨n.toNat,ω⟩
 exact UY 19 u w (by decide) h.1 ω h.2
theorem Ac5(W:World)(x:ByteArray):Calls Tryz.prog 40 #[.string x] W λe w'=>e=.returned (.bool (Nat.beq x.size 0))∧∃q,w'=W.drewN q:=by
 have mixed:Tryz.prog.follows .mixedOrders=true:=κ;have hx:x.toList.isEmpty=Nat.beq x.size 0:=by rw[Lib.toList_data,Lib.size_eq];cases x.data.toList<;>rfl
 go_enter Tryz.func40,Tryz.ntmps40
 go_wp2
 go_ret
 exact⟨rfl,0,rfl⟩
end Go.Ovl
