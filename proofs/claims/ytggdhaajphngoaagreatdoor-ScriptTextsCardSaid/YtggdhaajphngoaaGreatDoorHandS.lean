import Derived.Test.YtggdhaajphngoaaGreatDoorChecked
import Derived.Test.YtggdhaajphngoaaGreatDoorAbH
import Derived.Laws.IdiomStrings
import Derived.Shelf.Strings.OnBuilder
import Derived.Shelf.LaysM
import Derived.Shelf.Strconv.Itoa3
import Derived.Shelf.Strings.Cut
import Derived.Shelf.Strings.Split
import Derived.Shelf.Strings.Fields
import Derived.Shelf.Strings.SplitShaped
import Derived.Ground.SlgfProg
import Derived.Shelf.SlicesE.DeleteFunc
import Derived.Test.YtggdhaajphngoaaGreatDoorHandL
set_option linter.all false
open Option renaming some->A
open Go renaming x_->B
open UInt8 renaming ofNat->aA
namespace Go.Proofs
open Go.Shelf
def Tryz.lays156_ren:Go.Shelf.Ren:=⟨fun | 156=>43 | 165=>78 | 166=>19 | 169=>21 | 240=>38 | 241=>101 | 276=>74 | 277=>143 | n=>n,fun | 31=>89 | 9=>9 | 3=>3 | 4=>4 | 0=>0 | 20=>20 | 72=>78 | 76=>81 | 70=>76 | 37=>23 | 75=>80 | 127=>122 | 164=>158 | 5=>5 | 80=>84 | n=>n,fun | n=>n⟩
theorem Tryz.lays156:Go.Proofs.Lays.n156 Tryz.prog Tryz.lays156_ren:={
 mixed:=κ
 f156:=Tryz.func43.trans (B A κ)
 f165:=Tryz.func78.trans (B A κ)
 f166:=Tryz.func19.trans (B A κ)
 f169:=Tryz.func21.trans (B A κ)
 f240:=Tryz.func38.trans (B A κ)
 f241:=Tryz.func101.trans (B A κ)
 f276:=Tryz.func74.trans (B A κ)
 f277:=Tryz.func143.trans (B A κ)
 t0:=Tryz.underlying0
 a0:=Tryz.isAgg0
 z0:=Tryz.sizeOf0
 v0:=Tryz.zeroValue0
 t3:=Tryz.underlying3
 a3:=Tryz.isAgg3
 z3:=Tryz.sizeOf3
 v3:=Tryz.zeroValue3
 t4:=Tryz.underlying4
 a4:=Tryz.isAgg4
 z4:=Tryz.sizeOf4
 v4:=Tryz.zeroValue4
 t9:=Tryz.underlying9
 a9:=Tryz.isAgg9
 z9:=Tryz.sizeOf9
 v9:=Tryz.zeroValue9
 t20:=Tryz.underlying20
 a20:=Tryz.isAgg20
 z20:=Tryz.sizeOf20
 v20:=Tryz.zeroValue20
 t31:=Tryz.underlying89
 a31:=Tryz.isAgg89
 z31:=Tryz.sizeOf89
 v31:=Tryz.zeroValue89
 t37:=Tryz.underlying23
 a37:=Tryz.isAgg23
 z37:=Tryz.sizeOf23
 v37:=Tryz.zeroValue23
 t70:=Tryz.underlying76
 a70:=Tryz.isAgg76
 z70:=Tryz.sizeOf76
 v70:=Tryz.zeroValue76
 t72:=Tryz.underlying78
 a72:=Tryz.isAgg78
 z72:=Tryz.sizeOf78
 v72:=Tryz.zeroValue78
 t75:=Tryz.underlying80
 a75:=Tryz.isAgg80
 z75:=Tryz.sizeOf80
 v75:=Tryz.zeroValue80
 t76:=Tryz.underlying81
 a76:=Tryz.isAgg81
 z76:=Tryz.sizeOf81
 v76:=Tryz.zeroValue81
 t127:=Tryz.underlying122
 a127:=Tryz.isAgg122
 z127:=Tryz.sizeOf122
 v127:=Tryz.zeroValue122
 t164:=Tryz.underlying158
 a164:=Tryz.isAgg158
 z164:=Tryz.sizeOf158
 v164:=Tryz.zeroValue158 }
theorem Tryz.Builder_Extra_156:Builder.Extra Tryz.prog Tryz.lays156_ren:={
 sizeBuilder:=κ
 liesBuilder:=κ
 t5:=Tryz.underlying5
 a5:=Tryz.isAgg5
 z5:=Tryz.sizeOf5
 v5:=Tryz.zeroValue5
 infoByte:=κ
 cellsByte:=κ
 sizeByte:=κ
 neB5:=by decide }
def Tryz.laysM171_ren:Go.Shelf.Ren:=⟨fun | 171=>42 | 243=>77 | 246=>100 | 283=>139 | 284=>140 | 285=>141 | 286=>142 | 129=>195 | 317=>194 | 318=>196 | 319=>197 | 320=>198 | 337=>227 | 338=>228 | n=>n,fun | 3=>3 | 9=>9 | 2=>2 | 4=>4 | 171=>252 | 0=>0 | 53=>221 | 37=>23 | 5=>5 | 173=>255 | 212=>322 | 51=>70 | 20=>20 | 213=>323 | 46=>71 | 232=>411 | 233=>412 | n=>n,fun | 17=>4 | 18=>7 | 19=>8 | n=>n⟩
theorem Tryz.laysM171:Go.Proofs.LaysM.n171 Tryz.prog Tryz.laysM171_ren:={
 mixed:=κ
 f129:=Tryz.func195.trans (B A κ)
 f171:=Tryz.func42.trans (B A κ)
 f243:=Tryz.func77.trans (B A κ)
 f246:=Tryz.func100.trans (B A κ)
 f283:=Tryz.func139.trans (B A κ)
 f284:=Tryz.func140.trans (B A κ)
 f285:=Tryz.func141.trans (B A κ)
 f286:=Tryz.func142.trans (B A κ)
 f317:=Tryz.func194.trans (B A κ)
 f318:=Tryz.func196.trans (B A κ)
 f319:=Tryz.func197.trans (B A κ)
 f320:=Tryz.func198.trans (B A κ)
 f337:=Tryz.func227.trans (B A κ)
 f338:=Tryz.func228.trans (B A κ)
 t0:=Tryz.underlying0
 a0:=Tryz.isAgg0
 z0:=Tryz.sizeOf0
 v0:=Tryz.zeroValue0
 t2:=Tryz.underlying2
 a2:=Tryz.isAgg2
 z2:=Tryz.sizeOf2
 v2:=Tryz.zeroValue2
 t3:=Tryz.underlying3
 a3:=Tryz.isAgg3
 z3:=Tryz.sizeOf3
 v3:=Tryz.zeroValue3
 t4:=Tryz.underlying4
 a4:=Tryz.isAgg4
 z4:=Tryz.sizeOf4
 v4:=Tryz.zeroValue4
 t5:=Tryz.underlying5
 a5:=Tryz.isAgg5
 z5:=Tryz.sizeOf5
 v5:=Tryz.zeroValue5
 t9:=Tryz.underlying9
 a9:=Tryz.isAgg9
 z9:=Tryz.sizeOf9
 v9:=Tryz.zeroValue9
 t20:=Tryz.underlying20
 a20:=Tryz.isAgg20
 z20:=Tryz.sizeOf20
 v20:=Tryz.zeroValue20
 t37:=Tryz.underlying23
 a37:=Tryz.isAgg23
 z37:=Tryz.sizeOf23
 v37:=Tryz.zeroValue23
 t46:=Tryz.underlying71
 a46:=Tryz.isAgg71
 z46:=Tryz.sizeOf71
 v46:=Tryz.zeroValue71
 t51:=Tryz.underlying70
 a51:=Tryz.isAgg70
 z51:=Tryz.sizeOf70
 v51:=Tryz.zeroValue70
 t53:=Tryz.underlying221
 a53:=Tryz.isAgg221
 z53:=Tryz.sizeOf221
 v53:=Tryz.zeroValue221
 t171:=Tryz.underlying252
 a171:=Tryz.isAgg252
 z171:=Tryz.sizeOf252
 v171:=Tryz.zeroValue252
 t173:=Tryz.underlying255
 a173:=Tryz.isAgg255
 z173:=Tryz.sizeOf255
 v173:=Tryz.zeroValue255
 t212:=Tryz.underlying322
 a212:=Tryz.isAgg322
 z212:=Tryz.sizeOf322
 v212:=Tryz.zeroValue322
 t213:=Tryz.underlying323
 a213:=Tryz.isAgg323
 z213:=Tryz.sizeOf323
 t232:=Tryz.underlying411
 a232:=Tryz.isAgg411
 z232:=Tryz.sizeOf411
 v232:=Tryz.zeroValue411
 t233:=Tryz.underlying412
 a233:=Tryz.isAgg412
 z233:=Tryz.sizeOf412
 v233:=Tryz.zeroValue412
 g17:=κ
 g18:=κ
 g19:=κ
 i0:=κ
 i2:=κ
 i3:=κ
 i4:=κ
 i5:=κ
 i9:=κ
 i20:=κ
 i37:=κ
 i46:=κ
 i51:=κ
 i53:=κ
 i171:=κ
 i173:=κ
 i212:=κ
 i232:=κ
 i233:=κ
 m17:=κ
 m18:=κ
 m19:=by kernel_rfl }
def Tryz.lays145_ren:Go.Shelf.Ren:=⟨fun | 145=>58 | 220=>83 | 219=>105 | 217=>145 | 225=>146 | 224=>147 | 267=>148 | 266=>199 | 314=>200 | n=>n,fun | 9=>9 | 4=>4 | 59=>132 | 3=>3 | 5=>5 | 46=>71 | 146=>328 | 51=>70 | n=>n,fun | 1=>2 | n=>n⟩
theorem Tryz.lays145:Go.Proofs.Lays.n145 Tryz.prog Tryz.lays145_ren:={
 mixed:=κ
 f145:=Tryz.func58.trans (B A κ)
 f217:=Tryz.func145.trans (B A κ)
 f219:=Tryz.func105.trans (B A κ)
 f220:=Tryz.func83.trans (B A κ)
 f224:=Tryz.func147.trans (B A κ)
 f225:=Tryz.func146.trans (B A κ)
 f266:=Tryz.func199.trans (B A κ)
 f267:=Tryz.func148.trans (B A κ)
 f314:=Tryz.func200.trans (B A κ)
 t3:=Tryz.underlying3
 a3:=Tryz.isAgg3
 z3:=Tryz.sizeOf3
 v3:=Tryz.zeroValue3
 t4:=Tryz.underlying4
 a4:=Tryz.isAgg4
 z4:=Tryz.sizeOf4
 v4:=Tryz.zeroValue4
 t5:=Tryz.underlying5
 a5:=Tryz.isAgg5
 z5:=Tryz.sizeOf5
 v5:=Tryz.zeroValue5
 t9:=Tryz.underlying9
 a9:=Tryz.isAgg9
 z9:=Tryz.sizeOf9
 v9:=Tryz.zeroValue9
 t46:=Tryz.underlying71
 a46:=Tryz.isAgg71
 z46:=Tryz.sizeOf71
 v46:=Tryz.zeroValue71
 t51:=Tryz.underlying70
 a51:=Tryz.isAgg70
 z51:=Tryz.sizeOf70
 v51:=Tryz.zeroValue70
 t59:=Tryz.underlying132
 a59:=Tryz.isAgg132
 z59:=Tryz.sizeOf132
 v59:=Tryz.zeroValue132
 t146:=Tryz.underlying328
 a146:=Tryz.isAgg328
 z146:=Tryz.sizeOf328
 v146:=Tryz.zeroValue328
 g1:=by kernel_rfl }
def Tryz.lays146_ren:Go.Shelf.Ren:=⟨fun | 146=>29 | 221=>57 | 268=>80 | 138=>81 | 143=>82 | 195=>102 | 197=>103 | 218=>104 | 219=>105 | 260=>144 | 217=>145 | 225=>146 | 224=>147 | 267=>148 | 266=>199 | 314=>200 | n=>n,fun | 9=>9 | 31=>89 | 3=>3 | 4=>4 | 0=>0 | 105=>200 | 21=>21 | 5=>5 | 46=>71 | 119=>160 | 139=>327 | 138=>326 | 146=>328 | 51=>70 | n=>n,fun | 1=>2 | 3=>5 | 4=>6 | n=>n⟩
theorem Tryz.lays146:Go.Proofs.Lays.n146 Tryz.prog Tryz.lays146_ren:={
 mixed:=κ
 f138:=Tryz.func81.trans (B A κ)
 f143:=Tryz.func82.trans (B A κ)
 f146:=Tryz.func29.trans (B A κ)
 f195:=Tryz.func102.trans (B A κ)
 f197:=Tryz.func103.trans (B A κ)
 f217:=Tryz.func145.trans (B A κ)
 f218:=Tryz.func104.trans (B A κ)
 f219:=Tryz.func105.trans (B A κ)
 f221:=Tryz.func57.trans (B A κ)
 f224:=Tryz.func147.trans (B A κ)
 f225:=Tryz.func146.trans (B A κ)
 f260:=Tryz.func144.trans (B A κ)
 f266:=Tryz.func199.trans (B A κ)
 f267:=Tryz.func148.trans (B A κ)
 f268:=Tryz.func80.trans (B A κ)
 f314:=Tryz.func200.trans (B A κ)
 t0:=Tryz.underlying0
 a0:=Tryz.isAgg0
 z0:=Tryz.sizeOf0
 v0:=Tryz.zeroValue0
 t3:=Tryz.underlying3
 a3:=Tryz.isAgg3
 z3:=Tryz.sizeOf3
 v3:=Tryz.zeroValue3
 t4:=Tryz.underlying4
 a4:=Tryz.isAgg4
 z4:=Tryz.sizeOf4
 v4:=Tryz.zeroValue4
 t5:=Tryz.underlying5
 a5:=Tryz.isAgg5
 z5:=Tryz.sizeOf5
 v5:=Tryz.zeroValue5
 t9:=Tryz.underlying9
 a9:=Tryz.isAgg9
 z9:=Tryz.sizeOf9
 v9:=Tryz.zeroValue9
 t21:=Tryz.underlying21
 a21:=Tryz.isAgg21
 z21:=Tryz.sizeOf21
 v21:=Tryz.zeroValue21
 t31:=Tryz.underlying89
 a31:=Tryz.isAgg89
 z31:=Tryz.sizeOf89
 v31:=Tryz.zeroValue89
 t46:=Tryz.underlying71
 a46:=Tryz.isAgg71
 z46:=Tryz.sizeOf71
 v46:=Tryz.zeroValue71
 t51:=Tryz.underlying70
 a51:=Tryz.isAgg70
 z51:=Tryz.sizeOf70
 v51:=Tryz.zeroValue70
 t105:=Tryz.underlying200
 a105:=Tryz.isAgg200
 z105:=Tryz.sizeOf200
 v105:=Tryz.zeroValue200
 t119:=Tryz.underlying160
 a119:=Tryz.isAgg160
 z119:=Tryz.sizeOf160
 t138:=Tryz.underlying326
 a138:=Tryz.isAgg326
 z138:=Tryz.sizeOf326
 v138:=Tryz.zeroValue326
 t139:=Tryz.underlying327
 a139:=Tryz.isAgg327
 z139:=Tryz.sizeOf327
 v139:=Tryz.zeroValue327
 t146:=Tryz.underlying328
 a146:=Tryz.isAgg328
 z146:=Tryz.sizeOf328
 v146:=Tryz.zeroValue328
 g1:=κ
 g3:=κ
 g4:=by kernel_rfl }
def Tryz.lays157_ren:Go.Shelf.Ren:=⟨fun | 157=>40 | 229=>75 | 199=>76 | 261=>99 | 311=>137 | 312=>138 | n=>n,fun | 9=>9 | 31=>89 | 3=>3 | 5=>5 | 4=>4 | 119=>160 | 0=>0 | 40=>162 | 152=>193 | 21=>21 | 154=>195 | 51=>70 | 141=>197 | 196=>244 | 193=>241 | 198=>247 | 49=>245 | 194=>242 | 201=>250 | 226=>319 | 46=>71 | 227=>320 | n=>n,fun | 0=>0 | 6=>1 | n=>n⟩
theorem Tryz.lays157:Go.Proofs.Lays.n157 Tryz.prog Tryz.lays157_ren:={
 mixed:=κ
 f157:=Tryz.func40.trans (B A κ)
 f199:=Tryz.func76.trans (B A κ)
 f229:=Tryz.func75.trans (B A κ)
 f261:=Tryz.func99.trans (B A κ)
 f311:=Tryz.func137.trans (B A κ)
 f312:=Tryz.func138.trans (B A κ)
 t0:=Tryz.underlying0
 a0:=Tryz.isAgg0
 z0:=Tryz.sizeOf0
 v0:=Tryz.zeroValue0
 t3:=Tryz.underlying3
 a3:=Tryz.isAgg3
 z3:=Tryz.sizeOf3
 v3:=Tryz.zeroValue3
 t4:=Tryz.underlying4
 a4:=Tryz.isAgg4
 z4:=Tryz.sizeOf4
 v4:=Tryz.zeroValue4
 t5:=Tryz.underlying5
 a5:=Tryz.isAgg5
 z5:=Tryz.sizeOf5
 v5:=Tryz.zeroValue5
 t9:=Tryz.underlying9
 a9:=Tryz.isAgg9
 z9:=Tryz.sizeOf9
 v9:=Tryz.zeroValue9
 t21:=Tryz.underlying21
 a21:=Tryz.isAgg21
 z21:=Tryz.sizeOf21
 v21:=Tryz.zeroValue21
 t31:=Tryz.underlying89
 a31:=Tryz.isAgg89
 z31:=Tryz.sizeOf89
 v31:=Tryz.zeroValue89
 t40:=Tryz.underlying162
 a40:=Tryz.isAgg162
 z40:=Tryz.sizeOf162
 v40:=Tryz.zeroValue162
 t46:=Tryz.underlying71
 a46:=Tryz.isAgg71
 z46:=Tryz.sizeOf71
 v46:=Tryz.zeroValue71
 t49:=Tryz.underlying245
 a49:=Tryz.isAgg245
 z49:=Tryz.sizeOf245
 v49:=Tryz.zeroValue245
 t51:=Tryz.underlying70
 a51:=Tryz.isAgg70
 z51:=Tryz.sizeOf70
 v51:=Tryz.zeroValue70
 t119:=Tryz.underlying160
 a119:=Tryz.isAgg160
 z119:=Tryz.sizeOf160
 t141:=Tryz.underlying197
 a141:=Tryz.isAgg197
 z141:=Tryz.sizeOf197
 v141:=Tryz.zeroValue197
 t152:=Tryz.underlying193
 a152:=Tryz.isAgg193
 z152:=Tryz.sizeOf193
 v152:=Tryz.zeroValue193
 t154:=Tryz.underlying195
 a154:=Tryz.isAgg195
 z154:=Tryz.sizeOf195
 v154:=Tryz.zeroValue195
 t193:=Tryz.underlying241
 a193:=Tryz.isAgg241
 z193:=Tryz.sizeOf241
 v193:=Tryz.zeroValue241
 t194:=Tryz.underlying242
 a194:=Tryz.isAgg242
 z194:=Tryz.sizeOf242
 v194:=Tryz.zeroValue242
 t196:=Tryz.underlying244
 a196:=Tryz.isAgg244
 z196:=Tryz.sizeOf244
 v196:=Tryz.zeroValue244
 t198:=Tryz.underlying247
 a198:=Tryz.isAgg247
 z198:=Tryz.sizeOf247
 v198:=Tryz.zeroValue247
 t201:=Tryz.underlying250
 a201:=Tryz.isAgg250
 z201:=Tryz.sizeOf250
 v201:=Tryz.zeroValue250
 t226:=Tryz.underlying319
 a226:=Tryz.isAgg319
 z226:=Tryz.sizeOf319
 v226:=Tryz.zeroValue319
 t227:=Tryz.underlying320
 a227:=Tryz.isAgg320
 z227:=Tryz.sizeOf320
 v227:=Tryz.zeroValue320
 g0:=κ
 g6:=by kernel_rfl }
def Tryz.laysSlH10_f59_ren:Go.Shelf.Ren:=⟨fun | 10=>59 | 6=>84 | n=>n,fun | 22=>89 | 23=>9 | 25=>135 | 3=>3 | 4=>4 | 0=>0 | n=>n,fun | n=>n⟩
theorem Tryz.laysSlH10_f59:Go.Proofs.SlLaysH.n10 Tryz.prog Tryz.laysSlH10_f59_ren:={
 mixed:=κ
 f6:=⟨Tryz.f84.name,by decide,Tryz.func84.trans (B A κ)⟩
 f10:=⟨Tryz.f59.name,by decide,Tryz.func59.trans (B A κ)⟩
 t0:=Tryz.underlying0
 a0:=Tryz.isAgg0
 z0:=Tryz.sizeOf0
 v0:=Tryz.zeroValue0
 t3:=Tryz.underlying3
 a3:=Tryz.isAgg3
 z3:=Tryz.sizeOf3
 v3:=Tryz.zeroValue3
 t4:=Tryz.underlying4
 a4:=Tryz.isAgg4
 z4:=Tryz.sizeOf4
 v4:=Tryz.zeroValue4
 t22:=Tryz.underlying89
 a22:=Tryz.isAgg89
 z22:=Tryz.sizeOf89
 v22:=Tryz.zeroValue89
 a23:=Tryz.isAgg9
 z23:=Tryz.sizeOf9
 t25:=Tryz.underlying135
 a25:=Tryz.isAgg135
 z25:=Tryz.sizeOf135
 v25:=Tryz.zeroValue135 }
end Go.Proofs
namespace Go.Ovl
open Go Go.Ab Go.Proofs Go.RowKit Go.Lib
set_option maxHeartbeats 4000000
set_option maxRecDepth 100000
theorem Ac3(W:World)(x:ByteArray):Calls Tryz.prog 60 #[.string x] W λe w'=>e=.returned (.bool (Nat.beq x.size 0))∧∃q,w'=W.drewN q:=by
 have mixed:Tryz.prog.follows .mixedOrders=true:=κ;have hx:x.toList.isEmpty=Nat.beq x.size 0:=by rw[Lib.toList_data,Lib.size_eq];cases x.data.toList<;>rfl
 go_enter Tryz.func60,Tryz.ntmps60
 go_wp2
 go_ret
 exact⟨rfl,0,rfl⟩
theorem UG(n:Int)(S:ByteArray)(w:World)(h0:0≤n)(h2:n≤9223372036854775807)(hS:S.size≤1000)(hrec:¬n<10→∀w,Calls Tryz.prog 44 #[.int .i64 (n/10)] w λe w'=>e=.returned (.string S)∧Below w.heap.size w w') :
  Calls Tryz.prog 44 #[.int .i64 n] w λe w'=>e=.returned (.string (if n<10 then Ac [aA (48+n.toNat%10)]else S++Ac [aA (48+n.toNat%10)]))∧Below w.heap.size w w':=by
 have mixed:Tryz.prog.follows .mixedOrders=true:=κ;have hb:((aA (48+n.toNat%10)).toNat:Int)=48+n%10:=by rw[UInt8.toNat_ofNat'];omega
 have hcv:(convert 23 9 (.slice (A ⟨w.heap.size,0,none⟩) 1 1)).run Tryz.prog (w.alloc (.cells #[.int .u8 (48+n%10)] 5))=.ok (.string (Ac [aA (48+n.toNat%10)])) (w.alloc (.cells #[.int .u8 (48+n%10)] 5)):=
  run_convert_bytes_back _ 23 9 5 ⟨w.heap.size,0,none⟩ 1 [aA (48+n.toNat%10)] Tryz.underlying23 Tryz.underlying5 Tryz.underlying9 (λj hj=>by
   obtain rfl:j=0:=by simpa using hj
   rw[Eu,World.cell?_alloc_new];simp only[List.getElem_cons_zero,hb];rfl)
 have hB:Below w.heap.size w (w.alloc (.cells #[.int .u8 (48+n%10)] 5)):=(Below.refl _ w).alloc (B_ _) _;have hD:(Ac [aA (48+n.toNat%10)]).size=1:=rfl;generalize Ac [aA (48+n.toNat%10)]=D at hcv hD⊢;clear hb
 go_enter Tryz.func44,Tryz.ntmps44
 go_wp2_with (go_at_call 44;refine(hrec ω _).mono ?_;rintro e w' ⟨rfl,hb⟩)
 ·go_ret
  exact⟨rfl,hB⟩
 ·go_ret
  exact⟨rfl,hB.trans (hb.mono hB.size)⟩
theorem UH:∀(k:Nat) (n:Int) (w:World),k≤19→0≤n→n<10^(k+1)→n≤9223372036854775807→Calls Tryz.prog 44 #[.int .i64 n] w λe w'=>e=.returned (.string (Ac (DK (k+1) n.toNat)))∧Below w.heap.size w w'
 |0,n,w,_,h0,h1,h2=>by replace h1:n<10:=h1;refine(UG n ⟨#[]⟩ w h0 h2 (by decide) (λh=>absurd h1 h)).mono ?_;rintro e w' ⟨rfl,hb⟩;exact⟨by rw[if_pos h1,DK,show Nat.blt n.toNat 10=true by rw[b4_];omega,e_,show n.toNat%10=n.toNat by omega],hb⟩
 |k+1,n,w,hk,h0,h1,h2=>by
  have ih:=λw=>UH k (n/10) w ω ω (by rw[Int.pow_succ]at h1;omega) ω;refine(UG n (Ac (DK (k+1) (n/10).toNat)) w h0 h2 (by show(DK (k+1) (n/10).toNat).toArray.size≤1000;rw[List.size_toArray];exact a0_ (Aai _ _) ω) (λ_=>ih)).mono ?_;rintro e w' ⟨rfl,hb⟩;refine⟨?_,hb⟩;by_cases h:n<10
  ·rw[if_pos h,DK,show Nat.blt n.toNat 10=true by rw[b4_];omega,e_,show n.toNat%10=n.toNat by omega]
  ·rw[if_neg h,show DK (k+1+1) n.toNat=DK (k+1) (n.toNat/10)++[aA (48+n.toNat%10)]by rw[DK,show Nat.blt n.toNat 10=false from Bool.eq_false_iff.2 λe=>by rw[b4_]at e;omega];rfl,show(n/10).toNat=n.toNat/10 by omega,Hi]
theorem Alf(w:World)(n:Int)(h:0≤n∧n≤9223372036854775807):Calls Tryz.prog 44 #[.int .i64 n] w λe w'=>e=.returned (.string (Ac (Bv n)))∧Below w.heap.size w w':=by
 obtain⟨u,rfl⟩:∃u:Nat,n=(u:Int):=⟨n.toNat,ω⟩
 exact UH 19 u w (by decide) h.1 ω h.2
end Go.Ovl
