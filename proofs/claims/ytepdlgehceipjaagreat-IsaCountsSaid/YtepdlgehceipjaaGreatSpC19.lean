/-
  The law IsaCounts (printed by wip/pr/pr.py): what the functions come to, told without the program.
-/
import Derived.Test.YtepdlgehceipjaaGreatSpT19
set_option linter.unusedSimpArgs false
set_option linter.unusedVariables false
namespace Go.Sh
open Go
set_option linter.unusedVariables false
set_option maxRecDepth 100000
set_option maxHeartbeats 4000000
abbrev Sg_z32 (α:Type):=Int→(Bool→R α)→R α
def ad_z32 {α:Type} (F:Sg_z32 α):FP α:=fun args k=>match args with
  | [a0]=>decI .u8 a0 fun x0=>F x0 (fun r0=>k (.bool r0))
  | _=>none
def dR_law19_IsaCounts {α:Type} (a0:SV) (k:Bool→R α):R α:=decB a0 fun x0=>k x0
theorem dR_law19_IsaCounts_spec {α:Type} {v:SV} {k:Bool→R α} {r:α} (h:dR_law19_IsaCounts v k=some r):∃x0,v=(.bool x0)∧k x0=some r:=by
  unfold dR_law19_IsaCounts at h
  obtain ⟨x0,rfl,h0⟩:=decB_spec h
  exact ⟨x0,rfl,h0⟩
def q_law19_IsaCounts_1 {α:Type} (k:Bool→R α) (t5:Int) (y425:GMachine) (r426:GRetire):R α:=
  let t430:Int:=(IntKind.i64.wrap (t5+ 1))
  let t431:Int:=(IntKind.i64.wrap (t5 * t430))
  let t432:Int:=(IntKind.i64.wrap (Int.tdiv t431 2))
  let t433:Int:=(IntKind.u64.wrap t432)
  let b434:Bool:=((y425.s.X 2)==t433)
  cond b434 (
  let b435:Bool:=((y425.s.X 1)==0)
  cond b435 (
  cond r426.Trap (
  let b436:Bool:=(r426.F.Cause==11)
  cond b436 (
  let b437:Bool:=(r426.PC==16)
  cond b437 (
  let t438:Int:=(IntKind.i64.wrap (3 * t5))
  let t439:Int:=(IntKind.i64.wrap (1+ t438))
  let t440:Int:=(IntKind.u64.wrap t439)
  let b441:Bool:=(y425.s.Done==t440)
  k b441) (
  k false)) (
  k false)) (
  k false)) (
  k false)) (
  k false)
def q_law19_IsaCounts_2 {α:Type} (F_z1:Sg_z1 α) (k:Bool→R α) (y57:GMachine) (t55:Int) (t5:Int):R α:=
  GN y57.b ((((((((F_z1 (GMachine.mk y57.s (NB y57.b) y57.steps) false (fun y60 r61=>
  let b62:Bool:=(ltB 2 t55)
  cond b62 (
  GN y60.b ((((((((F_z1 (GMachine.mk y60.s (NB y60.b) y60.steps) false (fun y63 r64=>
  let b65:Bool:=(ltB 3 t55)
  cond b65 (
  GN y63.b ((((((((F_z1 (GMachine.mk y63.s (NB y63.b) y63.steps) false (fun y66 r67=>
  let b68:Bool:=(ltB 4 t55)
  cond b68 (
  GN y66.b ((((((((F_z1 (GMachine.mk y66.s (NB y66.b) y66.steps) false (fun y69 r70=>
  let b71:Bool:=(ltB 5 t55)
  cond b71 (
  GN y69.b ((((((((F_z1 (GMachine.mk y69.s (NB y69.b) y69.steps) false (fun y72 r73=>
  let b74:Bool:=(ltB 6 t55)
  cond b74 (
  GN y72.b ((((((((F_z1 (GMachine.mk y72.s (NB y72.b) y72.steps) false (fun y75 r76=>
  let b77:Bool:=(ltB 7 t55)
  cond b77 (
  GN y75.b ((((((((F_z1 (GMachine.mk y75.s (NB y75.b) y75.steps) false (fun y78 r79=>
  let b80:Bool:=(ltB 8 t55)
  cond b80 (
  GN y78.b ((((((((F_z1 (GMachine.mk y78.s (NB y78.b) y78.steps) false (fun y81 r82=>
  let b83:Bool:=(ltB 9 t55)
  cond b83 (
  GN y81.b ((((((((F_z1 (GMachine.mk y81.s (NB y81.b) y81.steps) false (fun y84 r85=>
  let b86:Bool:=(ltB 10 t55)
  cond b86 (
  GN y84.b ((((((((F_z1 (GMachine.mk y84.s (NB y84.b) y84.steps) false (fun y87 r88=>
  let b89:Bool:=(ltB 11 t55)
  cond b89 (
  GN y87.b ((((((((F_z1 (GMachine.mk y87.s (NB y87.b) y87.steps) false (fun y90 r91=>
  let b92:Bool:=(ltB 12 t55)
  cond b92 (
  GN y90.b ((((((((F_z1 (GMachine.mk y90.s (NB y90.b) y90.steps) false (fun y93 r94=>
  let b95:Bool:=(ltB 13 t55)
  cond b95 (
  GN y93.b ((((((((F_z1 (GMachine.mk y93.s (NB y93.b) y93.steps) false (fun y96 r97=>
  let b98:Bool:=(ltB 14 t55)
  cond b98 (
  GN y96.b ((((((((F_z1 (GMachine.mk y96.s (NB y96.b) y96.steps) false (fun y99 r100=>
  let b101:Bool:=(ltB 15 t55)
  cond b101 (
  GN y99.b ((((((((F_z1 (GMachine.mk y99.s (NB y99.b) y99.steps) false (fun y102 r103=>
  let b104:Bool:=(ltB 16 t55)
  cond b104 (
  GN y102.b ((((((((F_z1 (GMachine.mk y102.s (NB y102.b) y102.steps) false (fun y105 r106=>
  let b107:Bool:=(ltB 17 t55)
  cond b107 (
  GN y105.b ((((((((F_z1 (GMachine.mk y105.s (NB y105.b) y105.steps) false (fun y108 r109=>
  let b110:Bool:=(ltB 18 t55)
  cond b110 (
  GN y108.b ((((((((F_z1 (GMachine.mk y108.s (NB y108.b) y108.steps) false (fun y111 r112=>
  let b113:Bool:=(ltB 19 t55)
  cond b113 (
  GN y111.b ((((((((F_z1 (GMachine.mk y111.s (NB y111.b) y111.steps) false (fun y114 r115=>
  let b116:Bool:=(ltB 20 t55)
  cond b116 (
  GN y114.b ((((((((F_z1 (GMachine.mk y114.s (NB y114.b) y114.steps) false (fun y117 r118=>
  let b119:Bool:=(ltB 21 t55)
  cond b119 (
  GN y117.b ((((((((F_z1 (GMachine.mk y117.s (NB y117.b) y117.steps) false (fun y120 r121=>
  let b122:Bool:=(ltB 22 t55)
  cond b122 (
  GN y120.b ((((((((F_z1 (GMachine.mk y120.s (NB y120.b) y120.steps) false (fun y123 r124=>
  let b125:Bool:=(ltB 23 t55)
  cond b125 (
  GN y123.b ((((((((F_z1 (GMachine.mk y123.s (NB y123.b) y123.steps) false (fun y126 r127=>
  let b128:Bool:=(ltB 24 t55)
  cond b128 (
  GN y126.b ((((((((F_z1 (GMachine.mk y126.s (NB y126.b) y126.steps) false (fun y129 r130=>
  let b131:Bool:=(ltB 25 t55)
  cond b131 (
  GN y129.b ((((((((F_z1 (GMachine.mk y129.s (NB y129.b) y129.steps) false (fun y132 r133=>
  let b134:Bool:=(ltB 26 t55)
  cond b134 (
  GN y132.b ((((((((F_z1 (GMachine.mk y132.s (NB y132.b) y132.steps) false (fun y135 r136=>
  let b137:Bool:=(ltB 27 t55)
  cond b137 (
  GN y135.b ((((((((F_z1 (GMachine.mk y135.s (NB y135.b) y135.steps) false (fun y138 r139=>
  let b140:Bool:=(ltB 28 t55)
  cond b140 (
  GN y138.b ((((((((F_z1 (GMachine.mk y138.s (NB y138.b) y138.steps) false (fun y141 r142=>
  let b143:Bool:=(ltB 29 t55)
  cond b143 (
  GN y141.b ((((((((F_z1 (GMachine.mk y141.s (NB y141.b) y141.steps) false (fun y144 r145=>
  let b146:Bool:=(ltB 30 t55)
  cond b146 (
  GN y144.b ((((((((F_z1 (GMachine.mk y144.s (NB y144.b) y144.steps) false (fun y147 r148=>
  let b149:Bool:=(ltB 31 t55)
  cond b149 (
  GN y147.b ((((((((F_z1 (GMachine.mk y147.s (NB y147.b) y147.steps) false (fun y150 r151=>
  let b152:Bool:=(ltB 32 t55)
  cond b152 (
  GN y150.b ((((((((F_z1 (GMachine.mk y150.s (NB y150.b) y150.steps) false (fun y153 r154=>
  let b155:Bool:=(ltB 33 t55)
  cond b155 (
  GN y153.b ((((((((F_z1 (GMachine.mk y153.s (NB y153.b) y153.steps) false (fun y156 r157=>
  let b158:Bool:=(ltB 34 t55)
  cond b158 (
  GN y156.b ((((((((F_z1 (GMachine.mk y156.s (NB y156.b) y156.steps) false (fun y159 r160=>
  let b161:Bool:=(ltB 35 t55)
  cond b161 (
  GN y159.b ((((((((F_z1 (GMachine.mk y159.s (NB y159.b) y159.steps) false (fun y162 r163=>
  let b164:Bool:=(ltB 36 t55)
  cond b164 (
  GN y162.b ((((((((F_z1 (GMachine.mk y162.s (NB y162.b) y162.steps) false (fun y165 r166=>
  let b167:Bool:=(ltB 37 t55)
  cond b167 (
  GN y165.b ((((((((F_z1 (GMachine.mk y165.s (NB y165.b) y165.steps) false (fun y168 r169=>
  let b170:Bool:=(ltB 38 t55)
  cond b170 (
  GN y168.b ((((((((F_z1 (GMachine.mk y168.s (NB y168.b) y168.steps) false (fun y171 r172=>
  let b173:Bool:=(ltB 39 t55)
  cond b173 (
  GN y171.b ((((((((F_z1 (GMachine.mk y171.s (NB y171.b) y171.steps) false (fun y174 r175=>
  let b176:Bool:=(ltB 40 t55)
  cond b176 (
  GN y174.b ((((((((F_z1 (GMachine.mk y174.s (NB y174.b) y174.steps) false (fun y177 r178=>
  let b179:Bool:=(ltB 41 t55)
  cond b179 (
  GN y177.b ((((((((F_z1 (GMachine.mk y177.s (NB y177.b) y177.steps) false (fun y180 r181=>
  let b182:Bool:=(ltB 42 t55)
  cond b182 (
  GN y180.b ((((((((F_z1 (GMachine.mk y180.s (NB y180.b) y180.steps) false (fun y183 r184=>
  let b185:Bool:=(ltB 43 t55)
  cond b185 (
  GN y183.b ((((((((F_z1 (GMachine.mk y183.s (NB y183.b) y183.steps) false (fun y186 r187=>
  let b188:Bool:=(ltB 44 t55)
  cond b188 (
  GN y186.b ((((((((F_z1 (GMachine.mk y186.s (NB y186.b) y186.steps) false (fun y189 r190=>
  let b191:Bool:=(ltB 45 t55)
  cond b191 (
  GN y189.b ((((((((F_z1 (GMachine.mk y189.s (NB y189.b) y189.steps) false (fun y192 r193=>
  let b194:Bool:=(ltB 46 t55)
  cond b194 (
  GN y192.b ((((((((F_z1 (GMachine.mk y192.s (NB y192.b) y192.steps) false (fun y195 r196=>
  let b197:Bool:=(ltB 47 t55)
  cond b197 (
  GN y195.b ((((((((F_z1 (GMachine.mk y195.s (NB y195.b) y195.steps) false (fun y198 r199=>
  let b200:Bool:=(ltB 48 t55)
  cond b200 (
  GN y198.b ((((((((F_z1 (GMachine.mk y198.s (NB y198.b) y198.steps) false (fun y201 r202=>
  let b203:Bool:=(ltB 49 t55)
  cond b203 (
  GN y201.b ((((((((F_z1 (GMachine.mk y201.s (NB y201.b) y201.steps) false (fun y204 r205=>
  let b206:Bool:=(ltB 50 t55)
  cond b206 (
  GN y204.b ((((((((F_z1 (GMachine.mk y204.s (NB y204.b) y204.steps) false (fun y207 r208=>
  let b209:Bool:=(ltB 51 t55)
  cond b209 (
  GN y207.b ((((((((F_z1 (GMachine.mk y207.s (NB y207.b) y207.steps) false (fun y210 r211=>
  let b212:Bool:=(ltB 52 t55)
  cond b212 (
  GN y210.b ((((((((F_z1 (GMachine.mk y210.s (NB y210.b) y210.steps) false (fun y213 r214=>
  let b215:Bool:=(ltB 53 t55)
  cond b215 (
  GN y213.b ((((((((F_z1 (GMachine.mk y213.s (NB y213.b) y213.steps) false (fun y216 r217=>
  let b218:Bool:=(ltB 54 t55)
  cond b218 (
  GN y216.b ((((((((F_z1 (GMachine.mk y216.s (NB y216.b) y216.steps) false (fun y219 r220=>
  let b221:Bool:=(ltB 55 t55)
  cond b221 (
  GN y219.b ((((((((F_z1 (GMachine.mk y219.s (NB y219.b) y219.steps) false (fun y222 r223=>
  let b224:Bool:=(ltB 56 t55)
  cond b224 (
  GN y222.b ((((((((F_z1 (GMachine.mk y222.s (NB y222.b) y222.steps) false (fun y225 r226=>
  let b227:Bool:=(ltB 57 t55)
  cond b227 (
  GN y225.b ((((((((F_z1 (GMachine.mk y225.s (NB y225.b) y225.steps) false (fun y228 r229=>
  let b230:Bool:=(ltB 58 t55)
  cond b230 (
  GN y228.b ((((((((F_z1 (GMachine.mk y228.s (NB y228.b) y228.steps) false (fun y231 r232=>
  let b233:Bool:=(ltB 59 t55)
  cond b233 (
  GN y231.b ((((((((F_z1 (GMachine.mk y231.s (NB y231.b) y231.steps) false (fun y234 r235=>
  let b236:Bool:=(ltB 60 t55)
  cond b236 (
  GN y234.b ((((((((F_z1 (GMachine.mk y234.s (NB y234.b) y234.steps) false (fun y237 r238=>
  let b239:Bool:=(ltB 61 t55)
  cond b239 (
  GN y237.b ((((((((F_z1 (GMachine.mk y237.s (NB y237.b) y237.steps) false (fun y240 r241=>
  let b242:Bool:=(ltB 62 t55)
  cond b242 (
  GN y240.b ((((((((F_z1 (GMachine.mk y240.s (NB y240.b) y240.steps) false (fun y243 r244=>
  let b245:Bool:=(ltB 63 t55)
  cond b245 (
  GN y243.b ((((((((F_z1 (GMachine.mk y243.s (NB y243.b) y243.steps) false (fun y246 r247=>
  let b248:Bool:=(ltB 64 t55)
  cond b248 (
  GN y246.b ((((((((F_z1 (GMachine.mk y246.s (NB y246.b) y246.steps) false (fun y249 r250=>
  let b251:Bool:=(ltB 65 t55)
  cond b251 (
  GN y249.b ((((((((F_z1 (GMachine.mk y249.s (NB y249.b) y249.steps) false (fun y252 r253=>
  let b254:Bool:=(ltB 66 t55)
  cond b254 (
  GN y252.b ((((((((F_z1 (GMachine.mk y252.s (NB y252.b) y252.steps) false (fun y255 r256=>
  let b257:Bool:=(ltB 67 t55)
  cond b257 (
  GN y255.b ((((((((F_z1 (GMachine.mk y255.s (NB y255.b) y255.steps) false (fun y258 r259=>
  let b260:Bool:=(ltB 68 t55)
  cond b260 (
  GN y258.b ((((((((F_z1 (GMachine.mk y258.s (NB y258.b) y258.steps) false (fun y261 r262=>
  let b263:Bool:=(ltB 69 t55)
  cond b263 (
  GN y261.b ((((((((F_z1 (GMachine.mk y261.s (NB y261.b) y261.steps) false (fun y264 r265=>
  let b266:Bool:=(ltB 70 t55)
  cond b266 (
  GN y264.b ((((((((F_z1 (GMachine.mk y264.s (NB y264.b) y264.steps) false (fun y267 r268=>
  let b269:Bool:=(ltB 71 t55)
  cond b269 (
  GN y267.b ((((((((F_z1 (GMachine.mk y267.s (NB y267.b) y267.steps) false (fun y270 r271=>
  let b272:Bool:=(ltB 72 t55)
  cond b272 (
  GN y270.b ((((((((F_z1 (GMachine.mk y270.s (NB y270.b) y270.steps) false (fun y273 r274=>
  let b275:Bool:=(ltB 73 t55)
  cond b275 (
  GN y273.b ((((((((F_z1 (GMachine.mk y273.s (NB y273.b) y273.steps) false (fun y276 r277=>
  let b278:Bool:=(ltB 74 t55)
  cond b278 (
  GN y276.b ((((((((F_z1 (GMachine.mk y276.s (NB y276.b) y276.steps) false (fun y279 r280=>
  let b281:Bool:=(ltB 75 t55)
  cond b281 (
  GN y279.b ((((((((F_z1 (GMachine.mk y279.s (NB y279.b) y279.steps) false (fun y282 r283=>
  let b284:Bool:=(ltB 76 t55)
  cond b284 (
  GN y282.b ((((((((F_z1 (GMachine.mk y282.s (NB y282.b) y282.steps) false (fun y285 r286=>
  let b287:Bool:=(ltB 77 t55)
  cond b287 (
  GN y285.b ((((((((F_z1 (GMachine.mk y285.s (NB y285.b) y285.steps) false (fun y288 r289=>
  let b290:Bool:=(ltB 78 t55)
  cond b290 (
  GN y288.b ((((((((F_z1 (GMachine.mk y288.s (NB y288.b) y288.steps) false (fun y291 r292=>
  let b293:Bool:=(ltB 79 t55)
  cond b293 (
  GN y291.b ((((((((F_z1 (GMachine.mk y291.s (NB y291.b) y291.steps) false (fun y294 r295=>
  let b296:Bool:=(ltB 80 t55)
  cond b296 (
  GN y294.b ((((((((F_z1 (GMachine.mk y294.s (NB y294.b) y294.steps) false (fun y297 r298=>
  let b299:Bool:=(ltB 81 t55)
  cond b299 (
  GN y297.b ((((((((F_z1 (GMachine.mk y297.s (NB y297.b) y297.steps) false (fun y300 r301=>
  let b302:Bool:=(ltB 82 t55)
  cond b302 (
  GN y300.b ((((((((F_z1 (GMachine.mk y300.s (NB y300.b) y300.steps) false (fun y303 r304=>
  let b305:Bool:=(ltB 83 t55)
  cond b305 (
  GN y303.b ((((((((F_z1 (GMachine.mk y303.s (NB y303.b) y303.steps) false (fun y306 r307=>
  let b308:Bool:=(ltB 84 t55)
  cond b308 (
  GN y306.b ((((((((F_z1 (GMachine.mk y306.s (NB y306.b) y306.steps) false (fun y309 r310=>
  let b311:Bool:=(ltB 85 t55)
  cond b311 (
  GN y309.b ((((((((F_z1 (GMachine.mk y309.s (NB y309.b) y309.steps) false (fun y312 r313=>
  let b314:Bool:=(ltB 86 t55)
  cond b314 (
  GN y312.b ((((((((F_z1 (GMachine.mk y312.s (NB y312.b) y312.steps) false (fun y315 r316=>
  let b317:Bool:=(ltB 87 t55)
  cond b317 (
  GN y315.b ((((((((F_z1 (GMachine.mk y315.s (NB y315.b) y315.steps) false (fun y318 r319=>
  let b320:Bool:=(ltB 88 t55)
  cond b320 (
  GN y318.b ((((((((F_z1 (GMachine.mk y318.s (NB y318.b) y318.steps) false (fun y321 r322=>
  let b323:Bool:=(ltB 89 t55)
  cond b323 (
  GN y321.b ((((((((F_z1 (GMachine.mk y321.s (NB y321.b) y321.steps) false (fun y324 r325=>
  let b326:Bool:=(ltB 90 t55)
  cond b326 (
  GN y324.b ((((((((F_z1 (GMachine.mk y324.s (NB y324.b) y324.steps) false (fun y327 r328=>
  let b329:Bool:=(ltB 91 t55)
  cond b329 (
  GN y327.b ((((((((F_z1 (GMachine.mk y327.s (NB y327.b) y327.steps) false (fun y330 r331=>
  let b332:Bool:=(ltB 92 t55)
  cond b332 (
  GN y330.b ((((((((F_z1 (GMachine.mk y330.s (NB y330.b) y330.steps) false (fun y333 r334=>
  let b335:Bool:=(ltB 93 t55)
  cond b335 (
  GN y333.b ((((((((F_z1 (GMachine.mk y333.s (NB y333.b) y333.steps) false (fun y336 r337=>
  let b338:Bool:=(ltB 94 t55)
  cond b338 (
  GN y336.b ((((((((F_z1 (GMachine.mk y336.s (NB y336.b) y336.steps) false (fun y339 r340=>
  let b341:Bool:=(ltB 95 t55)
  cond b341 (
  GN y339.b ((((((((F_z1 (GMachine.mk y339.s (NB y339.b) y339.steps) false (fun y342 r343=>
  let b344:Bool:=(ltB 96 t55)
  cond b344 (
  GN y342.b ((((((((F_z1 (GMachine.mk y342.s (NB y342.b) y342.steps) false (fun y345 r346=>
  let b347:Bool:=(ltB 97 t55)
  cond b347 (
  GN y345.b ((((((((F_z1 (GMachine.mk y345.s (NB y345.b) y345.steps) false (fun y348 r349=>
  let b350:Bool:=(ltB 98 t55)
  cond b350 (
  GN y348.b ((((((((F_z1 (GMachine.mk y348.s (NB y348.b) y348.steps) false (fun y351 r352=>
  let b353:Bool:=(ltB 99 t55)
  cond b353 (
  GN y351.b ((((((((F_z1 (GMachine.mk y351.s (NB y351.b) y351.steps) false (fun y354 r355=>
  let b356:Bool:=(ltB 100 t55)
  cond b356 (
  GN y354.b ((((((((F_z1 (GMachine.mk y354.s (NB y354.b) y354.steps) false (fun y357 r358=>
  let b359:Bool:=(ltB 101 t55)
  cond b359 (
  GN y357.b ((((((((F_z1 (GMachine.mk y357.s (NB y357.b) y357.steps) false (fun y360 r361=>
  let b362:Bool:=(ltB 102 t55)
  cond b362 (
  GN y360.b ((((((((F_z1 (GMachine.mk y360.s (NB y360.b) y360.steps) false (fun y363 r364=>
  let b365:Bool:=(ltB 103 t55)
  cond b365 (
  GN y363.b ((((((((F_z1 (GMachine.mk y363.s (NB y363.b) y363.steps) false (fun y366 r367=>
  let b368:Bool:=(ltB 104 t55)
  cond b368 (
  GN y366.b ((((((((F_z1 (GMachine.mk y366.s (NB y366.b) y366.steps) false (fun y369 r370=>
  let b371:Bool:=(ltB 105 t55)
  cond b371 (
  GN y369.b ((((((((F_z1 (GMachine.mk y369.s (NB y369.b) y369.steps) false (fun y372 r373=>
  let b374:Bool:=(ltB 106 t55)
  cond b374 (
  GN y372.b ((((((((F_z1 (GMachine.mk y372.s (NB y372.b) y372.steps) false (fun y375 r376=>
  let b377:Bool:=(ltB 107 t55)
  cond b377 (
  GN y375.b ((((((((F_z1 (GMachine.mk y375.s (NB y375.b) y375.steps) false (fun y378 r379=>
  let b380:Bool:=(ltB 108 t55)
  cond b380 (
  GN y378.b ((((((((F_z1 (GMachine.mk y378.s (NB y378.b) y378.steps) false (fun y381 r382=>
  let b383:Bool:=(ltB 109 t55)
  cond b383 (
  GN y381.b ((((((((F_z1 (GMachine.mk y381.s (NB y381.b) y381.steps) false (fun y384 r385=>
  let b386:Bool:=(ltB 110 t55)
  cond b386 (
  GN y384.b ((((((((F_z1 (GMachine.mk y384.s (NB y384.b) y384.steps) false (fun y387 r388=>
  let b389:Bool:=(ltB 111 t55)
  cond b389 (
  GN y387.b ((((((((F_z1 (GMachine.mk y387.s (NB y387.b) y387.steps) false (fun y390 r391=>
  let b392:Bool:=(ltB 112 t55)
  cond b392 (
  GN y390.b ((((((((F_z1 (GMachine.mk y390.s (NB y390.b) y390.steps) false (fun y393 r394=>
  let b395:Bool:=(ltB 113 t55)
  cond b395 (
  GN y393.b ((((((((F_z1 (GMachine.mk y393.s (NB y393.b) y393.steps) false (fun y396 r397=>
  let b398:Bool:=(ltB 114 t55)
  cond b398 (
  GN y396.b ((((((((F_z1 (GMachine.mk y396.s (NB y396.b) y396.steps) false (fun y399 r400=>
  let b401:Bool:=(ltB 115 t55)
  cond b401 (
  GN y399.b ((((((((F_z1 (GMachine.mk y399.s (NB y399.b) y399.steps) false (fun y402 r403=>
  let b404:Bool:=(ltB 116 t55)
  cond b404 (
  GN y402.b ((((((((F_z1 (GMachine.mk y402.s (NB y402.b) y402.steps) false (fun y405 r406=>
  let b407:Bool:=(ltB 117 t55)
  cond b407 (
  GN y405.b ((((((((F_z1 (GMachine.mk y405.s (NB y405.b) y405.steps) false (fun y408 r409=>
  let b410:Bool:=(ltB 118 t55)
  cond b410 (
  GN y408.b ((((((((F_z1 (GMachine.mk y408.s (NB y408.b) y408.steps) false (fun y411 r412=>
  let b413:Bool:=(ltB 119 t55)
  cond b413 (
  GN y411.b ((((((((F_z1 (GMachine.mk y411.s (NB y411.b) y411.steps) false (fun y414 r415=>
  let b416:Bool:=(ltB 120 t55)
  cond b416 (
  GN y414.b ((((((((F_z1 (GMachine.mk y414.s (NB y414.b) y414.steps) false (fun y417 r418=>
  let b419:Bool:=(ltB 121 t55)
  cond b419 (
  GN y417.b ((((((((F_z1 (GMachine.mk y417.s (NB y417.b) y417.steps) false (fun y420 r421=>
  let b422:Bool:=(ltB 122 t55)
  cond b422 (
  GN y420.b ((((((((F_z1 (GMachine.mk y420.s (NB y420.b) y420.steps) false (fun y423 r424=>
  none)))))))))) (
  GN y420.b ((((((((F_z1 (GMachine.mk y420.s (NB y420.b) y420.steps) false (fun y425 r426=>
  let t427:Int:=(IntKind.i64.wrap (3 * t5))
  let t428:Int:=(IntKind.i64.wrap (1+ t427))
  let b429:Bool:=(122==t428)
  cond b429 (
  q_law19_IsaCounts_1 k t5 y425 r426) (
  k false))))))))))))))))))))) (
  GN y417.b ((((((((F_z1 (GMachine.mk y417.s (NB y417.b) y417.steps) false (fun y442 r443=>
  let t444:Int:=(IntKind.i64.wrap (3 * t5))
  let t445:Int:=(IntKind.i64.wrap (1+ t444))
  let b446:Bool:=(121==t445)
  cond b446 (
  q_law19_IsaCounts_1 k t5 y442 r443) (
  k false))))))))))))))))))))) (
  GN y414.b ((((((((F_z1 (GMachine.mk y414.s (NB y414.b) y414.steps) false (fun y459 r460=>
  let t461:Int:=(IntKind.i64.wrap (3 * t5))
  let t462:Int:=(IntKind.i64.wrap (1+ t461))
  let b463:Bool:=(120==t462)
  cond b463 (
  q_law19_IsaCounts_1 k t5 y459 r460) (
  k false))))))))))))))))))))) (
  GN y411.b ((((((((F_z1 (GMachine.mk y411.s (NB y411.b) y411.steps) false (fun y476 r477=>
  let t478:Int:=(IntKind.i64.wrap (3 * t5))
  let t479:Int:=(IntKind.i64.wrap (1+ t478))
  let b480:Bool:=(119==t479)
  cond b480 (
  q_law19_IsaCounts_1 k t5 y476 r477) (
  k false))))))))))))))))))))) (
  GN y408.b ((((((((F_z1 (GMachine.mk y408.s (NB y408.b) y408.steps) false (fun y493 r494=>
  let t495:Int:=(IntKind.i64.wrap (3 * t5))
  let t496:Int:=(IntKind.i64.wrap (1+ t495))
  let b497:Bool:=(118==t496)
  cond b497 (
  q_law19_IsaCounts_1 k t5 y493 r494) (
  k false))))))))))))))))))))) (
  GN y405.b ((((((((F_z1 (GMachine.mk y405.s (NB y405.b) y405.steps) false (fun y510 r511=>
  let t512:Int:=(IntKind.i64.wrap (3 * t5))
  let t513:Int:=(IntKind.i64.wrap (1+ t512))
  let b514:Bool:=(117==t513)
  cond b514 (
  q_law19_IsaCounts_1 k t5 y510 r511) (
  k false))))))))))))))))))))) (
  GN y402.b ((((((((F_z1 (GMachine.mk y402.s (NB y402.b) y402.steps) false (fun y527 r528=>
  let t529:Int:=(IntKind.i64.wrap (3 * t5))
  let t530:Int:=(IntKind.i64.wrap (1+ t529))
  let b531:Bool:=(116==t530)
  cond b531 (
  q_law19_IsaCounts_1 k t5 y527 r528) (
  k false))))))))))))))))))))) (
  GN y399.b ((((((((F_z1 (GMachine.mk y399.s (NB y399.b) y399.steps) false (fun y544 r545=>
  let t546:Int:=(IntKind.i64.wrap (3 * t5))
  let t547:Int:=(IntKind.i64.wrap (1+ t546))
  let b548:Bool:=(115==t547)
  cond b548 (
  q_law19_IsaCounts_1 k t5 y544 r545) (
  k false))))))))))))))))))))) (
  GN y396.b ((((((((F_z1 (GMachine.mk y396.s (NB y396.b) y396.steps) false (fun y561 r562=>
  let t563:Int:=(IntKind.i64.wrap (3 * t5))
  let t564:Int:=(IntKind.i64.wrap (1+ t563))
  let b565:Bool:=(114==t564)
  cond b565 (
  q_law19_IsaCounts_1 k t5 y561 r562) (
  k false))))))))))))))))))))) (
  GN y393.b ((((((((F_z1 (GMachine.mk y393.s (NB y393.b) y393.steps) false (fun y578 r579=>
  let t580:Int:=(IntKind.i64.wrap (3 * t5))
  let t581:Int:=(IntKind.i64.wrap (1+ t580))
  let b582:Bool:=(113==t581)
  cond b582 (
  q_law19_IsaCounts_1 k t5 y578 r579) (
  k false))))))))))))))))))))) (
  GN y390.b ((((((((F_z1 (GMachine.mk y390.s (NB y390.b) y390.steps) false (fun y595 r596=>
  let t597:Int:=(IntKind.i64.wrap (3 * t5))
  let t598:Int:=(IntKind.i64.wrap (1+ t597))
  let b599:Bool:=(112==t598)
  cond b599 (
  q_law19_IsaCounts_1 k t5 y595 r596) (
  k false))))))))))))))))))))) (
  GN y387.b ((((((((F_z1 (GMachine.mk y387.s (NB y387.b) y387.steps) false (fun y612 r613=>
  let t614:Int:=(IntKind.i64.wrap (3 * t5))
  let t615:Int:=(IntKind.i64.wrap (1+ t614))
  let b616:Bool:=(111==t615)
  cond b616 (
  q_law19_IsaCounts_1 k t5 y612 r613) (
  k false))))))))))))))))))))) (
  GN y384.b ((((((((F_z1 (GMachine.mk y384.s (NB y384.b) y384.steps) false (fun y629 r630=>
  let t631:Int:=(IntKind.i64.wrap (3 * t5))
  let t632:Int:=(IntKind.i64.wrap (1+ t631))
  let b633:Bool:=(110==t632)
  cond b633 (
  q_law19_IsaCounts_1 k t5 y629 r630) (
  k false))))))))))))))))))))) (
  GN y381.b ((((((((F_z1 (GMachine.mk y381.s (NB y381.b) y381.steps) false (fun y646 r647=>
  let t648:Int:=(IntKind.i64.wrap (3 * t5))
  let t649:Int:=(IntKind.i64.wrap (1+ t648))
  let b650:Bool:=(109==t649)
  cond b650 (
  q_law19_IsaCounts_1 k t5 y646 r647) (
  k false))))))))))))))))))))) (
  GN y378.b ((((((((F_z1 (GMachine.mk y378.s (NB y378.b) y378.steps) false (fun y663 r664=>
  let t665:Int:=(IntKind.i64.wrap (3 * t5))
  let t666:Int:=(IntKind.i64.wrap (1+ t665))
  let b667:Bool:=(108==t666)
  cond b667 (
  q_law19_IsaCounts_1 k t5 y663 r664) (
  k false))))))))))))))))))))) (
  GN y375.b ((((((((F_z1 (GMachine.mk y375.s (NB y375.b) y375.steps) false (fun y680 r681=>
  let t682:Int:=(IntKind.i64.wrap (3 * t5))
  let t683:Int:=(IntKind.i64.wrap (1+ t682))
  let b684:Bool:=(107==t683)
  cond b684 (
  q_law19_IsaCounts_1 k t5 y680 r681) (
  k false))))))))))))))))))))) (
  GN y372.b ((((((((F_z1 (GMachine.mk y372.s (NB y372.b) y372.steps) false (fun y697 r698=>
  let t699:Int:=(IntKind.i64.wrap (3 * t5))
  let t700:Int:=(IntKind.i64.wrap (1+ t699))
  let b701:Bool:=(106==t700)
  cond b701 (
  q_law19_IsaCounts_1 k t5 y697 r698) (
  k false))))))))))))))))))))) (
  GN y369.b ((((((((F_z1 (GMachine.mk y369.s (NB y369.b) y369.steps) false (fun y714 r715=>
  let t716:Int:=(IntKind.i64.wrap (3 * t5))
  let t717:Int:=(IntKind.i64.wrap (1+ t716))
  let b718:Bool:=(105==t717)
  cond b718 (
  q_law19_IsaCounts_1 k t5 y714 r715) (
  k false))))))))))))))))))))) (
  GN y366.b ((((((((F_z1 (GMachine.mk y366.s (NB y366.b) y366.steps) false (fun y731 r732=>
  let t733:Int:=(IntKind.i64.wrap (3 * t5))
  let t734:Int:=(IntKind.i64.wrap (1+ t733))
  let b735:Bool:=(104==t734)
  cond b735 (
  q_law19_IsaCounts_1 k t5 y731 r732) (
  k false))))))))))))))))))))) (
  GN y363.b ((((((((F_z1 (GMachine.mk y363.s (NB y363.b) y363.steps) false (fun y748 r749=>
  let t750:Int:=(IntKind.i64.wrap (3 * t5))
  let t751:Int:=(IntKind.i64.wrap (1+ t750))
  let b752:Bool:=(103==t751)
  cond b752 (
  q_law19_IsaCounts_1 k t5 y748 r749) (
  k false))))))))))))))))))))) (
  GN y360.b ((((((((F_z1 (GMachine.mk y360.s (NB y360.b) y360.steps) false (fun y765 r766=>
  let t767:Int:=(IntKind.i64.wrap (3 * t5))
  let t768:Int:=(IntKind.i64.wrap (1+ t767))
  let b769:Bool:=(102==t768)
  cond b769 (
  q_law19_IsaCounts_1 k t5 y765 r766) (
  k false))))))))))))))))))))) (
  GN y357.b ((((((((F_z1 (GMachine.mk y357.s (NB y357.b) y357.steps) false (fun y782 r783=>
  let t784:Int:=(IntKind.i64.wrap (3 * t5))
  let t785:Int:=(IntKind.i64.wrap (1+ t784))
  let b786:Bool:=(101==t785)
  cond b786 (
  q_law19_IsaCounts_1 k t5 y782 r783) (
  k false))))))))))))))))))))) (
  GN y354.b ((((((((F_z1 (GMachine.mk y354.s (NB y354.b) y354.steps) false (fun y799 r800=>
  let t801:Int:=(IntKind.i64.wrap (3 * t5))
  let t802:Int:=(IntKind.i64.wrap (1+ t801))
  let b803:Bool:=(100==t802)
  cond b803 (
  q_law19_IsaCounts_1 k t5 y799 r800) (
  k false))))))))))))))))))))) (
  GN y351.b ((((((((F_z1 (GMachine.mk y351.s (NB y351.b) y351.steps) false (fun y816 r817=>
  let t818:Int:=(IntKind.i64.wrap (3 * t5))
  let t819:Int:=(IntKind.i64.wrap (1+ t818))
  let b820:Bool:=(99==t819)
  cond b820 (
  q_law19_IsaCounts_1 k t5 y816 r817) (
  k false))))))))))))))))))))) (
  GN y348.b ((((((((F_z1 (GMachine.mk y348.s (NB y348.b) y348.steps) false (fun y833 r834=>
  let t835:Int:=(IntKind.i64.wrap (3 * t5))
  let t836:Int:=(IntKind.i64.wrap (1+ t835))
  let b837:Bool:=(98==t836)
  cond b837 (
  q_law19_IsaCounts_1 k t5 y833 r834) (
  k false))))))))))))))))))))) (
  GN y345.b ((((((((F_z1 (GMachine.mk y345.s (NB y345.b) y345.steps) false (fun y850 r851=>
  let t852:Int:=(IntKind.i64.wrap (3 * t5))
  let t853:Int:=(IntKind.i64.wrap (1+ t852))
  let b854:Bool:=(97==t853)
  cond b854 (
  q_law19_IsaCounts_1 k t5 y850 r851) (
  k false))))))))))))))))))))) (
  GN y342.b ((((((((F_z1 (GMachine.mk y342.s (NB y342.b) y342.steps) false (fun y867 r868=>
  let t869:Int:=(IntKind.i64.wrap (3 * t5))
  let t870:Int:=(IntKind.i64.wrap (1+ t869))
  let b871:Bool:=(96==t870)
  cond b871 (
  q_law19_IsaCounts_1 k t5 y867 r868) (
  k false))))))))))))))))))))) (
  GN y339.b ((((((((F_z1 (GMachine.mk y339.s (NB y339.b) y339.steps) false (fun y884 r885=>
  let t886:Int:=(IntKind.i64.wrap (3 * t5))
  let t887:Int:=(IntKind.i64.wrap (1+ t886))
  let b888:Bool:=(95==t887)
  cond b888 (
  q_law19_IsaCounts_1 k t5 y884 r885) (
  k false))))))))))))))))))))) (
  GN y336.b ((((((((F_z1 (GMachine.mk y336.s (NB y336.b) y336.steps) false (fun y901 r902=>
  let t903:Int:=(IntKind.i64.wrap (3 * t5))
  let t904:Int:=(IntKind.i64.wrap (1+ t903))
  let b905:Bool:=(94==t904)
  cond b905 (
  q_law19_IsaCounts_1 k t5 y901 r902) (
  k false))))))))))))))))))))) (
  GN y333.b ((((((((F_z1 (GMachine.mk y333.s (NB y333.b) y333.steps) false (fun y918 r919=>
  let t920:Int:=(IntKind.i64.wrap (3 * t5))
  let t921:Int:=(IntKind.i64.wrap (1+ t920))
  let b922:Bool:=(93==t921)
  cond b922 (
  q_law19_IsaCounts_1 k t5 y918 r919) (
  k false))))))))))))))))))))) (
  GN y330.b ((((((((F_z1 (GMachine.mk y330.s (NB y330.b) y330.steps) false (fun y935 r936=>
  let t937:Int:=(IntKind.i64.wrap (3 * t5))
  let t938:Int:=(IntKind.i64.wrap (1+ t937))
  let b939:Bool:=(92==t938)
  cond b939 (
  q_law19_IsaCounts_1 k t5 y935 r936) (
  k false))))))))))))))))))))) (
  GN y327.b ((((((((F_z1 (GMachine.mk y327.s (NB y327.b) y327.steps) false (fun y952 r953=>
  let t954:Int:=(IntKind.i64.wrap (3 * t5))
  let t955:Int:=(IntKind.i64.wrap (1+ t954))
  let b956:Bool:=(91==t955)
  cond b956 (
  q_law19_IsaCounts_1 k t5 y952 r953) (
  k false))))))))))))))))))))) (
  GN y324.b ((((((((F_z1 (GMachine.mk y324.s (NB y324.b) y324.steps) false (fun y969 r970=>
  let t971:Int:=(IntKind.i64.wrap (3 * t5))
  let t972:Int:=(IntKind.i64.wrap (1+ t971))
  let b973:Bool:=(90==t972)
  cond b973 (
  q_law19_IsaCounts_1 k t5 y969 r970) (
  k false))))))))))))))))))))) (
  GN y321.b ((((((((F_z1 (GMachine.mk y321.s (NB y321.b) y321.steps) false (fun y986 r987=>
  let t988:Int:=(IntKind.i64.wrap (3 * t5))
  let t989:Int:=(IntKind.i64.wrap (1+ t988))
  let b990:Bool:=(89==t989)
  cond b990 (
  q_law19_IsaCounts_1 k t5 y986 r987) (
  k false))))))))))))))))))))) (
  GN y318.b ((((((((F_z1 (GMachine.mk y318.s (NB y318.b) y318.steps) false (fun y1003 r1004=>
  let t1005:Int:=(IntKind.i64.wrap (3 * t5))
  let t1006:Int:=(IntKind.i64.wrap (1+ t1005))
  let b1007:Bool:=(88==t1006)
  cond b1007 (
  q_law19_IsaCounts_1 k t5 y1003 r1004) (
  k false))))))))))))))))))))) (
  GN y315.b ((((((((F_z1 (GMachine.mk y315.s (NB y315.b) y315.steps) false (fun y1020 r1021=>
  let t1022:Int:=(IntKind.i64.wrap (3 * t5))
  let t1023:Int:=(IntKind.i64.wrap (1+ t1022))
  let b1024:Bool:=(87==t1023)
  cond b1024 (
  q_law19_IsaCounts_1 k t5 y1020 r1021) (
  k false))))))))))))))))))))) (
  GN y312.b ((((((((F_z1 (GMachine.mk y312.s (NB y312.b) y312.steps) false (fun y1037 r1038=>
  let t1039:Int:=(IntKind.i64.wrap (3 * t5))
  let t1040:Int:=(IntKind.i64.wrap (1+ t1039))
  let b1041:Bool:=(86==t1040)
  cond b1041 (
  q_law19_IsaCounts_1 k t5 y1037 r1038) (
  k false))))))))))))))))))))) (
  GN y309.b ((((((((F_z1 (GMachine.mk y309.s (NB y309.b) y309.steps) false (fun y1054 r1055=>
  let t1056:Int:=(IntKind.i64.wrap (3 * t5))
  let t1057:Int:=(IntKind.i64.wrap (1+ t1056))
  let b1058:Bool:=(85==t1057)
  cond b1058 (
  q_law19_IsaCounts_1 k t5 y1054 r1055) (
  k false))))))))))))))))))))) (
  GN y306.b ((((((((F_z1 (GMachine.mk y306.s (NB y306.b) y306.steps) false (fun y1071 r1072=>
  let t1073:Int:=(IntKind.i64.wrap (3 * t5))
  let t1074:Int:=(IntKind.i64.wrap (1+ t1073))
  let b1075:Bool:=(84==t1074)
  cond b1075 (
  q_law19_IsaCounts_1 k t5 y1071 r1072) (
  k false))))))))))))))))))))) (
  GN y303.b ((((((((F_z1 (GMachine.mk y303.s (NB y303.b) y303.steps) false (fun y1088 r1089=>
  let t1090:Int:=(IntKind.i64.wrap (3 * t5))
  let t1091:Int:=(IntKind.i64.wrap (1+ t1090))
  let b1092:Bool:=(83==t1091)
  cond b1092 (
  q_law19_IsaCounts_1 k t5 y1088 r1089) (
  k false))))))))))))))))))))) (
  GN y300.b ((((((((F_z1 (GMachine.mk y300.s (NB y300.b) y300.steps) false (fun y1105 r1106=>
  let t1107:Int:=(IntKind.i64.wrap (3 * t5))
  let t1108:Int:=(IntKind.i64.wrap (1+ t1107))
  let b1109:Bool:=(82==t1108)
  cond b1109 (
  q_law19_IsaCounts_1 k t5 y1105 r1106) (
  k false))))))))))))))))))))) (
  GN y297.b ((((((((F_z1 (GMachine.mk y297.s (NB y297.b) y297.steps) false (fun y1122 r1123=>
  let t1124:Int:=(IntKind.i64.wrap (3 * t5))
  let t1125:Int:=(IntKind.i64.wrap (1+ t1124))
  let b1126:Bool:=(81==t1125)
  cond b1126 (
  q_law19_IsaCounts_1 k t5 y1122 r1123) (
  k false))))))))))))))))))))) (
  GN y294.b ((((((((F_z1 (GMachine.mk y294.s (NB y294.b) y294.steps) false (fun y1139 r1140=>
  let t1141:Int:=(IntKind.i64.wrap (3 * t5))
  let t1142:Int:=(IntKind.i64.wrap (1+ t1141))
  let b1143:Bool:=(80==t1142)
  cond b1143 (
  q_law19_IsaCounts_1 k t5 y1139 r1140) (
  k false))))))))))))))))))))) (
  GN y291.b ((((((((F_z1 (GMachine.mk y291.s (NB y291.b) y291.steps) false (fun y1156 r1157=>
  let t1158:Int:=(IntKind.i64.wrap (3 * t5))
  let t1159:Int:=(IntKind.i64.wrap (1+ t1158))
  let b1160:Bool:=(79==t1159)
  cond b1160 (
  q_law19_IsaCounts_1 k t5 y1156 r1157) (
  k false))))))))))))))))))))) (
  GN y288.b ((((((((F_z1 (GMachine.mk y288.s (NB y288.b) y288.steps) false (fun y1173 r1174=>
  let t1175:Int:=(IntKind.i64.wrap (3 * t5))
  let t1176:Int:=(IntKind.i64.wrap (1+ t1175))
  let b1177:Bool:=(78==t1176)
  cond b1177 (
  q_law19_IsaCounts_1 k t5 y1173 r1174) (
  k false))))))))))))))))))))) (
  GN y285.b ((((((((F_z1 (GMachine.mk y285.s (NB y285.b) y285.steps) false (fun y1190 r1191=>
  let t1192:Int:=(IntKind.i64.wrap (3 * t5))
  let t1193:Int:=(IntKind.i64.wrap (1+ t1192))
  let b1194:Bool:=(77==t1193)
  cond b1194 (
  q_law19_IsaCounts_1 k t5 y1190 r1191) (
  k false))))))))))))))))))))) (
  GN y282.b ((((((((F_z1 (GMachine.mk y282.s (NB y282.b) y282.steps) false (fun y1207 r1208=>
  let t1209:Int:=(IntKind.i64.wrap (3 * t5))
  let t1210:Int:=(IntKind.i64.wrap (1+ t1209))
  let b1211:Bool:=(76==t1210)
  cond b1211 (
  q_law19_IsaCounts_1 k t5 y1207 r1208) (
  k false))))))))))))))))))))) (
  GN y279.b ((((((((F_z1 (GMachine.mk y279.s (NB y279.b) y279.steps) false (fun y1224 r1225=>
  let t1226:Int:=(IntKind.i64.wrap (3 * t5))
  let t1227:Int:=(IntKind.i64.wrap (1+ t1226))
  let b1228:Bool:=(75==t1227)
  cond b1228 (
  q_law19_IsaCounts_1 k t5 y1224 r1225) (
  k false))))))))))))))))))))) (
  GN y276.b ((((((((F_z1 (GMachine.mk y276.s (NB y276.b) y276.steps) false (fun y1241 r1242=>
  let t1243:Int:=(IntKind.i64.wrap (3 * t5))
  let t1244:Int:=(IntKind.i64.wrap (1+ t1243))
  let b1245:Bool:=(74==t1244)
  cond b1245 (
  q_law19_IsaCounts_1 k t5 y1241 r1242) (
  k false))))))))))))))))))))) (
  GN y273.b ((((((((F_z1 (GMachine.mk y273.s (NB y273.b) y273.steps) false (fun y1258 r1259=>
  let t1260:Int:=(IntKind.i64.wrap (3 * t5))
  let t1261:Int:=(IntKind.i64.wrap (1+ t1260))
  let b1262:Bool:=(73==t1261)
  cond b1262 (
  q_law19_IsaCounts_1 k t5 y1258 r1259) (
  k false))))))))))))))))))))) (
  GN y270.b ((((((((F_z1 (GMachine.mk y270.s (NB y270.b) y270.steps) false (fun y1275 r1276=>
  let t1277:Int:=(IntKind.i64.wrap (3 * t5))
  let t1278:Int:=(IntKind.i64.wrap (1+ t1277))
  let b1279:Bool:=(72==t1278)
  cond b1279 (
  q_law19_IsaCounts_1 k t5 y1275 r1276) (
  k false))))))))))))))))))))) (
  GN y267.b ((((((((F_z1 (GMachine.mk y267.s (NB y267.b) y267.steps) false (fun y1292 r1293=>
  let t1294:Int:=(IntKind.i64.wrap (3 * t5))
  let t1295:Int:=(IntKind.i64.wrap (1+ t1294))
  let b1296:Bool:=(71==t1295)
  cond b1296 (
  q_law19_IsaCounts_1 k t5 y1292 r1293) (
  k false))))))))))))))))))))) (
  GN y264.b ((((((((F_z1 (GMachine.mk y264.s (NB y264.b) y264.steps) false (fun y1309 r1310=>
  let t1311:Int:=(IntKind.i64.wrap (3 * t5))
  let t1312:Int:=(IntKind.i64.wrap (1+ t1311))
  let b1313:Bool:=(70==t1312)
  cond b1313 (
  q_law19_IsaCounts_1 k t5 y1309 r1310) (
  k false))))))))))))))))))))) (
  GN y261.b ((((((((F_z1 (GMachine.mk y261.s (NB y261.b) y261.steps) false (fun y1326 r1327=>
  let t1328:Int:=(IntKind.i64.wrap (3 * t5))
  let t1329:Int:=(IntKind.i64.wrap (1+ t1328))
  let b1330:Bool:=(69==t1329)
  cond b1330 (
  q_law19_IsaCounts_1 k t5 y1326 r1327) (
  k false))))))))))))))))))))) (
  GN y258.b ((((((((F_z1 (GMachine.mk y258.s (NB y258.b) y258.steps) false (fun y1343 r1344=>
  let t1345:Int:=(IntKind.i64.wrap (3 * t5))
  let t1346:Int:=(IntKind.i64.wrap (1+ t1345))
  let b1347:Bool:=(68==t1346)
  cond b1347 (
  q_law19_IsaCounts_1 k t5 y1343 r1344) (
  k false))))))))))))))))))))) (
  GN y255.b ((((((((F_z1 (GMachine.mk y255.s (NB y255.b) y255.steps) false (fun y1360 r1361=>
  let t1362:Int:=(IntKind.i64.wrap (3 * t5))
  let t1363:Int:=(IntKind.i64.wrap (1+ t1362))
  let b1364:Bool:=(67==t1363)
  cond b1364 (
  q_law19_IsaCounts_1 k t5 y1360 r1361) (
  k false))))))))))))))))))))) (
  GN y252.b ((((((((F_z1 (GMachine.mk y252.s (NB y252.b) y252.steps) false (fun y1377 r1378=>
  let t1379:Int:=(IntKind.i64.wrap (3 * t5))
  let t1380:Int:=(IntKind.i64.wrap (1+ t1379))
  let b1381:Bool:=(66==t1380)
  cond b1381 (
  q_law19_IsaCounts_1 k t5 y1377 r1378) (
  k false))))))))))))))))))))) (
  GN y249.b ((((((((F_z1 (GMachine.mk y249.s (NB y249.b) y249.steps) false (fun y1394 r1395=>
  let t1396:Int:=(IntKind.i64.wrap (3 * t5))
  let t1397:Int:=(IntKind.i64.wrap (1+ t1396))
  let b1398:Bool:=(65==t1397)
  cond b1398 (
  q_law19_IsaCounts_1 k t5 y1394 r1395) (
  k false))))))))))))))))))))) (
  GN y246.b ((((((((F_z1 (GMachine.mk y246.s (NB y246.b) y246.steps) false (fun y1411 r1412=>
  let t1413:Int:=(IntKind.i64.wrap (3 * t5))
  let t1414:Int:=(IntKind.i64.wrap (1+ t1413))
  let b1415:Bool:=(64==t1414)
  cond b1415 (
  q_law19_IsaCounts_1 k t5 y1411 r1412) (
  k false))))))))))))))))))))) (
  GN y243.b ((((((((F_z1 (GMachine.mk y243.s (NB y243.b) y243.steps) false (fun y1428 r1429=>
  let t1430:Int:=(IntKind.i64.wrap (3 * t5))
  let t1431:Int:=(IntKind.i64.wrap (1+ t1430))
  let b1432:Bool:=(63==t1431)
  cond b1432 (
  q_law19_IsaCounts_1 k t5 y1428 r1429) (
  k false))))))))))))))))))))) (
  GN y240.b ((((((((F_z1 (GMachine.mk y240.s (NB y240.b) y240.steps) false (fun y1445 r1446=>
  let t1447:Int:=(IntKind.i64.wrap (3 * t5))
  let t1448:Int:=(IntKind.i64.wrap (1+ t1447))
  let b1449:Bool:=(62==t1448)
  cond b1449 (
  q_law19_IsaCounts_1 k t5 y1445 r1446) (
  k false))))))))))))))))))))) (
  GN y237.b ((((((((F_z1 (GMachine.mk y237.s (NB y237.b) y237.steps) false (fun y1462 r1463=>
  let t1464:Int:=(IntKind.i64.wrap (3 * t5))
  let t1465:Int:=(IntKind.i64.wrap (1+ t1464))
  let b1466:Bool:=(61==t1465)
  cond b1466 (
  q_law19_IsaCounts_1 k t5 y1462 r1463) (
  k false))))))))))))))))))))) (
  GN y234.b ((((((((F_z1 (GMachine.mk y234.s (NB y234.b) y234.steps) false (fun y1479 r1480=>
  let t1481:Int:=(IntKind.i64.wrap (3 * t5))
  let t1482:Int:=(IntKind.i64.wrap (1+ t1481))
  let b1483:Bool:=(60==t1482)
  cond b1483 (
  q_law19_IsaCounts_1 k t5 y1479 r1480) (
  k false))))))))))))))))))))) (
  GN y231.b ((((((((F_z1 (GMachine.mk y231.s (NB y231.b) y231.steps) false (fun y1496 r1497=>
  let t1498:Int:=(IntKind.i64.wrap (3 * t5))
  let t1499:Int:=(IntKind.i64.wrap (1+ t1498))
  let b1500:Bool:=(59==t1499)
  cond b1500 (
  q_law19_IsaCounts_1 k t5 y1496 r1497) (
  k false))))))))))))))))))))) (
  GN y228.b ((((((((F_z1 (GMachine.mk y228.s (NB y228.b) y228.steps) false (fun y1513 r1514=>
  let t1515:Int:=(IntKind.i64.wrap (3 * t5))
  let t1516:Int:=(IntKind.i64.wrap (1+ t1515))
  let b1517:Bool:=(58==t1516)
  cond b1517 (
  q_law19_IsaCounts_1 k t5 y1513 r1514) (
  k false))))))))))))))))))))) (
  GN y225.b ((((((((F_z1 (GMachine.mk y225.s (NB y225.b) y225.steps) false (fun y1530 r1531=>
  let t1532:Int:=(IntKind.i64.wrap (3 * t5))
  let t1533:Int:=(IntKind.i64.wrap (1+ t1532))
  let b1534:Bool:=(57==t1533)
  cond b1534 (
  q_law19_IsaCounts_1 k t5 y1530 r1531) (
  k false))))))))))))))))))))) (
  GN y222.b ((((((((F_z1 (GMachine.mk y222.s (NB y222.b) y222.steps) false (fun y1547 r1548=>
  let t1549:Int:=(IntKind.i64.wrap (3 * t5))
  let t1550:Int:=(IntKind.i64.wrap (1+ t1549))
  let b1551:Bool:=(56==t1550)
  cond b1551 (
  q_law19_IsaCounts_1 k t5 y1547 r1548) (
  k false))))))))))))))))))))) (
  GN y219.b ((((((((F_z1 (GMachine.mk y219.s (NB y219.b) y219.steps) false (fun y1564 r1565=>
  let t1566:Int:=(IntKind.i64.wrap (3 * t5))
  let t1567:Int:=(IntKind.i64.wrap (1+ t1566))
  let b1568:Bool:=(55==t1567)
  cond b1568 (
  q_law19_IsaCounts_1 k t5 y1564 r1565) (
  k false))))))))))))))))))))) (
  GN y216.b ((((((((F_z1 (GMachine.mk y216.s (NB y216.b) y216.steps) false (fun y1581 r1582=>
  let t1583:Int:=(IntKind.i64.wrap (3 * t5))
  let t1584:Int:=(IntKind.i64.wrap (1+ t1583))
  let b1585:Bool:=(54==t1584)
  cond b1585 (
  q_law19_IsaCounts_1 k t5 y1581 r1582) (
  k false))))))))))))))))))))) (
  GN y213.b ((((((((F_z1 (GMachine.mk y213.s (NB y213.b) y213.steps) false (fun y1598 r1599=>
  let t1600:Int:=(IntKind.i64.wrap (3 * t5))
  let t1601:Int:=(IntKind.i64.wrap (1+ t1600))
  let b1602:Bool:=(53==t1601)
  cond b1602 (
  q_law19_IsaCounts_1 k t5 y1598 r1599) (
  k false))))))))))))))))))))) (
  GN y210.b ((((((((F_z1 (GMachine.mk y210.s (NB y210.b) y210.steps) false (fun y1615 r1616=>
  let t1617:Int:=(IntKind.i64.wrap (3 * t5))
  let t1618:Int:=(IntKind.i64.wrap (1+ t1617))
  let b1619:Bool:=(52==t1618)
  cond b1619 (
  q_law19_IsaCounts_1 k t5 y1615 r1616) (
  k false))))))))))))))))))))) (
  GN y207.b ((((((((F_z1 (GMachine.mk y207.s (NB y207.b) y207.steps) false (fun y1632 r1633=>
  let t1634:Int:=(IntKind.i64.wrap (3 * t5))
  let t1635:Int:=(IntKind.i64.wrap (1+ t1634))
  let b1636:Bool:=(51==t1635)
  cond b1636 (
  q_law19_IsaCounts_1 k t5 y1632 r1633) (
  k false))))))))))))))))))))) (
  GN y204.b ((((((((F_z1 (GMachine.mk y204.s (NB y204.b) y204.steps) false (fun y1649 r1650=>
  let t1651:Int:=(IntKind.i64.wrap (3 * t5))
  let t1652:Int:=(IntKind.i64.wrap (1+ t1651))
  let b1653:Bool:=(50==t1652)
  cond b1653 (
  q_law19_IsaCounts_1 k t5 y1649 r1650) (
  k false))))))))))))))))))))) (
  GN y201.b ((((((((F_z1 (GMachine.mk y201.s (NB y201.b) y201.steps) false (fun y1666 r1667=>
  let t1668:Int:=(IntKind.i64.wrap (3 * t5))
  let t1669:Int:=(IntKind.i64.wrap (1+ t1668))
  let b1670:Bool:=(49==t1669)
  cond b1670 (
  q_law19_IsaCounts_1 k t5 y1666 r1667) (
  k false))))))))))))))))))))) (
  GN y198.b ((((((((F_z1 (GMachine.mk y198.s (NB y198.b) y198.steps) false (fun y1683 r1684=>
  let t1685:Int:=(IntKind.i64.wrap (3 * t5))
  let t1686:Int:=(IntKind.i64.wrap (1+ t1685))
  let b1687:Bool:=(48==t1686)
  cond b1687 (
  q_law19_IsaCounts_1 k t5 y1683 r1684) (
  k false))))))))))))))))))))) (
  GN y195.b ((((((((F_z1 (GMachine.mk y195.s (NB y195.b) y195.steps) false (fun y1700 r1701=>
  let t1702:Int:=(IntKind.i64.wrap (3 * t5))
  let t1703:Int:=(IntKind.i64.wrap (1+ t1702))
  let b1704:Bool:=(47==t1703)
  cond b1704 (
  q_law19_IsaCounts_1 k t5 y1700 r1701) (
  k false))))))))))))))))))))) (
  GN y192.b ((((((((F_z1 (GMachine.mk y192.s (NB y192.b) y192.steps) false (fun y1717 r1718=>
  let t1719:Int:=(IntKind.i64.wrap (3 * t5))
  let t1720:Int:=(IntKind.i64.wrap (1+ t1719))
  let b1721:Bool:=(46==t1720)
  cond b1721 (
  q_law19_IsaCounts_1 k t5 y1717 r1718) (
  k false))))))))))))))))))))) (
  GN y189.b ((((((((F_z1 (GMachine.mk y189.s (NB y189.b) y189.steps) false (fun y1734 r1735=>
  let t1736:Int:=(IntKind.i64.wrap (3 * t5))
  let t1737:Int:=(IntKind.i64.wrap (1+ t1736))
  let b1738:Bool:=(45==t1737)
  cond b1738 (
  q_law19_IsaCounts_1 k t5 y1734 r1735) (
  k false))))))))))))))))))))) (
  GN y186.b ((((((((F_z1 (GMachine.mk y186.s (NB y186.b) y186.steps) false (fun y1751 r1752=>
  let t1753:Int:=(IntKind.i64.wrap (3 * t5))
  let t1754:Int:=(IntKind.i64.wrap (1+ t1753))
  let b1755:Bool:=(44==t1754)
  cond b1755 (
  q_law19_IsaCounts_1 k t5 y1751 r1752) (
  k false))))))))))))))))))))) (
  GN y183.b ((((((((F_z1 (GMachine.mk y183.s (NB y183.b) y183.steps) false (fun y1768 r1769=>
  let t1770:Int:=(IntKind.i64.wrap (3 * t5))
  let t1771:Int:=(IntKind.i64.wrap (1+ t1770))
  let b1772:Bool:=(43==t1771)
  cond b1772 (
  q_law19_IsaCounts_1 k t5 y1768 r1769) (
  k false))))))))))))))))))))) (
  GN y180.b ((((((((F_z1 (GMachine.mk y180.s (NB y180.b) y180.steps) false (fun y1785 r1786=>
  let t1787:Int:=(IntKind.i64.wrap (3 * t5))
  let t1788:Int:=(IntKind.i64.wrap (1+ t1787))
  let b1789:Bool:=(42==t1788)
  cond b1789 (
  q_law19_IsaCounts_1 k t5 y1785 r1786) (
  k false))))))))))))))))))))) (
  GN y177.b ((((((((F_z1 (GMachine.mk y177.s (NB y177.b) y177.steps) false (fun y1802 r1803=>
  let t1804:Int:=(IntKind.i64.wrap (3 * t5))
  let t1805:Int:=(IntKind.i64.wrap (1+ t1804))
  let b1806:Bool:=(41==t1805)
  cond b1806 (
  q_law19_IsaCounts_1 k t5 y1802 r1803) (
  k false))))))))))))))))))))) (
  GN y174.b ((((((((F_z1 (GMachine.mk y174.s (NB y174.b) y174.steps) false (fun y1819 r1820=>
  let t1821:Int:=(IntKind.i64.wrap (3 * t5))
  let t1822:Int:=(IntKind.i64.wrap (1+ t1821))
  let b1823:Bool:=(40==t1822)
  cond b1823 (
  q_law19_IsaCounts_1 k t5 y1819 r1820) (
  k false))))))))))))))))))))) (
  GN y171.b ((((((((F_z1 (GMachine.mk y171.s (NB y171.b) y171.steps) false (fun y1836 r1837=>
  let t1838:Int:=(IntKind.i64.wrap (3 * t5))
  let t1839:Int:=(IntKind.i64.wrap (1+ t1838))
  let b1840:Bool:=(39==t1839)
  cond b1840 (
  q_law19_IsaCounts_1 k t5 y1836 r1837) (
  k false))))))))))))))))))))) (
  GN y168.b ((((((((F_z1 (GMachine.mk y168.s (NB y168.b) y168.steps) false (fun y1853 r1854=>
  let t1855:Int:=(IntKind.i64.wrap (3 * t5))
  let t1856:Int:=(IntKind.i64.wrap (1+ t1855))
  let b1857:Bool:=(38==t1856)
  cond b1857 (
  q_law19_IsaCounts_1 k t5 y1853 r1854) (
  k false))))))))))))))))))))) (
  GN y165.b ((((((((F_z1 (GMachine.mk y165.s (NB y165.b) y165.steps) false (fun y1870 r1871=>
  let t1872:Int:=(IntKind.i64.wrap (3 * t5))
  let t1873:Int:=(IntKind.i64.wrap (1+ t1872))
  let b1874:Bool:=(37==t1873)
  cond b1874 (
  q_law19_IsaCounts_1 k t5 y1870 r1871) (
  k false))))))))))))))))))))) (
  GN y162.b ((((((((F_z1 (GMachine.mk y162.s (NB y162.b) y162.steps) false (fun y1887 r1888=>
  let t1889:Int:=(IntKind.i64.wrap (3 * t5))
  let t1890:Int:=(IntKind.i64.wrap (1+ t1889))
  let b1891:Bool:=(36==t1890)
  cond b1891 (
  q_law19_IsaCounts_1 k t5 y1887 r1888) (
  k false))))))))))))))))))))) (
  GN y159.b ((((((((F_z1 (GMachine.mk y159.s (NB y159.b) y159.steps) false (fun y1904 r1905=>
  let t1906:Int:=(IntKind.i64.wrap (3 * t5))
  let t1907:Int:=(IntKind.i64.wrap (1+ t1906))
  let b1908:Bool:=(35==t1907)
  cond b1908 (
  q_law19_IsaCounts_1 k t5 y1904 r1905) (
  k false))))))))))))))))))))) (
  GN y156.b ((((((((F_z1 (GMachine.mk y156.s (NB y156.b) y156.steps) false (fun y1921 r1922=>
  let t1923:Int:=(IntKind.i64.wrap (3 * t5))
  let t1924:Int:=(IntKind.i64.wrap (1+ t1923))
  let b1925:Bool:=(34==t1924)
  cond b1925 (
  q_law19_IsaCounts_1 k t5 y1921 r1922) (
  k false))))))))))))))))))))) (
  GN y153.b ((((((((F_z1 (GMachine.mk y153.s (NB y153.b) y153.steps) false (fun y1938 r1939=>
  let t1940:Int:=(IntKind.i64.wrap (3 * t5))
  let t1941:Int:=(IntKind.i64.wrap (1+ t1940))
  let b1942:Bool:=(33==t1941)
  cond b1942 (
  q_law19_IsaCounts_1 k t5 y1938 r1939) (
  k false))))))))))))))))))))) (
  GN y150.b ((((((((F_z1 (GMachine.mk y150.s (NB y150.b) y150.steps) false (fun y1955 r1956=>
  let t1957:Int:=(IntKind.i64.wrap (3 * t5))
  let t1958:Int:=(IntKind.i64.wrap (1+ t1957))
  let b1959:Bool:=(32==t1958)
  cond b1959 (
  q_law19_IsaCounts_1 k t5 y1955 r1956) (
  k false))))))))))))))))))))) (
  GN y147.b ((((((((F_z1 (GMachine.mk y147.s (NB y147.b) y147.steps) false (fun y1972 r1973=>
  let t1974:Int:=(IntKind.i64.wrap (3 * t5))
  let t1975:Int:=(IntKind.i64.wrap (1+ t1974))
  let b1976:Bool:=(31==t1975)
  cond b1976 (
  q_law19_IsaCounts_1 k t5 y1972 r1973) (
  k false))))))))))))))))))))) (
  GN y144.b ((((((((F_z1 (GMachine.mk y144.s (NB y144.b) y144.steps) false (fun y1989 r1990=>
  let t1991:Int:=(IntKind.i64.wrap (3 * t5))
  let t1992:Int:=(IntKind.i64.wrap (1+ t1991))
  let b1993:Bool:=(30==t1992)
  cond b1993 (
  q_law19_IsaCounts_1 k t5 y1989 r1990) (
  k false))))))))))))))))))))) (
  GN y141.b ((((((((F_z1 (GMachine.mk y141.s (NB y141.b) y141.steps) false (fun y2006 r2007=>
  let t2008:Int:=(IntKind.i64.wrap (3 * t5))
  let t2009:Int:=(IntKind.i64.wrap (1+ t2008))
  let b2010:Bool:=(29==t2009)
  cond b2010 (
  q_law19_IsaCounts_1 k t5 y2006 r2007) (
  k false))))))))))))))))))))) (
  GN y138.b ((((((((F_z1 (GMachine.mk y138.s (NB y138.b) y138.steps) false (fun y2023 r2024=>
  let t2025:Int:=(IntKind.i64.wrap (3 * t5))
  let t2026:Int:=(IntKind.i64.wrap (1+ t2025))
  let b2027:Bool:=(28==t2026)
  cond b2027 (
  q_law19_IsaCounts_1 k t5 y2023 r2024) (
  k false))))))))))))))))))))) (
  GN y135.b ((((((((F_z1 (GMachine.mk y135.s (NB y135.b) y135.steps) false (fun y2040 r2041=>
  let t2042:Int:=(IntKind.i64.wrap (3 * t5))
  let t2043:Int:=(IntKind.i64.wrap (1+ t2042))
  let b2044:Bool:=(27==t2043)
  cond b2044 (
  q_law19_IsaCounts_1 k t5 y2040 r2041) (
  k false))))))))))))))))))))) (
  GN y132.b ((((((((F_z1 (GMachine.mk y132.s (NB y132.b) y132.steps) false (fun y2057 r2058=>
  let t2059:Int:=(IntKind.i64.wrap (3 * t5))
  let t2060:Int:=(IntKind.i64.wrap (1+ t2059))
  let b2061:Bool:=(26==t2060)
  cond b2061 (
  q_law19_IsaCounts_1 k t5 y2057 r2058) (
  k false))))))))))))))))))))) (
  GN y129.b ((((((((F_z1 (GMachine.mk y129.s (NB y129.b) y129.steps) false (fun y2074 r2075=>
  let t2076:Int:=(IntKind.i64.wrap (3 * t5))
  let t2077:Int:=(IntKind.i64.wrap (1+ t2076))
  let b2078:Bool:=(25==t2077)
  cond b2078 (
  q_law19_IsaCounts_1 k t5 y2074 r2075) (
  k false))))))))))))))))))))) (
  GN y126.b ((((((((F_z1 (GMachine.mk y126.s (NB y126.b) y126.steps) false (fun y2091 r2092=>
  let t2093:Int:=(IntKind.i64.wrap (3 * t5))
  let t2094:Int:=(IntKind.i64.wrap (1+ t2093))
  let b2095:Bool:=(24==t2094)
  cond b2095 (
  q_law19_IsaCounts_1 k t5 y2091 r2092) (
  k false))))))))))))))))))))) (
  GN y123.b ((((((((F_z1 (GMachine.mk y123.s (NB y123.b) y123.steps) false (fun y2108 r2109=>
  let t2110:Int:=(IntKind.i64.wrap (3 * t5))
  let t2111:Int:=(IntKind.i64.wrap (1+ t2110))
  let b2112:Bool:=(23==t2111)
  cond b2112 (
  q_law19_IsaCounts_1 k t5 y2108 r2109) (
  k false))))))))))))))))))))) (
  GN y120.b ((((((((F_z1 (GMachine.mk y120.s (NB y120.b) y120.steps) false (fun y2125 r2126=>
  let t2127:Int:=(IntKind.i64.wrap (3 * t5))
  let t2128:Int:=(IntKind.i64.wrap (1+ t2127))
  let b2129:Bool:=(22==t2128)
  cond b2129 (
  q_law19_IsaCounts_1 k t5 y2125 r2126) (
  k false))))))))))))))))))))) (
  GN y117.b ((((((((F_z1 (GMachine.mk y117.s (NB y117.b) y117.steps) false (fun y2142 r2143=>
  let t2144:Int:=(IntKind.i64.wrap (3 * t5))
  let t2145:Int:=(IntKind.i64.wrap (1+ t2144))
  let b2146:Bool:=(21==t2145)
  cond b2146 (
  q_law19_IsaCounts_1 k t5 y2142 r2143) (
  k false))))))))))))))))))))) (
  GN y114.b ((((((((F_z1 (GMachine.mk y114.s (NB y114.b) y114.steps) false (fun y2159 r2160=>
  let t2161:Int:=(IntKind.i64.wrap (3 * t5))
  let t2162:Int:=(IntKind.i64.wrap (1+ t2161))
  let b2163:Bool:=(20==t2162)
  cond b2163 (
  q_law19_IsaCounts_1 k t5 y2159 r2160) (
  k false))))))))))))))))))))) (
  GN y111.b ((((((((F_z1 (GMachine.mk y111.s (NB y111.b) y111.steps) false (fun y2176 r2177=>
  let t2178:Int:=(IntKind.i64.wrap (3 * t5))
  let t2179:Int:=(IntKind.i64.wrap (1+ t2178))
  let b2180:Bool:=(19==t2179)
  cond b2180 (
  q_law19_IsaCounts_1 k t5 y2176 r2177) (
  k false))))))))))))))))))))) (
  GN y108.b ((((((((F_z1 (GMachine.mk y108.s (NB y108.b) y108.steps) false (fun y2193 r2194=>
  let t2195:Int:=(IntKind.i64.wrap (3 * t5))
  let t2196:Int:=(IntKind.i64.wrap (1+ t2195))
  let b2197:Bool:=(18==t2196)
  cond b2197 (
  q_law19_IsaCounts_1 k t5 y2193 r2194) (
  k false))))))))))))))))))))) (
  GN y105.b ((((((((F_z1 (GMachine.mk y105.s (NB y105.b) y105.steps) false (fun y2210 r2211=>
  let t2212:Int:=(IntKind.i64.wrap (3 * t5))
  let t2213:Int:=(IntKind.i64.wrap (1+ t2212))
  let b2214:Bool:=(17==t2213)
  cond b2214 (
  q_law19_IsaCounts_1 k t5 y2210 r2211) (
  k false))))))))))))))))))))) (
  GN y102.b ((((((((F_z1 (GMachine.mk y102.s (NB y102.b) y102.steps) false (fun y2227 r2228=>
  let t2229:Int:=(IntKind.i64.wrap (3 * t5))
  let t2230:Int:=(IntKind.i64.wrap (1+ t2229))
  let b2231:Bool:=(16==t2230)
  cond b2231 (
  q_law19_IsaCounts_1 k t5 y2227 r2228) (
  k false))))))))))))))))))))) (
  GN y99.b ((((((((F_z1 (GMachine.mk y99.s (NB y99.b) y99.steps) false (fun y2244 r2245=>
  let t2246:Int:=(IntKind.i64.wrap (3 * t5))
  let t2247:Int:=(IntKind.i64.wrap (1+ t2246))
  let b2248:Bool:=(15==t2247)
  cond b2248 (
  q_law19_IsaCounts_1 k t5 y2244 r2245) (
  k false))))))))))))))))))))) (
  GN y96.b ((((((((F_z1 (GMachine.mk y96.s (NB y96.b) y96.steps) false (fun y2261 r2262=>
  let t2263:Int:=(IntKind.i64.wrap (3 * t5))
  let t2264:Int:=(IntKind.i64.wrap (1+ t2263))
  let b2265:Bool:=(14==t2264)
  cond b2265 (
  q_law19_IsaCounts_1 k t5 y2261 r2262) (
  k false))))))))))))))))))))) (
  GN y93.b ((((((((F_z1 (GMachine.mk y93.s (NB y93.b) y93.steps) false (fun y2278 r2279=>
  let t2280:Int:=(IntKind.i64.wrap (3 * t5))
  let t2281:Int:=(IntKind.i64.wrap (1+ t2280))
  let b2282:Bool:=(13==t2281)
  cond b2282 (
  q_law19_IsaCounts_1 k t5 y2278 r2279) (
  k false))))))))))))))))))))) (
  GN y90.b ((((((((F_z1 (GMachine.mk y90.s (NB y90.b) y90.steps) false (fun y2295 r2296=>
  let t2297:Int:=(IntKind.i64.wrap (3 * t5))
  let t2298:Int:=(IntKind.i64.wrap (1+ t2297))
  let b2299:Bool:=(12==t2298)
  cond b2299 (
  q_law19_IsaCounts_1 k t5 y2295 r2296) (
  k false))))))))))))))))))))) (
  GN y87.b ((((((((F_z1 (GMachine.mk y87.s (NB y87.b) y87.steps) false (fun y2312 r2313=>
  let t2314:Int:=(IntKind.i64.wrap (3 * t5))
  let t2315:Int:=(IntKind.i64.wrap (1+ t2314))
  let b2316:Bool:=(11==t2315)
  cond b2316 (
  q_law19_IsaCounts_1 k t5 y2312 r2313) (
  k false))))))))))))))))))))) (
  GN y84.b ((((((((F_z1 (GMachine.mk y84.s (NB y84.b) y84.steps) false (fun y2329 r2330=>
  let t2331:Int:=(IntKind.i64.wrap (3 * t5))
  let t2332:Int:=(IntKind.i64.wrap (1+ t2331))
  let b2333:Bool:=(10==t2332)
  cond b2333 (
  q_law19_IsaCounts_1 k t5 y2329 r2330) (
  k false))))))))))))))))))))) (
  GN y81.b ((((((((F_z1 (GMachine.mk y81.s (NB y81.b) y81.steps) false (fun y2346 r2347=>
  let t2348:Int:=(IntKind.i64.wrap (3 * t5))
  let t2349:Int:=(IntKind.i64.wrap (1+ t2348))
  let b2350:Bool:=(9==t2349)
  cond b2350 (
  q_law19_IsaCounts_1 k t5 y2346 r2347) (
  k false))))))))))))))))))))) (
  GN y78.b ((((((((F_z1 (GMachine.mk y78.s (NB y78.b) y78.steps) false (fun y2363 r2364=>
  let t2365:Int:=(IntKind.i64.wrap (3 * t5))
  let t2366:Int:=(IntKind.i64.wrap (1+ t2365))
  let b2367:Bool:=(8==t2366)
  cond b2367 (
  q_law19_IsaCounts_1 k t5 y2363 r2364) (
  k false))))))))))))))))))))) (
  GN y75.b ((((((((F_z1 (GMachine.mk y75.s (NB y75.b) y75.steps) false (fun y2380 r2381=>
  let t2382:Int:=(IntKind.i64.wrap (3 * t5))
  let t2383:Int:=(IntKind.i64.wrap (1+ t2382))
  let b2384:Bool:=(7==t2383)
  cond b2384 (
  q_law19_IsaCounts_1 k t5 y2380 r2381) (
  k false))))))))))))))))))))) (
  GN y72.b ((((((((F_z1 (GMachine.mk y72.s (NB y72.b) y72.steps) false (fun y2397 r2398=>
  let t2399:Int:=(IntKind.i64.wrap (3 * t5))
  let t2400:Int:=(IntKind.i64.wrap (1+ t2399))
  let b2401:Bool:=(6==t2400)
  cond b2401 (
  q_law19_IsaCounts_1 k t5 y2397 r2398) (
  k false))))))))))))))))))))) (
  GN y69.b ((((((((F_z1 (GMachine.mk y69.s (NB y69.b) y69.steps) false (fun y2414 r2415=>
  let t2416:Int:=(IntKind.i64.wrap (3 * t5))
  let t2417:Int:=(IntKind.i64.wrap (1+ t2416))
  let b2418:Bool:=(5==t2417)
  cond b2418 (
  q_law19_IsaCounts_1 k t5 y2414 r2415) (
  k false))))))))))))))))))))) (
  GN y66.b ((((((((F_z1 (GMachine.mk y66.s (NB y66.b) y66.steps) false (fun y2431 r2432=>
  let t2433:Int:=(IntKind.i64.wrap (3 * t5))
  let t2434:Int:=(IntKind.i64.wrap (1+ t2433))
  let b2435:Bool:=(4==t2434)
  cond b2435 (
  q_law19_IsaCounts_1 k t5 y2431 r2432) (
  k false))))))))))))))))))))) (
  GN y63.b ((((((((F_z1 (GMachine.mk y63.s (NB y63.b) y63.steps) false (fun y2448 r2449=>
  let t2450:Int:=(IntKind.i64.wrap (3 * t5))
  let t2451:Int:=(IntKind.i64.wrap (1+ t2450))
  let b2452:Bool:=(3==t2451)
  cond b2452 (
  q_law19_IsaCounts_1 k t5 y2448 r2449) (
  k false))))))))))))))))))))) (
  GN y60.b ((((((((F_z1 (GMachine.mk y60.s (NB y60.b) y60.steps) false (fun y2465 r2466=>
  let t2467:Int:=(IntKind.i64.wrap (3 * t5))
  let t2468:Int:=(IntKind.i64.wrap (1+ t2467))
  let b2469:Bool:=(2==t2468)
  cond b2469 (
  q_law19_IsaCounts_1 k t5 y2465 r2466) (
  k false))))))))))))))))))))
def q_law19_IsaCounts_3 {α:Type} (F_z1:Sg_z1 α) (k:Bool→R α) (y57:GMachine) (t5:Int):R α:=
  GN y57.b ((((((((F_z1 (GMachine.mk y57.s (NB y57.b) y57.steps) false (fun y2482 r2483=>
  let t2484:Int:=(IntKind.i64.wrap (3 * t5))
  let t2485:Int:=(IntKind.i64.wrap (1+ t2484))
  let b2486:Bool:=(1==t2485)
  cond b2486 (
  q_law19_IsaCounts_1 k t5 y2482 r2483) (
  k false))))))))))
def p_z32 {α:Type} (F_ze:Sg_ze α) (F_zc:Sg_zc α) (F_z7:Sg_z7 α) (F_za:Sg_za α) (F_z6:Sg_z6 α) (F_zd:Sg_zd α) (F_z1:Sg_z1 α) (x0:Int) (k:Bool→R α):R α:=
  F_ze  (fun r1=>
  let b2:Bool:=(!r1)
  cond b2 (
  k false) (
  let t3:Int:=(Int.tmod x0 40)
  let t4:Int:=(IntKind.i64.wrap t3)
  let t5:Int:=(IntKind.i64.wrap (t4+ 1))
  F_zc (GInsn.mk 22 1 0 0 t5 0) (fun r6 r7=>
  let t8:Int:=(IntKind.u64.wrap r6)
  F_z7 (fun _=>0) 0 4 t8 (fun f9 r10=>
  let t11:Int:=(IntKind.u64.wrap r6)
  F_za (fun _=>0) 0 4 t11 (fun f12=>
  F_zc (GInsn.mk 35 2 2 1 0 0) (fun r13 r14=>
  let t15:Int:=(IntKind.u64.wrap r13)
  F_z7 f9 4 4 t15 (fun f16 r17=>
  let t18:Int:=(IntKind.u64.wrap r13)
  F_za f12 4 4 t18 (fun f19=>
  F_zc (GInsn.mk 22 1 1 0 (-1) 0) (fun r20 r21=>
  let t22:Int:=(IntKind.u64.wrap r20)
  F_z7 f16 8 4 t22 (fun f23 r24=>
  let t25:Int:=(IntKind.u64.wrap r20)
  F_za f19 8 4 t25 (fun f26=>
  F_zc (GInsn.mk 6 0 1 0 (-8) 0) (fun r27 r28=>
  let t29:Int:=(IntKind.u64.wrap r27)
  F_z7 f23 12 4 t29 (fun f30 r31=>
  let t32:Int:=(IntKind.u64.wrap r27)
  F_za f26 12 4 t32 (fun f33=>
  F_zc (GInsn.mk 52 0 0 0 0 0) (fun r34 r35=>
  let t36:Int:=(IntKind.u64.wrap r34)
  F_z7 f30 16 4 t36 (fun f37 r38=>
  let t39:Int:=(IntKind.u64.wrap r34)
  F_za f33 16 4 t39 (fun f40=>
  let t41:Int:=((ByteArray.size (ByteArray.mk #[105,110,112,117,116]):Nat):Int)
  let t42:Int:=(pickmx false t41 64)
  cond (decide (0≤t42) && decide (t42≤((ByteArray.size (ByteArray.mk #[105,110,112,117,116]):Nat):Int))) (
  cond (decide (0≤0) && decide (0≤t42)) (
  let t43:ByteArray:=(ByteArray.extract (ByteArray.mk #[105,110,112,117,116]) 0 (Int.toNat t42))
  cond (Nat.beq (ByteArray.size t43) 0) (
  let t44:Int:=(IntKind.i64.wrap (0+ t42))
  let t45:Int:=((ByteArray.size (ByteArray.mk #[105,110,112,117,116]):Nat):Int)
  let t46:Int:=(pickmx false t45 64)
  cond (decide (0≤t46) && decide (t46≤((ByteArray.size (ByteArray.mk #[105,110,112,117,116]):Nat):Int))) (
  cond (decide (0≤0) && decide (0≤t46)) (
  let t47:ByteArray:=(ByteArray.extract (ByteArray.mk #[105,110,112,117,116]) 0 (Int.toNat t46))
  cond (Nat.ble (ByteArray.size .empty+ ByteArray.size t47) 9223372036854775807) (
  let t48:ByteArray:=(.empty++ t47)
  let t49:Int:=(IntKind.i64.wrap (0+ t46))
  F_z6 (GState.mk (fun _=>0) 0 3 false (fun _=>0) 0) (fun r50=>
  F_zd (GState.mk (fun _=>0) 0 3 false (fun _=>0) 0) (fun r51=>
  let t52:Int:=(IntKind.i64.wrap (3 * t5))
  let t53:Int:=(IntKind.i64.wrap (1+ t52))
  let t54:Int:=(pickmx true t53 0)
  let t55:Int:=(pickmx false t54 300)
  let b56:Bool:=(ltB 0 t55)
  cond b56 (
  F_z1 (GMachine.mk r50 (GBus.mk f37 0 18446744073709551615 (upd (upd (upd (fun _=>(GPort.mk (Row.mk 0 fun _=>0) (Row.mk 0 fun _=>0) t44)) 1 (GPort.mk (Row.mk 0 fun _=>0) (Row.mk 0 fun _=>0) 0)) 2 (GPort.mk (Row.mk 0 fun _=>0) (Row.mk 0 fun _=>0) 0)) 3 (GPort.mk (Row.mk 0 fun _=>0) (Row.mk 0 fun _=>0) 0))) 0) false (fun y57 r58=>
  let b59:Bool:=(ltB 1 t55)
  cond b59 (
  q_law19_IsaCounts_2 F_z1 k y57 t55 t5) (
  q_law19_IsaCounts_3 F_z1 k y57 t5))) (
  F_z1 (GMachine.mk r50 (GBus.mk f37 0 18446744073709551615 (upd (upd (upd (fun _=>(GPort.mk (Row.mk 0 fun _=>0) (Row.mk 0 fun _=>0) t44)) 1 (GPort.mk (Row.mk 0 fun _=>0) (Row.mk 0 fun _=>0) 0)) 2 (GPort.mk (Row.mk 0 fun _=>0) (Row.mk 0 fun _=>0) 0)) 3 (GPort.mk (Row.mk 0 fun _=>0) (Row.mk 0 fun _=>0) 0))) 0) false (fun y2499 r2500=>
  let t2501:Int:=(IntKind.i64.wrap (3 * t5))
  let t2502:Int:=(IntKind.i64.wrap (1+ t2501))
  let b2503:Bool:=(0==t2502)
  cond b2503 (
  q_law19_IsaCounts_1 k t5 y2499 r2500) (
  k false)))))) none) none) none) (
  cond (decide ((ByteArray.size t43) * 1≤140737488355328) && decide ((ByteArray.size t43)≤4611686018427387904)) (
  let t2516:Int:=(IntKind.i64.wrap (0+ t42))
  let t2517:Int:=((ByteArray.size (ByteArray.mk #[105,110,112,117,116]):Nat):Int)
  let t2518:Int:=(pickmx false t2517 64)
  cond (decide (0≤t2518) && decide (t2518≤((ByteArray.size (ByteArray.mk #[105,110,112,117,116]):Nat):Int))) (
  cond (decide (0≤0) && decide (0≤t2518)) (
  let t2519:ByteArray:=(ByteArray.extract (ByteArray.mk #[105,110,112,117,116]) 0 (Int.toNat t2518))
  cond (Nat.ble (ByteArray.size .empty+ ByteArray.size t2519) 9223372036854775807) (
  let t2520:ByteArray:=(.empty++ t2519)
  let t2521:Int:=(IntKind.i64.wrap (0+ t2518))
  F_z6 (GState.mk (fun _=>0) 0 3 false (fun _=>0) 0) (fun r2522=>
  F_zd (GState.mk (fun _=>0) 0 3 false (fun _=>0) 0) (fun r2523=>
  let t2524:Int:=(IntKind.i64.wrap (3 * t5))
  let t2525:Int:=(IntKind.i64.wrap (1+ t2524))
  let t2526:Int:=(pickmx true t2525 0)
  let t2527:Int:=(pickmx false t2526 300)
  let b2528:Bool:=(ltB 0 t2527)
  cond b2528 (
  gP (ByteArray.size t43) (ByteArray.size t43) (
  F_z1 (GMachine.mk r2522 (GBus.mk f37 0 18446744073709551615 (upd (upd (upd (fun _=>(GPort.mk (Row.mk (ByteArray.size t43) (bytesAt t43)) (Row.mk 0 fun _=>0) t2516)) 1 (GPort.mk (Row.mk 0 fun _=>0) (Row.mk 0 fun _=>0) 0)) 2 (GPort.mk (Row.mk 0 fun _=>0) (Row.mk 0 fun _=>0) 0)) 3 (GPort.mk (Row.mk 0 fun _=>0) (Row.mk 0 fun _=>0) 0))) 0) false (fun y2529 r2530=>
  let b2531:Bool:=(ltB 1 t2527)
  cond b2531 (
  q_law19_IsaCounts_2 F_z1 k y2529 t2527 t5) (
  q_law19_IsaCounts_3 F_z1 k y2529 t5)))) (
  gP (ByteArray.size t43) (ByteArray.size t43) (
  F_z1 (GMachine.mk r2522 (GBus.mk f37 0 18446744073709551615 (upd (upd (upd (fun _=>(GPort.mk (Row.mk (ByteArray.size t43) (bytesAt t43)) (Row.mk 0 fun _=>0) t2516)) 1 (GPort.mk (Row.mk 0 fun _=>0) (Row.mk 0 fun _=>0) 0)) 2 (GPort.mk (Row.mk 0 fun _=>0) (Row.mk 0 fun _=>0) 0)) 3 (GPort.mk (Row.mk 0 fun _=>0) (Row.mk 0 fun _=>0) 0))) 0) false (fun y4971 r4972=>
  let t4973:Int:=(IntKind.i64.wrap (3 * t5))
  let t4974:Int:=(IntKind.i64.wrap (1+ t4973))
  let b4975:Bool:=(0==t4974)
  cond b4975 (
  q_law19_IsaCounts_1 k t5 y4971 r4972) (
  k false))))))) none) none) none) none)) none) none)))))))))))))))))
theorem le_z32 {α:Type} {F F':Sg_z32 α} (h:∀x0 k r,F' x0 k=some r→F x0 k=some r) {args:List SV} {k:SV→R α} {r:α} (hk:ad_z32 F' args k=some r):ad_z32 F args k=some r:=by
  unfold ad_z32 at hk
  split at hk<;>try (cases hk; done)
  obtain ⟨x0,rfl,hk0⟩:=decI_spec hk
  have hkz:=hk0
  exact h x0 _ _ hkz
end Go.Sh
