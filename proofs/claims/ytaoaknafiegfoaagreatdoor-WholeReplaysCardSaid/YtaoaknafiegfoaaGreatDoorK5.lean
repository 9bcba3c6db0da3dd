/- Part of the proof of a law of this seat (18 texts). No conditions. -/
import Derived.Test.YtaoaknafiegfoaaGreatDoorProg
import Derived.Test.YtaoaknafiegfoaaGreatDoorK3
import Derived.Test.YtaoaknafiegfoaaGreatDoorK4
import Derived.KernelRfl
set_option linter.unusedVariables false
set_option linter.unusedSimpArgs false
set_option linter.unnecessarySimpa false
set_option maxHeartbeats 100000000
namespace Go.Proofs.YtaoaknafiegfoaaGreatDoor
open Go.Bil
open Go.Proofs
open Go.Proofs.Tryz
theorem cA:fT prog 35=true:=by kernel_rfl
theorem aY:fT prog 21=true:=by kernel_rfl
theorem aOv:∀ (d:Nat) (w:World) (x0 x1 y0 y1:Int),(Op.equalIn (d+2) 37 (.agg [.int .i32 x0,.int .i32 x1].toArray) (.agg [.int .i32 y0,.int .i32 y1].toArray)).run prog w=.ok (decide (x0=y0∧x1=y1)) w:=fun d w x0 x1 y0 y1=>by
  have h:=vE (P:=prog) (T:=37) (dd:=d+1) (xs:=[.int .i32 x0,.int .i32 x1]) (ys:=[.int .i32 y0,.int .i32 y1]) (w:=w) underlying37 (by kernel_rfl) (iQ rfl (jZ aY rfl) (jZ aY rfl) (qK (dd:=d+0) underlying21) (iQ rfl (jZ aY rfl) (jZ aY rfl) (qK (dd:=d+0) underlying21) (aFs)))
  refine h.trans (congrArg (fun r=>Result.ok r w) ?_)
  simp only [Bool.decide_and,Bool.and_true,Bool.and_assoc]
theorem bL:iH prog 37=some 2:=by kernel_rfl
theorem bMs:∀ (d:Nat) (w:World) (x0 x1 x2 x3 x4 x5 x6 x7 x8 x9 y0 y1 y2 y3 y4 y5 y6 y7 y8 y9:Int),(Op.equalIn (d+3) 39 (.agg [.int .u32 x0,.int .i32 x1,.int .i32 x2,.int .i32 x3,.int .i32 x4,.int .i32 x5,.int .i32 x6,.int .i32 x7,.int .i32 x8,.int .i32 x9].toArray) (.agg [.int .u32 y0,.int .i32 y1,.int .i32 y2,.int .i32 y3,.int .i32 y4,.int .i32 y5,.int .i32 y6,.int .i32 y7,.int .i32 y8,.int .i32 y9].toArray)).run prog w=.ok (decide (x0=y0∧x1=y1∧x2=y2∧x3=y3∧x4=y4∧x5=y5∧x6=y6∧x7=y7∧x8=y8∧x9=y9)) w:=fun d w x0 x1 x2 x3 x4 x5 x6 x7 x8 x9 y0 y1 y2 y3 y4 y5 y6 y7 y8 y9=>by
  have h:=vE (P:=prog) (T:=39) (dd:=d+2) (xs:=[.int .u32 x0,.int .i32 x1,.int .i32 x2,.int .i32 x3,.int .i32 x4,.int .i32 x5,.int .i32 x6,.int .i32 x7,.int .i32 x8,.int .i32 x9]) (ys:=[.int .u32 y0,.int .i32 y1,.int .i32 y2,.int .i32 y3,.int .i32 y4,.int .i32 y5,.int .i32 y6,.int .i32 y7,.int .i32 y8,.int .i32 y9]) (w:=w) underlying39 (by kernel_rfl) (iQ rfl (jZ cA rfl) (jZ cA rfl) (qK (dd:=d+1) underlying35) (iQ rfl (jZ aY rfl) (jZ aY rfl) (qK (dd:=d+1) underlying21) (iQ rfl (aAy bL rfl) (aAy bL rfl) (aOv (d+0) w x2 x3 y2 y3) (iQ rfl (jZ aY rfl) (jZ aY rfl) (qK (dd:=d+1) underlying21) (iQ rfl (jZ aY rfl) (jZ aY rfl) (qK (dd:=d+1) underlying21) (iQ rfl (aAy bL rfl) (aAy bL rfl) (aOv (d+0) w x6 x7 y6 y7) (iQ rfl (aAy bL rfl) (aAy bL rfl) (aOv (d+0) w x8 x9 y8 y9) (aFs))))))))
  refine h.trans (congrArg (fun r=>Result.ok r w) ?_)
  simp only [Bool.decide_and,Bool.and_true,Bool.and_assoc]
theorem bKl:∀ (x0 x1 x2 x3 x4 x5 x6 x7 x8 x9 y0 y1 y2 y3 y4 y5 y6 y7 y8 y9:Int),EqA prog 39 [.int .u32 x0,.int .i32 x1,.int .i32 x2,.int .i32 x3,.int .i32 x4,.int .i32 x5,.int .i32 x6,.int .i32 x7,.int .i32 x8,.int .i32 x9] [.int .u32 y0,.int .i32 y1,.int .i32 y2,.int .i32 y3,.int .i32 y4,.int .i32 y5,.int .i32 y6,.int .i32 y7,.int .i32 y8,.int .i32 y9] (decide (x0=y0∧x1=y1∧x2=y2∧x3=y3∧x4=y4∧x5=y5∧x6=y6∧x7=y7∧x8=y8∧x9=y9)):=fun x0 x1 x2 x3 x4 x5 x6 x7 x8 x9 y0 y1 y2 y3 y4 y5 y6 y7 y8 y9=>⟨by kernel_rfl,fun w=>bMs 9997 w x0 x1 x2 x3 x4 x5 x6 x7 x8 x9 y0 y1 y2 y3 y4 y5 y6 y7 y8 y9⟩
theorem bU:iH prog 39=some 10:=by kernel_rfl
theorem bFx:aN prog 115=true:=by kernel_rfl
theorem bIw:∀ (d:Nat) (w:World) (x0 x1 y0 y1:Int),(Op.equalIn (d+2) 209 (.agg [.int .u32 x0,.int .u32 x1].toArray) (.agg [.int .u32 y0,.int .u32 y1].toArray)).run prog w=.ok (decide (x0=y0∧x1=y1)) w:=fun d w x0 x1 y0 y1=>by
  have h:=vE (P:=prog) (T:=209) (dd:=d+1) (xs:=[.int .u32 x0,.int .u32 x1]) (ys:=[.int .u32 y0,.int .u32 y1]) (w:=w) underlying209 (by kernel_rfl) (iQ rfl (jZ cA rfl) (jZ cA rfl) (qK (dd:=d+0) underlying35) (iQ rfl (jZ cA rfl) (jZ cA rfl) (qK (dd:=d+0) underlying35) (aFs)))
  refine h.trans (congrArg (fun r=>Result.ok r w) ?_)
  simp only [Bool.decide_and,Bool.and_true,Bool.and_assoc]
theorem bJp:∀ (x0 x1 y0 y1:Int),EqA prog 209 [.int .u32 x0,.int .u32 x1] [.int .u32 y0,.int .u32 y1] (decide (x0=y0∧x1=y1)):=fun x0 x1 y0 y1=>⟨by kernel_rfl,fun w=>bIw 9998 w x0 x1 y0 y1⟩
theorem gO:iH prog 209=some 2:=by kernel_rfl
theorem bHo:aN prog 213=true:=by kernel_rfl
theorem bMn:jT prog 209=some (.agg [.int .u32 0,.int .u32 0].toArray):=by kernel_rfl
theorem fZ:fT prog 3=true:=by kernel_rfl
theorem oG:fT prog 4=true:=by kernel_rfl
theorem oT:eC prog 39 1 1=true:=by kernel_rfl
theorem lP:eC prog 39 2 2=true:=by kernel_rfl
theorem eB:eC prog 37 0 0=true:=by kernel_rfl
theorem dQ:eC prog 37 1 1=true:=by kernel_rfl
theorem fR:eC prog 39 3 4=true:=by kernel_rfl
theorem uC:eC prog 39 4 5=true:=by kernel_rfl
theorem gX:eC prog 39 5 6=true:=by kernel_rfl
theorem fS:eC prog 39 6 8=true:=by kernel_rfl
theorem fC:eG prog 29 39 10 40=true:=by kernel_rfl
theorem fH:eC prog 39 0 0=true:=by kernel_rfl
theorem mixed:prog.follows .mixedOrders=true:=by kernel_rfl
theorem aLl:aN prog 139=true:=by kernel_rfl
theorem lT:fQ prog 194 [.nilFunc,.int .i64 0] [(0,1),(1,1)]:=dY underlying194 (by kernel_rfl) (by kernel_rfl) (by kernel_rfl)
theorem sT:xP prog 196 6 194 2=true:=by kernel_rfl
theorem bBl:fK prog 196=some [.nilFunc,.int .i64 0,.nilFunc,.int .i64 0,.nilFunc,.int .i64 0,.nilFunc,.int .i64 0,.nilFunc,.int .i64 0,.nilFunc,.int .i64 0]:=by kernel_rfl
theorem lD:iH prog 194=some 2:=by kernel_rfl
theorem rG:fK prog 194=some [.nilFunc,.int .i64 0]:=by kernel_rfl
theorem oJ:eC prog 194 0 0=true:=by kernel_rfl
theorem aDv:fT prog 23=true:=by kernel_rfl
theorem bHu:aN prog 137=true:=by kernel_rfl
theorem oH:eC prog 194 1 1=true:=by kernel_rfl
theorem wX:fT prog 30=true:=by kernel_rfl
theorem bJr:aN prog 138=true:=by kernel_rfl
theorem bFw:aN prog 140=true:=by kernel_rfl
theorem bGz:aN prog 141=true:=by kernel_rfl
theorem bGg:aN prog 142=true:=by kernel_rfl
theorem bHi:aN prog 143=true:=by kernel_rfl
theorem aMo:aN prog 102=true:=by kernel_rfl
theorem jI:eC prog 103 1 1=true:=by kernel_rfl
theorem nJ:fT prog 101=true:=by kernel_rfl
theorem pW:wB prog 101 35 3 .u32=true:=by kernel_rfl
theorem zv3:jT prog 3=some (.int .i64 0):=by kernel_rfl
theorem fF:eC prog 103 0 0=true:=by kernel_rfl
theorem fL:fT prog 29=true:=by kernel_rfl
theorem iD:fK prog 39=some [.int .u32 0,.int .i32 0,.int .i32 0,.int .i32 0,.int .i32 0,.int .i32 0,.int .i32 0,.int .i32 0,.int .i32 0,.int .i32 0]:=by kernel_rfl
theorem zX:fQ prog 39 [.int .u32 0,.int .i32 0,.int .i32 0,.int .i32 0,.int .i32 0,.int .i32 0,.int .i32 0,.int .i32 0,.int .i32 0,.int .i32 0] [(0,1),(1,1),(2,2),(4,1),(5,1),(6,2),(8,2)]:=dY underlying39 (by kernel_rfl) (by kernel_rfl) (by kernel_rfl)
theorem aYn:aN prog 151=true:=by kernel_rfl
theorem aEz:aN prog 116=true:=by kernel_rfl
theorem bMx:aN prog 64=true:=by kernel_rfl
theorem bHp:aN prog 114=true:=by kernel_rfl
theorem bGh:aN prog 119=true:=by kernel_rfl
theorem us3:(prog.underlying 3).isSome=true:=by kernel_rfl
theorem bMy:(prog.underlying 178).isSome=true:=by kernel_rfl
theorem aUy:aN prog 188=true:=by kernel_rfl
theorem bFn:aN prog 187=true:=by kernel_rfl
theorem aUu:aN prog 253=true:=by kernel_rfl
theorem aGv:fK prog 253=some [.int .i32 0,.int .i32 0,.int .i32 0,.int .i32 0]:=by kernel_rfl
theorem bGu:aN prog 229=true:=by kernel_rfl
theorem aEe:fQ prog 253 [.int .i32 0,.int .i32 0,.int .i32 0,.int .i32 0] [(0,1),(1,1),(2,1),(3,1)]:=dY underlying253 (by kernel_rfl) (by kernel_rfl) (by kernel_rfl)
theorem jE:iH prog 253=some 4:=by kernel_rfl
theorem sZ:eC prog 253 0 0=true:=by kernel_rfl
theorem tF:eC prog 253 2 2=true:=by kernel_rfl
theorem uO:eC prog 253 1 1=true:=by kernel_rfl
theorem uL:eC prog 253 3 3=true:=by kernel_rfl
theorem aMy:aN prog 231=true:=by kernel_rfl
theorem bIh:aN prog 232=true:=by kernel_rfl
theorem oV:fK prog 283=some [.int .i32 0,.int .i32 0]:=by kernel_rfl
theorem aEj:fQ prog 283 [.int .i32 0,.int .i32 0] [(0,1),(1,1)]:=dY underlying283 (by kernel_rfl) (by kernel_rfl) (by kernel_rfl)
theorem iC:iH prog 283=some 2:=by kernel_rfl
theorem fD:fQ prog 37 [.int .i32 0,.int .i32 0] [(0,1),(1,1)]:=dY underlying37 (by kernel_rfl) (by kernel_rfl) (by kernel_rfl)
theorem aVv:aN prog 267=true:=by kernel_rfl
theorem bIe:aN prog 254=true:=by kernel_rfl
theorem aOp:fK prog 4=some [.bool false]:=by kernel_rfl
theorem aAi:eC prog 283 1 1=true:=by kernel_rfl
theorem aAk:eC prog 283 0 0=true:=by kernel_rfl
theorem bBw:fK prog 281=some [.slice none 0 0]:=by kernel_rfl
theorem bIi:aN prog 230=true:=by kernel_rfl
theorem bIp:aN prog 255=true:=by kernel_rfl
theorem aMe:fT prog 281=true:=by kernel_rfl
theorem aXo:eG prog 281 283 2 8=true:=by kernel_rfl
theorem gI:(prog.underlying 21).isSome=true:=by kernel_rfl
theorem aWy:xP prog 323 2 35 1=true:=by kernel_rfl
theorem sK:(prog.underlying 35).isSome=true:=by kernel_rfl
theorem bHw:aN prog 245=true:=by kernel_rfl
theorem us2:(prog.underlying 2).isSome=true:=by kernel_rfl
theorem aDy:(prog.underlying 237).isSome=true:=by kernel_rfl
theorem qI:aN prog 222=true:=by kernel_rfl
theorem aNd:aN prog 221=true:=by kernel_rfl
theorem aXg:aN prog 223=true:=by kernel_rfl
theorem aFf:aN prog 224=true:=by kernel_rfl
theorem aFj:aN prog 246=true:=by kernel_rfl
theorem aVm:aN prog 240=true:=by kernel_rfl
theorem aLf:aN prog 216=true:=by kernel_rfl
theorem bGy:aN prog 242=true:=by kernel_rfl
theorem gW:fK prog 37=some [.int .i32 0,.int .i32 0]:=by kernel_rfl
theorem aZr:aN prog 218=true:=by kernel_rfl
theorem aXt:aN prog 241=true:=by kernel_rfl
theorem aAg:aN prog 239=true:=by kernel_rfl
theorem mI:fT prog 2=true:=by kernel_rfl
theorem aGy:aN prog 189=true:=by kernel_rfl
theorem bIo:aN prog 282=true:=by kernel_rfl
theorem zI:fK prog 2=some [.int .i64 0]:=by kernel_rfl
theorem aXs:aN prog 283=true:=by kernel_rfl
theorem pR:fT prog 237=true:=by kernel_rfl
theorem bDd:fK prog 237=some [.int .u64 0]:=by kernel_rfl
theorem vP:xP prog 369 2 37 2=true:=by kernel_rfl
theorem aOk:fK prog 369=some [.int .i32 0,.int .i32 0,.int .i32 0,.int .i32 0]:=by kernel_rfl
theorem aFe:aN prog 277=true:=by kernel_rfl
theorem aFh:aN prog 276=true:=by kernel_rfl
theorem bJy:aN prog 259=true:=by kernel_rfl
theorem tS:fK prog 296=some [.int .u32 0,.int .i32 0,.int .i32 0,.int .i32 0,.int .i32 0,.int .i32 0,.int .i32 0,.int .i32 0,.int .i32 0,.int .i32 0,.int .i32 0,.int .i32 0,.int .i32 0,.int .i32 0]:=by kernel_rfl
theorem bHx:aN prog 258=true:=by kernel_rfl
theorem aSf:fQ prog 296 [.int .u32 0,.int .i32 0,.int .i32 0,.int .i32 0,.int .i32 0,.int .i32 0,.int .i32 0,.int .i32 0,.int .i32 0,.int .i32 0,.int .i32 0,.int .i32 0,.int .i32 0,.int .i32 0] [(0,10),(10,2),(12,2)]:=dY underlying296 (by kernel_rfl) (by kernel_rfl) (by kernel_rfl)
theorem lE:iH prog 296=some 14:=by kernel_rfl
theorem aFx:aN prog 237=true:=by kernel_rfl
theorem aIx:eC prog 296 1 10=true:=by kernel_rfl
theorem aJa:eC prog 296 2 12=true:=by kernel_rfl
theorem bIg:aN prog 238=true:=by kernel_rfl
theorem tW:eC prog 296 0 0=true:=by kernel_rfl
theorem tU:fK prog 211=some [.int .u32 0,.int .u32 0,.int .i32 0,.int .i32 0,.int .i32 0]:=by kernel_rfl
theorem bHl:aN prog 214=true:=by kernel_rfl
theorem bIu:aN prog 215=true:=by kernel_rfl
theorem aDk:fQ prog 211 [.int .u32 0,.int .u32 0,.int .i32 0,.int .i32 0,.int .i32 0] [(0,2),(2,2),(4,1)]:=dY underlying211 (by kernel_rfl) (by kernel_rfl) (by kernel_rfl)
theorem gT:iH prog 211=some 5:=by kernel_rfl
theorem aEh:fQ prog 209 [.int .u32 0,.int .u32 0] [(0,1),(1,1)]:=dY underlying209 (by kernel_rfl) (by kernel_rfl) (by kernel_rfl)
theorem qY:fK prog 209=some [.int .u32 0,.int .u32 0]:=by kernel_rfl
theorem bJw:aN prog 217=true:=by kernel_rfl
theorem aHj:eC prog 250 1 1024=true:=by kernel_rfl
theorem bJc:aN prog 204=true:=by kernel_rfl
theorem bHk:aN prog 205=true:=by kernel_rfl
theorem aVz:wB prog 280 3 4 .i64=true:=by kernel_rfl
theorem zv4:jT prog 4=some (.bool false):=by kernel_rfl
theorem aAb:eC prog 250 0 0=true:=by kernel_rfl
theorem aLu:xP prog 248 1024 247 1=true:=by kernel_rfl
theorem aFc:fT prog 247=true:=by kernel_rfl
theorem aIk:eG prog 247 35 1 4=true:=by kernel_rfl
theorem aXy:eG prog 353 3 1 8=true:=by kernel_rfl
theorem oL:eC prog 209 0 0=true:=by kernel_rfl
theorem nV:eC prog 209 1 1=true:=by kernel_rfl
theorem bHm:aN prog 236=true:=by kernel_rfl
theorem bHd:fT prog 287=true:=by kernel_rfl
theorem bIy:aN prog 235=true:=by kernel_rfl
theorem aNb:fT prog 220=true:=by kernel_rfl
theorem tM:eG prog 220 209 2 8=true:=by kernel_rfl
theorem bHn:aN prog 256=true:=by kernel_rfl
theorem bFv:aN prog 233=true:=by kernel_rfl
theorem bGr:aN prog 234=true:=by kernel_rfl
theorem bJo:iH prog 248=some 1024:=by kernel_rfl
theorem bHc:aN prog 210=true:=by kernel_rfl
theorem aRt:fQ prog 288 [] []:=dY underlying288 (by kernel_rfl) (by kernel_rfl) (by kernel_rfl)
theorem bGb:aN prog 212=true:=by kernel_rfl
theorem bIt:aN prog 211=true:=by kernel_rfl
theorem bHq:aN prog 203=true:=by kernel_rfl
theorem aHc:wB prog 245 35 253 .u32=true:=by kernel_rfl
theorem bEl:fK prog 3=some [.int .i64 0]:=by kernel_rfl
theorem aWd:fT prog 245=true:=by kernel_rfl
theorem aVy:jT prog 253=some (.agg [.int .i32 0,.int .i32 0,.int .i32 0,.int .i32 0].toArray):=by kernel_rfl
theorem bIs:aN prog 207=true:=by kernel_rfl
theorem bAh:aN prog 206=true:=by kernel_rfl
theorem bFt:aN prog 209=true:=by kernel_rfl
theorem bJv:aN prog 180=true:=by kernel_rfl
theorem bGq:aN prog 181=true:=by kernel_rfl
theorem bGd:aN prog 182=true:=by kernel_rfl
theorem bHz:aN prog 184=true:=by kernel_rfl
theorem bIb:aN prog 183=true:=by kernel_rfl
theorem bFp:aN prog 208=true:=by kernel_rfl
theorem aBe:eC prog 219 0 0=true:=by kernel_rfl
theorem zJ:fT prog 217=true:=by kernel_rfl
theorem zF:wB prog 217 35 39 .u32=true:=by kernel_rfl
theorem bCt:jT prog 39=some (.agg [.int .u32 0,.int .i32 0,.int .i32 0,.int .i32 0,.int .i32 0,.int .i32 0,.int .i32 0,.int .i32 0,.int .i32 0,.int .i32 0].toArray):=by kernel_rfl
theorem aZb:aN prog 185=true:=by kernel_rfl
theorem pY:eC prog 219 1 1=true:=by kernel_rfl
theorem mD:fT prog 166=true:=by kernel_rfl
theorem aEk:eG prog 166 211 5 20=true:=by kernel_rfl
theorem bJi:aN prog 159=true:=by kernel_rfl
theorem aSx:fQ prog 219 [.map none,.slice none 0 0] [(0,1),(1,1)]:=dY underlying219 (by kernel_rfl) (by kernel_rfl) (by kernel_rfl)
theorem bGn:aN prog 157=true:=by kernel_rfl
theorem bHe:aN prog 158=true:=by kernel_rfl
theorem bHb:aN prog 284=true:=by kernel_rfl
theorem bGe:aN prog 278=true:=by kernel_rfl
theorem nU:eC prog 211 1 2=true:=by kernel_rfl
theorem bFo:aN prog 260=true:=by kernel_rfl
theorem bJl:aN prog 261=true:=by kernel_rfl
theorem aWt:aN prog 262=true:=by kernel_rfl
theorem aYj:aN prog 263=true:=by kernel_rfl
theorem oI:eC prog 303 0 0=true:=by kernel_rfl
theorem tT:eC prog 211 0 0=true:=by kernel_rfl
theorem aGl:aN prog 161=true:=by kernel_rfl
theorem bGs:aN prog 243=true:=by kernel_rfl
theorem aUx:aN prog 244=true:=by kernel_rfl
theorem oA:eC prog 303 1 1=true:=by kernel_rfl
theorem lH:fT prog 260=true:=by kernel_rfl
theorem nZ:eC prog 303 2 2=true:=by kernel_rfl
theorem nF:eG prog 260 2 1 8=true:=by kernel_rfl
theorem bFl:aN prog 220=true:=by kernel_rfl
theorem aDn:fQ prog 303 [.slice none 0 0,.slice none 0 0,.slice none 0 0] [(0,1),(1,1),(2,1)]:=dY underlying303 (by kernel_rfl) (by kernel_rfl) (by kernel_rfl)
theorem aWk:aN prog 219=true:=by kernel_rfl
theorem bIl:aN prog 186=true:=by kernel_rfl
theorem aKt:aN prog 148=true:=by kernel_rfl
theorem bJd:aN prog 160=true:=by kernel_rfl
theorem aXp:eC prog 211 2 4=true:=by kernel_rfl
theorem aZj:aN prog 190=true:=by kernel_rfl
theorem vQ:fT prog 127=true:=by kernel_rfl
theorem aBj:eG prog 127 177 2 16=true:=by kernel_rfl
theorem aBp:eC prog 177 0 0=true:=by kernel_rfl
theorem aBc:eC prog 177 1 1=true:=by kernel_rfl
theorem bCy:fK prog 177=some [.int .i64 0,.int .i64 0]:=by kernel_rfl
theorem bCv:fK prog 127=some [.slice none 0 0]:=by kernel_rfl
theorem aVj:aN prog 163=true:=by kernel_rfl
theorem aYl:aN prog 162=true:=by kernel_rfl
theorem aDr:eG prog 201 174 1 8=true:=by kernel_rfl
theorem bJg:fT prog 174=true:=by kernel_rfl
theorem bFm:aN prog 111=true:=by kernel_rfl
theorem zN:aN prog 112=true:=by kernel_rfl
theorem bGf:aN prog 110=true:=by kernel_rfl
theorem aZt:aN prog 109=true:=by kernel_rfl
theorem bIk:aN prog 113=true:=by kernel_rfl
theorem bMz:aN prog 66=true:=by kernel_rfl
theorem bKx:aN prog 67=true:=by kernel_rfl
theorem uP:eC prog 168 1 1=true:=by kernel_rfl
theorem oM:eC prog 168 3 3=true:=by kernel_rfl
theorem uI:eC prog 58 2 2=true:=by kernel_rfl
theorem aAh:eC prog 168 0 0=true:=by kernel_rfl
theorem bGm:aN prog 144=true:=by kernel_rfl
theorem uN:eC prog 168 2 2=true:=by kernel_rfl
theorem aOi:eC prog 58 0 0=true:=by kernel_rfl
theorem aFv:eC prog 58 1 1=true:=by kernel_rfl
theorem aLe:aN prog 145=true:=by kernel_rfl
theorem bFq:aN prog 146=true:=by kernel_rfl
theorem bJb:aN prog 147=true:=by kernel_rfl
theorem sU:fK prog 58=some [.int .i64 0,.int .i64 0,.bool false]:=by kernel_rfl
theorem aUc:fQ prog 168 [.slice none 0 0,.slice none 0 0,.slice none 0 0,.int .i64 0,.int .i64 0,.bool false] [(0,1),(1,1),(2,1),(3,3)]:=dY underlying168 (by kernel_rfl) (by kernel_rfl) (by kernel_rfl)
theorem zK:xP prog 170 4 169 1=true:=by kernel_rfl
theorem bBt:fK prog 170=some [.nilFunc,.nilFunc,.nilFunc,.nilFunc]:=by kernel_rfl
theorem aHf:fT prog 169=true:=by kernel_rfl
theorem bHv:aN prog 105=true:=by kernel_rfl
theorem bIn:aN prog 106=true:=by kernel_rfl
theorem bJq:aN prog 107=true:=by kernel_rfl
theorem bIc:aN prog 108=true:=by kernel_rfl
theorem oK:iH prog 58=some 3:=by kernel_rfl
theorem bEk:aN prog 65=true:=by kernel_rfl
theorem lR:eG prog 31 5 1 1=true:=by kernel_rfl
theorem aGa:fK prog 139=some [.int .u32 0,.int .u32 0,.int .u32 0,.int .u32 0,.int .u32 0,.int .u32 0,.int .u32 0,.int .u32 0,.int .u32 0,.int .u32 0]:=by kernel_rfl
theorem fV:xP prog 139 10 35 1=true:=by kernel_rfl
theorem oY:aN prog 136=true:=by kernel_rfl
theorem aOc:iH prog 139=some 10:=by kernel_rfl
theorem aSy:fT prog 5=true:=by kernel_rfl
theorem us5:(prog.underlying 5).isSome=true:=by kernel_rfl
theorem aLq:aN prog 118=true:=by kernel_rfl
theorem bEo:aN prog 82=true:=by kernel_rfl
theorem aVr:aN prog 100=true:=by kernel_rfl
theorem bIa:aN prog 101=true:=by kernel_rfl
theorem qE:aN prog 79=true:=by kernel_rfl
theorem qM:aN prog 80=true:=by kernel_rfl
theorem bLq:aN prog 81=true:=by kernel_rfl
theorem qP:eC prog 107 0 0=true:=by kernel_rfl
theorem aVc:aN prog 60=true:=by kernel_rfl
theorem oC:eC prog 105 0 0=true:=by kernel_rfl
theorem bFa:aN prog 61=true:=by kernel_rfl
theorem bJk:aN prog 122=true:=by kernel_rfl
theorem bGv:aN prog 117=true:=by kernel_rfl
theorem bKq:aN prog 68=true:=by kernel_rfl
theorem aQg:aN prog 38=true:=by kernel_rfl
theorem bLu:aN prog 58=true:=by kernel_rfl
theorem bLm:aN prog 69=true:=by kernel_rfl
theorem bIr:aN prog 124=true:=by kernel_rfl
theorem bIx:aN prog 125=true:=by kernel_rfl
theorem aRx:fQ prog 105 [.slice none 0 0,.map none] [(0,2)]:=dY underlying105 (by kernel_rfl) (by kernel_rfl) (by kernel_rfl)
theorem bJe:iH prog 105=some 2:=by kernel_rfl
theorem aWc:aN prog 78=true:=by kernel_rfl
theorem bEz:aN prog 54=true:=by kernel_rfl
theorem sB:fT prog 31=true:=by kernel_rfl
theorem aHb:eG prog 22 46 15 88=true:=by kernel_rfl
theorem bBx:eC prog 41 1 1=true:=by kernel_rfl
theorem aPx:eC prog 41 2 11=true:=by kernel_rfl
theorem aGm:eC prog 41 4 14=true:=by kernel_rfl
theorem bKs:aN prog 83=true:=by kernel_rfl
theorem kD:wB prog 109 3 34 .i64=true:=by kernel_rfl
theorem bMf:aN prog 85=true:=by kernel_rfl
theorem bKj:aN prog 88=true:=by kernel_rfl
theorem kJ:fK prog 33=some [.int .i64 0,.slice none 0 0,.int .i64 0,.bool false]:=by kernel_rfl
theorem aWq:fT prog 143=true:=by kernel_rfl
theorem bGj:fT prog 144=true:=by kernel_rfl
theorem iI:iH prog 41=some 15:=by kernel_rfl
theorem mO:fQ prog 33 [.int .i64 0,.slice none 0 0,.int .i64 0,.bool false] [(0,1),(1,1),(2,1),(3,1)]:=dY underlying33 (by kernel_rfl) (by kernel_rfl) (by kernel_rfl)
theorem bKu:aN prog 84=true:=by kernel_rfl
theorem bLj:aN prog 26=true:=by kernel_rfl
theorem gG:iH prog 33=some 4:=by kernel_rfl
theorem aYq:fT prog 146=true:=by kernel_rfl
theorem bIj:fT prog 148=true:=by kernel_rfl
theorem bMh:aN prog 87=true:=by kernel_rfl
theorem bKy:aN prog 86=true:=by kernel_rfl
theorem aZa:fT prog 150=true:=by kernel_rfl
theorem bGa:fT prog 151=true:=by kernel_rfl
theorem bMd:aN prog 89=true:=by kernel_rfl
theorem bEj:aN prog 74=true:=by kernel_rfl
theorem bBb:eC prog 41 3 12=true:=by kernel_rfl
theorem bKt:aN prog 91=true:=by kernel_rfl
theorem bEf:aN prog 53=true:=by kernel_rfl
theorem aEn:aN prog 24=true:=by kernel_rfl
theorem pE:eC prog 41 0 0=true:=by kernel_rfl
theorem aAz:aN prog 55=true:=by kernel_rfl
theorem aKy:jT prog 34=some (.nilFunc):=by kernel_rfl
theorem bHs:aN prog 120=true:=by kernel_rfl
theorem bHt:aN prog 121=true:=by kernel_rfl
theorem bJs:aN prog 123=true:=by kernel_rfl
theorem bLa:aN prog 90=true:=by kernel_rfl
theorem bKk:aN prog 92=true:=by kernel_rfl
theorem bKn:aN prog 93=true:=by kernel_rfl
theorem xM:eG prog 27 41 15 88=true:=by kernel_rfl
theorem aBn:fK prog 41=some [.int .i64 0,.int .u32 0,.int .i32 0,.int .i32 0,.int .i32 0,.int .i32 0,.int .i32 0,.int .i32 0,.int .i32 0,.int .i32 0,.int .i32 0,.int .u32 0,.int .i32 0,.int .i32 0,.slice none 0 0]:=by kernel_rfl
theorem aYv:aN prog 20=true:=by kernel_rfl
theorem aIg:eG prog 63 33 4 48=true:=by kernel_rfl
theorem yE:fK prog 107=some [.slice none 0 0,.map none]:=by kernel_rfl
theorem aQe:aN prog 33=true:=by kernel_rfl
theorem aPl:eC prog 46 4 14=true:=by kernel_rfl
theorem aPj:eC prog 46 0 0=true:=by kernel_rfl
theorem bBh:eC prog 46 1 1=true:=by kernel_rfl
theorem bCu:eC prog 46 2 11=true:=by kernel_rfl
theorem bBs:eC prog 46 3 12=true:=by kernel_rfl
theorem bEy:aN prog 23=true:=by kernel_rfl
theorem aOy:eC prog 33 0 0=true:=by kernel_rfl
theorem aPn:eC prog 33 1 1=true:=by kernel_rfl
theorem aOu:eC prog 33 2 2=true:=by kernel_rfl
theorem aQa:eC prog 33 3 3=true:=by kernel_rfl
theorem tY:fQ prog 41 [.int .i64 0,.int .u32 0,.int .i32 0,.int .i32 0,.int .i32 0,.int .i32 0,.int .i32 0,.int .i32 0,.int .i32 0,.int .i32 0,.int .i32 0,.int .u32 0,.int .i32 0,.int .i32 0,.slice none 0 0] [(0,1),(1,10),(11,1),(12,2),(14,1)]:=dY underlying41 (by kernel_rfl) (by kernel_rfl) (by kernel_rfl)
theorem bFj:aN prog 18=true:=by kernel_rfl
theorem bMl:aN prog 37=true:=by kernel_rfl
theorem aOn:aN prog 52=true:=by kernel_rfl
theorem bEw:∀ (x0 x1 y0 y1:Int),EqA prog 37 [.int .i32 x0,.int .i32 x1] [.int .i32 y0,.int .i32 y1] (decide (x0=y0∧x1=y1)):=fun x0 x1 y0 y1=>⟨by kernel_rfl,fun w=>aOv 9998 w x0 x1 y0 y1⟩
theorem bEi:aN prog 16=true:=by kernel_rfl
theorem bKp:aN prog 19=true:=by kernel_rfl
theorem bKg:aN prog 28=true:=by kernel_rfl
theorem aZx:eG prog 73 31 1 24=true:=by kernel_rfl
theorem bLw:aN prog 77=true:=by kernel_rfl
theorem qX:eC prog 75 2 2=true:=by kernel_rfl
theorem tI:fT prog 73=true:=by kernel_rfl
theorem aEq:fT prog 25=true:=by kernel_rfl
theorem bMb:aN prog 72=true:=by kernel_rfl
theorem aNw:fK prog 75=some [.slice none 0 0,.int .i64 0,.slice none 0 0]:=by kernel_rfl
theorem aXn:fQ prog 75 [.slice none 0 0,.int .i64 0,.slice none 0 0] [(0,1),(1,1),(2,1)]:=dY underlying75 (by kernel_rfl) (by kernel_rfl) (by kernel_rfl)
theorem zL:iH prog 75=some 3:=by kernel_rfl
theorem mZ:eC prog 75 0 0=true:=by kernel_rfl
theorem rW:fT prog 27=true:=by kernel_rfl
theorem bMu:aN prog 70=true:=by kernel_rfl
theorem aUr:fK prog 25=some [.pointer none]:=by kernel_rfl
theorem pB:eC prog 75 1 1=true:=by kernel_rfl
theorem bEh:aN prog 71=true:=by kernel_rfl
theorem bLn:aN prog 76=true:=by kernel_rfl
theorem bMw:aN prog 75=true:=by kernel_rfl
theorem bKv:aN prog 48=true:=by kernel_rfl
theorem bKr:aN prog 42=true:=by kernel_rfl
theorem bMt:aN prog 49=true:=by kernel_rfl
theorem bMr:aN prog 41=true:=by kernel_rfl
end Go.Proofs.YtaoaknafiegfoaaGreatDoor

namespace Go.Proofs.YtaoaknafiegfoaaGreatDoor
open Go.Bil
open Go.RowKit (Below)
open Go.Proofs
open Go.Proofs.Tryz
theorem aXc (a b:Body):EqA prog 39 (aF a) (aF b) (decide (a=b)):=by
 have h:=bKl a.key a.radius a.ax a.ay a.mass a.bounce a.px a.py a.vx a.vy b.key b.radius b.ax b.ay b.mass b.bounce b.px b.py b.vx b.vy
 rw [decide_eq_decide.2 (bAa (a:=a) (b:=b))]
 exact h
theorem aLd (w:World) (A:Option Addr) (n c:Nat) (xs:List Body) (R:Rd w 10 A n (xs.map aF)) (B:Option Addr) (m c':Nat) (ys:List Body) (R':Rd w 10 B m (ys.map aF)) :
  Calls prog 37 #[.slice A n c,.slice B m c'] w (Rb w (.bool (decide (xs=ys)))):=by
 have hlen:xs.length=n:=by simpa using R.len
 have hbd:=R.bound
 have hlen':ys.length=m:=by simpa using R'.len
 have hbd':=R'.bound
 refine aH #[.tmp 4] 26 func37 Z results37 ntmps37 Z ?_
 have M0:=Mem.refl w
 refine aD (aA (wq (aI (.bool false) Z) Z (aB (aC (aD (aD (aA (dZ Z Z (wq (cG underlying29 Z) Z (dZ Z Z (wq (cG underlying29 Z) Z (dB Z Z Z Z (aB (aC ?_))))))))))))))
 refine bA Z (fun h10 => ?_) (fun h10 => ?_)
 ·refine aD (aA (wq (aI (.bool false) Z) Z (aB (aC (aP (cL (cB (.bool false) Z ?_)))))))
  exact ⟨bF (fun e=>h10 (by rw [← hlen,← hlen',e])),M0.below⟩
 ·have hnm:n=m:=by omega
  refine aL (aC (aD (aD (aA (bP Z Z (aB (aC (aT (dK (σ:=Nat) [0,1] (fun k=>[(5,.int .i64 (k:Int))]) (fun k w'=>(k≤n∧∀ (j:Nat) (x:Body),j < k→xs[j]? = some x→ys[j]? = some x)∧Mem w [] [] w') (fun k=>n - k) 0 (bN Z eZ) (⟨⟨by omega,fun j c hj=>by omega⟩,M0⟩) ?_)))))))))
  rintro k ρ1 w1 ⟨⟨hk,hne⟩,hM1⟩
  refine aD (aD (aA (aX Z Z (dZ Z Z (wq (cG underlying29 Z) Z (dB Z Z Z Z (aB (aC ?_))))))))
  refine bA Z (fun h14 => ?_) (fun h14 => ?_)
  ·obtain ⟨xb,hxb⟩:=cF (k:=k) hlen (by omega)
   obtain ⟨yb,hyb⟩:=cF (k:=k) hlen' (by omega)
   refine aL (aC (aD (aT (aD (vB [(0,0),(1,0),(2,1),(3,1),(4,0),(5,0),(6,1),(7,1),(8,0)] mixed Z (by kernel_rfl) (fun w2 hb2 hh2 => ?_))))))
   have M2:=hM1.drew hb2 hh2
   refine sH Z Z Z (gR Z Z Z (bS Z Z Z (bR (k) fC Z Z Z ((R.mem M2).below_len (aJ aF hxb)) ((R.mem M2).someK (aJ aF hxb))) (bS Z Z Z (dT _ bU (R.mem M2) (aJ aF hxb) Z) (sH Z Z Z (gR Z Z Z (bS Z Z Z (bR (k) fC Z Z Z ((R'.mem M2).below_len (aJ aF hyb)) ((R'.mem M2).someK (aJ aF hyb))) (bS Z Z Z (dT _ bU (R'.mem M2) (aJ aF hyb) Z) (aU Z Z Z (fun _=>bMe (aXc xb yb) Z Z) (bZ (aC ?_))))))))))
   refine bA Z (fun h25 => ?_) (fun h25 => ?_)
   ·refine aD (aA (wq (aI (.bool false) Z) Z (aB (aC (aP (kA (cL (vX (kA (cL (cB (.bool false) Z ?_)))))))))))
    exact ⟨bF (fun e=>h25 (by rw [e] at hxb;rw [hxb] at hyb;injection hyb)),M2.below⟩
   ·refine aL (dF (aC (aA (aX Z Z (wq (bM Z Z (by omega) (by omega)) Z (bP Z Z (aB ?_)))))))
    refine cR (k+1) (bN Z eZ) (cT Z (cT Z kB)) ?_ ?_
    ·exact ⟨⟨by omega,rJ (p:=fun j x=>ys[j]? = some x) hne hxb (by rw [hyb,Decidable.not_not.1 h25])⟩,M2⟩
    ·omega
  ·refine cO (dA (cX (eV (aC (aD (aA (wq (aI (.bool true) Z) Z (aB (aC (aP (cB (.bool true) Z ?_)))))))))))
   exact ⟨bT (List.ext_getElem? fun j=>by
   by_cases hj:j < xs.length
   ·obtain ⟨x,hx⟩:=cF (k:=j) rfl hj
    rw [hx,hne j x (by omega) hx]
   ·rw [List.getElem?_eq_none (by omega),List.getElem?_eq_none (by omega)]),hM1.below⟩
theorem qO (w:World) (x y l:Int) (h0:0≤l) (h1:l≤2147483647) :
  Calls prog 139 #[.agg [.int .i32 x,.int .i32 y].toArray,.int .i32 l] w (Rb w (.bool (decide (-l≤x∧x≤l ∧ -l≤y∧y≤l)))):=by
 have hneg:IntKind.i32.wrap (-l) = -l:=mT _ (by omega) (by omega)
 refine aH #[.tmp 4] 29 func139 Z results139 ntmps139 Z ?_
 have M0:=Mem.refl w
 refine aD (aA (bH (.agg (.mk _)) M0 Z Z Z (fun b1 w1 M1=>(wq (aI (.bool false) Z) Z (aB (aC (aD (aA (aX Z Z (wq (aDw Z) Z (aS 6 (.int .i32 (-l)) (iE hneg) (wq (aE 0 eB Z) Z (wq (aK 0 (.int _ _) aY M1 Z Z Z) Z (dB Z Z Z Z (wq (aG (.bool (decide _)) Z) Z ?_)))))))))))))))
 refine dV 10 Z (fun g10 => ?_) (fun g10 => ?_)
 ·refine wq (aE 0 eB Z) Z (wq (aK 0 (.int _ _) aY M1 Z Z Z) Z (aX Z Z (dB Z Z Z Z (wq (bX true (.bool (decide _)) Z Z) Z (wq (aG (.bool (decide _)) Z) Z ?_)))))
  refine dV 16 Z (fun g16 => ?_) (fun g16 => ?_)
  ·refine aX Z Z (wq (aDw Z) Z (aS 18 (.int .i32 (-l)) (iE hneg) (wq (aE 1 dQ Z) Z (wq (aK 0 (.int _ _) aY M1 Z Z Z) Z (dB Z Z Z Z (wq (bX true (.bool (decide _)) Z Z) Z (wq (aG (.bool (decide _)) Z) Z ?_)))))))
   refine dV 23 Z (fun g23 => ?_) (fun g23 => ?_)
   ·refine wq (aE 1 dQ Z) Z (wq (aK 0 (.int _ _) aY M1 Z Z Z) Z (aX Z Z (dB Z Z Z Z (wq (bX true (.bool (decide _)) Z Z) Z (wq (aI (.bool (decide _)) Z) Z (aB (aC (aP (cB (.bool (decide _)) Z ?_)))))))))
    exact ⟨by first | exact bF (by omega) | exact bT (by omega) | exact bD (by omega),M1.below⟩
   ·refine aW Z Z (aW Z Z (aW Z Z (aW Z Z (wq (bX false (.bool false) Z Z) Z (wq (aI (.bool false) Z) Z (aB (aC (aP (cB (.bool false) Z ?_)))))))))
    exact ⟨by first | exact bF (by omega) | exact bT (by omega) | exact bD (by omega),M1.below⟩
  ·refine aW Z Z (aW Z Z (aW Z Z (aW Z Z (aW Z Z (wq (bX false (.bool false) Z Z) Z (wq (aG (.bool false) Z) Z (aW Z Z (aW Z Z (aW Z Z (aW Z Z (wq (bX false (.bool false) Z Z) Z (wq (aI (.bool false) Z) Z (aB (aC (aP (cB (.bool false) Z ?_))))))))))))))))
   exact ⟨by first | exact bF (by omega) | exact bT (by omega) | exact bD (by omega),M1.below⟩
 ·refine aW Z Z (aW Z Z (aW Z Z (aW Z Z (wq (bX false (.bool false) Z Z) Z (wq (aG (.bool false) Z) Z (aW Z Z (aW Z Z (aW Z Z (aW Z Z (aW Z Z (wq (bX false (.bool false) Z Z) Z (wq (aG (.bool false) Z) Z (aW Z Z (aW Z Z (aW Z Z ?_)))))))))))))))
  refine aW Z Z (wq (bX false (.bool false) Z Z) Z (wq (aI (.bool false) Z) Z (aB (aC (aP (cB (.bool false) Z ?_))))))
  exact ⟨by first | exact bF (by omega) | exact bT (by omega) | exact bD (by omega),M1.below⟩
theorem aHp (w:World) (b:Body) (p:Nat) (R:Rd w 10 (some ⟨p,0,none⟩) 1 [aF b]) :
  Calls prog 137 #[.pointer (some ⟨p,0,none⟩)] w (Rb w (.bool (decide (4096≤b.radius∧b.radius≤4194304)))):=by
 rw [← eT p]
 refine aH #[.tmp 1] 10 func137 Z results137 ntmps137 Z ?_
 have M0:=Mem.refl w
 refine aD (aA (wq (aI (.bool false) Z) Z (aB (aC (aD (aA (wq (bO 1 oT R (qR (R.below_len (show [aF b][0]? = some (aF b) from Z))) Z) Z (wq (eP (o:=1) (.int _ _) aY R (show [aF b][0]? = some (aF b) from Z) Z Z) Z (dB Z Z Z Z (wq (aG (.bool (decide _)) Z) Z ?_))))))))))
 refine dV 5 Z (fun g5 => ?_) (fun g5 => ?_)
 ·refine wq (bO 1 oT R (qR (R.below_len (show [aF b][0]? = some (aF b) from Z))) Z) Z (wq (eP (o:=1) (.int _ _) aY R (show [aF b][0]? = some (aF b) from Z) Z Z) Z (dB Z Z Z Z (wq (bX true (.bool (decide _)) Z Z) Z (wq (aI (.bool (decide _)) Z) Z (aB (aC (aP (cB (.bool (decide _)) Z ?_))))))))
  exact ⟨by first | exact bF (by omega) | exact bT (by omega) | exact bD (by omega),M0.below⟩
 ·refine aW Z Z (aW Z Z (aW Z Z (wq (bX false (.bool false) Z Z) Z (wq (aI (.bool false) Z) Z (aB (aC (aP (cB (.bool false) Z ?_))))))))
  exact ⟨by first | exact bF (by omega) | exact bT (by omega) | exact bD (by omega),M0.below⟩
theorem aJy (w:World) (b:Body) (p:Nat) (R:Rd w 10 (some ⟨p,0,none⟩) 1 [aF b]) :
  Calls prog 138 #[.pointer (some ⟨p,0,none⟩)] w (Rb w (.bool (decide (-4194304≤b.ax∧b.ax≤4194304 ∧ -4194304≤b.ay∧b.ay≤4194304)))):=by
 rw [← eT p]
 refine aH #[.tmp 1] 5 func138 Z results138 ntmps138 Z ?_
 have M0:=Mem.refl w
 refine aD (aA (wq (aI (.bool false) Z) Z (aB (aC (aD (aA (wq (bO 2 lP R (qR (R.below_len (show [aF b][0]? = some (aF b) from Z))) Z) Z (wq (pA (o:=2) _ bL R (show [aF b][0]? = some (aF b) from Z) Z Z Z) Z (dI aLl Z Z M0 (qO _ _ _ _ (by omega) (by omega)) (fun w1 M1=>(wq (aI (.bool (decide _)) Z) Z (aB (aC (aP (cB (.bool (decide _)) Z ?_)))))))))))))))
 exact ⟨by first | exact bF (by omega) | exact bT (by omega) | exact bD (by omega),M1.below⟩
theorem aIj (w:World) (b:Body) (p:Nat) (R:Rd w 10 (some ⟨p,0,none⟩) 1 [aF b]) :
  Calls prog 140 #[.pointer (some ⟨p,0,none⟩)] w (Rb w (.bool (decide (0≤b.mass∧b.mass≤1048576)))):=by
 rw [← eT p]
 refine aH #[.tmp 1] 10 func140 Z results140 ntmps140 Z ?_
 have M0:=Mem.refl w
 refine aD (aA (wq (aI (.bool false) Z) Z (aB (aC (aD (aA (wq (bO 4 fR R (qR (R.below_len (show [aF b][0]? = some (aF b) from Z))) Z) Z (wq (eP (o:=4) (.int _ _) aY R (show [aF b][0]? = some (aF b) from Z) Z Z) Z (dB Z Z Z Z (wq (aG (.bool (decide _)) Z) Z ?_))))))))))
 refine dV 5 Z (fun g5 => ?_) (fun g5 => ?_)
 ·refine wq (bO 4 fR R (qR (R.below_len (show [aF b][0]? = some (aF b) from Z))) Z) Z (wq (eP (o:=4) (.int _ _) aY R (show [aF b][0]? = some (aF b) from Z) Z Z) Z (dB Z Z Z Z (wq (bX true (.bool (decide _)) Z Z) Z (wq (aI (.bool (decide _)) Z) Z (aB (aC (aP (cB (.bool (decide _)) Z ?_))))))))
  exact ⟨by first | exact bF (by omega) | exact bT (by omega) | exact bD (by omega),M0.below⟩
 ·refine aW Z Z (aW Z Z (aW Z Z (wq (bX false (.bool false) Z Z) Z (wq (aI (.bool false) Z) Z (aB (aC (aP (cB (.bool false) Z ?_))))))))
  exact ⟨by first | exact bF (by omega) | exact bT (by omega) | exact bD (by omega),M0.below⟩
theorem aIv (w:World) (b:Body) (p:Nat) (R:Rd w 10 (some ⟨p,0,none⟩) 1 [aF b]) :
  Calls prog 141 #[.pointer (some ⟨p,0,none⟩)] w (Rb w (.bool (decide (0≤b.bounce∧b.bounce≤65536)))):=by
 rw [← eT p]
 refine aH #[.tmp 1] 10 func141 Z results141 ntmps141 Z ?_
 have M0:=Mem.refl w
 refine aD (aA (wq (aI (.bool false) Z) Z (aB (aC (aD (aA (wq (bO 5 uC R (qR (R.below_len (show [aF b][0]? = some (aF b) from Z))) Z) Z (wq (eP (o:=5) (.int _ _) aY R (show [aF b][0]? = some (aF b) from Z) Z Z) Z (dB Z Z Z Z (wq (aG (.bool (decide _)) Z) Z ?_))))))))))
 refine dV 5 Z (fun g5 => ?_) (fun g5 => ?_)
 ·refine wq (bO 5 uC R (qR (R.below_len (show [aF b][0]? = some (aF b) from Z))) Z) Z (wq (eP (o:=5) (.int _ _) aY R (show [aF b][0]? = some (aF b) from Z) Z Z) Z (dB Z Z Z Z (wq (bX true (.bool (decide _)) Z Z) Z (wq (aI (.bool (decide _)) Z) Z (aB (aC (aP (cB (.bool (decide _)) Z ?_))))))))
  exact ⟨by first | exact bF (by omega) | exact bT (by omega) | exact bD (by omega),M0.below⟩
 ·refine aW Z Z (aW Z Z (aW Z Z (wq (bX false (.bool false) Z Z) Z (wq (aI (.bool false) Z) Z (aB (aC (aP (cB (.bool false) Z ?_))))))))
  exact ⟨by first | exact bF (by omega) | exact bT (by omega) | exact bD (by omega),M0.below⟩
theorem aHx (w:World) (b:Body) (p:Nat) (R:Rd w 10 (some ⟨p,0,none⟩) 1 [aF b]) :
  Calls prog 142 #[.pointer (some ⟨p,0,none⟩)] w (Rb w (.bool (decide (-1073741824≤b.px∧b.px≤1073741824 ∧ -1073741824≤b.py∧b.py≤1073741824)))):=by
 rw [← eT p]
 refine aH #[.tmp 1] 5 func142 Z results142 ntmps142 Z ?_
 have M0:=Mem.refl w
 refine aD (aA (wq (aI (.bool false) Z) Z (aB (aC (aD (aA (wq (bO 6 gX R (qR (R.below_len (show [aF b][0]? = some (aF b) from Z))) Z) Z (wq (pA (o:=6) _ bL R (show [aF b][0]? = some (aF b) from Z) Z Z Z) Z (dI aLl Z Z M0 (qO _ _ _ _ (by omega) (by omega)) (fun w1 M1=>(wq (aI (.bool (decide _)) Z) Z (aB (aC (aP (cB (.bool (decide _)) Z ?_)))))))))))))))
 exact ⟨by first | exact bF (by omega) | exact bT (by omega) | exact bD (by omega),M1.below⟩
theorem aJu (w:World) (b:Body) (p:Nat) (R:Rd w 10 (some ⟨p,0,none⟩) 1 [aF b]) :
  Calls prog 143 #[.pointer (some ⟨p,0,none⟩)] w (Rb w (.bool (decide (-16777216≤b.vx∧b.vx≤16777216 ∧ -16777216≤b.vy∧b.vy≤16777216)))):=by
 rw [← eT p]
 refine aH #[.tmp 1] 5 func143 Z results143 ntmps143 Z ?_
 have M0:=Mem.refl w
 refine aD (aA (wq (aI (.bool false) Z) Z (aB (aC (aD (aA (wq (bO 8 fS R (qR (R.below_len (show [aF b][0]? = some (aF b) from Z))) Z) Z (wq (pA (o:=8) _ bL R (show [aF b][0]? = some (aF b) from Z) Z Z Z) Z (dI aLl Z Z M0 (qO _ _ _ _ (by omega) (by omega)) (fun w1 M1=>(wq (aI (.bool (decide _)) Z) Z (aB (aC (aP (cB (.bool (decide _)) Z ?_)))))))))))))))
 exact ⟨by first | exact bF (by omega) | exact bT (by omega) | exact bD (by omega),M1.below⟩
theorem sJ (w:World) (b:Body) :
  Calls prog 102 #[(.agg (aF b).toArray)] w (Rb w (.int .i64 (check b))):=by
 refine aH #[.tmp 2] 28 func102 Z results102 ntmps102 Z ?_
 have M0:=Mem.refl w
 refine aD (aA (bH (.agg (.mk _)) M0 Z Z Z (fun b1 w1 M1=>(bP Z Z (aB (aC (aD (aD (aA (wq (cH [] [.pointer _] Z Z) Z (wq (cE [(0,.func _ _ _),(1,.int _ _)] _ lT Z Z) Z (wq (cH [] [.pointer _] Z Z) Z (wq (cE [(0,.func _ _ _),(1,.int _ _)] _ lT Z Z) Z (wq (cH [] [.pointer _] Z Z) Z (wq (cE [(0,.func _ _ _),(1,.int _ _)] _ lT Z Z) Z (wq (cH [] [.pointer _] Z Z) Z (wq (cE [(0,.func _ _ _),(1,.int _ _)] _ lT Z Z) Z (wq (cH [] [.pointer _] Z Z) Z ?_))))))))))))))))))
 refine wq (cE [(0,.func _ _ _),(1,.int _ _)] _ lT Z Z) Z (wq (cH [] [.pointer _] Z Z) Z (wq (cE [(0,.func _ _ _),(1,.int _ _)] _ lT Z Z) Z (wq (qJ [.agg (List.toArray _),.agg (List.toArray _),.agg (List.toArray _),.agg (List.toArray _),.agg (List.toArray _),.agg (List.toArray _)] sT bBl Z Z (cW Z)) Z (aX Z Z (aB (aC (aT (mN 7 (iO (aD (aA (dB Z Z Z Z (rS 19 Z (by first | decide | omega) (aB (aC (aD (cU Z (aL (aC (aD (aT (aD (aA ?_)))))))))))))))))))))))
 refine wq (nP 0 _ sT lD Z Z (by decide) (by decide) Z Z) Z (aM rG M1 Z Z (fun b2 w2 M2=>(aZ 1 _ lD M2 Z Z Z Z Z (aQ Z) Z (fun w3 M3=>(aB (aC (aD (aA (wq (aE 0 oJ Z) Z (wq (aK 1 (.func _ _ _) aDv M3 Z Z Z) Z (dI bHu Z Z M3 (aHp _ b _ (mS 0 M3 Z Z)) (fun w4 M4=>(wq (rX Z) Z (aB (aC ?_)))))))))))))))
 refine bA Z (fun h24 => ?_) (fun h24 => ?_)
 ·refine aD (aA (wq (aE 1 oH Z) Z (wq (aK 1 (.int _ _) wX M4 Z Z Z) Z (bP Z Z (aB (aC (aP (kA (cL (cL (kA (cL (cB (.int _ _) Z ?_)))))))))))))
  exact ⟨iE (aPv b (by omega)).symm,M4.below⟩
 ·refine aL (dF (aC (aA (wq (bM Z Z (by first | decide | omega) (by first | decide | omega)) Z (aS 27 (.int .i64 1) (iE (by first | decide | omega)) (aX Z Z (aB (aC (iO (aD (aA (dB Z Z Z Z (rS 19 Z (by first | decide | omega) (aB (aC (aD (cU Z (aL (aC (aD (aT (aD (aA (wq (nP 1 _ sT lD Z Z (by decide) (by decide) Z Z) Z (aM rG M4 Z Z (fun b5 w5 M5 => ?_))))))))))))))))))))))))))
  refine aZ 2 _ lD M5 Z Z Z Z Z (aQ Z) Z (fun w6 M6=>(aB (aC (aD (aA (wq (aE 0 oJ Z) Z (wq (aK 2 (.func _ _ _) aDv M6 Z Z Z) Z (dI bJr Z Z M6 (aJy _ b _ (mS 0 M6 Z Z)) (fun w7 M7=>(wq (rX Z) Z (aB (aC ?_))))))))))))
  refine bA Z (fun h24 => ?_) (fun h24 => ?_)
  ·refine aD (aA (wq (aE 1 oH Z) Z (wq (aK 2 (.int _ _) wX M7 Z Z Z) Z (bP Z Z (aB (aC (aP (kA (cL (cL (kA (cL (cB (.int _ _) Z ?_)))))))))))))
   exact ⟨iE (aPb b (by omega) (by omega)).symm,M7.below⟩
  ·refine aL (dF (aC (aA (wq (bM Z Z (by first | decide | omega) (by first | decide | omega)) Z (aS 27 (.int .i64 2) (iE (by first | decide | omega)) (aX Z Z (aB (aC (iO (aD (aA (dB Z Z Z Z (rS 19 Z (by first | decide | omega) (aB (aC (aD (cU Z (aL (aC (aD (aT (aD (aA (wq (nP 2 _ sT lD Z Z (by decide) (by decide) Z Z) Z (aM rG M7 Z Z (fun b8 w8 M8 => ?_))))))))))))))))))))))))))
   refine aZ 3 _ lD M8 Z Z Z Z Z (aQ Z) Z (fun w9 M9=>(aB (aC (aD (aA (wq (aE 0 oJ Z) Z (wq (aK 3 (.func _ _ _) aDv M9 Z Z Z) Z (dI bFw Z Z M9 (aIj _ b _ (mS 0 M9 Z Z)) (fun w10 M10=>(wq (rX Z) Z (aB (aC ?_))))))))))))
   refine bA Z (fun h24 => ?_) (fun h24 => ?_)
   ·refine aD (aA (wq (aE 1 oH Z) Z (wq (aK 3 (.int _ _) wX M10 Z Z Z) Z (bP Z Z (aB (aC (aP (kA (cL (cL (kA (cL (cB (.int _ _) Z ?_)))))))))))))
    exact ⟨iE (aPk b (by omega) (by omega) (by omega)).symm,M10.below⟩
   ·refine aL (dF (aC (aA (wq (bM Z Z (by first | decide | omega) (by first | decide | omega)) Z (aS 27 (.int .i64 3) (iE (by first | decide | omega)) (aX Z Z (aB (aC (iO (aD (aA (dB Z Z Z Z (rS 19 Z (by first | decide | omega) (aB (aC (aD (cU Z (aL (aC (aD (aT (aD (aA (wq (nP 3 _ sT lD Z Z (by decide) (by decide) Z Z) Z (aM rG M10 Z Z (fun b11 w11 M11 => ?_))))))))))))))))))))))))))
    refine aZ 4 _ lD M11 Z Z Z Z Z (aQ Z) Z (fun w12 M12=>(aB (aC (aD (aA (wq (aE 0 oJ Z) Z (wq (aK 4 (.func _ _ _) aDv M12 Z Z Z) Z (dI bGz Z Z M12 (aIv _ b _ (mS 0 M12 Z Z)) (fun w13 M13=>(wq (rX Z) Z (aB (aC ?_))))))))))))
    refine bA Z (fun h24 => ?_) (fun h24 => ?_)
    ·refine aD (aA (wq (aE 1 oH Z) Z (wq (aK 4 (.int _ _) wX M13 Z Z Z) Z (bP Z Z (aB (aC (aP (kA (cL (cL (kA (cL (cB (.int _ _) Z ?_)))))))))))))
     exact ⟨iE (aQb b (by omega) (by omega) (by omega) (by omega)).symm,M13.below⟩
    ·refine aL (dF (aC (aA (wq (bM Z Z (by first | decide | omega) (by first | decide | omega)) Z (aS 27 (.int .i64 4) (iE (by first | decide | omega)) (aX Z Z (aB (aC (iO (aD (aA (dB Z Z Z Z (rS 19 Z (by first | decide | omega) (aB (aC (aD (cU Z (aL (aC (aD (aT (aD (aA (wq (nP 4 _ sT lD Z Z (by decide) (by decide) Z Z) Z (aM rG M13 Z Z (fun b14 w14 M14 => ?_))))))))))))))))))))))))))
     refine aZ 5 _ lD M14 Z Z Z Z Z (aQ Z) Z (fun w15 M15=>(aB (aC (aD (aA (wq (aE 0 oJ Z) Z (wq (aK 5 (.func _ _ _) aDv M15 Z Z Z) Z (dI bGg Z Z M15 (aHx _ b _ (mS 0 M15 Z Z)) (fun w16 M16=>(wq (rX Z) Z (aB (aC ?_))))))))))))
     refine bA Z (fun h24 => ?_) (fun h24 => ?_)
     ·refine aD (aA (wq (aE 1 oH Z) Z (wq (aK 5 (.int _ _) wX M16 Z Z Z) Z (bP Z Z (aB (aC (aP (kA (cL (cL (kA (cL (cB (.int _ _) Z ?_)))))))))))))
      exact ⟨iE (aPa b (by omega) (by omega) (by omega) (by omega) (by omega)).symm,M16.below⟩
     ·refine aL (dF (aC (aA (wq (bM Z Z (by first | decide | omega) (by first | decide | omega)) Z (aS 27 (.int .i64 5) (iE (by first | decide | omega)) (aX Z Z (aB (aC (iO (aD (aA (dB Z Z Z Z (rS 19 Z (by first | decide | omega) (aB (aC (aD (cU Z (aL (aC (aD (aT (aD (aA (wq (nP 5 _ sT lD Z Z (by decide) (by decide) Z Z) Z (aM rG M16 Z Z (fun b17 w17 M17 => ?_))))))))))))))))))))))))))
      refine aZ 6 _ lD M17 Z Z Z Z Z (aQ Z) Z (fun w18 M18=>(aB (aC (aD (aA (wq (aE 0 oJ Z) Z (wq (aK 6 (.func _ _ _) aDv M18 Z Z Z) Z (dI bHi Z Z M18 (aJu _ b _ (mS 0 M18 Z Z)) (fun w19 M19=>(wq (rX Z) Z (aB (aC ?_))))))))))))
      refine bA Z (fun h24 => ?_) (fun h24 => ?_)
      ·refine aD (aA (wq (aE 1 oH Z) Z (wq (aK 6 (.int _ _) wX M19 Z Z Z) Z (bP Z Z (aB (aC (aP (kA (cL (cL (kA (cL (cB (.int _ _) Z ?_)))))))))))))
       exact ⟨iE (aOq b (by omega) (by omega) (by omega) (by omega) (by omega) (by omega)).symm,M19.below⟩
      ·refine aL (dF (aC (aA (wq (bM Z Z (by first | decide | omega) (by first | decide | omega)) Z (aS 27 (.int .i64 6) (iE (by first | decide | omega)) (aX Z Z (aB (aC (iO (aD (aA (dB Z Z Z Z (rP 19 Z (by first | decide | omega) (aB (aC (aD (bW Z (cO (dA (dA (eV ?_)))))))))))))))))))))
       refine aC (aD (aA (bP Z Z (aB (aC (aP (cB (.int _ _) Z ?_)))))))
       exact ⟨iE (bCd b (by omega) (by omega) (by omega) (by omega) (by omega) (by omega)).symm,M19.below⟩
theorem wW (w:World) (x:Int) :
  Calls prog 151 #[.int .u32 x] w (fE (fun v w'=>v=.bool false∧w'=w)):=by
 refine aH #[.tmp 2] 6 func151 Z results151 ntmps151 Z ?_
 have M0:=Mem.refl w
 refine aD (aA (wq (aI (.bool false) Z) Z (aB (aC (aD (aA (aX Z Z (aX Z Z (dB Z Z Z Z (wq (aI (.bool (decide _)) Z) Z (aB (aC (aP (cB (.bool (decide _)) Z ?_))))))))))))))
 exact ⟨(bF (by omega)).symm,Z⟩
theorem kN (w:World) (x y:Int) :
  Calls prog 116 #[.int .u32 x,.int .u32 y] w (fE (fun v w'=>v=.int .i64 (mJ x y)∧w'=w)):=by
 refine aH #[.tmp 4] 20 func116 Z results116 ntmps116 Z ?_
 have M0:=Mem.refl w
 refine aD (aA (bP Z Z (aB (aC (aD (aA (aX Z Z (dU aYn Z Z (wW _ _) ?_))))))))
 rintro v1 w1 ⟨rfl,rfl⟩
 have M1:Mem _ _ [] _:=M0
 refine wq (aI (.bool false) Z) Z (aB (aC (aD (aA (aX Z Z (dU aYn Z Z (wW _ _) ?_))))))
 rintro v2 w2 ⟨rfl,rfl⟩
 have M2:Mem _ _ [] _:=M1
 refine wq (aI (.bool false) Z) Z (aB (aC (aD (aD (aA (wq (aG (.bool false) Z) Z (aB (aC (bW Z (aL (aC (aD (aD (aA (wq (aG (.bool false) Z) Z (aB (aC (bW Z (aL (aC (aD (aD (aA (aX Z Z (aX Z Z (dB Z Z Z Z (aB (aC ?_))))))))))))))))))))))))))))
 refine bA Z (fun h16 => ?_) (fun h16 => ?_)
 ·refine aD (aA (bP Z Z (aB (aC (aP (cL (cB (.int _ _) Z ?_)))))))
  exact ⟨iE (by unfold mJ;(repeat' split) <;> omega),Z⟩
 ·refine aL (aC (aD (aD (aA (aX Z Z (aX Z Z (dB Z Z Z Z (aB (aC ?_)))))))))
  refine bA Z (fun h19 => ?_) (fun h19 => ?_)
  ·refine aD (aA (bP Z Z (aB (aC (aP (cL (cB (.int _ _) Z ?_)))))))
   exact ⟨iE (by unfold mJ;(repeat' split) <;> omega),Z⟩
  ·refine aL (aC (aD (aA (bP Z Z (aB (aC (aP (cB (.int _ _) Z ?_))))))))
   exact ⟨iE (by unfold mJ;(repeat' split) <;> omega),Z⟩
theorem aCi (a b:Body) (w:World) :
  Calls prog 115 #[(.agg (aF a).toArray),(.agg (aF b).toArray)] w (fE (fun v w'=>v=.int .i64 (mJ a.key b.key)∧∃ q os,w'=Go.Sort.grow (w.drewN q) os)):=by
 refine aH #[.tmp 4] 10 func115 Z results115 ntmps115 Z ?_
 have M0:=Mem.refl w
 refine aD (aA (yF (.agg (.mk _)) M0 Z Z Z (fun M1=>(yF (.agg (.mk _)) M1 Z Z Z (fun M2=>(bP Z Z (aB (aC (aD (aA (wq (aE 0 fH Z) Z (wq (aK 0 (.int _ _) cA M2 Z Z Z) Z (wq (aE 0 fH Z) Z (wq (aK 1 (.int _ _) cA M2 Z Z Z) Z (dU aEz Z Z (kN _ _ _) ?_)))))))))))))))
 rintro v3 w3 ⟨rfl,rfl⟩
 have M3:Mem _ _ [_,_] _:=M2
 refine bP Z Z (aB (aC (aP (cB (.int _ _) Z ?_))))
 exact ⟨Z,bLx _ _ _⟩
theorem aCq (w:World) (A:Option Addr) (n c:Nat) (ls:List (List Value)) (R:Rd w 10 A n ls) (h1:∀ y∈ls,∀ u∈y,one u=true) (hn:n≤1048576) :
  Calls prog 64 #[.slice A n c] w (fE (fun v w'=>∃ A' n' c' e,v=.slice A' n' c'∧aR 39 10 A' n' c' ls e∧Mem w [] [e] w'∧A'.isSome=A.isSome)):=by
 refine aH #[.tmp 2] 8 func64 Z results64 ntmps64 Z ?_
 have M0:=Mem.refl w
 refine aD (aA (eX Z Z (aB (aC (aD (aD (aA (dZ Z Z (wq (tL _ underlying29 Z Z) Z (aB (aC ?_)))))))))))
 refine iG _ Z (fun h4 => ?_) (fun h4 => ?_)
 ·refine aD (aA (eX Z Z (aB (aC (aP (cL (cB (.slice _ _ _) Z ?_)))))))
  have hA:A=none:=by cases A <;> simp_all
  have hl:ls=[]:=by
   rcases Nat.eq_zero_or_pos n with h | h
   ·subst h;exact List.eq_nil_of_length_eq_zero R.len
   ·have:=R.some h;rw [hA] at this;cases this
  subst hA;subst hl
  exact ⟨_,_,_,_,Z,aR.nil 39 10 default,M0.dummy default,Z⟩
 ·refine aL (aC (aD (aA (cP [] [] Z fC M0 Z Z Z Z (cW Z) (by decide) (fun b1 w1 M1=>(dZ Z Z (aBw 0 ls fC M1 Z Z Z Z Z (aR.empty b1) (R.mem M1) h1 (by omega) (fun A2 c2 e2 w2 M2 hR2 hA2 => ?_))))))))
  have hAA:=hA2
  refine eX Z Z (aB (aC (aP (cB (.slice _ _ _) Z ?_))))
  refine ⟨_,_,_,_,rfl,by simpa using hR2,M2, ?_⟩
  rw [hAA rfl];cases A <;> simp_all
end Go.Proofs.YtaoaknafiegfoaaGreatDoor
