/- Part of the proof of a law of this seat (18 texts). No conditions. -/
import Derived.Test.YtpcloigancpnbaaGreatDoorProg
import Derived.Test.YtpcloigancpnbaaGreatDoorK3
import Derived.Test.YtpcloigancpnbaaGreatDoorK4
import Derived.KernelRfl
set_option linter.unusedVariables false
set_option linter.unusedSimpArgs false
set_option linter.unnecessarySimpa false
set_option maxHeartbeats 100000000
namespace Go.Proofs.YtpcloigancpnbaaGreatDoor
open Go.Bil
open Go.Proofs
open Go.Proofs.Tryz
theorem bV:iV prog 39=true:=by kernel_rfl
theorem aY:iV prog 21=true:=by kernel_rfl
theorem aWb:∀ (d:Nat) (w:World) (x0 x1 y0 y1:Int),(Op.equalIn (d+2) 41 (.agg [.int .i32 x0,.int .i32 x1].toArray) (.agg [.int .i32 y0,.int .i32 y1].toArray)).run prog w=.ok (decide (x0=y0∧x1=y1)) w:=fun d w x0 x1 y0 y1=>by
  have h:=aAv (P:=prog) (T:=41) (dd:=d+1) (xs:=[.int .i32 x0,.int .i32 x1]) (ys:=[.int .i32 y0,.int .i32 y1]) (w:=w) underlying41 (by kernel_rfl) (kU rfl (nD aY rfl) (nD aY rfl) (tZ (dd:=d+0) underlying21) (kU rfl (nD aY rfl) (nD aY rfl) (tZ (dd:=d+0) underlying21) (aMe)))
  refine h.trans (congrArg (fun r=>Result.ok r w) ?_)
  simp only [Bool.decide_and,Bool.and_true,Bool.and_assoc]
theorem bO:jA prog 41=some 2:=by kernel_rfl
theorem bVk:∀ (d:Nat) (w:World) (x0 x1 x2 x3 x4 x5 x6 x7 x8 x9 y0 y1 y2 y3 y4 y5 y6 y7 y8 y9:Int),(Op.equalIn (d+3) 43 (.agg [.int .u32 x0,.int .i32 x1,.int .i32 x2,.int .i32 x3,.int .i32 x4,.int .i32 x5,.int .i32 x6,.int .i32 x7,.int .i32 x8,.int .i32 x9].toArray) (.agg [.int .u32 y0,.int .i32 y1,.int .i32 y2,.int .i32 y3,.int .i32 y4,.int .i32 y5,.int .i32 y6,.int .i32 y7,.int .i32 y8,.int .i32 y9].toArray)).run prog w=.ok (decide (x0=y0∧x1=y1∧x2=y2∧x3=y3∧x4=y4∧x5=y5∧x6=y6∧x7=y7∧x8=y8∧x9=y9)) w:=fun d w x0 x1 x2 x3 x4 x5 x6 x7 x8 x9 y0 y1 y2 y3 y4 y5 y6 y7 y8 y9=>by
  have h:=aAv (P:=prog) (T:=43) (dd:=d+2) (xs:=[.int .u32 x0,.int .i32 x1,.int .i32 x2,.int .i32 x3,.int .i32 x4,.int .i32 x5,.int .i32 x6,.int .i32 x7,.int .i32 x8,.int .i32 x9]) (ys:=[.int .u32 y0,.int .i32 y1,.int .i32 y2,.int .i32 y3,.int .i32 y4,.int .i32 y5,.int .i32 y6,.int .i32 y7,.int .i32 y8,.int .i32 y9]) (w:=w) underlying43 (by kernel_rfl) (kU rfl (nD bV rfl) (nD bV rfl) (tZ (dd:=d+1) underlying39) (kU rfl (nD aY rfl) (nD aY rfl) (tZ (dd:=d+1) underlying21) (kU rfl (aGr bO rfl) (aGr bO rfl) (aWb (d+0) w x2 x3 y2 y3) (kU rfl (nD aY rfl) (nD aY rfl) (tZ (dd:=d+1) underlying21) (kU rfl (nD aY rfl) (nD aY rfl) (tZ (dd:=d+1) underlying21) (kU rfl (aGr bO rfl) (aGr bO rfl) (aWb (d+0) w x6 x7 y6 y7) (kU rfl (aGr bO rfl) (aGr bO rfl) (aWb (d+0) w x8 x9 y8 y9) (aMe))))))))
  refine h.trans (congrArg (fun r=>Result.ok r w) ?_)
  simp only [Bool.decide_and,Bool.and_true,Bool.and_assoc]
theorem bVj:∀ (x0 x1 x2 x3 x4 x5 x6 x7 x8 x9 y0 y1 y2 y3 y4 y5 y6 y7 y8 y9:Int),EqA prog 43 [.int .u32 x0,.int .i32 x1,.int .i32 x2,.int .i32 x3,.int .i32 x4,.int .i32 x5,.int .i32 x6,.int .i32 x7,.int .i32 x8,.int .i32 x9] [.int .u32 y0,.int .i32 y1,.int .i32 y2,.int .i32 y3,.int .i32 y4,.int .i32 y5,.int .i32 y6,.int .i32 y7,.int .i32 y8,.int .i32 y9] (decide (x0=y0∧x1=y1∧x2=y2∧x3=y3∧x4=y4∧x5=y5∧x6=y6∧x7=y7∧x8=y8∧x9=y9)):=fun x0 x1 x2 x3 x4 x5 x6 x7 x8 x9 y0 y1 y2 y3 y4 y5 y6 y7 y8 y9=>⟨by kernel_rfl,fun w=>bVk 9997 w x0 x1 x2 x3 x4 x5 x6 x7 x8 x9 y0 y1 y2 y3 y4 y5 y6 y7 y8 y9⟩
theorem bQ:jA prog 43=some 10:=by kernel_rfl
theorem bUr:aW prog 73=true:=by kernel_rfl
theorem bRj:∀ (d:Nat) (w:World) (x0 x1 y0 y1:Int),(Op.equalIn (d+2) 173 (.agg [.int .u32 x0,.int .u32 x1].toArray) (.agg [.int .u32 y0,.int .u32 y1].toArray)).run prog w=.ok (decide (x0=y0∧x1=y1)) w:=fun d w x0 x1 y0 y1=>by
  have h:=aAv (P:=prog) (T:=173) (dd:=d+1) (xs:=[.int .u32 x0,.int .u32 x1]) (ys:=[.int .u32 y0,.int .u32 y1]) (w:=w) underlying173 (by kernel_rfl) (kU rfl (nD bV rfl) (nD bV rfl) (tZ (dd:=d+0) underlying39) (kU rfl (nD bV rfl) (nD bV rfl) (tZ (dd:=d+0) underlying39) (aMe)))
  refine h.trans (congrArg (fun r=>Result.ok r w) ?_)
  simp only [Bool.decide_and,Bool.and_true,Bool.and_assoc]
theorem bRh:∀ (x0 x1 y0 y1:Int),EqA prog 173 [.int .u32 x0,.int .u32 x1] [.int .u32 y0,.int .u32 y1] (decide (x0=y0∧x1=y1)):=fun x0 x1 y0 y1=>⟨by kernel_rfl,fun w=>bRj 9998 w x0 x1 y0 y1⟩
theorem jU:jA prog 173=some 2:=by kernel_rfl
theorem bQd:aW prog 188=true:=by kernel_rfl
theorem bWc:nI prog 173=some (.agg [.int .u32 0,.int .u32 0].toArray):=by kernel_rfl
theorem fT:iV prog 3=true:=by kernel_rfl
theorem sV:iV prog 4=true:=by kernel_rfl
theorem mA:eT prog 43 1 1=true:=by kernel_rfl
theorem jJ:eT prog 43 2 2=true:=by kernel_rfl
theorem cV:eT prog 41 0 0=true:=by kernel_rfl
theorem aAn:aW prog 103=true:=by kernel_rfl
theorem cS:eT prog 41 1 1=true:=by kernel_rfl
theorem eM:eT prog 43 3 4=true:=by kernel_rfl
theorem nZ:eT prog 43 4 5=true:=by kernel_rfl
theorem fL:eT prog 43 5 6=true:=by kernel_rfl
theorem eB:eT prog 43 6 8=true:=by kernel_rfl
theorem dP:fQ prog 46 43 10 40=true:=by kernel_rfl
theorem dT:eT prog 43 0 0=true:=by kernel_rfl
theorem mixed:prog.follows .mixedOrders=true:=by kernel_rfl
theorem aRv:aW prog 112=true:=by kernel_rfl
theorem pV:gE prog 181 [.nilFunc,.int .i64 0] [(0,1),(1,1)]:=eN underlying181 (by kernel_rfl) (by kernel_rfl) (by kernel_rfl)
theorem xK:aAk prog 183 6 181 2=true:=by kernel_rfl
theorem bLz:gQ prog 183=some [.nilFunc,.int .i64 0,.nilFunc,.int .i64 0,.nilFunc,.int .i64 0,.nilFunc,.int .i64 0,.nilFunc,.int .i64 0,.nilFunc,.int .i64 0]:=by kernel_rfl
theorem oV:jA prog 181=some 2:=by kernel_rfl
theorem wL:gQ prog 181=some [.nilFunc,.int .i64 0]:=by kernel_rfl
theorem rT:eT prog 181 0 0=true:=by kernel_rfl
theorem aKm:iV prog 23=true:=by kernel_rfl
theorem bOp:aW prog 110=true:=by kernel_rfl
theorem rU:eT prog 181 1 1=true:=by kernel_rfl
theorem aGo:iV prog 33=true:=by kernel_rfl
theorem bOq:aW prog 111=true:=by kernel_rfl
theorem bOr:aW prog 113=true:=by kernel_rfl
theorem bOs:aW prog 114=true:=by kernel_rfl
theorem bOt:aW prog 115=true:=by kernel_rfl
theorem bOu:aW prog 116=true:=by kernel_rfl
theorem bDn:aW prog 94=true:=by kernel_rfl
theorem oA:eT prog 69 1 1=true:=by kernel_rfl
theorem xA:iV prog 67=true:=by kernel_rfl
theorem aCl:aBf prog 67 39 3 .u32=true:=by kernel_rfl
theorem zv3:nI prog 3=some (.int .i64 0):=by kernel_rfl
theorem jR:eT prog 69 0 0=true:=by kernel_rfl
theorem gM:iV prog 46=true:=by kernel_rfl
theorem fV:gQ prog 43=some [.int .u32 0,.int .i32 0,.int .i32 0,.int .i32 0,.int .i32 0,.int .i32 0,.int .i32 0,.int .i32 0,.int .i32 0,.int .i32 0]:=by kernel_rfl
theorem uU:gE prog 43 [.int .u32 0,.int .i32 0,.int .i32 0,.int .i32 0,.int .i32 0,.int .i32 0,.int .i32 0,.int .i32 0,.int .i32 0,.int .i32 0] [(0,1),(1,1),(2,2),(4,1),(5,1),(6,2),(8,2)]:=eN underlying43 (by kernel_rfl) (by kernel_rfl) (by kernel_rfl)
theorem bNb:aW prog 97=true:=by kernel_rfl
theorem aVo:aW prog 74=true:=by kernel_rfl
theorem bUp:aW prog 71=true:=by kernel_rfl
theorem bUq:aW prog 72=true:=by kernel_rfl
theorem bMz:aW prog 82=true:=by kernel_rfl
theorem tG:aW prog 64=true:=by kernel_rfl
theorem aVp:aW prog 83=true:=by kernel_rfl
theorem bUn:aW prog 69=true:=by kernel_rfl
theorem bOo:aW prog 109=true:=by kernel_rfl
theorem us3:(prog.underlying 3).isSome=true:=by kernel_rfl
theorem bVy:(prog.underlying 136).isSome=true:=by kernel_rfl
theorem bCo:aW prog 172=true:=by kernel_rfl
theorem bPs:aW prog 171=true:=by kernel_rfl
theorem bDf:aW prog 227=true:=by kernel_rfl
theorem aNs:gQ prog 248=some [.int .i32 0,.int .i32 0,.int .i32 0,.int .i32 0]:=by kernel_rfl
theorem bQj:aW prog 206=true:=by kernel_rfl
theorem aKz:gE prog 248 [.int .i32 0,.int .i32 0,.int .i32 0,.int .i32 0] [(0,1),(1,1),(2,1),(3,1)]:=eN underlying248 (by kernel_rfl) (by kernel_rfl) (by kernel_rfl)
theorem lP:jA prog 248=some 4:=by kernel_rfl
theorem yV:eT prog 248 0 0=true:=by kernel_rfl
theorem yX:eT prog 248 2 2=true:=by kernel_rfl
theorem yW:eT prog 248 1 1=true:=by kernel_rfl
theorem yY:eT prog 248 3 3=true:=by kernel_rfl
theorem aSc:aW prog 208=true:=by kernel_rfl
theorem bQl:aW prog 209=true:=by kernel_rfl
theorem tF:gQ prog 271=some [.int .i32 0,.int .i32 0]:=by kernel_rfl
theorem aLa:gE prog 271 [.int .i32 0,.int .i32 0] [(0,1),(1,1)]:=eN underlying271 (by kernel_rfl) (by kernel_rfl) (by kernel_rfl)
theorem kO:jA prog 271=some 2:=by kernel_rfl
theorem eZ:gE prog 41 [.int .i32 0,.int .i32 0] [(0,1),(1,1)]:=eN underlying41 (by kernel_rfl) (by kernel_rfl) (by kernel_rfl)
theorem bDi:aW prog 238=true:=by kernel_rfl
theorem bQw:aW prog 228=true:=by kernel_rfl
theorem aXs:gQ prog 4=some [.bool false]:=by kernel_rfl
theorem aFo:eT prog 271 1 1=true:=by kernel_rfl
theorem aFn:eT prog 271 0 0=true:=by kernel_rfl
theorem bMd:gQ prog 269=some [.slice none 0 0]:=by kernel_rfl
theorem bQk:aW prog 207=true:=by kernel_rfl
theorem bQx:aW prog 229=true:=by kernel_rfl
theorem aTj:iV prog 269=true:=by kernel_rfl
theorem bHe:fQ prog 269 271 2 8=true:=by kernel_rfl
theorem dY:(prog.underlying 21).isSome=true:=by kernel_rfl
theorem bBt:aAk prog 315 2 39 1=true:=by kernel_rfl
theorem wU:(prog.underlying 39).isSome=true:=by kernel_rfl
theorem bQt:aW prog 222=true:=by kernel_rfl
theorem mV:(prog.underlying 2).isSome=true:=by kernel_rfl
theorem xE:(prog.underlying 193).isSome=true:=by kernel_rfl
theorem tQ:aW prog 197=true:=by kernel_rfl
theorem aSb:aW prog 196=true:=by kernel_rfl
theorem bCv:aW prog 198=true:=by kernel_rfl
theorem aLs:aW prog 199=true:=by kernel_rfl
theorem aLu:aW prog 223=true:=by kernel_rfl
theorem bDb:aW prog 217=true:=by kernel_rfl
theorem aSa:aW prog 191=true:=by kernel_rfl
theorem bQr:aW prog 219=true:=by kernel_rfl
theorem iY:gQ prog 41=some [.int .i32 0,.int .i32 0]:=by kernel_rfl
theorem bCt:aW prog 193=true:=by kernel_rfl
theorem bDc:aW prog 218=true:=by kernel_rfl
theorem aEr:aW prog 216=true:=by kernel_rfl
theorem jM:iV prog 2=true:=by kernel_rfl
theorem aLq:aW prog 173=true:=by kernel_rfl
theorem bRe:aW prog 253=true:=by kernel_rfl
theorem aIc:gQ prog 2=some [.int .i64 0]:=by kernel_rfl
theorem bDj:aW prog 254=true:=by kernel_rfl
theorem cT:iV prog 193=true:=by kernel_rfl
theorem bMa:gQ prog 193=some [.int .u64 0]:=by kernel_rfl
theorem aAj:aAk prog 351 2 41 2=true:=by kernel_rfl
theorem aXr:gQ prog 351=some [.int .i32 0,.int .i32 0,.int .i32 0,.int .i32 0]:=by kernel_rfl
theorem aLw:aW prog 248=true:=by kernel_rfl
theorem aLv:aW prog 247=true:=by kernel_rfl
theorem bRa:aW prog 233=true:=by kernel_rfl
theorem aAg:gQ prog 284=some [.int .u32 0,.int .i32 0,.int .i32 0,.int .i32 0,.int .i32 0,.int .i32 0,.int .i32 0,.int .i32 0,.int .i32 0,.int .i32 0,.int .i32 0,.int .i32 0,.int .i32 0,.int .i32 0]:=by kernel_rfl
theorem bQz:aW prog 232=true:=by kernel_rfl
theorem bAy:gE prog 284 [.int .u32 0,.int .i32 0,.int .i32 0,.int .i32 0,.int .i32 0,.int .i32 0,.int .i32 0,.int .i32 0,.int .i32 0,.int .i32 0,.int .i32 0,.int .i32 0,.int .i32 0,.int .i32 0] [(0,10),(10,2),(12,2)]:=eN underlying284 (by kernel_rfl) (by kernel_rfl) (by kernel_rfl)
theorem oW:jA prog 284=some 14:=by kernel_rfl
theorem aLt:aW prog 214=true:=by kernel_rfl
theorem aPk:eT prog 284 1 10=true:=by kernel_rfl
theorem aPl:eT prog 284 2 12=true:=by kernel_rfl
theorem bQq:aW prog 215=true:=by kernel_rfl
theorem yZ:eT prog 284 0 0=true:=by kernel_rfl
theorem nH:gQ prog 175=some [.int .u32 0,.int .u32 0,.int .i32 0,.int .i32 0,.int .i32 0]:=by kernel_rfl
theorem bQe:aW prog 189=true:=by kernel_rfl
theorem bQf:aW prog 190=true:=by kernel_rfl
theorem wE:gE prog 175 [.int .u32 0,.int .u32 0,.int .i32 0,.int .i32 0,.int .i32 0] [(0,2),(2,2),(4,1)]:=eN underlying175 (by kernel_rfl) (by kernel_rfl) (by kernel_rfl)
theorem fA:jA prog 175=some 5:=by kernel_rfl
theorem aBt:gE prog 173 [.int .u32 0,.int .u32 0] [(0,1),(1,1)]:=eN underlying173 (by kernel_rfl) (by kernel_rfl) (by kernel_rfl)
theorem wK:gQ prog 173=some [.int .u32 0,.int .u32 0]:=by kernel_rfl
theorem bQg:aW prog 192=true:=by kernel_rfl
theorem aPj:eT prog 245 1 1024=true:=by kernel_rfl
theorem bPv:aW prog 179=true:=by kernel_rfl
theorem bPw:aW prog 180=true:=by kernel_rfl
theorem bFk:aBf prog 268 3 4 .i64=true:=by kernel_rfl
theorem zv4:nI prog 4=some (.bool false):=by kernel_rfl
theorem aFm:eT prog 245 0 0=true:=by kernel_rfl
theorem aRr:aAk prog 243 1024 242 1=true:=by kernel_rfl
theorem aMy:iV prog 242=true:=by kernel_rfl
theorem aRe:fQ prog 242 39 1 4=true:=by kernel_rfl
theorem bHf:fQ prog 338 3 1 8=true:=by kernel_rfl
theorem gU:eT prog 173 0 0=true:=by kernel_rfl
theorem kJ:eT prog 173 1 1=true:=by kernel_rfl
theorem bQp:aW prog 213=true:=by kernel_rfl
theorem bRz:iV prog 275=true:=by kernel_rfl
theorem bQo:aW prog 212=true:=by kernel_rfl
theorem aTi:iV prog 220=true:=by kernel_rfl
theorem aAa:fQ prog 220 173 2 8=true:=by kernel_rfl
theorem bQy:aW prog 230=true:=by kernel_rfl
theorem bQm:aW prog 210=true:=by kernel_rfl
theorem bQn:aW prog 211=true:=by kernel_rfl
theorem bOc:jA prog 243=some 1024:=by kernel_rfl
theorem bQa:aW prog 185=true:=by kernel_rfl
theorem bAx:gE prog 276 [] []:=eN underlying276 (by kernel_rfl) (by kernel_rfl) (by kernel_rfl)
theorem bQc:aW prog 187=true:=by kernel_rfl
theorem bQb:aW prog 186=true:=by kernel_rfl
theorem bPu:aW prog 178=true:=by kernel_rfl
theorem aMq:aBf prog 240 39 248 .u32=true:=by kernel_rfl
theorem bNv:gQ prog 3=some [.int .i64 0]:=by kernel_rfl
theorem bFv:iV prog 240=true:=by kernel_rfl
theorem bId:nI prog 248=some (.agg [.int .i32 0,.int .i32 0,.int .i32 0,.int .i32 0].toArray):=by kernel_rfl
theorem bPx:aW prog 182=true:=by kernel_rfl
theorem bCr:aW prog 181=true:=by kernel_rfl
theorem bPz:aW prog 184=true:=by kernel_rfl
theorem bPm:aW prog 164=true:=by kernel_rfl
theorem bPn:aW prog 165=true:=by kernel_rfl
theorem bPo:aW prog 166=true:=by kernel_rfl
theorem bPq:aW prog 168=true:=by kernel_rfl
theorem bPp:aW prog 167=true:=by kernel_rfl
theorem bPy:aW prog 183=true:=by kernel_rfl
theorem aFj:eT prog 219 0 0=true:=by kernel_rfl
theorem aGn:iV prog 217=true:=by kernel_rfl
theorem aGb:aBf prog 217 39 43 .u32=true:=by kernel_rfl
theorem bMe:nI prog 43=some (.agg [.int .u32 0,.int .i32 0,.int .i32 0,.int .i32 0,.int .i32 0,.int .i32 0,.int .i32 0,.int .i32 0,.int .i32 0,.int .i32 0].toArray):=by kernel_rfl
theorem bCm:aW prog 169=true:=by kernel_rfl
theorem uD:eT prog 219 1 1=true:=by kernel_rfl
theorem qG:iV prog 148=true:=by kernel_rfl
theorem tJ:fQ prog 148 175 5 20=true:=by kernel_rfl
theorem bPf:aW prog 147=true:=by kernel_rfl
theorem bAw:gE prog 219 [.map none,.slice none 0 0] [(0,1),(1,1)]:=eN underlying219 (by kernel_rfl) (by kernel_rfl) (by kernel_rfl)
theorem bPd:aW prog 145=true:=by kernel_rfl
theorem bPe:aW prog 146=true:=by kernel_rfl
theorem wM:gQ prog 307=some [.int .u64 0,.int .u64 0,.int .u64 0,.int .u64 0,.int .u64 0,.int .u64 0,.int .u64 0,.int .u64 0]:=by kernel_rfl
theorem bU:eT prog 307 0 0=true:=by kernel_rfl
theorem dD:aAk prog 305 8 193 1=true:=by kernel_rfl
theorem oX:jA prog 307=some 8:=by kernel_rfl
theorem bDe:aW prog 226=true:=by kernel_rfl
theorem bQv:aW prog 225=true:=by kernel_rfl
theorem bCz:aW prog 204=true:=by kernel_rfl
theorem bCy:aW prog 203=true:=by kernel_rfl
theorem bDa:aW prog 205=true:=by kernel_rfl
theorem bCk:aW prog 159=true:=by kernel_rfl
theorem bPl:aW prog 160=true:=by kernel_rfl
theorem aRz:aW prog 137=true:=by kernel_rfl
theorem lQ:aW prog 104=true:=by kernel_rfl
theorem bCw:aW prog 200=true:=by kernel_rfl
theorem bQu:aW prog 224=true:=by kernel_rfl
theorem bQi:aW prog 201=true:=by kernel_rfl
theorem bCx:aW prog 202=true:=by kernel_rfl
theorem yU:eT prog 204 1 2=true:=by kernel_rfl
theorem yT:eT prog 204 0 0=true:=by kernel_rfl
theorem aEi:gQ prog 204=some [.int .i32 0,.int .i32 0,.int .i32 0,.int .i32 0]:=by kernel_rfl
theorem wF:gE prog 204 [.int .i32 0,.int .i32 0,.int .i32 0,.int .i32 0] [(0,2),(2,2)]:=eN underlying204 (by kernel_rfl) (by kernel_rfl) (by kernel_rfl)
theorem aLr:aW prog 175=true:=by kernel_rfl
theorem aXg:fQ prog 263 204 4 16=true:=by kernel_rfl
theorem mX:jA prog 204=some 4:=by kernel_rfl
theorem aRy:aW prog 135=true:=by kernel_rfl
theorem bCi:aW prog 157=true:=by kernel_rfl
theorem bCj:aW prog 158=true:=by kernel_rfl
theorem bPk:aW prog 156=true:=by kernel_rfl
theorem bPa:aW prog 134=true:=by kernel_rfl
theorem bPb:aW prog 136=true:=by kernel_rfl
theorem aRu:aW prog 106=true:=by kernel_rfl
theorem bRf:aW prog 255=true:=by kernel_rfl
theorem bRd:aW prog 249=true:=by kernel_rfl
theorem iH:eT prog 175 1 2=true:=by kernel_rfl
theorem bRb:aW prog 234=true:=by kernel_rfl
theorem bRc:aW prog 235=true:=by kernel_rfl
theorem bDg:aW prog 236=true:=by kernel_rfl
theorem bDh:aW prog 237=true:=by kernel_rfl
theorem rV:eT prog 291 0 0=true:=by kernel_rfl
theorem fR:eT prog 175 0 0=true:=by kernel_rfl
theorem aLo:aW prog 153=true:=by kernel_rfl
theorem bQs:aW prog 220=true:=by kernel_rfl
theorem bDd:aW prog 221=true:=by kernel_rfl
theorem rW:eT prog 291 1 1=true:=by kernel_rfl
theorem pA:iV prog 255=true:=by kernel_rfl
theorem rX:eT prog 291 2 2=true:=by kernel_rfl
theorem rC:fQ prog 255 2 1 8=true:=by kernel_rfl
theorem bQh:aW prog 195=true:=by kernel_rfl
theorem aLb:gE prog 291 [.slice none 0 0,.slice none 0 0,.slice none 0 0] [(0,1),(1,1),(2,1)]:=eN underlying291 (by kernel_rfl) (by kernel_rfl) (by kernel_rfl)
theorem bCu:aW prog 194=true:=by kernel_rfl
theorem bPr:aW prog 170=true:=by kernel_rfl
theorem aRw:aW prog 127=true:=by kernel_rfl
theorem bPi:aW prog 151=true:=by kernel_rfl
theorem aFi:eT prog 175 2 4=true:=by kernel_rfl
theorem bCp:aW prog 174=true:=by kernel_rfl
theorem aBk:iV prog 201=true:=by kernel_rfl
theorem aHf:fQ prog 201 228 2 16=true:=by kernel_rfl
theorem aFk:eT prog 228 0 0=true:=by kernel_rfl
theorem aFl:eT prog 228 1 1=true:=by kernel_rfl
theorem bMc:gQ prog 228=some [.int .i64 0,.int .i64 0]:=by kernel_rfl
theorem bMb:gQ prog 201=some [.slice none 0 0]:=by kernel_rfl
theorem bCh:aW prog 155=true:=by kernel_rfl
theorem bCg:aW prog 154=true:=by kernel_rfl
theorem aKx:fQ prog 194 164 1 8=true:=by kernel_rfl
theorem bRy:iV prog 164=true:=by kernel_rfl
theorem bPh:aW prog 150=true:=by kernel_rfl
theorem aOn:aW prog 98=true:=by kernel_rfl
theorem bPg:aW prog 149=true:=by kernel_rfl
theorem bCe:aW prog 148=true:=by kernel_rfl
theorem bPj:aW prog 152=true:=by kernel_rfl
theorem yR:eT prog 167 1 1=true:=by kernel_rfl
theorem rS:eT prog 167 3 3=true:=by kernel_rfl
theorem yQ:eT prog 123 2 2=true:=by kernel_rfl
theorem aFh:eT prog 167 0 0=true:=by kernel_rfl
theorem bOv:aW prog 128=true:=by kernel_rfl
theorem yS:eT prog 167 2 2=true:=by kernel_rfl
theorem bEi:eT prog 123 0 0=true:=by kernel_rfl
theorem aPi:eT prog 123 1 1=true:=by kernel_rfl
theorem bOw:aW prog 130=true:=by kernel_rfl
theorem aRx:aW prog 129=true:=by kernel_rfl
theorem bOx:aW prog 131=true:=by kernel_rfl
theorem bOz:aW prog 133=true:=by kernel_rfl
theorem bOy:aW prog 132=true:=by kernel_rfl
theorem aEh:gQ prog 123=some [.int .i64 0,.int .i64 0,.bool false]:=by kernel_rfl
theorem bAv:gE prog 167 [.slice none 0 0,.slice none 0 0,.slice none 0 0,.int .i64 0,.int .i64 0,.bool false] [(0,1),(1,1),(2,1),(3,3)]:=eN underlying167 (by kernel_rfl) (by kernel_rfl) (by kernel_rfl)
theorem aEn:aAk prog 169 4 168 1=true:=by kernel_rfl
theorem bLx:gQ prog 169=some [.nilFunc,.nilFunc,.nilFunc,.nilFunc]:=by kernel_rfl
theorem aMx:iV prog 168=true:=by kernel_rfl
theorem bVh:aW prog 99=true:=by kernel_rfl
theorem bOk:aW prog 100=true:=by kernel_rfl
theorem bOl:aW prog 101=true:=by kernel_rfl
theorem bOm:aW prog 102=true:=by kernel_rfl
theorem tN:jA prog 123=some 3:=by kernel_rfl
theorem bPt:aW prog 176=true:=by kernel_rfl
theorem bCq:aW prog 177=true:=by kernel_rfl
theorem bCl:aW prog 161=true:=by kernel_rfl
theorem aLp:aW prog 162=true:=by kernel_rfl
theorem bCd:aW prog 138=true:=by kernel_rfl
theorem xM:aW prog 105=true:=by kernel_rfl
theorem bOn:aW prog 107=true:=by kernel_rfl
theorem bPc:aW prog 139=true:=by kernel_rfl
theorem bLy:gQ prog 179=some [.int .i64 0,.int .i64 0]:=by kernel_rfl
theorem bCc:aW prog 108=true:=by kernel_rfl
theorem lV:eT prog 179 0 0=true:=by kernel_rfl
theorem lW:eT prog 179 1 1=true:=by kernel_rfl
theorem bOb:jA prog 179=some 2:=by kernel_rfl
theorem aKw:fQ prog 154 179 2 16=true:=by kernel_rfl
theorem bVa:aW prog 85=true:=by kernel_rfl
theorem bVb:aW prog 86=true:=by kernel_rfl
theorem bVc:aW prog 87=true:=by kernel_rfl
theorem bVe:aW prog 89=true:=by kernel_rfl
theorem bVd:aW prog 88=true:=by kernel_rfl
theorem gC:fQ prog 34 5 1 1=true:=by kernel_rfl
theorem aNr:gQ prog 108=some [.int .u32 0,.int .u32 0,.int .u32 0,.int .u32 0,.int .u32 0,.int .u32 0,.int .u32 0,.int .u32 0,.int .u32 0,.int .u32 0]:=by kernel_rfl
theorem jC:aAk prog 108 10 39 1=true:=by kernel_rfl
theorem yH:aW prog 70=true:=by kernel_rfl
theorem aRn:jA prog 108=some 10:=by kernel_rfl
theorem wP:iV prog 5=true:=by kernel_rfl
theorem us5:(prog.underlying 5).isSome=true:=by kernel_rfl
theorem bDm:aW prog 93=true:=by kernel_rfl
theorem bMw:aW prog 42=true:=by kernel_rfl
theorem bMx:aW prog 43=true:=by kernel_rfl
theorem bTr:aW prog 44=true:=by kernel_rfl
theorem tS:aW prog 65=true:=by kernel_rfl
theorem tT:aW prog 66=true:=by kernel_rfl
theorem bUm:aW prog 67=true:=by kernel_rfl
theorem bDl:aW prog 90=true:=by kernel_rfl
theorem tR:aW prog 39=true:=by kernel_rfl
theorem yI:aW prog 91=true:=by kernel_rfl
theorem bVg:aW prog 92=true:=by kernel_rfl
theorem zB:eT prog 73 0 0=true:=by kernel_rfl
theorem bDk:aW prog 33=true:=by kernel_rfl
theorem vQ:eT prog 71 0 0=true:=by kernel_rfl
theorem bMy:aW prog 68=true:=by kernel_rfl
theorem bUu:aW prog 77=true:=by kernel_rfl
theorem bTn:aW prog 34=true:=by kernel_rfl
theorem bTs:aW prog 45=true:=by kernel_rfl
theorem bMu:aW prog 36=true:=by kernel_rfl
theorem bTo:aW prog 35=true:=by kernel_rfl
theorem bMo:aW prog 18=true:=by kernel_rfl
theorem bUw:aW prog 79=true:=by kernel_rfl
theorem bUy:aW prog 80=true:=by kernel_rfl
theorem bHh:gE prog 71 [.slice none 0 0,.map none] [(0,2)]:=eN underlying71 (by kernel_rfl) (by kernel_rfl) (by kernel_rfl)
theorem bTc:jA prog 71=some 2:=by kernel_rfl
theorem bUz:aW prog 81=true:=by kernel_rfl
theorem bMv:aW prog 41=true:=by kernel_rfl
theorem bTq:aW prog 40=true:=by kernel_rfl
theorem bNa:aW prog 84=true:=by kernel_rfl
theorem aVa:gQ prog 97=some [.slice none 0 0,.int .i64 0,.int .u32 0,.int .i32 0,.int .i32 0,.int .i32 0,.int .i32 0,.int .i32 0,.int .i32 0,.int .i32 0,.int .i32 0,.int .i32 0,.slice none 0 0,.int .i64 0,.bool false]:=by kernel_rfl
theorem bHi:gE prog 97 [.slice none 0 0,.int .i64 0,.int .u32 0,.int .i32 0,.int .i32 0,.int .i32 0,.int .i32 0,.int .i32 0,.int .i32 0,.int .i32 0,.int .i32 0,.int .i32 0,.slice none 0 0,.int .i64 0,.bool false] [(0,1),(1,1),(2,10),(12,1),(13,1),(14,1)]:=eN underlying97 (by kernel_rfl) (by kernel_rfl) (by kernel_rfl)
theorem iO:jA prog 97=some 15:=by kernel_rfl
theorem bJg:eT prog 99 0 0=true:=by kernel_rfl
theorem bJh:eT prog 99 1 1=true:=by kernel_rfl
theorem bUh:aW prog 59=true:=by kernel_rfl
theorem vR:eT prog 97 0 0=true:=by kernel_rfl
theorem vS:eT prog 97 1 1=true:=by kernel_rfl
theorem aMj:eT prog 99 2 11=true:=by kernel_rfl
theorem bUi:aW prog 60=true:=by kernel_rfl
theorem bJi:eT prog 99 3 12=true:=by kernel_rfl
theorem bUj:aW prog 61=true:=by kernel_rfl
theorem bUk:aW prog 62=true:=by kernel_rfl
theorem aWh:eT prog 97 4 13=true:=by kernel_rfl
theorem aWi:eT prog 97 5 14=true:=by kernel_rfl
theorem bMr:aW prog 27=true:=by kernel_rfl
theorem aWg:eT prog 97 3 12=true:=by kernel_rfl
theorem kC:iV prog 34=true:=by kernel_rfl
theorem bJj:eT prog 99 4 14=true:=by kernel_rfl
theorem bUl:aW prog 63=true:=by kernel_rfl
theorem bJf:eT prog 97 2 2=true:=by kernel_rfl
theorem lR:fQ prog 22 58 15 88=true:=by kernel_rfl
theorem aWe:eT prog 45 1 1=true:=by kernel_rfl
theorem aMi:eT prog 45 2 11=true:=by kernel_rfl
theorem qR:eT prog 45 4 14=true:=by kernel_rfl
theorem bTt:aW prog 46=true:=by kernel_rfl
theorem sC:aBf prog 94 3 77 .i64=true:=by kernel_rfl
theorem bTw:aW prog 49=true:=by kernel_rfl
theorem bUa:aW prog 52=true:=by kernel_rfl
theorem lC:gQ prog 36=some [.int .i64 0,.slice none 0 0,.int .i64 0,.bool false]:=by kernel_rfl
theorem bFs:iV prog 111=true:=by kernel_rfl
theorem bRv:iV prog 113=true:=by kernel_rfl
theorem jW:jA prog 45=some 15:=by kernel_rfl
theorem qL:gE prog 36 [.int .i64 0,.slice none 0 0,.int .i64 0,.bool false] [(0,1),(1,1),(2,1),(3,1)]:=eN underlying36 (by kernel_rfl) (by kernel_rfl) (by kernel_rfl)
theorem bTv:aW prog 48=true:=by kernel_rfl
theorem bTu:aW prog 47=true:=by kernel_rfl
theorem gT:jA prog 36=some 4:=by kernel_rfl
theorem bFt:iV prog 115=true:=by kernel_rfl
theorem bRw:iV prog 117=true:=by kernel_rfl
theorem bTz:aW prog 51=true:=by kernel_rfl
theorem bTy:aW prog 50=true:=by kernel_rfl
theorem bFu:iV prog 119=true:=by kernel_rfl
theorem bRx:iV prog 120=true:=by kernel_rfl
theorem bUb:aW prog 53=true:=by kernel_rfl
theorem bMs:aW prog 31=true:=by kernel_rfl
theorem aWf:eT prog 45 3 12=true:=by kernel_rfl
theorem bUd:aW prog 55=true:=by kernel_rfl
theorem bUf:aW prog 57=true:=by kernel_rfl
theorem aVm:aW prog 22=true:=by kernel_rfl
theorem pL:eT prog 45 0 0=true:=by kernel_rfl
theorem aEs:aW prog 37=true:=by kernel_rfl
theorem aVb:nI prog 77=some (.nilFunc):=by kernel_rfl
theorem bUs:aW prog 75=true:=by kernel_rfl
theorem bUt:aW prog 76=true:=by kernel_rfl
theorem bUv:aW prog 78=true:=by kernel_rfl
theorem bUc:aW prog 54=true:=by kernel_rfl
theorem bUe:aW prog 56=true:=by kernel_rfl
theorem bUg:aW prog 58=true:=by kernel_rfl
theorem pC:fQ prog 25 45 15 88=true:=by kernel_rfl
theorem aId:gQ prog 45=some [.int .i64 0,.int .u32 0,.int .i32 0,.int .i32 0,.int .i32 0,.int .i32 0,.int .i32 0,.int .i32 0,.int .i32 0,.int .i32 0,.int .i32 0,.int .u32 0,.int .i32 0,.int .i32 0,.slice none 0 0]:=by kernel_rfl
theorem aVn:aW prog 23=true:=by kernel_rfl
theorem bAp:fQ prog 29 36 4 48=true:=by kernel_rfl
theorem bIc:gQ prog 80=some [.int .i64 0,.slice none 0 0,.int .i64 0,.bool false]:=by kernel_rfl
theorem pN:eT prog 58 0 0=true:=by kernel_rfl
theorem aHo:gE prog 80 [.int .i64 0,.slice none 0 0,.int .i64 0,.bool false] [(0,1),(1,1),(2,1),(3,1)]:=eN underlying80 (by kernel_rfl) (by kernel_rfl) (by kernel_rfl)
theorem aBw:jA prog 80=some 4:=by kernel_rfl
theorem vM:eT prog 58 1 1=true:=by kernel_rfl
theorem vN:eT prog 58 2 11=true:=by kernel_rfl
theorem vO:eT prog 58 3 12=true:=by kernel_rfl
theorem vP:eT prog 58 4 14=true:=by kernel_rfl
theorem bHj:gE prog 99 [.int .i64 0,.int .u32 0,.int .i32 0,.int .i32 0,.int .i32 0,.int .i32 0,.int .i32 0,.int .i32 0,.int .i32 0,.int .i32 0,.int .i32 0,.int .u32 0,.int .i32 0,.int .i32 0,.slice none 0 0] [(0,1),(1,10),(11,1),(12,2),(14,1)]:=eN underlying99 (by kernel_rfl) (by kernel_rfl) (by kernel_rfl)
theorem bTp:aW prog 38=true:=by kernel_rfl
theorem bTb:jA prog 58=some 15:=by kernel_rfl
theorem bTj:aW prog 25=true:=by kernel_rfl
theorem bVs:fQ prog 47 80 4 48=true:=by kernel_rfl
theorem bCf:aW prog 15=true:=by kernel_rfl
theorem uS:fQ prog 26 34 1 24=true:=by kernel_rfl
theorem bMq:aW prog 24=true:=by kernel_rfl
theorem iZ:eT prog 28 2 2=true:=by kernel_rfl
theorem gY:iV prog 26=true:=by kernel_rfl
theorem aKn:iV prog 61=true:=by kernel_rfl
theorem bTi:aW prog 21=true:=by kernel_rfl
theorem vC:gQ prog 28=some [.slice none 0 0,.int .i64 0,.slice none 0 0]:=by kernel_rfl
theorem aHm:gE prog 28 [.slice none 0 0,.int .i64 0,.slice none 0 0] [(0,1),(1,1),(2,1)]:=eN underlying28 (by kernel_rfl) (by kernel_rfl) (by kernel_rfl)
theorem lM:jA prog 28=some 3:=by kernel_rfl
theorem fP:eT prog 28 0 0=true:=by kernel_rfl
theorem iI:iV prog 25=true:=by kernel_rfl
theorem bCs:aW prog 19=true:=by kernel_rfl
theorem aUz:gQ prog 73=some [.slice none 0 0,.map none]:=by kernel_rfl
theorem bIb:gQ prog 61=some [.pointer none]:=by kernel_rfl
theorem mZ:eT prog 28 1 1=true:=by kernel_rfl
theorem bMp:aW prog 20=true:=by kernel_rfl
theorem bTm:aW prog 30=true:=by kernel_rfl
theorem bTl:aW prog 29=true:=by kernel_rfl
theorem bMt:aW prog 32=true:=by kernel_rfl
theorem bCn:aW prog 17=true:=by kernel_rfl
theorem aIe:gQ prog 52=some [.slice none 0 0,.int .i64 0,.slice none 0 0]:=by kernel_rfl
theorem aRg:gE prog 52 [.slice none 0 0,.int .i64 0,.slice none 0 0] [(0,1),(1,1),(2,1)]:=eN underlying52 (by kernel_rfl) (by kernel_rfl) (by kernel_rfl)
theorem tO:jA prog 52=some 3:=by kernel_rfl
theorem zA:eT prog 52 1 1=true:=by kernel_rfl
theorem bTe:aW prog 10=true:=by kernel_rfl
theorem pM:eT prog 52 2 2=true:=by kernel_rfl
theorem bNi:∀ (x0 x1 y0 y1:Int),EqA prog 41 [.int .i32 x0,.int .i32 x1] [.int .i32 y0,.int .i32 y1] (decide (x0=y0∧x1=y1)):=fun x0 x1 y0 y1=>⟨by kernel_rfl,fun w=>aWb 9998 w x0 x1 y0 y1⟩
theorem aDw:eT prog 52 0 0=true:=by kernel_rfl
theorem aQd:iV prog 22=true:=by kernel_rfl
theorem bTk:aW prog 26=true:=by kernel_rfl
theorem aHn:gE prog 45 [.int .i64 0,.int .u32 0,.int .i32 0,.int .i32 0,.int .i32 0,.int .i32 0,.int .i32 0,.int .i32 0,.int .i32 0,.int .i32 0,.int .i32 0,.int .u32 0,.int .i32 0,.int .i32 0,.slice none 0 0] [(0,1),(1,10),(11,1),(12,2),(14,1)]:=eN underlying45 (by kernel_rfl) (by kernel_rfl) (by kernel_rfl)
theorem aAe:gE prog 58 [.int .i64 0,.int .u32 0,.int .i32 0,.int .i32 0,.int .i32 0,.int .i32 0,.int .i32 0,.int .i32 0,.int .i32 0,.int .i32 0,.int .i32 0,.int .u32 0,.int .i32 0,.int .i32 0,.slice none 0 0] [(0,1),(1,10),(11,1),(12,2),(14,1)]:=eN underlying58 (by kernel_rfl) (by kernel_rfl) (by kernel_rfl)
theorem bJe:eT prog 36 0 0=true:=by kernel_rfl
theorem bUx:aW prog 8=true:=by kernel_rfl
theorem bUo:aW prog 7=true:=by kernel_rfl
theorem bMn:aW prog 16=true:=by kernel_rfl
theorem bVf:aW prog 9=true:=by kernel_rfl
theorem bTx:aW prog 5=true:=by kernel_rfl
theorem bWg:aW prog 6=true:=by kernel_rfl
theorem bTg:aW prog 12=true:=by kernel_rfl
theorem bTh:aW prog 13=true:=by kernel_rfl
theorem bTf:aW prog 11=true:=by kernel_rfl
end Go.Proofs.YtpcloigancpnbaaGreatDoor

namespace Go.Proofs.YtpcloigancpnbaaGreatDoor
open Go.Bil
open Go.RowKit (Below)
open Go.Proofs
open Go.Proofs.Tryz
theorem sF (w:World) (n l:Int) (h0:0≤l) (h1:l≤2147483647) :
  Calls prog 103 #[.int .i32 n,.int .i32 l] w (Rb w (.bool (decide (xS n l)))):=by
 have hneg:IntKind.i32.wrap (-l) = -l:=jQ _ (by omega) (by omega)
 refine aI #[.tmp 4] 14 func103 Z results103 ntmps103 Z ?_
 have M0:=Mem.refl w
 refine aE (aA (wq (aJ (.bool false) Z) Z (aB (aC (aE (aA (aQ Z Z (aQ Z Z (wq (sE Z) Z (aL 7 (.int .i32 (-l)) (iE hneg) (cX Z Z Z Z (wq (aH (.bool (decide _)) Z) Z ?_))))))))))))
 refine dQ 9 Z (fun g9 => ?_) (fun g9 => ?_)
 ·refine aQ Z Z (aQ Z Z (cX Z Z Z Z (wq (bR true (.bool (decide _)) Z Z) Z (wq (aJ (.bool (decide _)) Z) Z (aB (aC (aO (cI (.bool (decide _)) Z ?_))))))))
  exact ⟨by unfold xS;first | exact bF (by omega) | exact bD (by omega),M0.below⟩
 ·refine aN Z Z (aN Z Z (aN Z Z (wq (bR false (.bool false) Z Z) Z (wq (aJ (.bool false) Z) Z (aB (aC (aO (cI (.bool false) Z ?_))))))))
  exact ⟨by unfold xS;first | exact bF (by omega) | exact bD (by omega),M0.below⟩
theorem aCu (w:World) (b:Body) :
  Calls prog 82 #[(.agg (aF b).toArray)] w (Rb w (.int .i64 (check b))):=by
 refine aI #[.tmp 2] 63 func82 Z results82 ntmps82 Z ?_
 have M0:=Mem.refl w
 refine aE (aA (bN (.agg (.mk _)) M0 Z Z Z (fun b1 w1 M1=>(bK Z Z (aB (aC (aE (aE (aA (wq (aD 1 mA Z) Z (wq (aK 0 (.int _ _) aY M1 Z Z Z) Z (cX Z Z Z Z (wq (aH (.bool (decide _)) Z) Z ?_)))))))))))))
 refine dQ 6 Z (fun g6 => ?_) (fun g6 => ?_)
 ·refine aN Z Z (aN Z Z (aN Z Z (wq (bR true (.bool true) Z Z) Z (aB (aC (cE Z (aE (aA (bK Z Z (aB (aC (aO (cO (cI (.int _ _) Z ?_))))))))))))))
  exact ⟨iE (by unfold check;unfold xS at *;(repeat' split) <;> omega),M1.below⟩
 ·refine wq (aD 1 mA Z) Z (wq (aK 0 (.int _ _) aY M1 Z Z Z) Z (cX Z Z Z Z (wq (bR false (.bool (decide _)) Z Z) Z (aB (aC ?_)))))
  refine aU Z (fun h10 => ?_) (fun h10 => ?_)
  ·refine aE (aA (bK Z Z (aB (aC (aO (cO (cI (.int _ _) Z ?_)))))))
   exact ⟨iE (by unfold check;unfold xS at *;(repeat' split) <;> omega),M1.below⟩
  ·refine aM (aC (aE (aE (aA (wq (aD 2 jJ Z) Z (wq (aD 0 cV Z) Z (wq (aK 0 (.int _ _) aY M1 Z Z Z) Z (dN aAn Z Z M1 (sF _ _ _ (by omega) (by omega)) (fun w2 M2=>(wq (pH Z) Z (wq (aH (.bool (decide _)) Z) Z ?_)))))))))))
   refine dQ 16 Z (fun g16 => ?_) (fun g16 => ?_)
   ·refine aN Z Z (aN Z Z (aN Z Z (aN Z Z (aN Z Z (wq (bR true (.bool true) Z Z) Z (aB (aC (cE Z (aE (aA (bK Z Z (aB (aC (aO (cO (cI (.int _ _) Z ?_))))))))))))))))
    exact ⟨iE (by unfold check;unfold xS at *;(repeat' split) <;> omega),M2.below⟩
   ·refine wq (aD 2 jJ Z) Z (wq (aD 1 cS Z) Z (wq (aK 0 (.int _ _) aY M2 Z Z Z) Z (dN aAn Z Z M2 (sF _ _ _ (by omega) (by omega)) (fun w3 M3=>(wq (pH Z) Z (wq (bR false (.bool (decide _)) Z Z) Z (aB (aC ?_))))))))
    refine aU Z (fun h22 => ?_) (fun h22 => ?_)
    ·refine aE (aA (bK Z Z (aB (aC (aO (cO (cI (.int _ _) Z ?_)))))))
     exact ⟨iE (by unfold check;unfold xS at *;(repeat' split) <;> omega),M3.below⟩
    ·refine aM (aC (aE (aE (aA (wq (aD 4 eM Z) Z (wq (aK 0 (.int _ _) aY M3 Z Z Z) Z (cX Z Z Z Z (wq (aH (.bool (decide _)) Z) Z ?_))))))))
     refine dQ 26 Z (fun g26 => ?_) (fun g26 => ?_)
     ·refine aN Z Z (aN Z Z (aN Z Z (wq (bR true (.bool true) Z Z) Z (aB (aC (cE Z (aE (aA (bK Z Z (aB (aC (aO (cO (cI (.int _ _) Z ?_))))))))))))))
      exact ⟨iE (by unfold check;unfold xS at *;(repeat' split) <;> omega),M3.below⟩
     ·refine wq (aD 4 eM Z) Z (wq (aK 0 (.int _ _) aY M3 Z Z Z) Z (cX Z Z Z Z (wq (bR false (.bool (decide _)) Z Z) Z (aB (aC ?_)))))
      refine aU Z (fun h30 => ?_) (fun h30 => ?_)
      ·refine aE (aA (bK Z Z (aB (aC (aO (cO (cI (.int _ _) Z ?_)))))))
       exact ⟨iE (by unfold check;unfold xS at *;(repeat' split) <;> omega),M3.below⟩
      ·refine aM (aC (aE (aE (aA (wq (aD 5 nZ Z) Z (wq (aK 0 (.int _ _) aY M3 Z Z Z) Z (cX Z Z Z Z (wq (aH (.bool (decide _)) Z) Z ?_))))))))
       refine dQ 34 Z (fun g34 => ?_) (fun g34 => ?_)
       ·refine aN Z Z (aN Z Z (aN Z Z (wq (bR true (.bool true) Z Z) Z (aB (aC (cE Z (aE (aA (bK Z Z (aB (aC (aO (cO (cI (.int _ _) Z ?_))))))))))))))
        exact ⟨iE (by unfold check;unfold xS at *;(repeat' split) <;> omega),M3.below⟩
       ·refine wq (aD 5 nZ Z) Z (wq (aK 0 (.int _ _) aY M3 Z Z Z) Z (cX Z Z Z Z (wq (bR false (.bool (decide _)) Z Z) Z (aB (aC ?_)))))
        refine aU Z (fun h38 => ?_) (fun h38 => ?_)
        ·refine aE (aA (bK Z Z (aB (aC (aO (cO (cI (.int _ _) Z ?_)))))))
         exact ⟨iE (by unfold check;unfold xS at *;(repeat' split) <;> omega),M3.below⟩
        ·refine aM (aC (aE (aE (aA (wq (aD 6 fL Z) Z (wq (aD 0 cV Z) Z (wq (aK 0 (.int _ _) aY M3 Z Z Z) Z (dN aAn Z Z M3 (sF _ _ _ (by omega) (by omega)) (fun w4 M4=>(wq (pH Z) Z (wq (aH (.bool (decide _)) Z) Z ?_)))))))))))
         refine dQ 44 Z (fun g44 => ?_) (fun g44 => ?_)
         ·refine aN Z Z (aN Z Z (aN Z Z (aN Z Z (aN Z Z (wq (bR true (.bool true) Z Z) Z (aB (aC (cE Z (aE (aA (bK Z Z (aB (aC (aO (cO (cI (.int _ _) Z ?_))))))))))))))))
          exact ⟨iE (by unfold check;unfold xS at *;(repeat' split) <;> omega),M4.below⟩
         ·refine wq (aD 6 fL Z) Z (wq (aD 1 cS Z) Z (wq (aK 0 (.int _ _) aY M4 Z Z Z) Z (dN aAn Z Z M4 (sF _ _ _ (by omega) (by omega)) (fun w5 M5=>(wq (pH Z) Z (wq (bR false (.bool (decide _)) Z Z) Z (aB (aC ?_))))))))
          refine aU Z (fun h50 => ?_) (fun h50 => ?_)
          ·refine aE (aA (bK Z Z (aB (aC (aO (cO (cI (.int _ _) Z ?_)))))))
           exact ⟨iE (by unfold check;unfold xS at *;(repeat' split) <;> omega),M5.below⟩
          ·refine aM (aC (aE (aE (aA (wq (aD 8 eB Z) Z (wq (aD 0 cV Z) Z (wq (aK 0 (.int _ _) aY M5 Z Z Z) Z (dN aAn Z Z M5 (sF _ _ _ (by omega) (by omega)) (fun w6 M6=>(wq (pH Z) Z (wq (aH (.bool (decide _)) Z) Z ?_)))))))))))
           refine dQ 56 Z (fun g56 => ?_) (fun g56 => ?_)
           ·refine aN Z Z (aN Z Z (aN Z Z (aN Z Z (aN Z Z (wq (bR true (.bool true) Z Z) Z (aB (aC (cE Z (aE (aA (bK Z Z (aB (aC (aO (cO (cI (.int _ _) Z ?_))))))))))))))))
            exact ⟨iE (by unfold check;unfold xS at *;(repeat' split) <;> omega),M6.below⟩
           ·refine wq (aD 8 eB Z) Z (wq (aD 1 cS Z) Z (wq (aK 0 (.int _ _) aY M6 Z Z Z) Z (dN aAn Z Z M6 (sF _ _ _ (by omega) (by omega)) (fun w7 M7=>(wq (pH Z) Z (wq (bR false (.bool (decide _)) Z Z) Z (aB (aC ?_))))))))
            refine aU Z (fun h62 => ?_) (fun h62 => ?_)
            ·refine aE (aA (bK Z Z (aB (aC (aO (cO (cI (.int _ _) Z ?_)))))))
             exact ⟨iE (by unfold check;unfold xS at *;(repeat' split) <;> omega),M7.below⟩
            ·refine aM (aC (aE (aA (bK Z Z (aB (aC (aO (cI (.int _ _) Z ?_))))))))
             exact ⟨iE (by unfold check;unfold xS at *;(repeat' split) <;> omega),M7.below⟩
theorem bRi (a b:Body):EqA prog 43 (aF a) (aF b) (decide (a=b)):=by
 have h:=bVj a.key a.radius a.ax a.ay a.mass a.bounce a.px a.py a.vx a.vy b.key b.radius b.ax b.ay b.mass b.bounce b.px b.py b.vx b.vy
 rw [decide_eq_decide.2 (bBz (a:=a) (b:=b))]
 exact h
theorem iD (w:World) (key:Int) (A:Option Addr) (n c:Nat) (xs:List Body) (R:Rd w 10 A n (xs.map aF)) :
  Calls prog 64 #[.slice A n c,.int .u32 key] w (Rb w (.int .i64 (dO key xs))):=by
 have hlen:xs.length=n:=by simpa using R.len
 have hbd:=R.bound
 refine aI #[.tmp 4] 20 func64 Z results64 ntmps64 Z ?_
 have M0:=Mem.refl w
 refine aE (aA (bK Z Z (aB (aC (aE (aE (aA (bK Z Z (aB (aC (aP (dG (σ:=Nat) [0,1] (fun k=>[(5,.int .i64 (k:Int))]) (fun k w'=>(k≤n∧∀ (j:Nat) (c:Body),j < k→xs[j]? = some c→c.key≠key)∧Mem w [] [] w') (fun k=>n - k) 0 (bE Z dZ) (⟨⟨by omega,fun j c hj=>by omega⟩,M0⟩) ?_))))))))))))
 rintro k ρ1 w1 ⟨⟨hk,hne⟩,hM1⟩
 refine aE (aE (aA (aQ Z Z (dK Z Z (wq (cK underlying46 Z) Z (cX Z Z Z Z (aB (aC ?_))))))))
 refine aU Z (fun h9 => ?_) (fun h9 => ?_)
 ·obtain ⟨xb,hxb⟩:=cF (k:=k) hlen (by omega)
  refine aM (aC (aE (aP (aE (aA (dK Z Z (aQ Z Z (wq (bJ (k) dP Z Z Z ((R.mem hM1).below_len (aG aF hxb)) ((R.mem hM1).someK (aG aF hxb))) Z (wq (aT 0 dT (R.mem hM1) (iR ((R.mem hM1).below_len (aG aF hxb))) Z) Z (wq (dM (o:=0) (.int _ _) bV (R.mem hM1) (aG aF hxb) Z Z) Z (aQ Z Z (cX Z Z Z Z (aB (aC ?_))))))))))))))
  refine aU Z (fun h18 => ?_) (fun h18 => ?_)
  ·refine aE (aA (aQ Z Z (bK Z Z (aB (aC (aO (lU (cO (uQ (lU (cO (cI (.int _ _) Z ?_))))))))))))
   exact ⟨iE (yO hxb h18 hne).symm,hM1.below⟩
  ·refine aM (cR (aC (aA (aQ Z Z (wq (bC Z Z (by omega) (by omega)) Z (bK Z Z (aB ?_)))))))
   refine bX (k+1) (bE Z dZ) (bZ Z (bZ Z gK)) ?_ ?_
   ·exact ⟨⟨by omega,sK hne hxb h18⟩,hM1⟩
   ·omega
 ·refine cN (dC (dE (eJ (aC (aE (aA (bK Z Z (aB (aC (aO (cI (.int _ _) Z ?_)))))))))))
  have hkn:k=n:=by omega
  exact ⟨iE (aJz (fun j b hj=>hne j b (by have:=(List.getElem?_eq_some_iff.1 hj).1;omega) hj)).symm,hM1.below⟩
theorem vZ (w:World) (b:Body) (gone:Bool) (A:Option Addr) (n c:Nat) (xs:List Body) (R:Rd w 10 A n (xs.map aF)) (hn:n≤1048576) :
  Calls prog 83 #[.slice A n c,(.agg (aF b).toArray),.bool gone] w (gH (fun v w'=>∃ A' n' c' e,v=.slice A' n' c'∧aZ 43 10 A' n' c' ((xW xs b gone).map aF) e∧Mem w [] [e] w')):=by
 have hlen:xs.length=n:=by simpa using R.len
 have hbd:=R.bound
 refine aI #[.tmp 6] 55 func83 Z results83 ntmps83 Z ?_
 have M0:=Mem.refl w
 refine aE (aA (bN (.agg (.mk _)) M0 Z Z Z (fun b1 w1 M1=>(eH Z Z (aB (aC (aE (aA (eH Z Z ?_)))))))))
 have M2:=M1.dummy default
 refine aB (aC (aE (aA (wq (aH (.bool _) Z) Z (wq (aJ (.bool _) Z) Z (aB (aC (aE (aE (aA (bK Z Z (aB (aC (aP (dG (σ:=Nat × List Body × Bool × Row) [0,4,6] (fun (k,acc,done,r)=>[(7,.slice r.A r.n r.c),(8,.bool done),(9,.int .i64 (k:Int))]) (fun (k,acc,done,r) w'=>(k≤n∧kF b gone (xs.take k)=(acc,done)∧aZ 43 10 r.A r.n r.c (acc.map aF) r.e)∧Mem w [] [(some b1,bc (aF b) 43),r.e] w') (fun (k,acc,done,r)=>n - k) (0,[],gone,⟨none,0,0,(none,default)⟩) (bE Z (bE Z (bE Z dZ))) (⟨⟨by omega,Z,aZ.nil _ _ _⟩,M2⟩) ?_)))))))))))))))
 rintro ⟨k,acc,done,r⟩ ρ3 w3 ⟨⟨hk,heq,hr⟩,hM3⟩
 have hra:acc.length=r.n:=by simpa using hr.1
 have hrl:acc.length≤k+1:=by have h:=aTn b gone xs k;rw [heq] at h;exact h
 refine aE (aE (aA (aQ Z Z (dK Z Z (wq (cK underlying46 Z) Z (cX Z Z Z Z (aB (aC ?_))))))))
 refine aU Z (fun h14 => ?_) (fun h14 => ?_)
 ·obtain ⟨xb,hxb⟩:=cF (k:=k) hlen (by omega)
  refine aM (aC (aE (aP (aE (aE (mF [(0,0),(1,0),(2,0),(3,0),(4,0),(5,1),(6,1),(7,1),(8,0),(9,1),(10,0),(11,0)] mixed Z (by kernel_rfl) (fun w4 hb4 hh4 => ?_)))))))
  have M4:=hM3.drew hb4 hh4
  refine aV Z Z Z (fun _=>aH (.bool _) Z) (aV Z Z Z (fun _=>gR _ Z Z) (aV Z Z Z (fun _=>aH (.bool _) Z) ?_))
  refine aVd 19 _ Z (fun g19 => ?_) (fun g19 => ?_)
  ·have hd:done=false:=by simpa using g19
   refine kA Z Z Z (eD Z Z Z (bP Z Z Z (bJ (k) dP Z Z Z ((R.mem M4).below_len (aG aF hxb)) ((R.mem M4).someK (aG aF hxb))) (bP Z Z Z (aT 0 dT (R.mem M4) (iR ((R.mem M4).below_len (aG aF hxb))) Z) (bP Z Z Z (dM (o:=0) (.int _ _) bV (R.mem M4) (aG aF hxb) Z Z) (aV Z Z Z (fun _=>aD 0 dT Z) (bP Z Z Z (aK 0 (.int _ _) bV M4 Z Z Z) (aV Z Z Z (fun _=>cA (.bool (decide _)) Z Z Z) (aV Z Z Z (fun _=>bR true (.bool (decide _)) Z Z) ?_))))))))
   refine bS (aC ?_)
   refine aU Z (fun h28 => ?_) (fun h28 => ?_)
   ·refine aE (aA (wq (aJ (.bool true) rfl) rfl (aB (aC (aA (dK rfl rfl (wq (aX 0 bQ M4 rfl rfl rfl) rfl (cC [.agg (List.toArray _)] _ rfl dP M4 rfl rfl rfl rfl (cU rfl) (by decide) (fun b5 w5 M5=>(cW 1 [aF b] dP M5 rfl rfl rfl rfl rfl hr rfl (by simpa using ⟨iP b,iQ b⟩) (dL.ofMem 2 M5 rfl) (by omega) (fun A6 c6 e6 w6 M6 hR6=>(eH rfl rfl (aB (aC (aE (fW [(0,0),(1,0),(2,1),(3,1),(4,1),(5,0),(6,1),(7,0)] mixed M6 rfl (by kernel_rfl) (fun w7 M7=>(kA rfl rfl rfl (eD rfl rfl rfl (bP rfl rfl rfl (bJ (k) dP rfl rfl rfl ((R.mem M7).below_len (aG aF hxb)) ((R.mem M7).someK (aG aF hxb))) ?_))))))))))))))))))))
    refine bP Z Z Z (aT 0 dT (R.mem M7) (iR ((R.mem M7).below_len (aG aF hxb))) Z) (bP Z Z Z (dM (o:=0) (.int _ _) bV (R.mem M7) (aG aF hxb) Z Z) (aV Z Z Z (fun _=>aD 0 dT Z) (bP Z Z Z (aK 0 (.int _ _) bV M7 Z Z Z) (aV Z Z Z (fun _=>cA (.bool (decide _)) Z Z Z) (bS (aC ?_))))))
    refine aU Z (fun h40 => ?_) (fun h40 => ?_)
    ·refine aA (dK rfl rfl (dK rfl rfl (aQ rfl rfl (wq (bJ (k) dP rfl rfl rfl ((R.mem M7).below_len (aG aF hxb)) ((R.mem M7).someK (aG aF hxb))) rfl (wq (dW _ bQ (R.mem M7) (aG aF hxb) rfl) rfl (cC [.agg (List.toArray _)] _ rfl dP M7 rfl rfl rfl rfl (cU rfl) (by decide) (fun b8 w8 M8=>(cW 1 [aF xb] dP M8 rfl rfl rfl rfl rfl hR6 rfl (by simpa using ⟨iP xb,iQ xb⟩) (dL.ofMem 3 M8 rfl) (by omega) (fun A9 c9 e9 w9 M9 hR9=>(eH rfl rfl (aB (cR (aC (aA (aQ rfl rfl (wq (bC rfl rfl (by omega) (by omega)) rfl ?_))))))))))))))))
     refine bK Z Z (aB ?_)
     refine bX (k+1,(kF b gone (xs.take (k+1))).1,(kF b gone (xs.take (k+1))).2,⟨A9,r.n+1+1,c9,e9⟩) (bE rfl (bE (bv rfl (by rw [gO b gone hxb,heq];simp [fY, *])) (bE rfl dZ))) (bZ rfl (bZ rfl (bZ rfl gK))) ?_ ?_
     ·exact ⟨⟨by omega,rfl,by rw [gO b gone hxb,heq];simpa [fY, *] using hR9⟩,M9.keep [true,true,false,false]⟩
     ·(show n - (k+1) < n - k;omega)
    ·refine aM (cR (aC (aA (aQ Z Z (wq (bC Z Z (by omega) (by omega)) Z (bK Z Z (aB ?_)))))))
     refine bX (k+1,(kF b gone (xs.take (k+1))).1,(kF b gone (xs.take (k+1))).2,⟨A6,r.n+1,c6,e6⟩) (bE rfl (bE (bv rfl (by rw [gO b gone hxb,heq];simp [fY, *])) (bE rfl dZ))) (bZ rfl (bZ rfl (bZ rfl gK))) ?_ ?_
     ·exact ⟨⟨by omega,rfl,by rw [gO b gone hxb,heq];simpa [fY, *] using hR6⟩,M7.keep [true,true,false]⟩
     ·(show n - (k+1) < n - k;omega)
   ·refine aM (aC (aE (fW [(0,0),(1,0),(2,1),(3,1),(4,1),(5,0),(6,1),(7,0)] mixed M4 Z (by kernel_rfl) (fun w10 M10=>(kA Z Z Z (eD Z Z Z (bP Z Z Z (bJ (k) dP Z Z Z ((R.mem M10).below_len (aG aF hxb)) ((R.mem M10).someK (aG aF hxb))) (bP Z Z Z (aT 0 dT (R.mem M10) (iR ((R.mem M10).below_len (aG aF hxb))) Z) (bP Z Z Z (dM (o:=0) (.int _ _) bV (R.mem M10) (aG aF hxb) Z Z) (aV Z Z Z (fun _=>aD 0 dT Z) (bP Z Z Z (aK 0 (.int _ _) bV M10 Z Z Z) ?_)))))))))))
    refine aV Z Z Z (fun _=>cA (.bool (decide _)) Z Z Z) (bS (aC ?_))
    refine aU Z (fun h40 => ?_) (fun h40 => ?_)
    ·refine aA (dK rfl rfl (dK rfl rfl (aQ rfl rfl (wq (bJ (k) dP rfl rfl rfl ((R.mem M10).below_len (aG aF hxb)) ((R.mem M10).someK (aG aF hxb))) rfl (wq (dW _ bQ (R.mem M10) (aG aF hxb) rfl) rfl (cC [.agg (List.toArray _)] _ rfl dP M10 rfl rfl rfl rfl (cU rfl) (by decide) (fun b11 w11 M11=>(cW 1 [aF xb] dP M11 rfl rfl rfl rfl rfl hr rfl (by simpa using ⟨iP xb,iQ xb⟩) (dL.ofMem 2 M11 rfl) (by omega) (fun A12 c12 e12 w12 M12 hR12=>(eH rfl rfl (aB (cR (aC (aA (aQ rfl rfl (wq (bC rfl rfl (by omega) (by omega)) rfl ?_))))))))))))))))
     refine bK Z Z (aB ?_)
     refine bX (k+1,(kF b gone (xs.take (k+1))).1,(kF b gone (xs.take (k+1))).2,⟨A12,r.n+1,c12,e12⟩) (bE rfl (bE (bv rfl (by rw [gO b gone hxb,heq];simp [fY, *])) (bE rfl dZ))) (bZ rfl (bZ rfl (bZ rfl gK))) ?_ ?_
     ·exact ⟨⟨by omega,rfl,by rw [gO b gone hxb,heq];simpa [fY, *] using hR12⟩,M12.keep [true,true,false]⟩
     ·(show n - (k+1) < n - k;omega)
    ·refine aM (cR (aC (aA (aQ Z Z (wq (bC Z Z (by omega) (by omega)) Z (bK Z Z (aB ?_)))))))
     refine bX (k+1,(kF b gone (xs.take (k+1))).1,(kF b gone (xs.take (k+1))).2,r) (bE rfl (bE (bv rfl (by rw [gO b gone hxb,heq];simp [fY, *])) (bE rfl dZ))) (bZ rfl (bZ rfl (bZ rfl gK))) ?_ ?_
     ·exact ⟨⟨by omega,rfl,by rw [gO b gone hxb,heq];simpa [fY, *] using hr⟩,M10.keep [true,true]⟩
     ·(show n - (k+1) < n - k;omega)
  ·have hd:done=true:=by simpa using g19
   refine xI Z Z Z (xI Z Z Z (pZ Z Z Z (pZ Z Z Z (pZ Z Z Z (xI Z Z Z (pZ Z Z Z (xI Z Z Z (aV Z Z Z (fun _=>bR false (.bool false) Z Z) (bS (aC (cG Z (aM (aC (aE (fW [(0,0),(1,0),(2,1),(3,1),(4,1),(5,0),(6,1),(7,0)] mixed M4 Z (by kernel_rfl) (fun w13 M13=>(kA Z Z Z (eD Z Z Z ?_))))))))))))))))))
   refine bP Z Z Z (bJ (k) dP Z Z Z ((R.mem M13).below_len (aG aF hxb)) ((R.mem M13).someK (aG aF hxb))) (bP Z Z Z (aT 0 dT (R.mem M13) (iR ((R.mem M13).below_len (aG aF hxb))) Z) (bP Z Z Z (dM (o:=0) (.int _ _) bV (R.mem M13) (aG aF hxb) Z Z) (aV Z Z Z (fun _=>aD 0 dT Z) (bP Z Z Z (aK 0 (.int _ _) bV M13 Z Z Z) (aV Z Z Z (fun _=>cA (.bool (decide _)) Z Z Z) (bS (aC ?_)))))))
   refine aU Z (fun h40 => ?_) (fun h40 => ?_)
   ·refine aA (dK rfl rfl (dK rfl rfl (aQ rfl rfl (wq (bJ (k) dP rfl rfl rfl ((R.mem M13).below_len (aG aF hxb)) ((R.mem M13).someK (aG aF hxb))) rfl (wq (dW _ bQ (R.mem M13) (aG aF hxb) rfl) rfl (cC [.agg (List.toArray _)] _ rfl dP M13 rfl rfl rfl rfl (cU rfl) (by decide) (fun b14 w14 M14=>(cW 1 [aF xb] dP M14 rfl rfl rfl rfl rfl hr rfl (by simpa using ⟨iP xb,iQ xb⟩) (dL.ofMem 2 M14 rfl) (by omega) (fun A15 c15 e15 w15 M15 hR15=>(eH rfl rfl (aB (cR (aC (aA (aQ rfl rfl (wq (bC rfl rfl (by omega) (by omega)) rfl ?_))))))))))))))))
    refine bK Z Z (aB ?_)
    refine bX (k+1,(kF b gone (xs.take (k+1))).1,(kF b gone (xs.take (k+1))).2,⟨A15,r.n+1,c15,e15⟩) (bE rfl (bE (bv rfl (by rw [gO b gone hxb,heq];simp [fY, *])) (bE rfl dZ))) (bZ rfl (bZ rfl (bZ rfl gK))) ?_ ?_
    ·exact ⟨⟨by omega,rfl,by rw [gO b gone hxb,heq];simpa [fY, *] using hR15⟩,M15.keep [true,true,false]⟩
    ·(show n - (k+1) < n - k;omega)
   ·refine aM (cR (aC (aA (aQ Z Z (wq (bC Z Z (by omega) (by omega)) Z (bK Z Z (aB ?_)))))))
    refine bX (k+1,(kF b gone (xs.take (k+1))).1,(kF b gone (xs.take (k+1))).2,r) (bE rfl (bE (bv rfl (by rw [gO b gone hxb,heq];simp [fY, *])) (bE rfl dZ))) (bZ rfl (bZ rfl (bZ rfl gK))) ?_ ?_
    ·exact ⟨⟨by omega,rfl,by rw [gO b gone hxb,heq];simpa [fY, *] using hr⟩,M13.keep [true,true]⟩
    ·(show n - (k+1) < n - k;omega)
 ·have hkn:k=n:=by omega
  subst hkn
  rw [List.take_of_length_le (by omega)] at heq
  refine cN (dC (dE (eJ (aC (aE (aE (aA (wq (aH (.bool _) Z) Z (wq (gR _ Z Z) Z (aB (aC ?_)))))))))))
  refine iL _ Z (fun h49 => ?_) (fun h49 => ?_)
  ·have hd:done=false:=by simpa using h49
   refine aA (dK rfl rfl (wq (aX 0 bQ hM3 rfl rfl rfl) rfl (cC [.agg (List.toArray _)] _ rfl dP hM3 rfl rfl rfl rfl (cU rfl) (by decide) (fun b16 w16 M16=>(cW 1 [aF b] dP M16 rfl rfl rfl rfl rfl hr rfl (by simpa using ⟨iP b,iQ b⟩) (dL.ofMem 2 M16 rfl) (by omega) (fun A17 c17 e17 w17 M17 hR17=>(eH rfl rfl (aB (aC (aE (aA (dK rfl rfl (eH rfl rfl (aB (aC (aO (cI (.slice _ _ _) rfl ?_)))))))))))))))))
   exact ⟨_,_,_,_,rfl,by unfold xW;rw [heq];simpa [*] using hR17,M17.keep [false,true,false]⟩
  ·have hd:done=true:=by simpa using h49
   refine aM (aC (aE (aA (dK Z Z (eH Z Z (aB (aC (aO (cI (.slice _ _ _) Z ?_)))))))))
   exact ⟨_,_,_,_,rfl,by unfold xW;rw [heq];simpa [*] using hr,hM3.keep [false,true]⟩
theorem tP (w:World) (x y l:Int) (h0:0≤l) (h1:l≤2147483647) :
  Calls prog 112 #[.agg [.int .i32 x,.int .i32 y].toArray,.int .i32 l] w (Rb w (.bool (decide (-l≤x∧x≤l ∧ -l≤y∧y≤l)))):=by
 have hneg:IntKind.i32.wrap (-l) = -l:=jQ _ (by omega) (by omega)
 refine aI #[.tmp 4] 29 func112 Z results112 ntmps112 Z ?_
 have M0:=Mem.refl w
 refine aE (aA (bN (.agg (.mk _)) M0 Z Z Z (fun b1 w1 M1=>(wq (aJ (.bool false) Z) Z (aB (aC (aE (aA (aQ Z Z (wq (sE Z) Z (aL 6 (.int .i32 (-l)) (iE hneg) (wq (aD 0 cV Z) Z (wq (aK 0 (.int _ _) aY M1 Z Z Z) Z (cX Z Z Z Z (wq (aH (.bool (decide _)) Z) Z ?_)))))))))))))))
 refine dQ 10 Z (fun g10 => ?_) (fun g10 => ?_)
 ·refine wq (aD 0 cV Z) Z (wq (aK 0 (.int _ _) aY M1 Z Z Z) Z (aQ Z Z (cX Z Z Z Z (wq (bR true (.bool (decide _)) Z Z) Z (wq (aH (.bool (decide _)) Z) Z ?_)))))
  refine dQ 16 Z (fun g16 => ?_) (fun g16 => ?_)
  ·refine aQ Z Z (wq (sE Z) Z (aL 18 (.int .i32 (-l)) (iE hneg) (wq (aD 1 cS Z) Z (wq (aK 0 (.int _ _) aY M1 Z Z Z) Z (cX Z Z Z Z (wq (bR true (.bool (decide _)) Z Z) Z (wq (aH (.bool (decide _)) Z) Z ?_)))))))
   refine dQ 23 Z (fun g23 => ?_) (fun g23 => ?_)
   ·refine wq (aD 1 cS Z) Z (wq (aK 0 (.int _ _) aY M1 Z Z Z) Z (aQ Z Z (cX Z Z Z Z (wq (bR true (.bool (decide _)) Z Z) Z (wq (aJ (.bool (decide _)) Z) Z (aB (aC (aO (cI (.bool (decide _)) Z ?_)))))))))
    exact ⟨by first | exact bF (by omega) | exact bT (by omega) | exact bD (by omega),M1.below⟩
   ·refine aN Z Z (aN Z Z (aN Z Z (aN Z Z (wq (bR false (.bool false) Z Z) Z (wq (aJ (.bool false) Z) Z (aB (aC (aO (cI (.bool false) Z ?_)))))))))
    exact ⟨by first | exact bF (by omega) | exact bT (by omega) | exact bD (by omega),M1.below⟩
  ·refine aN Z Z (aN Z Z (aN Z Z (aN Z Z (aN Z Z (wq (bR false (.bool false) Z Z) Z (wq (aH (.bool false) Z) Z (aN Z Z (aN Z Z (aN Z Z (aN Z Z (wq (bR false (.bool false) Z Z) Z (wq (aJ (.bool false) Z) Z (aB (aC (aO (cI (.bool false) Z ?_))))))))))))))))
   exact ⟨by first | exact bF (by omega) | exact bT (by omega) | exact bD (by omega),M1.below⟩
 ·refine aN Z Z (aN Z Z (aN Z Z (aN Z Z (wq (bR false (.bool false) Z Z) Z (wq (aH (.bool false) Z) Z (aN Z Z (aN Z Z (aN Z Z (aN Z Z (aN Z Z (wq (bR false (.bool false) Z Z) Z (wq (aH (.bool false) Z) Z (aN Z Z (aN Z Z (aN Z Z ?_)))))))))))))))
  refine aN Z Z (wq (bR false (.bool false) Z Z) Z (wq (aJ (.bool false) Z) Z (aB (aC (aO (cI (.bool false) Z ?_))))))
  exact ⟨by first | exact bF (by omega) | exact bT (by omega) | exact bD (by omega),M1.below⟩
theorem aOd (w:World) (b:Body) (p:Nat) (R:Rd w 10 (some ⟨p,0,none⟩) 1 [aF b]) :
  Calls prog 110 #[.pointer (some ⟨p,0,none⟩)] w (Rb w (.bool (decide (4096≤b.radius∧b.radius≤4194304)))):=by
 rw [← hJ p]
 refine aI #[.tmp 1] 10 func110 Z results110 ntmps110 Z ?_
 have M0:=Mem.refl w
 refine aE (aA (wq (aJ (.bool false) Z) Z (aB (aC (aE (aA (wq (aT 1 mA R (iR (R.below_len (show [aF b][0]? = some (aF b) from Z))) Z) Z (wq (dM (o:=1) (.int _ _) aY R (show [aF b][0]? = some (aF b) from Z) Z Z) Z (cX Z Z Z Z (wq (aH (.bool (decide _)) Z) Z ?_))))))))))
 refine dQ 5 Z (fun g5 => ?_) (fun g5 => ?_)
 ·refine wq (aT 1 mA R (iR (R.below_len (show [aF b][0]? = some (aF b) from Z))) Z) Z (wq (dM (o:=1) (.int _ _) aY R (show [aF b][0]? = some (aF b) from Z) Z Z) Z (cX Z Z Z Z (wq (bR true (.bool (decide _)) Z Z) Z (wq (aJ (.bool (decide _)) Z) Z (aB (aC (aO (cI (.bool (decide _)) Z ?_))))))))
  exact ⟨by first | exact bF (by omega) | exact bT (by omega) | exact bD (by omega),M0.below⟩
 ·refine aN Z Z (aN Z Z (aN Z Z (wq (bR false (.bool false) Z Z) Z (wq (aJ (.bool false) Z) Z (aB (aC (aO (cI (.bool false) Z ?_))))))))
  exact ⟨by first | exact bF (by omega) | exact bT (by omega) | exact bD (by omega),M0.below⟩
theorem aOe (w:World) (b:Body) (p:Nat) (R:Rd w 10 (some ⟨p,0,none⟩) 1 [aF b]) :
  Calls prog 111 #[.pointer (some ⟨p,0,none⟩)] w (Rb w (.bool (decide (-4194304≤b.ax∧b.ax≤4194304 ∧ -4194304≤b.ay∧b.ay≤4194304)))):=by
 rw [← hJ p]
 refine aI #[.tmp 1] 5 func111 Z results111 ntmps111 Z ?_
 have M0:=Mem.refl w
 refine aE (aA (wq (aJ (.bool false) Z) Z (aB (aC (aE (aA (wq (aT 2 jJ R (iR (R.below_len (show [aF b][0]? = some (aF b) from Z))) Z) Z (wq (kW (o:=2) _ bO R (show [aF b][0]? = some (aF b) from Z) Z Z Z) Z (dN aRv Z Z M0 (tP _ _ _ _ (by omega) (by omega)) (fun w1 M1=>(wq (aJ (.bool (decide _)) Z) Z (aB (aC (aO (cI (.bool (decide _)) Z ?_)))))))))))))))
 exact ⟨by first | exact bF (by omega) | exact bT (by omega) | exact bD (by omega),M1.below⟩
theorem aOf (w:World) (b:Body) (p:Nat) (R:Rd w 10 (some ⟨p,0,none⟩) 1 [aF b]) :
  Calls prog 113 #[.pointer (some ⟨p,0,none⟩)] w (Rb w (.bool (decide (0≤b.mass∧b.mass≤1048576)))):=by
 rw [← hJ p]
 refine aI #[.tmp 1] 10 func113 Z results113 ntmps113 Z ?_
 have M0:=Mem.refl w
 refine aE (aA (wq (aJ (.bool false) Z) Z (aB (aC (aE (aA (wq (aT 4 eM R (iR (R.below_len (show [aF b][0]? = some (aF b) from Z))) Z) Z (wq (dM (o:=4) (.int _ _) aY R (show [aF b][0]? = some (aF b) from Z) Z Z) Z (cX Z Z Z Z (wq (aH (.bool (decide _)) Z) Z ?_))))))))))
 refine dQ 5 Z (fun g5 => ?_) (fun g5 => ?_)
 ·refine wq (aT 4 eM R (iR (R.below_len (show [aF b][0]? = some (aF b) from Z))) Z) Z (wq (dM (o:=4) (.int _ _) aY R (show [aF b][0]? = some (aF b) from Z) Z Z) Z (cX Z Z Z Z (wq (bR true (.bool (decide _)) Z Z) Z (wq (aJ (.bool (decide _)) Z) Z (aB (aC (aO (cI (.bool (decide _)) Z ?_))))))))
  exact ⟨by first | exact bF (by omega) | exact bT (by omega) | exact bD (by omega),M0.below⟩
 ·refine aN Z Z (aN Z Z (aN Z Z (wq (bR false (.bool false) Z Z) Z (wq (aJ (.bool false) Z) Z (aB (aC (aO (cI (.bool false) Z ?_))))))))
  exact ⟨by first | exact bF (by omega) | exact bT (by omega) | exact bD (by omega),M0.below⟩
theorem aOg (w:World) (b:Body) (p:Nat) (R:Rd w 10 (some ⟨p,0,none⟩) 1 [aF b]) :
  Calls prog 114 #[.pointer (some ⟨p,0,none⟩)] w (Rb w (.bool (decide (0≤b.bounce∧b.bounce≤65536)))):=by
 rw [← hJ p]
 refine aI #[.tmp 1] 10 func114 Z results114 ntmps114 Z ?_
 have M0:=Mem.refl w
 refine aE (aA (wq (aJ (.bool false) Z) Z (aB (aC (aE (aA (wq (aT 5 nZ R (iR (R.below_len (show [aF b][0]? = some (aF b) from Z))) Z) Z (wq (dM (o:=5) (.int _ _) aY R (show [aF b][0]? = some (aF b) from Z) Z Z) Z (cX Z Z Z Z (wq (aH (.bool (decide _)) Z) Z ?_))))))))))
 refine dQ 5 Z (fun g5 => ?_) (fun g5 => ?_)
 ·refine wq (aT 5 nZ R (iR (R.below_len (show [aF b][0]? = some (aF b) from Z))) Z) Z (wq (dM (o:=5) (.int _ _) aY R (show [aF b][0]? = some (aF b) from Z) Z Z) Z (cX Z Z Z Z (wq (bR true (.bool (decide _)) Z Z) Z (wq (aJ (.bool (decide _)) Z) Z (aB (aC (aO (cI (.bool (decide _)) Z ?_))))))))
  exact ⟨by first | exact bF (by omega) | exact bT (by omega) | exact bD (by omega),M0.below⟩
 ·refine aN Z Z (aN Z Z (aN Z Z (wq (bR false (.bool false) Z Z) Z (wq (aJ (.bool false) Z) Z (aB (aC (aO (cI (.bool false) Z ?_))))))))
  exact ⟨by first | exact bF (by omega) | exact bT (by omega) | exact bD (by omega),M0.below⟩
theorem aOh (w:World) (b:Body) (p:Nat) (R:Rd w 10 (some ⟨p,0,none⟩) 1 [aF b]) :
  Calls prog 115 #[.pointer (some ⟨p,0,none⟩)] w (Rb w (.bool (decide (-1073741824≤b.px∧b.px≤1073741824 ∧ -1073741824≤b.py∧b.py≤1073741824)))):=by
 rw [← hJ p]
 refine aI #[.tmp 1] 5 func115 Z results115 ntmps115 Z ?_
 have M0:=Mem.refl w
 refine aE (aA (wq (aJ (.bool false) Z) Z (aB (aC (aE (aA (wq (aT 6 fL R (iR (R.below_len (show [aF b][0]? = some (aF b) from Z))) Z) Z (wq (kW (o:=6) _ bO R (show [aF b][0]? = some (aF b) from Z) Z Z Z) Z (dN aRv Z Z M0 (tP _ _ _ _ (by omega) (by omega)) (fun w1 M1=>(wq (aJ (.bool (decide _)) Z) Z (aB (aC (aO (cI (.bool (decide _)) Z ?_)))))))))))))))
 exact ⟨by first | exact bF (by omega) | exact bT (by omega) | exact bD (by omega),M1.below⟩
theorem aOi (w:World) (b:Body) (p:Nat) (R:Rd w 10 (some ⟨p,0,none⟩) 1 [aF b]) :
  Calls prog 116 #[.pointer (some ⟨p,0,none⟩)] w (Rb w (.bool (decide (-16777216≤b.vx∧b.vx≤16777216 ∧ -16777216≤b.vy∧b.vy≤16777216)))):=by
 rw [← hJ p]
 refine aI #[.tmp 1] 5 func116 Z results116 ntmps116 Z ?_
 have M0:=Mem.refl w
 refine aE (aA (wq (aJ (.bool false) Z) Z (aB (aC (aE (aA (wq (aT 8 eB R (iR (R.below_len (show [aF b][0]? = some (aF b) from Z))) Z) Z (wq (kW (o:=8) _ bO R (show [aF b][0]? = some (aF b) from Z) Z Z Z) Z (dN aRv Z Z M0 (tP _ _ _ _ (by omega) (by omega)) (fun w1 M1=>(wq (aJ (.bool (decide _)) Z) Z (aB (aC (aO (cI (.bool (decide _)) Z ?_)))))))))))))))
 exact ⟨by first | exact bF (by omega) | exact bT (by omega) | exact bD (by omega),M1.below⟩
theorem xL (w:World) (b:Body) :
  Calls prog 94 #[(.agg (aF b).toArray)] w (Rb w (.int .i64 (check b))):=by
 refine aI #[.tmp 2] 28 func94 Z results94 ntmps94 Z ?_
 have M0:=Mem.refl w
 refine aE (aA (bN (.agg (.mk _)) M0 Z Z Z (fun b1 w1 M1=>(bK Z Z (aB (aC (aE (aE (aA (wq (dU [] [.pointer _] Z Z) Z (wq (cB [(0,.func _ _ _),(1,.int _ _)] _ pV Z Z) Z (wq (dU [] [.pointer _] Z Z) Z (wq (cB [(0,.func _ _ _),(1,.int _ _)] _ pV Z Z) Z (wq (dU [] [.pointer _] Z Z) Z (wq (cB [(0,.func _ _ _),(1,.int _ _)] _ pV Z Z) Z (wq (dU [] [.pointer _] Z Z) Z (wq (cB [(0,.func _ _ _),(1,.int _ _)] _ pV Z Z) Z (wq (dU [] [.pointer _] Z Z) Z ?_))))))))))))))))))
 refine wq (cB [(0,.func _ _ _),(1,.int _ _)] _ pV Z Z) Z (wq (dU [] [.pointer _] Z Z) Z (wq (cB [(0,.func _ _ _),(1,.int _ _)] _ pV Z Z) Z (wq (uL [.agg (List.toArray _),.agg (List.toArray _),.agg (List.toArray _),.agg (List.toArray _),.agg (List.toArray _),.agg (List.toArray _)] xK bLz Z Z (cU Z)) Z (aQ Z Z (aB (aC (aP (jH 7 (fO (aE (aA (cX Z Z Z Z (kR 19 Z (by first | decide | omega) (aB (aC (aE (cE Z (aM (aC (aE (aP (aE (aA ?_)))))))))))))))))))))))
 refine wq (rJ 0 _ xK oV Z Z (by decide) (by decide) Z Z) Z (aR wL M1 Z Z (fun b2 w2 M2=>(bG 1 _ oV M2 Z Z Z Z Z (aS Z) Z (fun w3 M3=>(aB (aC (aE (aA (wq (aD 0 rT Z) Z (wq (aK 1 (.func _ _ _) aKm M3 Z Z Z) Z (dN bOp Z Z M3 (aOd _ b _ (qP 0 M3 Z Z)) (fun w4 M4=>(wq (pH Z) Z (aB (aC ?_)))))))))))))))
 refine aU Z (fun h24 => ?_) (fun h24 => ?_)
 ·refine aE (aA (wq (aD 1 rU Z) Z (wq (aK 1 (.int _ _) aGo M4 Z Z Z) Z (bK Z Z (aB (aC (aO (lU (cO (cO (lU (cO (cI (.int _ _) Z ?_)))))))))))))
  exact ⟨iE (aVr b (by omega)).symm,M4.below⟩
 ·refine aM (cR (aC (aA (wq (bC Z Z (by first | decide | omega) (by first | decide | omega)) Z (aL 27 (.int .i64 1) (iE (by first | decide | omega)) (aQ Z Z (aB (aC (fO (aE (aA (cX Z Z Z Z (kR 19 Z (by first | decide | omega) (aB (aC (aE (cE Z (aM (aC (aE (aP (aE (aA (wq (rJ 1 _ xK oV Z Z (by decide) (by decide) Z Z) Z (aR wL M4 Z Z (fun b5 w5 M5 => ?_))))))))))))))))))))))))))
  refine bG 2 _ oV M5 Z Z Z Z Z (aS Z) Z (fun w6 M6=>(aB (aC (aE (aA (wq (aD 0 rT Z) Z (wq (aK 2 (.func _ _ _) aKm M6 Z Z Z) Z (dN bOq Z Z M6 (aOe _ b _ (qP 0 M6 Z Z)) (fun w7 M7=>(wq (pH Z) Z (aB (aC ?_))))))))))))
  refine aU Z (fun h24 => ?_) (fun h24 => ?_)
  ·refine aE (aA (wq (aD 1 rU Z) Z (wq (aK 2 (.int _ _) aGo M7 Z Z Z) Z (bK Z Z (aB (aC (aO (lU (cO (cO (lU (cO (cI (.int _ _) Z ?_)))))))))))))
   exact ⟨iE (aVs b (by omega) (by omega)).symm,M7.below⟩
  ·refine aM (cR (aC (aA (wq (bC Z Z (by first | decide | omega) (by first | decide | omega)) Z (aL 27 (.int .i64 2) (iE (by first | decide | omega)) (aQ Z Z (aB (aC (fO (aE (aA (cX Z Z Z Z (kR 19 Z (by first | decide | omega) (aB (aC (aE (cE Z (aM (aC (aE (aP (aE (aA (wq (rJ 2 _ xK oV Z Z (by decide) (by decide) Z Z) Z (aR wL M7 Z Z (fun b8 w8 M8 => ?_))))))))))))))))))))))))))
   refine bG 3 _ oV M8 Z Z Z Z Z (aS Z) Z (fun w9 M9=>(aB (aC (aE (aA (wq (aD 0 rT Z) Z (wq (aK 3 (.func _ _ _) aKm M9 Z Z Z) Z (dN bOr Z Z M9 (aOf _ b _ (qP 0 M9 Z Z)) (fun w10 M10=>(wq (pH Z) Z (aB (aC ?_))))))))))))
   refine aU Z (fun h24 => ?_) (fun h24 => ?_)
   ·refine aE (aA (wq (aD 1 rU Z) Z (wq (aK 3 (.int _ _) aGo M10 Z Z Z) Z (bK Z Z (aB (aC (aO (lU (cO (cO (lU (cO (cI (.int _ _) Z ?_)))))))))))))
    exact ⟨iE (aVt b (by omega) (by omega) (by omega)).symm,M10.below⟩
   ·refine aM (cR (aC (aA (wq (bC Z Z (by first | decide | omega) (by first | decide | omega)) Z (aL 27 (.int .i64 3) (iE (by first | decide | omega)) (aQ Z Z (aB (aC (fO (aE (aA (cX Z Z Z Z (kR 19 Z (by first | decide | omega) (aB (aC (aE (cE Z (aM (aC (aE (aP (aE (aA (wq (rJ 3 _ xK oV Z Z (by decide) (by decide) Z Z) Z (aR wL M10 Z Z (fun b11 w11 M11 => ?_))))))))))))))))))))))))))
    refine bG 4 _ oV M11 Z Z Z Z Z (aS Z) Z (fun w12 M12=>(aB (aC (aE (aA (wq (aD 0 rT Z) Z (wq (aK 4 (.func _ _ _) aKm M12 Z Z Z) Z (dN bOs Z Z M12 (aOg _ b _ (qP 0 M12 Z Z)) (fun w13 M13=>(wq (pH Z) Z (aB (aC ?_))))))))))))
    refine aU Z (fun h24 => ?_) (fun h24 => ?_)
    ·refine aE (aA (wq (aD 1 rU Z) Z (wq (aK 4 (.int _ _) aGo M13 Z Z Z) Z (bK Z Z (aB (aC (aO (lU (cO (cO (lU (cO (cI (.int _ _) Z ?_)))))))))))))
     exact ⟨iE (aVu b (by omega) (by omega) (by omega) (by omega)).symm,M13.below⟩
    ·refine aM (cR (aC (aA (wq (bC Z Z (by first | decide | omega) (by first | decide | omega)) Z (aL 27 (.int .i64 4) (iE (by first | decide | omega)) (aQ Z Z (aB (aC (fO (aE (aA (cX Z Z Z Z (kR 19 Z (by first | decide | omega) (aB (aC (aE (cE Z (aM (aC (aE (aP (aE (aA (wq (rJ 4 _ xK oV Z Z (by decide) (by decide) Z Z) Z (aR wL M13 Z Z (fun b14 w14 M14 => ?_))))))))))))))))))))))))))
     refine bG 5 _ oV M14 Z Z Z Z Z (aS Z) Z (fun w15 M15=>(aB (aC (aE (aA (wq (aD 0 rT Z) Z (wq (aK 5 (.func _ _ _) aKm M15 Z Z Z) Z (dN bOt Z Z M15 (aOh _ b _ (qP 0 M15 Z Z)) (fun w16 M16=>(wq (pH Z) Z (aB (aC ?_))))))))))))
     refine aU Z (fun h24 => ?_) (fun h24 => ?_)
     ·refine aE (aA (wq (aD 1 rU Z) Z (wq (aK 5 (.int _ _) aGo M16 Z Z Z) Z (bK Z Z (aB (aC (aO (lU (cO (cO (lU (cO (cI (.int _ _) Z ?_)))))))))))))
      exact ⟨iE (aVv b (by omega) (by omega) (by omega) (by omega) (by omega)).symm,M16.below⟩
     ·refine aM (cR (aC (aA (wq (bC Z Z (by first | decide | omega) (by first | decide | omega)) Z (aL 27 (.int .i64 5) (iE (by first | decide | omega)) (aQ Z Z (aB (aC (fO (aE (aA (cX Z Z Z Z (kR 19 Z (by first | decide | omega) (aB (aC (aE (cE Z (aM (aC (aE (aP (aE (aA (wq (rJ 5 _ xK oV Z Z (by decide) (by decide) Z Z) Z (aR wL M16 Z Z (fun b17 w17 M17 => ?_))))))))))))))))))))))))))
      refine bG 6 _ oV M17 Z Z Z Z Z (aS Z) Z (fun w18 M18=>(aB (aC (aE (aA (wq (aD 0 rT Z) Z (wq (aK 6 (.func _ _ _) aKm M18 Z Z Z) Z (dN bOu Z Z M18 (aOi _ b _ (qP 0 M18 Z Z)) (fun w19 M19=>(wq (pH Z) Z (aB (aC ?_))))))))))))
      refine aU Z (fun h24 => ?_) (fun h24 => ?_)
      ·refine aE (aA (wq (aD 1 rU Z) Z (wq (aK 6 (.int _ _) aGo M19 Z Z Z) Z (bK Z Z (aB (aC (aO (lU (cO (cO (lU (cO (cI (.int _ _) Z ?_)))))))))))))
       exact ⟨iE (aVw b (by omega) (by omega) (by omega) (by omega) (by omega) (by omega)).symm,M19.below⟩
      ·refine aM (cR (aC (aA (wq (bC Z Z (by first | decide | omega) (by first | decide | omega)) Z (aL 27 (.int .i64 6) (iE (by first | decide | omega)) (aQ Z Z (aB (aC (fO (aE (aA (cX Z Z Z Z (pD 19 Z (by first | decide | omega) (aB (aC (aE (cG Z (cN (dC (dC (eJ ?_)))))))))))))))))))))
       refine aC (aE (aA (bK Z Z (aB (aC (aO (cI (.int _ _) Z ?_)))))))
       exact ⟨iE (bIr b (by omega) (by omega) (by omega) (by omega) (by omega) (by omega)).symm,M19.below⟩
theorem aCb (w:World) (x:Int) :
  Calls prog 97 #[.int .u32 x] w (gH (fun v w'=>v=.bool false∧w'=w)):=by
 refine aI #[.tmp 2] 6 func97 Z results97 ntmps97 Z ?_
 have M0:=Mem.refl w
 refine aE (aA (wq (aJ (.bool false) Z) Z (aB (aC (aE (aA (aQ Z Z (aQ Z Z (cX Z Z Z Z (wq (aJ (.bool (decide _)) Z) Z (aB (aC (aO (cI (.bool (decide _)) Z ?_))))))))))))))
 exact ⟨(bF (by omega)).symm,Z⟩
theorem nV (w:World) (x y:Int) :
  Calls prog 74 #[.int .u32 x,.int .u32 y] w (gH (fun v w'=>v=.int .i64 (qE x y)∧w'=w)):=by
 refine aI #[.tmp 4] 20 func74 Z results74 ntmps74 Z ?_
 have M0:=Mem.refl w
 refine aE (aA (bK Z Z (aB (aC (aE (aA (aQ Z Z (eP bNb Z Z (aCb _ _) ?_))))))))
 rintro v1 w1 ⟨rfl,rfl⟩
 have M1:Mem _ _ [] _:=M0
 refine wq (aJ (.bool false) Z) Z (aB (aC (aE (aA (aQ Z Z (eP bNb Z Z (aCb _ _) ?_))))))
 rintro v2 w2 ⟨rfl,rfl⟩
 have M2:Mem _ _ [] _:=M1
 refine wq (aJ (.bool false) Z) Z (aB (aC (aE (aE (aA (wq (aH (.bool false) Z) Z (aB (aC (cG Z (aM (aC (aE (aE (aA (wq (aH (.bool false) Z) Z (aB (aC (cG Z (aM (aC (aE (aE (aA (aQ Z Z (aQ Z Z (cX Z Z Z Z (aB (aC ?_))))))))))))))))))))))))))))
 refine aU Z (fun h16 => ?_) (fun h16 => ?_)
 ·refine aE (aA (bK Z Z (aB (aC (aO (cO (cI (.int _ _) Z ?_)))))))
  exact ⟨iE (by unfold qE;(repeat' split) <;> omega),Z⟩
 ·refine aM (aC (aE (aE (aA (aQ Z Z (aQ Z Z (cX Z Z Z Z (aB (aC ?_)))))))))
  refine aU Z (fun h19 => ?_) (fun h19 => ?_)
  ·refine aE (aA (bK Z Z (aB (aC (aO (cO (cI (.int _ _) Z ?_)))))))
   exact ⟨iE (by unfold qE;(repeat' split) <;> omega),Z⟩
  ·refine aM (aC (aE (aA (bK Z Z (aB (aC (aO (cI (.int _ _) Z ?_))))))))
   exact ⟨iE (by unfold qE;(repeat' split) <;> omega),Z⟩
theorem aJh (a b:Body) (w:World) :
  Calls prog 73 #[(.agg (aF a).toArray),(.agg (aF b).toArray)] w (gH (fun v w'=>v=.int .i64 (qE a.key b.key)∧∃ q os,w'=Go.Sort.grow (w.drewN q) os)):=by
 refine aI #[.tmp 4] 10 func73 Z results73 ntmps73 Z ?_
 have M0:=Mem.refl w
 refine aE (aA (aEe (.agg (.mk _)) M0 Z Z Z (fun M1=>(aEe (.agg (.mk _)) M1 Z Z Z (fun M2=>(bK Z Z (aB (aC (aE (aA (wq (aD 0 dT Z) Z (wq (aK 0 (.int _ _) bV M2 Z Z Z) Z (wq (aD 0 dT Z) Z (wq (aK 1 (.int _ _) bV M2 Z Z Z) Z (eP aVo Z Z (nV _ _ _) ?_)))))))))))))))
 rintro v3 w3 ⟨rfl,rfl⟩
 have M3:Mem _ _ [_,_] _:=M2
 refine bK Z Z (aB (aC (aO (cI (.int _ _) Z ?_))))
 exact ⟨Z,bVm _ _ _⟩
theorem aJe (w:World) (A:Option Addr) (n c:Nat) (ls:List (List Value)) (R:Rd w 10 A n ls) (h1:∀ y∈ls,∀ u∈y,one u=true) (hn:n≤1048576) :
  Calls prog 71 #[.slice A n c] w (gH (fun v w'=>∃ A' n' c' e,v=.slice A' n' c'∧aZ 43 10 A' n' c' ls e∧Mem w [] [e] w'∧A'.isSome=A.isSome)):=by
 refine aI #[.tmp 2] 8 func71 Z results71 ntmps71 Z ?_
 have M0:=Mem.refl w
 refine aE (aA (eH Z Z (aB (aC (aE (aE (aA (dK Z Z (wq (zQ _ underlying46 Z Z) Z (aB (aC ?_)))))))))))
 refine iL _ Z (fun h4 => ?_) (fun h4 => ?_)
 ·refine aE (aA (eH Z Z (aB (aC (aO (cO (cI (.slice _ _ _) Z ?_)))))))
  have hA:A=none:=by cases A <;> simp_all
  have hl:ls=[]:=by
   rcases Nat.eq_zero_or_pos n with h | h
   ·subst h;exact List.eq_nil_of_length_eq_zero R.len
   ·have:=R.some h;rw [hA] at this;cases this
  subst hA;subst hl
  exact ⟨_,_,_,_,Z,aZ.nil 43 10 default,M0.dummy default,Z⟩
 ·refine aM (aC (aE (aA (cC [] [] Z dP M0 Z Z Z Z (cU Z) (by decide) (fun b1 w1 M1=>(dK Z Z (gJ 0 ls dP M1 Z Z Z Z Z (aZ.empty b1) (R.mem M1) h1 (by omega) (fun A2 c2 e2 w2 M2 hR2 hA2 => ?_))))))))
  have hAA:=hA2
  refine eH Z Z (aB (aC (aO (cI (.slice _ _ _) Z ?_))))
  refine ⟨_,_,_,_,rfl,by simpa using hR2,M2, ?_⟩
  rw [hAA rfl];cases A <;> simp_all
end Go.Proofs.YtpcloigancpnbaaGreatDoor
