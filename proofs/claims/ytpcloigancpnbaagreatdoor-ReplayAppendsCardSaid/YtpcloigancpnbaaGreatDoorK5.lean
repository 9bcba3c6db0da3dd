/- Part of the proof of a law of this seat (18 texts). No conditions. -/
import Derived.Test.YtpcloigancpnbaaGreatDoorProg
import Derived.Test.YtpcloigancpnbaaGreatDoorK3
import Derived.Test.YtpcloigancpnbaaGreatDoorK4
import Derived.KernelRfl
set_option linter.unusedVariables false
set_option linter.unusedSimpArgs false
set_option linter.unnecessarySimpa false
set_option maxHeartbeats 100000000
namespace Go.Proofs.YtpcloigancpnbaaGreatDoor
open Go.Bil
open Go.Proofs
open Go.Proofs.Tryz
theorem bV:jA prog 39=true:=by kernel_rfl
theorem aY:jA prog 21=true:=by kernel_rfl
theorem aWi:∀ (d:Nat) (w:World) (x0 x1 y0 y1:Int),(Op.equalIn (d+2) 41 (.agg [.int .i32 x0,.int .i32 x1].toArray) (.agg [.int .i32 y0,.int .i32 y1].toArray)).run prog w=.ok (decide (x0=y0∧x1=y1)) w:=fun d w x0 x1 y0 y1=>by
  have h:=aBb (P:=prog) (T:=41) (dd:=d+1) (xs:=[.int .i32 x0,.int .i32 x1]) (ys:=[.int .i32 y0,.int .i32 y1]) (w:=w) underlying41 (by kernel_rfl) (lA rfl (nL aY rfl) (nL aY rfl) (uE (dd:=d+0) underlying21) (lA rfl (nL aY rfl) (nL aY rfl) (uE (dd:=d+0) underlying21) (aMe)))
  refine h.trans (congrArg (fun r=>Result.ok r w) ?_)
  simp only [Bool.decide_and,Bool.and_true,Bool.and_assoc]
theorem bO:jE prog 41=some 2:=by kernel_rfl
theorem bWc:∀ (d:Nat) (w:World) (x0 x1 x2 x3 x4 x5 x6 x7 x8 x9 y0 y1 y2 y3 y4 y5 y6 y7 y8 y9:Int),(Op.equalIn (d+3) 43 (.agg [.int .u32 x0,.int .i32 x1,.int .i32 x2,.int .i32 x3,.int .i32 x4,.int .i32 x5,.int .i32 x6,.int .i32 x7,.int .i32 x8,.int .i32 x9].toArray) (.agg [.int .u32 y0,.int .i32 y1,.int .i32 y2,.int .i32 y3,.int .i32 y4,.int .i32 y5,.int .i32 y6,.int .i32 y7,.int .i32 y8,.int .i32 y9].toArray)).run prog w=.ok (decide (x0=y0∧x1=y1∧x2=y2∧x3=y3∧x4=y4∧x5=y5∧x6=y6∧x7=y7∧x8=y8∧x9=y9)) w:=fun d w x0 x1 x2 x3 x4 x5 x6 x7 x8 x9 y0 y1 y2 y3 y4 y5 y6 y7 y8 y9=>by
  have h:=aBb (P:=prog) (T:=43) (dd:=d+2) (xs:=[.int .u32 x0,.int .i32 x1,.int .i32 x2,.int .i32 x3,.int .i32 x4,.int .i32 x5,.int .i32 x6,.int .i32 x7,.int .i32 x8,.int .i32 x9]) (ys:=[.int .u32 y0,.int .i32 y1,.int .i32 y2,.int .i32 y3,.int .i32 y4,.int .i32 y5,.int .i32 y6,.int .i32 y7,.int .i32 y8,.int .i32 y9]) (w:=w) underlying43 (by kernel_rfl) (lA rfl (nL bV rfl) (nL bV rfl) (uE (dd:=d+1) underlying39) (lA rfl (nL aY rfl) (nL aY rfl) (uE (dd:=d+1) underlying21) (lA rfl (aGt bO rfl) (aGt bO rfl) (aWi (d+0) w x2 x3 y2 y3) (lA rfl (nL aY rfl) (nL aY rfl) (uE (dd:=d+1) underlying21) (lA rfl (nL aY rfl) (nL aY rfl) (uE (dd:=d+1) underlying21) (lA rfl (aGt bO rfl) (aGt bO rfl) (aWi (d+0) w x6 x7 y6 y7) (lA rfl (aGt bO rfl) (aGt bO rfl) (aWi (d+0) w x8 x9 y8 y9) (aMe))))))))
  refine h.trans (congrArg (fun r=>Result.ok r w) ?_)
  simp only [Bool.decide_and,Bool.and_true,Bool.and_assoc]
theorem bWb:∀ (x0 x1 x2 x3 x4 x5 x6 x7 x8 x9 y0 y1 y2 y3 y4 y5 y6 y7 y8 y9:Int),EqA prog 43 [.int .u32 x0,.int .i32 x1,.int .i32 x2,.int .i32 x3,.int .i32 x4,.int .i32 x5,.int .i32 x6,.int .i32 x7,.int .i32 x8,.int .i32 x9] [.int .u32 y0,.int .i32 y1,.int .i32 y2,.int .i32 y3,.int .i32 y4,.int .i32 y5,.int .i32 y6,.int .i32 y7,.int .i32 y8,.int .i32 y9] (decide (x0=y0∧x1=y1∧x2=y2∧x3=y3∧x4=y4∧x5=y5∧x6=y6∧x7=y7∧x8=y8∧x9=y9)):=fun x0 x1 x2 x3 x4 x5 x6 x7 x8 x9 y0 y1 y2 y3 y4 y5 y6 y7 y8 y9=>⟨by kernel_rfl,fun w=>bWc 9997 w x0 x1 x2 x3 x4 x5 x6 x7 x8 x9 y0 y1 y2 y3 y4 y5 y6 y7 y8 y9⟩
theorem bR:jE prog 43=some 10:=by kernel_rfl
theorem bVk:aV prog 73=true:=by kernel_rfl
theorem bSb:∀ (d:Nat) (w:World) (x0 x1 y0 y1:Int),(Op.equalIn (d+2) 173 (.agg [.int .u32 x0,.int .u32 x1].toArray) (.agg [.int .u32 y0,.int .u32 y1].toArray)).run prog w=.ok (decide (x0=y0∧x1=y1)) w:=fun d w x0 x1 y0 y1=>by
  have h:=aBb (P:=prog) (T:=173) (dd:=d+1) (xs:=[.int .u32 x0,.int .u32 x1]) (ys:=[.int .u32 y0,.int .u32 y1]) (w:=w) underlying173 (by kernel_rfl) (lA rfl (nL bV rfl) (nL bV rfl) (uE (dd:=d+0) underlying39) (lA rfl (nL bV rfl) (nL bV rfl) (uE (dd:=d+0) underlying39) (aMe)))
  refine h.trans (congrArg (fun r=>Result.ok r w) ?_)
  simp only [Bool.decide_and,Bool.and_true,Bool.and_assoc]
theorem bRz:∀ (x0 x1 y0 y1:Int),EqA prog 173 [.int .u32 x0,.int .u32 x1] [.int .u32 y0,.int .u32 y1] (decide (x0=y0∧x1=y1)):=fun x0 x1 y0 y1=>⟨by kernel_rfl,fun w=>bSb 9998 w x0 x1 y0 y1⟩
theorem kC:jE prog 173=some 2:=by kernel_rfl
theorem bQu:aV prog 188=true:=by kernel_rfl
theorem bWt:nR prog 173=some (.agg [.int .u32 0,.int .u32 0].toArray):=by kernel_rfl
theorem fQ:jA prog 3=true:=by kernel_rfl
theorem qS:jA prog 4=true:=by kernel_rfl
theorem mI:eQ prog 43 1 1=true:=by kernel_rfl
theorem jN:eQ prog 43 2 2=true:=by kernel_rfl
theorem cX:eQ prog 41 0 0=true:=by kernel_rfl
theorem aAt:aV prog 103=true:=by kernel_rfl
theorem cV:eQ prog 41 1 1=true:=by kernel_rfl
theorem eK:eQ prog 43 3 4=true:=by kernel_rfl
theorem oL:eQ prog 43 4 5=true:=by kernel_rfl
theorem fO:eQ prog 43 5 6=true:=by kernel_rfl
theorem eC:eQ prog 43 6 8=true:=by kernel_rfl
theorem dS:fU prog 46 43 10 40=true:=by kernel_rfl
theorem dV:eQ prog 43 0 0=true:=by kernel_rfl
theorem mixed:prog.follows .mixedOrders=true:=by kernel_rfl
theorem aSc:aV prog 112=true:=by kernel_rfl
theorem qB:gI prog 181 [.nilFunc,.int .i64 0] [(0,1),(1,1)]:=eM underlying181 (by kernel_rfl) (by kernel_rfl) (by kernel_rfl)
theorem xL:aAq prog 183 6 181 2=true:=by kernel_rfl
theorem bMo:gU prog 183=some [.nilFunc,.int .i64 0,.nilFunc,.int .i64 0,.nilFunc,.int .i64 0,.nilFunc,.int .i64 0,.nilFunc,.int .i64 0,.nilFunc,.int .i64 0]:=by kernel_rfl
theorem pE:jE prog 181=some 2:=by kernel_rfl
theorem wN:gU prog 181=some [.nilFunc,.int .i64 0]:=by kernel_rfl
theorem sC:eQ prog 181 0 0=true:=by kernel_rfl
theorem aKm:jA prog 23=true:=by kernel_rfl
theorem bPg:aV prog 110=true:=by kernel_rfl
theorem sD:eQ prog 181 1 1=true:=by kernel_rfl
theorem aCs:jA prog 33=true:=by kernel_rfl
theorem bPh:aV prog 111=true:=by kernel_rfl
theorem bPi:aV prog 113=true:=by kernel_rfl
theorem bPj:aV prog 114=true:=by kernel_rfl
theorem bPk:aV prog 115=true:=by kernel_rfl
theorem bPl:aV prog 116=true:=by kernel_rfl
theorem bEa:aV prog 94=true:=by kernel_rfl
theorem oM:eQ prog 69 1 1=true:=by kernel_rfl
theorem xC:jA prog 67=true:=by kernel_rfl
theorem aCq:aBl prog 67 39 3 .u32=true:=by kernel_rfl
theorem zv3:nR prog 3=some (.int .i64 0):=by kernel_rfl
theorem jZ:eQ prog 69 0 0=true:=by kernel_rfl
theorem gR:jA prog 46=true:=by kernel_rfl
theorem fX:gU prog 43=some [.int .u32 0,.int .i32 0,.int .i32 0,.int .i32 0,.int .i32 0,.int .i32 0,.int .i32 0,.int .i32 0,.int .i32 0,.int .i32 0]:=by kernel_rfl
theorem uX:gI prog 43 [.int .u32 0,.int .i32 0,.int .i32 0,.int .i32 0,.int .i32 0,.int .i32 0,.int .i32 0,.int .i32 0,.int .i32 0,.int .i32 0] [(0,1),(1,1),(2,2),(4,1),(5,1),(6,2),(8,2)]:=eM underlying43 (by kernel_rfl) (by kernel_rfl) (by kernel_rfl)
theorem bNq:aV prog 97=true:=by kernel_rfl
theorem aVv:aV prog 74=true:=by kernel_rfl
theorem bVi:aV prog 71=true:=by kernel_rfl
theorem bVj:aV prog 72=true:=by kernel_rfl
theorem bNo:aV prog 82=true:=by kernel_rfl
theorem tN:aV prog 64=true:=by kernel_rfl
theorem aVw:aV prog 83=true:=by kernel_rfl
theorem bVg:aV prog 69=true:=by kernel_rfl
theorem bPf:aV prog 109=true:=by kernel_rfl
theorem us3:(prog.underlying 3).isSome=true:=by kernel_rfl
theorem bWp:(prog.underlying 136).isSome=true:=by kernel_rfl
theorem bDb:aV prog 172=true:=by kernel_rfl
theorem bQj:aV prog 171=true:=by kernel_rfl
theorem bDs:aV prog 227=true:=by kernel_rfl
theorem aNs:gU prog 248=some [.int .i32 0,.int .i32 0,.int .i32 0,.int .i32 0]:=by kernel_rfl
theorem bRa:aV prog 206=true:=by kernel_rfl
theorem aKy:gI prog 248 [.int .i32 0,.int .i32 0,.int .i32 0,.int .i32 0] [(0,1),(1,1),(2,1),(3,1)]:=eM underlying248 (by kernel_rfl) (by kernel_rfl) (by kernel_rfl)
theorem lU:jE prog 248=some 4:=by kernel_rfl
theorem zA:eQ prog 248 0 0=true:=by kernel_rfl
theorem zC:eQ prog 248 2 2=true:=by kernel_rfl
theorem zB:eQ prog 248 1 1=true:=by kernel_rfl
theorem zD:eQ prog 248 3 3=true:=by kernel_rfl
theorem aSj:aV prog 208=true:=by kernel_rfl
theorem bRc:aV prog 209=true:=by kernel_rfl
theorem tM:gU prog 271=some [.int .i32 0,.int .i32 0]:=by kernel_rfl
theorem aKz:gI prog 271 [.int .i32 0,.int .i32 0] [(0,1),(1,1)]:=eM underlying271 (by kernel_rfl) (by kernel_rfl) (by kernel_rfl)
theorem kU:jE prog 271=some 2:=by kernel_rfl
theorem fB:gI prog 41 [.int .i32 0,.int .i32 0] [(0,1),(1,1)]:=eM underlying41 (by kernel_rfl) (by kernel_rfl) (by kernel_rfl)
theorem bDv:aV prog 238=true:=by kernel_rfl
theorem bRn:aV prog 228=true:=by kernel_rfl
theorem aYc:gU prog 4=some [.bool false]:=by kernel_rfl
theorem aFs:eQ prog 271 1 1=true:=by kernel_rfl
theorem aFr:eQ prog 271 0 0=true:=by kernel_rfl
theorem bMs:gU prog 269=some [.slice none 0 0]:=by kernel_rfl
theorem bRb:aV prog 207=true:=by kernel_rfl
theorem bRo:aV prog 229=true:=by kernel_rfl
theorem aTr:jA prog 269=true:=by kernel_rfl
theorem bHs:fU prog 269 271 2 8=true:=by kernel_rfl
theorem dZ:(prog.underlying 21).isSome=true:=by kernel_rfl
theorem bCg:aAq prog 315 2 39 1=true:=by kernel_rfl
theorem wV:(prog.underlying 39).isSome=true:=by kernel_rfl
theorem bRk:aV prog 222=true:=by kernel_rfl
theorem nE:(prog.underlying 2).isSome=true:=by kernel_rfl
theorem xG:(prog.underlying 193).isSome=true:=by kernel_rfl
theorem tV:aV prog 197=true:=by kernel_rfl
theorem aSi:aV prog 196=true:=by kernel_rfl
theorem bDi:aV prog 198=true:=by kernel_rfl
theorem aLs:aV prog 199=true:=by kernel_rfl
theorem aLu:aV prog 223=true:=by kernel_rfl
theorem bDo:aV prog 217=true:=by kernel_rfl
theorem aSh:aV prog 191=true:=by kernel_rfl
theorem bRi:aV prog 219=true:=by kernel_rfl
theorem jD:gU prog 41=some [.int .i32 0,.int .i32 0]:=by kernel_rfl
theorem bDg:aV prog 193=true:=by kernel_rfl
theorem bDp:aV prog 218=true:=by kernel_rfl
theorem aEw:aV prog 216=true:=by kernel_rfl
theorem jQ:jA prog 2=true:=by kernel_rfl
theorem aLq:aV prog 173=true:=by kernel_rfl
theorem bRv:aV prog 253=true:=by kernel_rfl
theorem aIc:gU prog 2=some [.int .i64 0]:=by kernel_rfl
theorem bDw:aV prog 254=true:=by kernel_rfl
theorem cW:jA prog 193=true:=by kernel_rfl
theorem bMp:gU prog 193=some [.int .u64 0]:=by kernel_rfl
theorem aAp:aAq prog 351 2 41 2=true:=by kernel_rfl
theorem aYb:gU prog 351=some [.int .i32 0,.int .i32 0,.int .i32 0,.int .i32 0]:=by kernel_rfl
theorem aLw:aV prog 248=true:=by kernel_rfl
theorem aLv:aV prog 247=true:=by kernel_rfl
theorem bRr:aV prog 233=true:=by kernel_rfl
theorem aAm:gU prog 284=some [.int .u32 0,.int .i32 0,.int .i32 0,.int .i32 0,.int .i32 0,.int .i32 0,.int .i32 0,.int .i32 0,.int .i32 0,.int .i32 0,.int .i32 0,.int .i32 0,.int .i32 0,.int .i32 0]:=by kernel_rfl
theorem bRq:aV prog 232=true:=by kernel_rfl
theorem bBi:gI prog 284 [.int .u32 0,.int .i32 0,.int .i32 0,.int .i32 0,.int .i32 0,.int .i32 0,.int .i32 0,.int .i32 0,.int .i32 0,.int .i32 0,.int .i32 0,.int .i32 0,.int .i32 0,.int .i32 0] [(0,10),(10,2),(12,2)]:=eM underlying284 (by kernel_rfl) (by kernel_rfl) (by kernel_rfl)
theorem pF:jE prog 284=some 14:=by kernel_rfl
theorem aLt:aV prog 214=true:=by kernel_rfl
theorem aPo:eQ prog 284 1 10=true:=by kernel_rfl
theorem aPp:eQ prog 284 2 12=true:=by kernel_rfl
theorem bRh:aV prog 215=true:=by kernel_rfl
theorem zE:eQ prog 284 0 0=true:=by kernel_rfl
theorem nQ:gU prog 175=some [.int .u32 0,.int .u32 0,.int .i32 0,.int .i32 0,.int .i32 0]:=by kernel_rfl
theorem bQv:aV prog 189=true:=by kernel_rfl
theorem bQw:aV prog 190=true:=by kernel_rfl
theorem wG:gI prog 175 [.int .u32 0,.int .u32 0,.int .i32 0,.int .i32 0,.int .i32 0] [(0,2),(2,2),(4,1)]:=eM underlying175 (by kernel_rfl) (by kernel_rfl) (by kernel_rfl)
theorem fC:jE prog 175=some 5:=by kernel_rfl
theorem aBy:gI prog 173 [.int .u32 0,.int .u32 0] [(0,1),(1,1)]:=eM underlying173 (by kernel_rfl) (by kernel_rfl) (by kernel_rfl)
theorem wM:gU prog 173=some [.int .u32 0,.int .u32 0]:=by kernel_rfl
theorem bQx:aV prog 192=true:=by kernel_rfl
theorem aPn:eQ prog 245 1 1024=true:=by kernel_rfl
theorem bQm:aV prog 179=true:=by kernel_rfl
theorem bQn:aV prog 180=true:=by kernel_rfl
theorem bFy:aBl prog 268 3 4 .i64=true:=by kernel_rfl
theorem zv4:nR prog 4=some (.bool false):=by kernel_rfl
theorem aFq:eQ prog 245 0 0=true:=by kernel_rfl
theorem aRy:aAq prog 243 1024 242 1=true:=by kernel_rfl
theorem aMz:jA prog 242=true:=by kernel_rfl
theorem aRk:fU prog 242 39 1 4=true:=by kernel_rfl
theorem bHt:fU prog 338 3 1 8=true:=by kernel_rfl
theorem gY:eQ prog 173 0 0=true:=by kernel_rfl
theorem kP:eQ prog 173 1 1=true:=by kernel_rfl
theorem bRg:aV prog 213=true:=by kernel_rfl
theorem bSs:jA prog 275=true:=by kernel_rfl
theorem bRf:aV prog 212=true:=by kernel_rfl
theorem aTq:jA prog 220=true:=by kernel_rfl
theorem aAe:fU prog 220 173 2 8=true:=by kernel_rfl
theorem bRp:aV prog 230=true:=by kernel_rfl
theorem bRd:aV prog 210=true:=by kernel_rfl
theorem bRe:aV prog 211=true:=by kernel_rfl
theorem bOs:jE prog 243=some 1024:=by kernel_rfl
theorem bQr:aV prog 185=true:=by kernel_rfl
theorem bBh:gI prog 276 [] []:=eM underlying276 (by kernel_rfl) (by kernel_rfl) (by kernel_rfl)
theorem bQt:aV prog 187=true:=by kernel_rfl
theorem bQs:aV prog 186=true:=by kernel_rfl
theorem bQl:aV prog 178=true:=by kernel_rfl
theorem aMq:aBl prog 240 39 248 .u32=true:=by kernel_rfl
theorem bOk:gU prog 3=some [.int .i64 0]:=by kernel_rfl
theorem bGj:jA prog 240=true:=by kernel_rfl
theorem bIr:nR prog 248=some (.agg [.int .i32 0,.int .i32 0,.int .i32 0,.int .i32 0].toArray):=by kernel_rfl
theorem bQo:aV prog 182=true:=by kernel_rfl
theorem bDe:aV prog 181=true:=by kernel_rfl
theorem bQq:aV prog 184=true:=by kernel_rfl
theorem bQd:aV prog 164=true:=by kernel_rfl
theorem bQe:aV prog 165=true:=by kernel_rfl
theorem bQf:aV prog 166=true:=by kernel_rfl
theorem bQh:aV prog 168=true:=by kernel_rfl
theorem bQg:aV prog 167=true:=by kernel_rfl
theorem bQp:aV prog 183=true:=by kernel_rfl
theorem aFn:eQ prog 219 0 0=true:=by kernel_rfl
theorem aGp:jA prog 217=true:=by kernel_rfl
theorem aGe:aBl prog 217 39 43 .u32=true:=by kernel_rfl
theorem bMt:nR prog 43=some (.agg [.int .u32 0,.int .i32 0,.int .i32 0,.int .i32 0,.int .i32 0,.int .i32 0,.int .i32 0,.int .i32 0,.int .i32 0,.int .i32 0].toArray):=by kernel_rfl
theorem bCz:aV prog 169=true:=by kernel_rfl
theorem uI:eQ prog 219 1 1=true:=by kernel_rfl
theorem qK:jA prog 148=true:=by kernel_rfl
theorem tQ:fU prog 148 175 5 20=true:=by kernel_rfl
theorem bPw:aV prog 147=true:=by kernel_rfl
theorem bBg:gI prog 219 [.map none,.slice none 0 0] [(0,1),(1,1)]:=eM underlying219 (by kernel_rfl) (by kernel_rfl) (by kernel_rfl)
theorem bPu:aV prog 145=true:=by kernel_rfl
theorem bPv:aV prog 146=true:=by kernel_rfl
theorem wO:gU prog 307=some [.int .u64 0,.int .u64 0,.int .u64 0,.int .u64 0,.int .u64 0,.int .u64 0,.int .u64 0,.int .u64 0]:=by kernel_rfl
theorem bU:eQ prog 307 0 0=true:=by kernel_rfl
theorem dD:aAq prog 305 8 193 1=true:=by kernel_rfl
theorem pG:jE prog 307=some 8:=by kernel_rfl
theorem bDr:aV prog 226=true:=by kernel_rfl
theorem bRm:aV prog 225=true:=by kernel_rfl
theorem bDm:aV prog 204=true:=by kernel_rfl
theorem bDl:aV prog 203=true:=by kernel_rfl
theorem bDn:aV prog 205=true:=by kernel_rfl
theorem bCx:aV prog 159=true:=by kernel_rfl
theorem bQc:aV prog 160=true:=by kernel_rfl
theorem aSg:aV prog 137=true:=by kernel_rfl
theorem lV:aV prog 104=true:=by kernel_rfl
theorem bDj:aV prog 200=true:=by kernel_rfl
theorem bRl:aV prog 224=true:=by kernel_rfl
theorem bQz:aV prog 201=true:=by kernel_rfl
theorem bDk:aV prog 202=true:=by kernel_rfl
theorem yZ:eQ prog 204 1 2=true:=by kernel_rfl
theorem yY:eQ prog 204 0 0=true:=by kernel_rfl
theorem aEm:gU prog 204=some [.int .i32 0,.int .i32 0,.int .i32 0,.int .i32 0]:=by kernel_rfl
theorem wH:gI prog 204 [.int .i32 0,.int .i32 0,.int .i32 0,.int .i32 0] [(0,2),(2,2)]:=eM underlying204 (by kernel_rfl) (by kernel_rfl) (by kernel_rfl)
theorem aLr:aV prog 175=true:=by kernel_rfl
theorem aXq:fU prog 263 204 4 16=true:=by kernel_rfl
theorem nG:jE prog 204=some 4:=by kernel_rfl
theorem aSf:aV prog 135=true:=by kernel_rfl
theorem bCv:aV prog 157=true:=by kernel_rfl
theorem bCw:aV prog 158=true:=by kernel_rfl
theorem bQb:aV prog 156=true:=by kernel_rfl
theorem bPr:aV prog 134=true:=by kernel_rfl
theorem bPs:aV prog 136=true:=by kernel_rfl
theorem aSb:aV prog 106=true:=by kernel_rfl
theorem bRw:aV prog 255=true:=by kernel_rfl
theorem bRu:aV prog 249=true:=by kernel_rfl
theorem iL:eQ prog 175 1 2=true:=by kernel_rfl
theorem bRs:aV prog 234=true:=by kernel_rfl
theorem bRt:aV prog 235=true:=by kernel_rfl
theorem bDt:aV prog 236=true:=by kernel_rfl
theorem bDu:aV prog 237=true:=by kernel_rfl
theorem sE:eQ prog 291 0 0=true:=by kernel_rfl
theorem fV:eQ prog 175 0 0=true:=by kernel_rfl
theorem aLo:aV prog 153=true:=by kernel_rfl
theorem bRj:aV prog 220=true:=by kernel_rfl
theorem bDq:aV prog 221=true:=by kernel_rfl
theorem sF:eQ prog 291 1 1=true:=by kernel_rfl
theorem pJ:jA prog 255=true:=by kernel_rfl
theorem sG:eQ prog 291 2 2=true:=by kernel_rfl
theorem rJ:fU prog 255 2 1 8=true:=by kernel_rfl
theorem bQy:aV prog 195=true:=by kernel_rfl
theorem aLa:gI prog 291 [.slice none 0 0,.slice none 0 0,.slice none 0 0] [(0,1),(1,1),(2,1)]:=eM underlying291 (by kernel_rfl) (by kernel_rfl) (by kernel_rfl)
theorem bDh:aV prog 194=true:=by kernel_rfl
theorem bQi:aV prog 170=true:=by kernel_rfl
theorem aSd:aV prog 127=true:=by kernel_rfl
theorem bPz:aV prog 151=true:=by kernel_rfl
theorem aFm:eQ prog 175 2 4=true:=by kernel_rfl
theorem bDc:aV prog 174=true:=by kernel_rfl
theorem aBp:jA prog 201=true:=by kernel_rfl
theorem aHi:fU prog 201 228 2 16=true:=by kernel_rfl
theorem aFo:eQ prog 228 0 0=true:=by kernel_rfl
theorem aFp:eQ prog 228 1 1=true:=by kernel_rfl
theorem bMr:gU prog 228=some [.int .i64 0,.int .i64 0]:=by kernel_rfl
theorem bMq:gU prog 201=some [.slice none 0 0]:=by kernel_rfl
theorem bCu:aV prog 155=true:=by kernel_rfl
theorem bCt:aV prog 154=true:=by kernel_rfl
theorem aKw:fU prog 194 164 1 8=true:=by kernel_rfl
theorem bSr:jA prog 164=true:=by kernel_rfl
theorem bPy:aV prog 150=true:=by kernel_rfl
theorem aOq:aV prog 98=true:=by kernel_rfl
theorem bPx:aV prog 149=true:=by kernel_rfl
theorem bCr:aV prog 148=true:=by kernel_rfl
theorem bQa:aV prog 152=true:=by kernel_rfl
theorem yW:eQ prog 167 1 1=true:=by kernel_rfl
theorem sB:eQ prog 167 3 3=true:=by kernel_rfl
theorem yV:eQ prog 123 2 2=true:=by kernel_rfl
theorem aFl:eQ prog 167 0 0=true:=by kernel_rfl
theorem bPm:aV prog 128=true:=by kernel_rfl
theorem yX:eQ prog 167 2 2=true:=by kernel_rfl
theorem bEv:eQ prog 123 0 0=true:=by kernel_rfl
theorem aPm:eQ prog 123 1 1=true:=by kernel_rfl
theorem bPn:aV prog 130=true:=by kernel_rfl
theorem aSe:aV prog 129=true:=by kernel_rfl
theorem bPo:aV prog 131=true:=by kernel_rfl
theorem bPq:aV prog 133=true:=by kernel_rfl
theorem bPp:aV prog 132=true:=by kernel_rfl
theorem aEl:gU prog 123=some [.int .i64 0,.int .i64 0,.bool false]:=by kernel_rfl
theorem bBf:gI prog 167 [.slice none 0 0,.slice none 0 0,.slice none 0 0,.int .i64 0,.int .i64 0,.bool false] [(0,1),(1,1),(2,1),(3,3)]:=eM underlying167 (by kernel_rfl) (by kernel_rfl) (by kernel_rfl)
theorem aEs:aAq prog 169 4 168 1=true:=by kernel_rfl
theorem bMm:gU prog 169=some [.nilFunc,.nilFunc,.nilFunc,.nilFunc]:=by kernel_rfl
theorem aMy:jA prog 168=true:=by kernel_rfl
theorem bVz:aV prog 99=true:=by kernel_rfl
theorem bPb:aV prog 100=true:=by kernel_rfl
theorem bPc:aV prog 101=true:=by kernel_rfl
theorem bPd:aV prog 102=true:=by kernel_rfl
theorem tT:jE prog 123=some 3:=by kernel_rfl
theorem bQk:aV prog 176=true:=by kernel_rfl
theorem bDd:aV prog 177=true:=by kernel_rfl
theorem bCy:aV prog 161=true:=by kernel_rfl
theorem aLp:aV prog 162=true:=by kernel_rfl
theorem bCq:aV prog 138=true:=by kernel_rfl
theorem xN:aV prog 105=true:=by kernel_rfl
theorem bPe:aV prog 107=true:=by kernel_rfl
theorem bPt:aV prog 139=true:=by kernel_rfl
theorem bMn:gU prog 179=some [.int .i64 0,.int .i64 0]:=by kernel_rfl
theorem bCp:aV prog 108=true:=by kernel_rfl
theorem mA:eQ prog 179 0 0=true:=by kernel_rfl
theorem mB:eQ prog 179 1 1=true:=by kernel_rfl
theorem bOr:jE prog 179=some 2:=by kernel_rfl
theorem aKv:fU prog 154 179 2 16=true:=by kernel_rfl
theorem bVt:aV prog 85=true:=by kernel_rfl
theorem bVu:aV prog 86=true:=by kernel_rfl
theorem bVv:aV prog 87=true:=by kernel_rfl
theorem bVx:aV prog 89=true:=by kernel_rfl
theorem bVw:aV prog 88=true:=by kernel_rfl
theorem gW:fU prog 34 5 1 1=true:=by kernel_rfl
theorem aNr:gU prog 108=some [.int .u32 0,.int .u32 0,.int .u32 0,.int .u32 0,.int .u32 0,.int .u32 0,.int .u32 0,.int .u32 0,.int .u32 0,.int .u32 0]:=by kernel_rfl
theorem jG:aAq prog 108 10 39 1=true:=by kernel_rfl
theorem yM:aV prog 70=true:=by kernel_rfl
theorem aRu:jE prog 108=some 10:=by kernel_rfl
theorem aIv:jA prog 5=true:=by kernel_rfl
theorem us5:(prog.underlying 5).isSome=true:=by kernel_rfl
theorem bDz:aV prog 93=true:=by kernel_rfl
theorem bNl:aV prog 42=true:=by kernel_rfl
theorem bNm:aV prog 43=true:=by kernel_rfl
theorem bUl:aV prog 44=true:=by kernel_rfl
theorem tX:aV prog 65=true:=by kernel_rfl
theorem tY:aV prog 66=true:=by kernel_rfl
theorem bVf:aV prog 67=true:=by kernel_rfl
theorem bDy:aV prog 90=true:=by kernel_rfl
theorem tW:aV prog 39=true:=by kernel_rfl
theorem yN:aV prog 91=true:=by kernel_rfl
theorem bVy:aV prog 92=true:=by kernel_rfl
theorem zG:eQ prog 73 0 0=true:=by kernel_rfl
theorem bDx:aV prog 33=true:=by kernel_rfl
theorem vT:eQ prog 71 0 0=true:=by kernel_rfl
theorem bNn:aV prog 68=true:=by kernel_rfl
theorem bVn:aV prog 77=true:=by kernel_rfl
theorem bUh:aV prog 34=true:=by kernel_rfl
theorem bUm:aV prog 45=true:=by kernel_rfl
theorem bNj:aV prog 36=true:=by kernel_rfl
theorem bUi:aV prog 35=true:=by kernel_rfl
theorem bNd:aV prog 18=true:=by kernel_rfl
theorem bVp:aV prog 79=true:=by kernel_rfl
theorem bVr:aV prog 80=true:=by kernel_rfl
theorem bHv:gI prog 71 [.slice none 0 0,.map none] [(0,2)]:=eM underlying71 (by kernel_rfl) (by kernel_rfl) (by kernel_rfl)
theorem bTw:jE prog 71=some 2:=by kernel_rfl
theorem bVs:aV prog 81=true:=by kernel_rfl
theorem bNk:aV prog 41=true:=by kernel_rfl
theorem bUk:aV prog 40=true:=by kernel_rfl
theorem bNp:aV prog 84=true:=by kernel_rfl
theorem aVi:gU prog 97=some [.slice none 0 0,.int .i64 0,.int .u32 0,.int .i32 0,.int .i32 0,.int .i32 0,.int .i32 0,.int .i32 0,.int .i32 0,.int .i32 0,.int .i32 0,.int .i32 0,.slice none 0 0,.int .i64 0,.bool false]:=by kernel_rfl
theorem bHw:gI prog 97 [.slice none 0 0,.int .i64 0,.int .u32 0,.int .i32 0,.int .i32 0,.int .i32 0,.int .i32 0,.int .i32 0,.int .i32 0,.int .i32 0,.int .i32 0,.int .i32 0,.slice none 0 0,.int .i64 0,.bool false] [(0,1),(1,1),(2,10),(12,1),(13,1),(14,1)]:=eM underlying97 (by kernel_rfl) (by kernel_rfl) (by kernel_rfl)
theorem iR:jE prog 97=some 15:=by kernel_rfl
theorem bJx:eQ prog 99 0 0=true:=by kernel_rfl
theorem bJy:eQ prog 99 1 1=true:=by kernel_rfl
theorem bVa:aV prog 59=true:=by kernel_rfl
theorem vU:eQ prog 97 0 0=true:=by kernel_rfl
theorem vV:eQ prog 97 1 1=true:=by kernel_rfl
theorem aMj:eQ prog 99 2 11=true:=by kernel_rfl
theorem bVb:aV prog 60=true:=by kernel_rfl
theorem bJz:eQ prog 99 3 12=true:=by kernel_rfl
theorem bVc:aV prog 61=true:=by kernel_rfl
theorem bVd:aV prog 62=true:=by kernel_rfl
theorem aWt:eQ prog 97 4 13=true:=by kernel_rfl
theorem aWu:eQ prog 97 5 14=true:=by kernel_rfl
theorem bNg:aV prog 27=true:=by kernel_rfl
theorem aWs:eQ prog 97 3 12=true:=by kernel_rfl
theorem lR:jA prog 34=true:=by kernel_rfl
theorem bKa:eQ prog 99 4 14=true:=by kernel_rfl
theorem bVe:aV prog 63=true:=by kernel_rfl
theorem bJw:eQ prog 97 2 2=true:=by kernel_rfl
theorem lW:fU prog 22 58 15 88=true:=by kernel_rfl
theorem aWm:eQ prog 45 1 1=true:=by kernel_rfl
theorem aMi:eQ prog 45 2 11=true:=by kernel_rfl
theorem aEa:eQ prog 45 4 14=true:=by kernel_rfl
theorem bUn:aV prog 46=true:=by kernel_rfl
theorem sK:aBl prog 94 3 77 .i64=true:=by kernel_rfl
theorem bUq:aV prog 49=true:=by kernel_rfl
theorem bUt:aV prog 52=true:=by kernel_rfl
theorem jW:gU prog 36=some [.int .i64 0,.slice none 0 0,.int .i64 0,.bool false]:=by kernel_rfl
theorem bGg:jA prog 111=true:=by kernel_rfl
theorem bSo:jA prog 113=true:=by kernel_rfl
theorem iQ:jE prog 45=some 15:=by kernel_rfl
theorem qP:gI prog 36 [.int .i64 0,.slice none 0 0,.int .i64 0,.bool false] [(0,1),(1,1),(2,1),(3,1)]:=eM underlying36 (by kernel_rfl) (by kernel_rfl) (by kernel_rfl)
theorem bUp:aV prog 48=true:=by kernel_rfl
theorem bUo:aV prog 47=true:=by kernel_rfl
theorem fM:jE prog 36=some 4:=by kernel_rfl
theorem bGh:jA prog 115=true:=by kernel_rfl
theorem bSp:jA prog 117=true:=by kernel_rfl
theorem bUs:aV prog 51=true:=by kernel_rfl
theorem bUr:aV prog 50=true:=by kernel_rfl
theorem bGi:jA prog 119=true:=by kernel_rfl
theorem bSq:jA prog 120=true:=by kernel_rfl
theorem bUu:aV prog 53=true:=by kernel_rfl
theorem bNh:aV prog 31=true:=by kernel_rfl
theorem aWn:eQ prog 45 3 12=true:=by kernel_rfl
theorem bUw:aV prog 55=true:=by kernel_rfl
theorem bUy:aV prog 57=true:=by kernel_rfl
theorem aVt:aV prog 22=true:=by kernel_rfl
theorem qW:eQ prog 45 0 0=true:=by kernel_rfl
theorem aEx:aV prog 37=true:=by kernel_rfl
theorem aVj:nR prog 77=some (.nilFunc):=by kernel_rfl
theorem bVl:aV prog 75=true:=by kernel_rfl
theorem bVm:aV prog 76=true:=by kernel_rfl
theorem bVo:aV prog 78=true:=by kernel_rfl
theorem bUv:aV prog 54=true:=by kernel_rfl
theorem bUx:aV prog 56=true:=by kernel_rfl
theorem bUz:aV prog 58=true:=by kernel_rfl
theorem pL:fU prog 25 45 15 88=true:=by kernel_rfl
theorem aId:gU prog 45=some [.int .i64 0,.int .u32 0,.int .i32 0,.int .i32 0,.int .i32 0,.int .i32 0,.int .i32 0,.int .i32 0,.int .i32 0,.int .i32 0,.int .i32 0,.int .u32 0,.int .i32 0,.int .i32 0,.slice none 0 0]:=by kernel_rfl
theorem aVu:aV prog 23=true:=by kernel_rfl
theorem qU:fU prog 29 36 4 48=true:=by kernel_rfl
theorem bIq:gU prog 80=some [.int .i64 0,.slice none 0 0,.int .i64 0,.bool false]:=by kernel_rfl
theorem pT:eQ prog 58 0 0=true:=by kernel_rfl
theorem aAk:gI prog 80 [.int .i64 0,.slice none 0 0,.int .i64 0,.bool false] [(0,1),(1,1),(2,1),(3,1)]:=eM underlying80 (by kernel_rfl) (by kernel_rfl) (by kernel_rfl)
theorem yK:jE prog 80=some 4:=by kernel_rfl
theorem vP:eQ prog 58 1 1=true:=by kernel_rfl
theorem vQ:eQ prog 58 2 11=true:=by kernel_rfl
theorem vR:eQ prog 58 3 12=true:=by kernel_rfl
theorem vS:eQ prog 58 4 14=true:=by kernel_rfl
theorem bHx:gI prog 99 [.int .i64 0,.int .u32 0,.int .i32 0,.int .i32 0,.int .i32 0,.int .i32 0,.int .i32 0,.int .i32 0,.int .i32 0,.int .i32 0,.int .i32 0,.int .u32 0,.int .i32 0,.int .i32 0,.slice none 0 0] [(0,1),(1,10),(11,1),(12,2),(14,1)]:=eM underlying99 (by kernel_rfl) (by kernel_rfl) (by kernel_rfl)
theorem bUj:aV prog 38=true:=by kernel_rfl
theorem bTv:jE prog 58=some 15:=by kernel_rfl
theorem bUc:aV prog 25=true:=by kernel_rfl
theorem bTd:fU prog 47 80 4 48=true:=by kernel_rfl
theorem aWo:eQ prog 80 0 0=true:=by kernel_rfl
theorem aWp:eQ prog 80 1 1=true:=by kernel_rfl
theorem bCs:aV prog 15=true:=by kernel_rfl
theorem aWq:eQ prog 80 2 2=true:=by kernel_rfl
theorem aWr:eQ prog 80 3 3=true:=by kernel_rfl
theorem aAf:fU prog 26 34 1 24=true:=by kernel_rfl
theorem bNf:aV prog 24=true:=by kernel_rfl
theorem kJ:eQ prog 28 2 2=true:=by kernel_rfl
theorem iZ:jA prog 26=true:=by kernel_rfl
theorem aKn:jA prog 61=true:=by kernel_rfl
theorem bUb:aV prog 21=true:=by kernel_rfl
theorem pM:gU prog 28=some [.slice none 0 0,.int .i64 0,.slice none 0 0]:=by kernel_rfl
theorem aHo:gI prog 28 [.slice none 0 0,.int .i64 0,.slice none 0 0] [(0,1),(1,1),(2,1)]:=eM underlying28 (by kernel_rfl) (by kernel_rfl) (by kernel_rfl)
theorem fZ:jE prog 28=some 3:=by kernel_rfl
theorem gH:eQ prog 28 0 0=true:=by kernel_rfl
theorem jF:jA prog 25=true:=by kernel_rfl
theorem bDf:aV prog 19=true:=by kernel_rfl
theorem aVh:gU prog 73=some [.slice none 0 0,.map none]:=by kernel_rfl
theorem bIp:gU prog 61=some [.pointer none]:=by kernel_rfl
theorem nI:eQ prog 28 1 1=true:=by kernel_rfl
theorem bNe:aV prog 20=true:=by kernel_rfl
theorem bUg:aV prog 30=true:=by kernel_rfl
theorem bUf:aV prog 29=true:=by kernel_rfl
theorem bNi:aV prog 32=true:=by kernel_rfl
theorem bDa:aV prog 17=true:=by kernel_rfl
theorem aNt:gU prog 52=some [.slice none 0 0,.int .i64 0,.slice none 0 0]:=by kernel_rfl
theorem aRn:gI prog 52 [.slice none 0 0,.int .i64 0,.slice none 0 0] [(0,1),(1,1),(2,1)]:=eM underlying52 (by kernel_rfl) (by kernel_rfl) (by kernel_rfl)
theorem aCb:jE prog 52=some 3:=by kernel_rfl
theorem zF:eQ prog 52 1 1=true:=by kernel_rfl
theorem bNb:aV prog 10=true:=by kernel_rfl
theorem sY:eQ prog 52 2 2=true:=by kernel_rfl
theorem bNx:∀ (x0 x1 y0 y1:Int),EqA prog 41 [.int .i32 x0,.int .i32 x1] [.int .i32 y0,.int .i32 y1] (decide (x0=y0∧x1=y1)):=fun x0 x1 y0 y1=>⟨by kernel_rfl,fun w=>aWi 9998 w x0 x1 y0 y1⟩
theorem aEb:eQ prog 52 0 0=true:=by kernel_rfl
theorem aQi:jA prog 22=true:=by kernel_rfl
theorem bUd:aV prog 26=true:=by kernel_rfl
theorem aRm:gI prog 45 [.int .i64 0,.int .u32 0,.int .i32 0,.int .i32 0,.int .i32 0,.int .i32 0,.int .i32 0,.int .i32 0,.int .i32 0,.int .i32 0,.int .i32 0,.int .u32 0,.int .i32 0,.int .i32 0,.slice none 0 0] [(0,1),(1,10),(11,1),(12,2),(14,1)]:=eM underlying45 (by kernel_rfl) (by kernel_rfl) (by kernel_rfl)
theorem aAj:gI prog 58 [.int .i64 0,.int .u32 0,.int .i32 0,.int .i32 0,.int .i32 0,.int .i32 0,.int .i32 0,.int .i32 0,.int .i32 0,.int .i32 0,.int .i32 0,.int .u32 0,.int .i32 0,.int .i32 0,.slice none 0 0] [(0,1),(1,10),(11,1),(12,2),(14,1)]:=eM underlying58 (by kernel_rfl) (by kernel_rfl) (by kernel_rfl)
theorem aWl:eQ prog 36 0 0=true:=by kernel_rfl
theorem bJt:eQ prog 36 1 1=true:=by kernel_rfl
theorem bJu:eQ prog 36 2 2=true:=by kernel_rfl
theorem bJv:eQ prog 36 3 3=true:=by kernel_rfl
theorem bUe:aV prog 28=true:=by kernel_rfl
theorem bVq:aV prog 8=true:=by kernel_rfl
theorem bVh:aV prog 7=true:=by kernel_rfl
theorem bNc:aV prog 16=true:=by kernel_rfl
theorem aYo:aV prog 9=true:=by kernel_rfl
theorem bRx:aV prog 5=true:=by kernel_rfl
theorem bWy:aV prog 6=true:=by kernel_rfl
theorem bTy:aV prog 12=true:=by kernel_rfl
theorem bTz:aV prog 13=true:=by kernel_rfl
theorem bTx:aV prog 11=true:=by kernel_rfl
theorem bUa:aV prog 14=true:=by kernel_rfl
end Go.Proofs.YtpcloigancpnbaaGreatDoor

namespace Go.Proofs.YtpcloigancpnbaaGreatDoor
open Go.Bil
open Go.RowKit (Below)
open Go.Proofs
open Go.Proofs.Tryz
theorem sN (w:World) (n l:Int) (h0:0≤l) (h1:l≤2147483647) :
  Calls prog 103 #[.int .i32 n,.int .i32 l] w (Rb w (.bool (decide (xT n l)))):=by
 have hneg:IntKind.i32.wrap (-l) = -l:=jU _ (by omega) (by omega)
 refine aI #[.tmp 4] 14 func103 Z results103 ntmps103 Z ?_
 have M0:=Mem.refl w
 refine aE (aA (wq (aJ (.bool false) Z) Z (aB (aC (aE (aA (aR Z Z (aR Z Z (wq (sM Z) Z (aL 7 (.int .i32 (-l)) (iE hneg) (cY Z Z Z Z (wq (aH (.bool (decide _)) Z) Z ?_))))))))))))
 refine dT 9 Z (fun g9 => ?_) (fun g9 => ?_)
 ·refine aR Z Z (aR Z Z (cY Z Z Z Z (wq (bQ true (.bool (decide _)) Z Z) Z (wq (aJ (.bool (decide _)) Z) Z (aB (aC (aP (cI (.bool (decide _)) Z ?_))))))))
  exact ⟨by unfold xT;first | exact bF (by omega) | exact bD (by omega),M0.below⟩
 ·refine aN Z Z (aN Z Z (aN Z Z (wq (bQ false (.bool false) Z Z) Z (wq (aJ (.bool false) Z) Z (aB (aC (aP (cI (.bool false) Z ?_))))))))
  exact ⟨by unfold xT;first | exact bF (by omega) | exact bD (by omega),M0.below⟩
theorem aCz (w:World) (b:Body) :
  Calls prog 82 #[(.agg (aF b).toArray)] w (Rb w (.int .i64 (check b))):=by
 refine aI #[.tmp 2] 63 func82 Z results82 ntmps82 Z ?_
 have M0:=Mem.refl w
 refine aE (aA (bN (.agg (.mk _)) M0 Z Z Z (fun b1 w1 M1=>(bJ Z Z (aB (aC (aE (aE (aA (wq (aD 1 mI Z) Z (wq (aK 0 (.int _ _) aY M1 Z Z Z) Z (cY Z Z Z Z (wq (aH (.bool (decide _)) Z) Z ?_)))))))))))))
 refine dT 6 Z (fun g6 => ?_) (fun g6 => ?_)
 ·refine aN Z Z (aN Z Z (aN Z Z (wq (bQ true (.bool true) Z Z) Z (aB (aC (cG Z (aE (aA (bJ Z Z (aB (aC (aP (cN (cI (.int _ _) Z ?_))))))))))))))
  exact ⟨iE (by unfold check;unfold xT at *;(repeat' split) <;> omega),M1.below⟩
 ·refine wq (aD 1 mI Z) Z (wq (aK 0 (.int _ _) aY M1 Z Z Z) Z (cY Z Z Z Z (wq (bQ false (.bool (decide _)) Z Z) Z (aB (aC ?_)))))
  refine aW Z (fun h10 => ?_) (fun h10 => ?_)
  ·refine aE (aA (bJ Z Z (aB (aC (aP (cN (cI (.int _ _) Z ?_)))))))
   exact ⟨iE (by unfold check;unfold xT at *;(repeat' split) <;> omega),M1.below⟩
  ·refine aM (aC (aE (aE (aA (wq (aD 2 jN Z) Z (wq (aD 0 cX Z) Z (wq (aK 0 (.int _ _) aY M1 Z Z Z) Z (dO aAt Z Z M1 (sN _ _ _ (by omega) (by omega)) (fun w2 M2=>(wq (pQ Z) Z (wq (aH (.bool (decide _)) Z) Z ?_)))))))))))
   refine dT 16 Z (fun g16 => ?_) (fun g16 => ?_)
   ·refine aN Z Z (aN Z Z (aN Z Z (aN Z Z (aN Z Z (wq (bQ true (.bool true) Z Z) Z (aB (aC (cG Z (aE (aA (bJ Z Z (aB (aC (aP (cN (cI (.int _ _) Z ?_))))))))))))))))
    exact ⟨iE (by unfold check;unfold xT at *;(repeat' split) <;> omega),M2.below⟩
   ·refine wq (aD 2 jN Z) Z (wq (aD 1 cV Z) Z (wq (aK 0 (.int _ _) aY M2 Z Z Z) Z (dO aAt Z Z M2 (sN _ _ _ (by omega) (by omega)) (fun w3 M3=>(wq (pQ Z) Z (wq (bQ false (.bool (decide _)) Z Z) Z (aB (aC ?_))))))))
    refine aW Z (fun h22 => ?_) (fun h22 => ?_)
    ·refine aE (aA (bJ Z Z (aB (aC (aP (cN (cI (.int _ _) Z ?_)))))))
     exact ⟨iE (by unfold check;unfold xT at *;(repeat' split) <;> omega),M3.below⟩
    ·refine aM (aC (aE (aE (aA (wq (aD 4 eK Z) Z (wq (aK 0 (.int _ _) aY M3 Z Z Z) Z (cY Z Z Z Z (wq (aH (.bool (decide _)) Z) Z ?_))))))))
     refine dT 26 Z (fun g26 => ?_) (fun g26 => ?_)
     ·refine aN Z Z (aN Z Z (aN Z Z (wq (bQ true (.bool true) Z Z) Z (aB (aC (cG Z (aE (aA (bJ Z Z (aB (aC (aP (cN (cI (.int _ _) Z ?_))))))))))))))
      exact ⟨iE (by unfold check;unfold xT at *;(repeat' split) <;> omega),M3.below⟩
     ·refine wq (aD 4 eK Z) Z (wq (aK 0 (.int _ _) aY M3 Z Z Z) Z (cY Z Z Z Z (wq (bQ false (.bool (decide _)) Z Z) Z (aB (aC ?_)))))
      refine aW Z (fun h30 => ?_) (fun h30 => ?_)
      ·refine aE (aA (bJ Z Z (aB (aC (aP (cN (cI (.int _ _) Z ?_)))))))
       exact ⟨iE (by unfold check;unfold xT at *;(repeat' split) <;> omega),M3.below⟩
      ·refine aM (aC (aE (aE (aA (wq (aD 5 oL Z) Z (wq (aK 0 (.int _ _) aY M3 Z Z Z) Z (cY Z Z Z Z (wq (aH (.bool (decide _)) Z) Z ?_))))))))
       refine dT 34 Z (fun g34 => ?_) (fun g34 => ?_)
       ·refine aN Z Z (aN Z Z (aN Z Z (wq (bQ true (.bool true) Z Z) Z (aB (aC (cG Z (aE (aA (bJ Z Z (aB (aC (aP (cN (cI (.int _ _) Z ?_))))))))))))))
        exact ⟨iE (by unfold check;unfold xT at *;(repeat' split) <;> omega),M3.below⟩
       ·refine wq (aD 5 oL Z) Z (wq (aK 0 (.int _ _) aY M3 Z Z Z) Z (cY Z Z Z Z (wq (bQ false (.bool (decide _)) Z Z) Z (aB (aC ?_)))))
        refine aW Z (fun h38 => ?_) (fun h38 => ?_)
        ·refine aE (aA (bJ Z Z (aB (aC (aP (cN (cI (.int _ _) Z ?_)))))))
         exact ⟨iE (by unfold check;unfold xT at *;(repeat' split) <;> omega),M3.below⟩
        ·refine aM (aC (aE (aE (aA (wq (aD 6 fO Z) Z (wq (aD 0 cX Z) Z (wq (aK 0 (.int _ _) aY M3 Z Z Z) Z (dO aAt Z Z M3 (sN _ _ _ (by omega) (by omega)) (fun w4 M4=>(wq (pQ Z) Z (wq (aH (.bool (decide _)) Z) Z ?_)))))))))))
         refine dT 44 Z (fun g44 => ?_) (fun g44 => ?_)
         ·refine aN Z Z (aN Z Z (aN Z Z (aN Z Z (aN Z Z (wq (bQ true (.bool true) Z Z) Z (aB (aC (cG Z (aE (aA (bJ Z Z (aB (aC (aP (cN (cI (.int _ _) Z ?_))))))))))))))))
          exact ⟨iE (by unfold check;unfold xT at *;(repeat' split) <;> omega),M4.below⟩
         ·refine wq (aD 6 fO Z) Z (wq (aD 1 cV Z) Z (wq (aK 0 (.int _ _) aY M4 Z Z Z) Z (dO aAt Z Z M4 (sN _ _ _ (by omega) (by omega)) (fun w5 M5=>(wq (pQ Z) Z (wq (bQ false (.bool (decide _)) Z Z) Z (aB (aC ?_))))))))
          refine aW Z (fun h50 => ?_) (fun h50 => ?_)
          ·refine aE (aA (bJ Z Z (aB (aC (aP (cN (cI (.int _ _) Z ?_)))))))
           exact ⟨iE (by unfold check;unfold xT at *;(repeat' split) <;> omega),M5.below⟩
          ·refine aM (aC (aE (aE (aA (wq (aD 8 eC Z) Z (wq (aD 0 cX Z) Z (wq (aK 0 (.int _ _) aY M5 Z Z Z) Z (dO aAt Z Z M5 (sN _ _ _ (by omega) (by omega)) (fun w6 M6=>(wq (pQ Z) Z (wq (aH (.bool (decide _)) Z) Z ?_)))))))))))
           refine dT 56 Z (fun g56 => ?_) (fun g56 => ?_)
           ·refine aN Z Z (aN Z Z (aN Z Z (aN Z Z (aN Z Z (wq (bQ true (.bool true) Z Z) Z (aB (aC (cG Z (aE (aA (bJ Z Z (aB (aC (aP (cN (cI (.int _ _) Z ?_))))))))))))))))
            exact ⟨iE (by unfold check;unfold xT at *;(repeat' split) <;> omega),M6.below⟩
           ·refine wq (aD 8 eC Z) Z (wq (aD 1 cV Z) Z (wq (aK 0 (.int _ _) aY M6 Z Z Z) Z (dO aAt Z Z M6 (sN _ _ _ (by omega) (by omega)) (fun w7 M7=>(wq (pQ Z) Z (wq (bQ false (.bool (decide _)) Z Z) Z (aB (aC ?_))))))))
            refine aW Z (fun h62 => ?_) (fun h62 => ?_)
            ·refine aE (aA (bJ Z Z (aB (aC (aP (cN (cI (.int _ _) Z ?_)))))))
             exact ⟨iE (by unfold check;unfold xT at *;(repeat' split) <;> omega),M7.below⟩
            ·refine aM (aC (aE (aA (bJ Z Z (aB (aC (aP (cI (.int _ _) Z ?_))))))))
             exact ⟨iE (by unfold check;unfold xT at *;(repeat' split) <;> omega),M7.below⟩
theorem bSa (a b:Body):EqA prog 43 (aF a) (aF b) (decide (a=b)):=by
 have h:=bWb a.key a.radius a.ax a.ay a.mass a.bounce a.px a.py a.vx a.vy b.key b.radius b.ax b.ay b.mass b.bounce b.px b.py b.vx b.vy
 rw [decide_eq_decide.2 (bCm (a:=a) (b:=b))]
 exact h
theorem iI (w:World) (key:Int) (A:Option Addr) (n c:Nat) (xs:List Body) (R:Rd w 10 A n (xs.map aF)) :
  Calls prog 64 #[.slice A n c,.int .u32 key] w (Rb w (.int .i64 (dR key xs))):=by
 have hlen:xs.length=n:=by simpa using R.len
 have hbd:=R.bound
 refine aI #[.tmp 4] 20 func64 Z results64 ntmps64 Z ?_
 have M0:=Mem.refl w
 refine aE (aA (bJ Z Z (aB (aC (aE (aE (aA (bJ Z Z (aB (aC (aS (dM (σ:=Nat) [0,1] (fun k=>[(5,.int .i64 (k:Int))]) (fun k w'=>(k≤n∧∀ (j:Nat) (c:Body),j < k→xs[j]? = some c→c.key≠key)∧Mem w [] [] w') (fun k=>n - k) 0 (bE Z eB) (⟨⟨by omega,fun j c hj=>by omega⟩,M0⟩) ?_))))))))))))
 rintro k ρ1 w1 ⟨⟨hk,hne⟩,hM1⟩
 refine aE (aE (aA (aR Z Z (dK Z Z (wq (cK underlying46 Z) Z (cY Z Z Z Z (aB (aC ?_))))))))
 refine aW Z (fun h9 => ?_) (fun h9 => ?_)
 ·obtain ⟨xb,hxb⟩:=cT (k:=k) hlen (by omega)
  refine aM (aC (aE (aS (aE (aA (dK Z Z (aR Z Z (wq (bI (k) dS Z Z Z ((R.mem hM1).below_len (aG aF hxb)) ((R.mem hM1).someK (aG aF hxb))) Z (wq (aT 0 dV (R.mem hM1) (iU ((R.mem hM1).below_len (aG aF hxb))) Z) Z (wq (dP (o:=0) (.int _ _) bV (R.mem hM1) (aG aF hxb) Z Z) Z (aR Z Z (cY Z Z Z Z (aB (aC ?_))))))))))))))
  refine aW Z (fun h18 => ?_) (fun h18 => ?_)
  ·refine aE (aA (aR Z Z (bJ Z Z (aB (aC (aP (lZ (cN (uU (lZ (cN (cI (.int _ _) Z ?_))))))))))))
   exact ⟨iE (yT hxb h18 hne).symm,hM1.below⟩
  ·refine aM (cU (aC (aA (aR Z Z (wq (bA Z Z (by omega) (by omega)) Z (bJ Z Z (aB ?_)))))))
   refine bX (k+1) (bE Z eB) (cA Z (cA Z gL)) ?_ ?_
   ·exact ⟨⟨by omega,sS hne hxb h18⟩,hM1⟩
   ·omega
 ·refine cS (dE (dH (eO (aC (aE (aA (bJ Z Z (aB (aC (aP (cI (.int _ _) Z ?_)))))))))))
  have hkn:k=n:=by omega
  exact ⟨iE (aJz (fun j b hj=>hne j b (by have:=(List.getElem?_eq_some_iff.1 hj).1;omega) hj)).symm,hM1.below⟩
theorem wB (w:World) (b:Body) (gone:Bool) (A:Option Addr) (n c:Nat) (xs:List Body) (R:Rd w 10 A n (xs.map aF)) (hn:n≤1048576) :
  Calls prog 83 #[.slice A n c,(.agg (aF b).toArray),.bool gone] w (gK (fun v w'=>∃ A' n' c' e,v=.slice A' n' c'∧aZ 43 10 A' n' c' ((xY xs b gone).map aF) e∧Mem w [] [e] w')):=by
 have hlen:xs.length=n:=by simpa using R.len
 have hbd:=R.bound
 refine aI #[.tmp 6] 55 func83 Z results83 ntmps83 Z ?_
 have M0:=Mem.refl w
 refine aE (aA (bN (.agg (.mk _)) M0 Z Z Z (fun b1 w1 M1=>(eG Z Z (aB (aC (aE (aA (eG Z Z ?_)))))))))
 have M2:=M1.dummy default
 refine aB (aC (aE (aA (wq (aH (.bool _) Z) Z (wq (aJ (.bool _) Z) Z (aB (aC (aE (aE (aA (bJ Z Z (aB (aC (aS (dM (σ:=Nat × List Body × Bool × Row) [0,4,6] (fun (k,acc,done,r)=>[(7,.slice r.A r.n r.c),(8,.bool done),(9,.int .i64 (k:Int))]) (fun (k,acc,done,r) w'=>(k≤n∧kL b gone (xs.take k)=(acc,done)∧aZ 43 10 r.A r.n r.c (acc.map aF) r.e)∧Mem w [] [(some b1,bc (aF b) 43),r.e] w') (fun (k,acc,done,r)=>n - k) (0,[],gone,⟨none,0,0,(none,default)⟩) (bE Z (bE Z (bE Z eB))) (⟨⟨by omega,Z,aZ.nil _ _ _⟩,M2⟩) ?_)))))))))))))))
 rintro ⟨k,acc,done,r⟩ ρ3 w3 ⟨⟨hk,heq,hr⟩,hM3⟩
 have hra:acc.length=r.n:=by simpa using hr.1
 have hrl:acc.length≤k+1:=by have h:=aTw b gone xs k;rw [heq] at h;exact h
 refine aE (aE (aA (aR Z Z (dK Z Z (wq (cK underlying46 Z) Z (cY Z Z Z Z (aB (aC ?_))))))))
 refine aW Z (fun h14 => ?_) (fun h14 => ?_)
 ·obtain ⟨xb,hxb⟩:=cT (k:=k) hlen (by omega)
  refine aM (aC (aE (aS (aE (aE (lT [(0,0),(1,0),(2,0),(3,0),(4,0),(5,1),(6,1),(7,1),(8,0),(9,1),(10,0),(11,0)] mixed Z (by kernel_rfl) (fun w4 hb4 hh4 => ?_)))))))
  have M4:=hM3.drew hb4 hh4
  refine aX Z Z Z (fun _=>aH (.bool _) Z) (aX Z Z Z (fun _=>gV _ Z Z) (aX Z Z Z (fun _=>aH (.bool _) Z) ?_))
  refine aVl 19 _ Z (fun g19 => ?_) (fun g19 => ?_)
  ·have hd:done=false:=by simpa using g19
   refine jY Z Z Z (eD Z Z Z (bP Z Z Z (bI (k) dS Z Z Z ((R.mem M4).below_len (aG aF hxb)) ((R.mem M4).someK (aG aF hxb))) (bP Z Z Z (aT 0 dV (R.mem M4) (iU ((R.mem M4).below_len (aG aF hxb))) Z) (bP Z Z Z (dP (o:=0) (.int _ _) bV (R.mem M4) (aG aF hxb) Z Z) (aX Z Z Z (fun _=>aD 0 dV Z) (bP Z Z Z (aK 0 (.int _ _) bV M4 Z Z Z) (aX Z Z Z (fun _=>cE (.bool (decide _)) Z Z Z) (aX Z Z Z (fun _=>bQ true (.bool (decide _)) Z Z) ?_))))))))
   refine bS (aC ?_)
   refine aW Z (fun h28 => ?_) (fun h28 => ?_)
   ·refine aE (aA (wq (aJ (.bool true) rfl) rfl (aB (aC (aA (dK rfl rfl (wq (aU 0 bR M4 rfl rfl rfl) rfl (bW [.agg (List.toArray _)] _ rfl dS M4 rfl rfl rfl rfl (cQ rfl) (by decide) (fun b5 w5 M5=>(cO 1 [aF b] dS M5 rfl rfl rfl rfl rfl hr rfl (by simpa using ⟨iS b,iT b⟩) (dI.ofMem 2 M5 rfl) (by omega) (fun A6 c6 e6 w6 M6 hR6=>(eG rfl rfl (aB (aC (aE (fY [(0,0),(1,0),(2,1),(3,1),(4,1),(5,0),(6,1),(7,0)] mixed M6 rfl (by kernel_rfl) (fun w7 M7=>(jY rfl rfl rfl (eD rfl rfl rfl (bP rfl rfl rfl (bI (k) dS rfl rfl rfl ((R.mem M7).below_len (aG aF hxb)) ((R.mem M7).someK (aG aF hxb))) ?_))))))))))))))))))))
    refine bP Z Z Z (aT 0 dV (R.mem M7) (iU ((R.mem M7).below_len (aG aF hxb))) Z) (bP Z Z Z (dP (o:=0) (.int _ _) bV (R.mem M7) (aG aF hxb) Z Z) (aX Z Z Z (fun _=>aD 0 dV Z) (bP Z Z Z (aK 0 (.int _ _) bV M7 Z Z Z) (aX Z Z Z (fun _=>cE (.bool (decide _)) Z Z Z) (bS (aC ?_))))))
    refine aW Z (fun h40 => ?_) (fun h40 => ?_)
    ·refine aA (dK rfl rfl (dK rfl rfl (aR rfl rfl (wq (bI (k) dS rfl rfl rfl ((R.mem M7).below_len (aG aF hxb)) ((R.mem M7).someK (aG aF hxb))) rfl (wq (dN _ bR (R.mem M7) (aG aF hxb) rfl) rfl (bW [.agg (List.toArray _)] _ rfl dS M7 rfl rfl rfl rfl (cQ rfl) (by decide) (fun b8 w8 M8=>(cO 1 [aF xb] dS M8 rfl rfl rfl rfl rfl hR6 rfl (by simpa using ⟨iS xb,iT xb⟩) (dI.ofMem 3 M8 rfl) (by omega) (fun A9 c9 e9 w9 M9 hR9=>(eG rfl rfl (aB (cU (aC (aA (aR rfl rfl (wq (bA rfl rfl (by omega) (by omega)) rfl ?_))))))))))))))))
     refine bJ Z Z (aB ?_)
     refine bX (k+1,(kL b gone (xs.take (k+1))).1,(kL b gone (xs.take (k+1))).2,⟨A9,r.n+1+1,c9,e9⟩) (bE rfl (bE (bv rfl (by rw [gS b gone hxb,heq];simp [gB, *])) (bE rfl eB))) (cA rfl (cA rfl (cA rfl gL))) ?_ ?_
     ·exact ⟨⟨by omega,rfl,by rw [gS b gone hxb,heq];simpa [gB, *] using hR9⟩,M9.keep [true,true,false,false]⟩
     ·(show n - (k+1) < n - k;omega)
    ·refine aM (cU (aC (aA (aR Z Z (wq (bA Z Z (by omega) (by omega)) Z (bJ Z Z (aB ?_)))))))
     refine bX (k+1,(kL b gone (xs.take (k+1))).1,(kL b gone (xs.take (k+1))).2,⟨A6,r.n+1,c6,e6⟩) (bE rfl (bE (bv rfl (by rw [gS b gone hxb,heq];simp [gB, *])) (bE rfl eB))) (cA rfl (cA rfl (cA rfl gL))) ?_ ?_
     ·exact ⟨⟨by omega,rfl,by rw [gS b gone hxb,heq];simpa [gB, *] using hR6⟩,M7.keep [true,true,false]⟩
     ·(show n - (k+1) < n - k;omega)
   ·refine aM (aC (aE (fY [(0,0),(1,0),(2,1),(3,1),(4,1),(5,0),(6,1),(7,0)] mixed M4 Z (by kernel_rfl) (fun w10 M10=>(jY Z Z Z (eD Z Z Z (bP Z Z Z (bI (k) dS Z Z Z ((R.mem M10).below_len (aG aF hxb)) ((R.mem M10).someK (aG aF hxb))) (bP Z Z Z (aT 0 dV (R.mem M10) (iU ((R.mem M10).below_len (aG aF hxb))) Z) (bP Z Z Z (dP (o:=0) (.int _ _) bV (R.mem M10) (aG aF hxb) Z Z) (aX Z Z Z (fun _=>aD 0 dV Z) (bP Z Z Z (aK 0 (.int _ _) bV M10 Z Z Z) ?_)))))))))))
    refine aX Z Z Z (fun _=>cE (.bool (decide _)) Z Z Z) (bS (aC ?_))
    refine aW Z (fun h40 => ?_) (fun h40 => ?_)
    ·refine aA (dK rfl rfl (dK rfl rfl (aR rfl rfl (wq (bI (k) dS rfl rfl rfl ((R.mem M10).below_len (aG aF hxb)) ((R.mem M10).someK (aG aF hxb))) rfl (wq (dN _ bR (R.mem M10) (aG aF hxb) rfl) rfl (bW [.agg (List.toArray _)] _ rfl dS M10 rfl rfl rfl rfl (cQ rfl) (by decide) (fun b11 w11 M11=>(cO 1 [aF xb] dS M11 rfl rfl rfl rfl rfl hr rfl (by simpa using ⟨iS xb,iT xb⟩) (dI.ofMem 2 M11 rfl) (by omega) (fun A12 c12 e12 w12 M12 hR12=>(eG rfl rfl (aB (cU (aC (aA (aR rfl rfl (wq (bA rfl rfl (by omega) (by omega)) rfl ?_))))))))))))))))
     refine bJ Z Z (aB ?_)
     refine bX (k+1,(kL b gone (xs.take (k+1))).1,(kL b gone (xs.take (k+1))).2,⟨A12,r.n+1,c12,e12⟩) (bE rfl (bE (bv rfl (by rw [gS b gone hxb,heq];simp [gB, *])) (bE rfl eB))) (cA rfl (cA rfl (cA rfl gL))) ?_ ?_
     ·exact ⟨⟨by omega,rfl,by rw [gS b gone hxb,heq];simpa [gB, *] using hR12⟩,M12.keep [true,true,false]⟩
     ·(show n - (k+1) < n - k;omega)
    ·refine aM (cU (aC (aA (aR Z Z (wq (bA Z Z (by omega) (by omega)) Z (bJ Z Z (aB ?_)))))))
     refine bX (k+1,(kL b gone (xs.take (k+1))).1,(kL b gone (xs.take (k+1))).2,r) (bE rfl (bE (bv rfl (by rw [gS b gone hxb,heq];simp [gB, *])) (bE rfl eB))) (cA rfl (cA rfl (cA rfl gL))) ?_ ?_
     ·exact ⟨⟨by omega,rfl,by rw [gS b gone hxb,heq];simpa [gB, *] using hr⟩,M10.keep [true,true]⟩
     ·(show n - (k+1) < n - k;omega)
  ·have hd:done=true:=by simpa using g19
   refine yG Z Z Z (yG Z Z Z (rW Z Z Z (rW Z Z Z (rW Z Z Z (yG Z Z Z (rW Z Z Z (yG Z Z Z (aX Z Z Z (fun _=>bQ false (.bool false) Z Z) (bS (aC (cF Z (aM (aC (aE (fY [(0,0),(1,0),(2,1),(3,1),(4,1),(5,0),(6,1),(7,0)] mixed M4 Z (by kernel_rfl) (fun w13 M13=>(jY Z Z Z (eD Z Z Z ?_))))))))))))))))))
   refine bP Z Z Z (bI (k) dS Z Z Z ((R.mem M13).below_len (aG aF hxb)) ((R.mem M13).someK (aG aF hxb))) (bP Z Z Z (aT 0 dV (R.mem M13) (iU ((R.mem M13).below_len (aG aF hxb))) Z) (bP Z Z Z (dP (o:=0) (.int _ _) bV (R.mem M13) (aG aF hxb) Z Z) (aX Z Z Z (fun _=>aD 0 dV Z) (bP Z Z Z (aK 0 (.int _ _) bV M13 Z Z Z) (aX Z Z Z (fun _=>cE (.bool (decide _)) Z Z Z) (bS (aC ?_)))))))
   refine aW Z (fun h40 => ?_) (fun h40 => ?_)
   ·refine aA (dK rfl rfl (dK rfl rfl (aR rfl rfl (wq (bI (k) dS rfl rfl rfl ((R.mem M13).below_len (aG aF hxb)) ((R.mem M13).someK (aG aF hxb))) rfl (wq (dN _ bR (R.mem M13) (aG aF hxb) rfl) rfl (bW [.agg (List.toArray _)] _ rfl dS M13 rfl rfl rfl rfl (cQ rfl) (by decide) (fun b14 w14 M14=>(cO 1 [aF xb] dS M14 rfl rfl rfl rfl rfl hr rfl (by simpa using ⟨iS xb,iT xb⟩) (dI.ofMem 2 M14 rfl) (by omega) (fun A15 c15 e15 w15 M15 hR15=>(eG rfl rfl (aB (cU (aC (aA (aR rfl rfl (wq (bA rfl rfl (by omega) (by omega)) rfl ?_))))))))))))))))
    refine bJ Z Z (aB ?_)
    refine bX (k+1,(kL b gone (xs.take (k+1))).1,(kL b gone (xs.take (k+1))).2,⟨A15,r.n+1,c15,e15⟩) (bE rfl (bE (bv rfl (by rw [gS b gone hxb,heq];simp [gB, *])) (bE rfl eB))) (cA rfl (cA rfl (cA rfl gL))) ?_ ?_
    ·exact ⟨⟨by omega,rfl,by rw [gS b gone hxb,heq];simpa [gB, *] using hR15⟩,M15.keep [true,true,false]⟩
    ·(show n - (k+1) < n - k;omega)
   ·refine aM (cU (aC (aA (aR Z Z (wq (bA Z Z (by omega) (by omega)) Z (bJ Z Z (aB ?_)))))))
    refine bX (k+1,(kL b gone (xs.take (k+1))).1,(kL b gone (xs.take (k+1))).2,r) (bE rfl (bE (bv rfl (by rw [gS b gone hxb,heq];simp [gB, *])) (bE rfl eB))) (cA rfl (cA rfl (cA rfl gL))) ?_ ?_
    ·exact ⟨⟨by omega,rfl,by rw [gS b gone hxb,heq];simpa [gB, *] using hr⟩,M13.keep [true,true]⟩
    ·(show n - (k+1) < n - k;omega)
 ·have hkn:k=n:=by omega
  subst hkn
  rw [List.take_of_length_le (by omega)] at heq
  refine cS (dE (dH (eO (aC (aE (aE (aA (wq (aH (.bool _) Z) Z (wq (gV _ Z Z) Z (aB (aC ?_)))))))))))
  refine iV _ Z (fun h49 => ?_) (fun h49 => ?_)
  ·have hd:done=false:=by simpa using h49
   refine aA (dK rfl rfl (wq (aU 0 bR hM3 rfl rfl rfl) rfl (bW [.agg (List.toArray _)] _ rfl dS hM3 rfl rfl rfl rfl (cQ rfl) (by decide) (fun b16 w16 M16=>(cO 1 [aF b] dS M16 rfl rfl rfl rfl rfl hr rfl (by simpa using ⟨iS b,iT b⟩) (dI.ofMem 2 M16 rfl) (by omega) (fun A17 c17 e17 w17 M17 hR17=>(eG rfl rfl (aB (aC (aE (aA (dK rfl rfl (eG rfl rfl (aB (aC (aP (cI (.slice _ _ _) rfl ?_)))))))))))))))))
   exact ⟨_,_,_,_,rfl,by unfold xY;rw [heq];simpa [*] using hR17,M17.keep [false,true,false]⟩
  ·have hd:done=true:=by simpa using h49
   refine aM (aC (aE (aA (dK Z Z (eG Z Z (aB (aC (aP (cI (.slice _ _ _) Z ?_)))))))))
   exact ⟨_,_,_,_,rfl,by unfold xY;rw [heq];simpa [*] using hr,hM3.keep [false,true]⟩
theorem tU (w:World) (x y l:Int) (h0:0≤l) (h1:l≤2147483647) :
  Calls prog 112 #[.agg [.int .i32 x,.int .i32 y].toArray,.int .i32 l] w (Rb w (.bool (decide (-l≤x∧x≤l ∧ -l≤y∧y≤l)))):=by
 have hneg:IntKind.i32.wrap (-l) = -l:=jU _ (by omega) (by omega)
 refine aI #[.tmp 4] 29 func112 Z results112 ntmps112 Z ?_
 have M0:=Mem.refl w
 refine aE (aA (bN (.agg (.mk _)) M0 Z Z Z (fun b1 w1 M1=>(wq (aJ (.bool false) Z) Z (aB (aC (aE (aA (aR Z Z (wq (sM Z) Z (aL 6 (.int .i32 (-l)) (iE hneg) (wq (aD 0 cX Z) Z (wq (aK 0 (.int _ _) aY M1 Z Z Z) Z (cY Z Z Z Z (wq (aH (.bool (decide _)) Z) Z ?_)))))))))))))))
 refine dT 10 Z (fun g10 => ?_) (fun g10 => ?_)
 ·refine wq (aD 0 cX Z) Z (wq (aK 0 (.int _ _) aY M1 Z Z Z) Z (aR Z Z (cY Z Z Z Z (wq (bQ true (.bool (decide _)) Z Z) Z (wq (aH (.bool (decide _)) Z) Z ?_)))))
  refine dT 16 Z (fun g16 => ?_) (fun g16 => ?_)
  ·refine aR Z Z (wq (sM Z) Z (aL 18 (.int .i32 (-l)) (iE hneg) (wq (aD 1 cV Z) Z (wq (aK 0 (.int _ _) aY M1 Z Z Z) Z (cY Z Z Z Z (wq (bQ true (.bool (decide _)) Z Z) Z (wq (aH (.bool (decide _)) Z) Z ?_)))))))
   refine dT 23 Z (fun g23 => ?_) (fun g23 => ?_)
   ·refine wq (aD 1 cV Z) Z (wq (aK 0 (.int _ _) aY M1 Z Z Z) Z (aR Z Z (cY Z Z Z Z (wq (bQ true (.bool (decide _)) Z Z) Z (wq (aJ (.bool (decide _)) Z) Z (aB (aC (aP (cI (.bool (decide _)) Z ?_)))))))))
    exact ⟨by first | exact bF (by omega) | exact bT (by omega) | exact bD (by omega),M1.below⟩
   ·refine aN Z Z (aN Z Z (aN Z Z (aN Z Z (wq (bQ false (.bool false) Z Z) Z (wq (aJ (.bool false) Z) Z (aB (aC (aP (cI (.bool false) Z ?_)))))))))
    exact ⟨by first | exact bF (by omega) | exact bT (by omega) | exact bD (by omega),M1.below⟩
  ·refine aN Z Z (aN Z Z (aN Z Z (aN Z Z (aN Z Z (wq (bQ false (.bool false) Z Z) Z (wq (aH (.bool false) Z) Z (aN Z Z (aN Z Z (aN Z Z (aN Z Z (wq (bQ false (.bool false) Z Z) Z (wq (aJ (.bool false) Z) Z (aB (aC (aP (cI (.bool false) Z ?_))))))))))))))))
   exact ⟨by first | exact bF (by omega) | exact bT (by omega) | exact bD (by omega),M1.below⟩
 ·refine aN Z Z (aN Z Z (aN Z Z (aN Z Z (wq (bQ false (.bool false) Z Z) Z (wq (aH (.bool false) Z) Z (aN Z Z (aN Z Z (aN Z Z (aN Z Z (aN Z Z (wq (bQ false (.bool false) Z Z) Z (wq (aH (.bool false) Z) Z (aN Z Z (aN Z Z (aN Z Z ?_)))))))))))))))
  refine aN Z Z (wq (bQ false (.bool false) Z Z) Z (wq (aJ (.bool false) Z) Z (aB (aC (aP (cI (.bool false) Z ?_))))))
  exact ⟨by first | exact bF (by omega) | exact bT (by omega) | exact bD (by omega),M1.below⟩
theorem aOg (w:World) (b:Body) (p:Nat) (R:Rd w 10 (some ⟨p,0,none⟩) 1 [aF b]) :
  Calls prog 110 #[.pointer (some ⟨p,0,none⟩)] w (Rb w (.bool (decide (4096≤b.radius∧b.radius≤4194304)))):=by
 rw [← iF p]
 refine aI #[.tmp 1] 10 func110 Z results110 ntmps110 Z ?_
 have M0:=Mem.refl w
 refine aE (aA (wq (aJ (.bool false) Z) Z (aB (aC (aE (aA (wq (aT 1 mI R (iU (R.below_len (show [aF b][0]? = some (aF b) from Z))) Z) Z (wq (dP (o:=1) (.int _ _) aY R (show [aF b][0]? = some (aF b) from Z) Z Z) Z (cY Z Z Z Z (wq (aH (.bool (decide _)) Z) Z ?_))))))))))
 refine dT 5 Z (fun g5 => ?_) (fun g5 => ?_)
 ·refine wq (aT 1 mI R (iU (R.below_len (show [aF b][0]? = some (aF b) from Z))) Z) Z (wq (dP (o:=1) (.int _ _) aY R (show [aF b][0]? = some (aF b) from Z) Z Z) Z (cY Z Z Z Z (wq (bQ true (.bool (decide _)) Z Z) Z (wq (aJ (.bool (decide _)) Z) Z (aB (aC (aP (cI (.bool (decide _)) Z ?_))))))))
  exact ⟨by first | exact bF (by omega) | exact bT (by omega) | exact bD (by omega),M0.below⟩
 ·refine aN Z Z (aN Z Z (aN Z Z (wq (bQ false (.bool false) Z Z) Z (wq (aJ (.bool false) Z) Z (aB (aC (aP (cI (.bool false) Z ?_))))))))
  exact ⟨by first | exact bF (by omega) | exact bT (by omega) | exact bD (by omega),M0.below⟩
theorem aOh (w:World) (b:Body) (p:Nat) (R:Rd w 10 (some ⟨p,0,none⟩) 1 [aF b]) :
  Calls prog 111 #[.pointer (some ⟨p,0,none⟩)] w (Rb w (.bool (decide (-4194304≤b.ax∧b.ax≤4194304 ∧ -4194304≤b.ay∧b.ay≤4194304)))):=by
 rw [← iF p]
 refine aI #[.tmp 1] 5 func111 Z results111 ntmps111 Z ?_
 have M0:=Mem.refl w
 refine aE (aA (wq (aJ (.bool false) Z) Z (aB (aC (aE (aA (wq (aT 2 jN R (iU (R.below_len (show [aF b][0]? = some (aF b) from Z))) Z) Z (wq (lB (o:=2) _ bO R (show [aF b][0]? = some (aF b) from Z) Z Z Z) Z (dO aSc Z Z M0 (tU _ _ _ _ (by omega) (by omega)) (fun w1 M1=>(wq (aJ (.bool (decide _)) Z) Z (aB (aC (aP (cI (.bool (decide _)) Z ?_)))))))))))))))
 exact ⟨by first | exact bF (by omega) | exact bT (by omega) | exact bD (by omega),M1.below⟩
theorem aOi (w:World) (b:Body) (p:Nat) (R:Rd w 10 (some ⟨p,0,none⟩) 1 [aF b]) :
  Calls prog 113 #[.pointer (some ⟨p,0,none⟩)] w (Rb w (.bool (decide (0≤b.mass∧b.mass≤1048576)))):=by
 rw [← iF p]
 refine aI #[.tmp 1] 10 func113 Z results113 ntmps113 Z ?_
 have M0:=Mem.refl w
 refine aE (aA (wq (aJ (.bool false) Z) Z (aB (aC (aE (aA (wq (aT 4 eK R (iU (R.below_len (show [aF b][0]? = some (aF b) from Z))) Z) Z (wq (dP (o:=4) (.int _ _) aY R (show [aF b][0]? = some (aF b) from Z) Z Z) Z (cY Z Z Z Z (wq (aH (.bool (decide _)) Z) Z ?_))))))))))
 refine dT 5 Z (fun g5 => ?_) (fun g5 => ?_)
 ·refine wq (aT 4 eK R (iU (R.below_len (show [aF b][0]? = some (aF b) from Z))) Z) Z (wq (dP (o:=4) (.int _ _) aY R (show [aF b][0]? = some (aF b) from Z) Z Z) Z (cY Z Z Z Z (wq (bQ true (.bool (decide _)) Z Z) Z (wq (aJ (.bool (decide _)) Z) Z (aB (aC (aP (cI (.bool (decide _)) Z ?_))))))))
  exact ⟨by first | exact bF (by omega) | exact bT (by omega) | exact bD (by omega),M0.below⟩
 ·refine aN Z Z (aN Z Z (aN Z Z (wq (bQ false (.bool false) Z Z) Z (wq (aJ (.bool false) Z) Z (aB (aC (aP (cI (.bool false) Z ?_))))))))
  exact ⟨by first | exact bF (by omega) | exact bT (by omega) | exact bD (by omega),M0.below⟩
theorem aOj (w:World) (b:Body) (p:Nat) (R:Rd w 10 (some ⟨p,0,none⟩) 1 [aF b]) :
  Calls prog 114 #[.pointer (some ⟨p,0,none⟩)] w (Rb w (.bool (decide (0≤b.bounce∧b.bounce≤65536)))):=by
 rw [← iF p]
 refine aI #[.tmp 1] 10 func114 Z results114 ntmps114 Z ?_
 have M0:=Mem.refl w
 refine aE (aA (wq (aJ (.bool false) Z) Z (aB (aC (aE (aA (wq (aT 5 oL R (iU (R.below_len (show [aF b][0]? = some (aF b) from Z))) Z) Z (wq (dP (o:=5) (.int _ _) aY R (show [aF b][0]? = some (aF b) from Z) Z Z) Z (cY Z Z Z Z (wq (aH (.bool (decide _)) Z) Z ?_))))))))))
 refine dT 5 Z (fun g5 => ?_) (fun g5 => ?_)
 ·refine wq (aT 5 oL R (iU (R.below_len (show [aF b][0]? = some (aF b) from Z))) Z) Z (wq (dP (o:=5) (.int _ _) aY R (show [aF b][0]? = some (aF b) from Z) Z Z) Z (cY Z Z Z Z (wq (bQ true (.bool (decide _)) Z Z) Z (wq (aJ (.bool (decide _)) Z) Z (aB (aC (aP (cI (.bool (decide _)) Z ?_))))))))
  exact ⟨by first | exact bF (by omega) | exact bT (by omega) | exact bD (by omega),M0.below⟩
 ·refine aN Z Z (aN Z Z (aN Z Z (wq (bQ false (.bool false) Z Z) Z (wq (aJ (.bool false) Z) Z (aB (aC (aP (cI (.bool false) Z ?_))))))))
  exact ⟨by first | exact bF (by omega) | exact bT (by omega) | exact bD (by omega),M0.below⟩
theorem aOk (w:World) (b:Body) (p:Nat) (R:Rd w 10 (some ⟨p,0,none⟩) 1 [aF b]) :
  Calls prog 115 #[.pointer (some ⟨p,0,none⟩)] w (Rb w (.bool (decide (-1073741824≤b.px∧b.px≤1073741824 ∧ -1073741824≤b.py∧b.py≤1073741824)))):=by
 rw [← iF p]
 refine aI #[.tmp 1] 5 func115 Z results115 ntmps115 Z ?_
 have M0:=Mem.refl w
 refine aE (aA (wq (aJ (.bool false) Z) Z (aB (aC (aE (aA (wq (aT 6 fO R (iU (R.below_len (show [aF b][0]? = some (aF b) from Z))) Z) Z (wq (lB (o:=6) _ bO R (show [aF b][0]? = some (aF b) from Z) Z Z Z) Z (dO aSc Z Z M0 (tU _ _ _ _ (by omega) (by omega)) (fun w1 M1=>(wq (aJ (.bool (decide _)) Z) Z (aB (aC (aP (cI (.bool (decide _)) Z ?_)))))))))))))))
 exact ⟨by first | exact bF (by omega) | exact bT (by omega) | exact bD (by omega),M1.below⟩
theorem aOl (w:World) (b:Body) (p:Nat) (R:Rd w 10 (some ⟨p,0,none⟩) 1 [aF b]) :
  Calls prog 116 #[.pointer (some ⟨p,0,none⟩)] w (Rb w (.bool (decide (-16777216≤b.vx∧b.vx≤16777216 ∧ -16777216≤b.vy∧b.vy≤16777216)))):=by
 rw [← iF p]
 refine aI #[.tmp 1] 5 func116 Z results116 ntmps116 Z ?_
 have M0:=Mem.refl w
 refine aE (aA (wq (aJ (.bool false) Z) Z (aB (aC (aE (aA (wq (aT 8 eC R (iU (R.below_len (show [aF b][0]? = some (aF b) from Z))) Z) Z (wq (lB (o:=8) _ bO R (show [aF b][0]? = some (aF b) from Z) Z Z Z) Z (dO aSc Z Z M0 (tU _ _ _ _ (by omega) (by omega)) (fun w1 M1=>(wq (aJ (.bool (decide _)) Z) Z (aB (aC (aP (cI (.bool (decide _)) Z ?_)))))))))))))))
 exact ⟨by first | exact bF (by omega) | exact bT (by omega) | exact bD (by omega),M1.below⟩
theorem xM (w:World) (b:Body) :
  Calls prog 94 #[(.agg (aF b).toArray)] w (Rb w (.int .i64 (check b))):=by
 refine aI #[.tmp 2] 28 func94 Z results94 ntmps94 Z ?_
 have M0:=Mem.refl w
 refine aE (aA (bN (.agg (.mk _)) M0 Z Z Z (fun b1 w1 M1=>(bJ Z Z (aB (aC (aE (aE (aA (wq (dW [] [.pointer _] Z Z) Z (wq (cD [(0,.func _ _ _),(1,.int _ _)] _ qB Z Z) Z (wq (dW [] [.pointer _] Z Z) Z (wq (cD [(0,.func _ _ _),(1,.int _ _)] _ qB Z Z) Z (wq (dW [] [.pointer _] Z Z) Z (wq (cD [(0,.func _ _ _),(1,.int _ _)] _ qB Z Z) Z (wq (dW [] [.pointer _] Z Z) Z (wq (cD [(0,.func _ _ _),(1,.int _ _)] _ qB Z Z) Z (wq (dW [] [.pointer _] Z Z) Z ?_))))))))))))))))))
 refine wq (cD [(0,.func _ _ _),(1,.int _ _)] _ qB Z Z) Z (wq (dW [] [.pointer _] Z Z) Z (wq (cD [(0,.func _ _ _),(1,.int _ _)] _ qB Z Z) Z (wq (uP [.agg (List.toArray _),.agg (List.toArray _),.agg (List.toArray _),.agg (List.toArray _),.agg (List.toArray _),.agg (List.toArray _)] xL bMo Z Z (cQ Z)) Z (aR Z Z (aB (aC (aS (jL 7 (fS (aE (aA (cY Z Z Z Z (kT 19 Z (by first | decide | omega) (aB (aC (aE (cG Z (aM (aC (aE (aS (aE (aA ?_)))))))))))))))))))))))
 refine wq (rQ 0 _ xL pE Z Z (by decide) (by decide) Z Z) Z (aQ wN M1 Z Z (fun b2 w2 M2=>(bB 1 _ pE M2 Z Z Z Z Z (aO Z) Z (fun w3 M3=>(aB (aC (aE (aA (wq (aD 0 sC Z) Z (wq (aK 1 (.func _ _ _) aKm M3 Z Z Z) Z (dO bPg Z Z M3 (aOg _ b _ (qT 0 M3 Z Z)) (fun w4 M4=>(wq (pQ Z) Z (aB (aC ?_)))))))))))))))
 refine aW Z (fun h24 => ?_) (fun h24 => ?_)
 ·refine aE (aA (wq (aD 1 sD Z) Z (wq (aK 1 (.int _ _) aCs M4 Z Z Z) Z (bJ Z Z (aB (aC (aP (lZ (cN (cN (lZ (cN (cI (.int _ _) Z ?_)))))))))))))
  exact ⟨iE (aVy b (by omega)).symm,M4.below⟩
 ·refine aM (cU (aC (aA (wq (bA Z Z (by first | decide | omega) (by first | decide | omega)) Z (aL 27 (.int .i64 1) (iE (by first | decide | omega)) (aR Z Z (aB (aC (fS (aE (aA (cY Z Z Z Z (kT 19 Z (by first | decide | omega) (aB (aC (aE (cG Z (aM (aC (aE (aS (aE (aA (wq (rQ 1 _ xL pE Z Z (by decide) (by decide) Z Z) Z (aQ wN M4 Z Z (fun b5 w5 M5 => ?_))))))))))))))))))))))))))
  refine bB 2 _ pE M5 Z Z Z Z Z (aO Z) Z (fun w6 M6=>(aB (aC (aE (aA (wq (aD 0 sC Z) Z (wq (aK 2 (.func _ _ _) aKm M6 Z Z Z) Z (dO bPh Z Z M6 (aOh _ b _ (qT 0 M6 Z Z)) (fun w7 M7=>(wq (pQ Z) Z (aB (aC ?_))))))))))))
  refine aW Z (fun h24 => ?_) (fun h24 => ?_)
  ·refine aE (aA (wq (aD 1 sD Z) Z (wq (aK 2 (.int _ _) aCs M7 Z Z Z) Z (bJ Z Z (aB (aC (aP (lZ (cN (cN (lZ (cN (cI (.int _ _) Z ?_)))))))))))))
   exact ⟨iE (aVz b (by omega) (by omega)).symm,M7.below⟩
  ·refine aM (cU (aC (aA (wq (bA Z Z (by first | decide | omega) (by first | decide | omega)) Z (aL 27 (.int .i64 2) (iE (by first | decide | omega)) (aR Z Z (aB (aC (fS (aE (aA (cY Z Z Z Z (kT 19 Z (by first | decide | omega) (aB (aC (aE (cG Z (aM (aC (aE (aS (aE (aA (wq (rQ 2 _ xL pE Z Z (by decide) (by decide) Z Z) Z (aQ wN M7 Z Z (fun b8 w8 M8 => ?_))))))))))))))))))))))))))
   refine bB 3 _ pE M8 Z Z Z Z Z (aO Z) Z (fun w9 M9=>(aB (aC (aE (aA (wq (aD 0 sC Z) Z (wq (aK 3 (.func _ _ _) aKm M9 Z Z Z) Z (dO bPi Z Z M9 (aOi _ b _ (qT 0 M9 Z Z)) (fun w10 M10=>(wq (pQ Z) Z (aB (aC ?_))))))))))))
   refine aW Z (fun h24 => ?_) (fun h24 => ?_)
   ·refine aE (aA (wq (aD 1 sD Z) Z (wq (aK 3 (.int _ _) aCs M10 Z Z Z) Z (bJ Z Z (aB (aC (aP (lZ (cN (cN (lZ (cN (cI (.int _ _) Z ?_)))))))))))))
    exact ⟨iE (aWa b (by omega) (by omega) (by omega)).symm,M10.below⟩
   ·refine aM (cU (aC (aA (wq (bA Z Z (by first | decide | omega) (by first | decide | omega)) Z (aL 27 (.int .i64 3) (iE (by first | decide | omega)) (aR Z Z (aB (aC (fS (aE (aA (cY Z Z Z Z (kT 19 Z (by first | decide | omega) (aB (aC (aE (cG Z (aM (aC (aE (aS (aE (aA (wq (rQ 3 _ xL pE Z Z (by decide) (by decide) Z Z) Z (aQ wN M10 Z Z (fun b11 w11 M11 => ?_))))))))))))))))))))))))))
    refine bB 4 _ pE M11 Z Z Z Z Z (aO Z) Z (fun w12 M12=>(aB (aC (aE (aA (wq (aD 0 sC Z) Z (wq (aK 4 (.func _ _ _) aKm M12 Z Z Z) Z (dO bPj Z Z M12 (aOj _ b _ (qT 0 M12 Z Z)) (fun w13 M13=>(wq (pQ Z) Z (aB (aC ?_))))))))))))
    refine aW Z (fun h24 => ?_) (fun h24 => ?_)
    ·refine aE (aA (wq (aD 1 sD Z) Z (wq (aK 4 (.int _ _) aCs M13 Z Z Z) Z (bJ Z Z (aB (aC (aP (lZ (cN (cN (lZ (cN (cI (.int _ _) Z ?_)))))))))))))
     exact ⟨iE (aWb b (by omega) (by omega) (by omega) (by omega)).symm,M13.below⟩
    ·refine aM (cU (aC (aA (wq (bA Z Z (by first | decide | omega) (by first | decide | omega)) Z (aL 27 (.int .i64 4) (iE (by first | decide | omega)) (aR Z Z (aB (aC (fS (aE (aA (cY Z Z Z Z (kT 19 Z (by first | decide | omega) (aB (aC (aE (cG Z (aM (aC (aE (aS (aE (aA (wq (rQ 4 _ xL pE Z Z (by decide) (by decide) Z Z) Z (aQ wN M13 Z Z (fun b14 w14 M14 => ?_))))))))))))))))))))))))))
     refine bB 5 _ pE M14 Z Z Z Z Z (aO Z) Z (fun w15 M15=>(aB (aC (aE (aA (wq (aD 0 sC Z) Z (wq (aK 5 (.func _ _ _) aKm M15 Z Z Z) Z (dO bPk Z Z M15 (aOk _ b _ (qT 0 M15 Z Z)) (fun w16 M16=>(wq (pQ Z) Z (aB (aC ?_))))))))))))
     refine aW Z (fun h24 => ?_) (fun h24 => ?_)
     ·refine aE (aA (wq (aD 1 sD Z) Z (wq (aK 5 (.int _ _) aCs M16 Z Z Z) Z (bJ Z Z (aB (aC (aP (lZ (cN (cN (lZ (cN (cI (.int _ _) Z ?_)))))))))))))
      exact ⟨iE (aWc b (by omega) (by omega) (by omega) (by omega) (by omega)).symm,M16.below⟩
     ·refine aM (cU (aC (aA (wq (bA Z Z (by first | decide | omega) (by first | decide | omega)) Z (aL 27 (.int .i64 5) (iE (by first | decide | omega)) (aR Z Z (aB (aC (fS (aE (aA (cY Z Z Z Z (kT 19 Z (by first | decide | omega) (aB (aC (aE (cG Z (aM (aC (aE (aS (aE (aA (wq (rQ 5 _ xL pE Z Z (by decide) (by decide) Z Z) Z (aQ wN M16 Z Z (fun b17 w17 M17 => ?_))))))))))))))))))))))))))
      refine bB 6 _ pE M17 Z Z Z Z Z (aO Z) Z (fun w18 M18=>(aB (aC (aE (aA (wq (aD 0 sC Z) Z (wq (aK 6 (.func _ _ _) aKm M18 Z Z Z) Z (dO bPl Z Z M18 (aOl _ b _ (qT 0 M18 Z Z)) (fun w19 M19=>(wq (pQ Z) Z (aB (aC ?_))))))))))))
      refine aW Z (fun h24 => ?_) (fun h24 => ?_)
      ·refine aE (aA (wq (aD 1 sD Z) Z (wq (aK 6 (.int _ _) aCs M19 Z Z Z) Z (bJ Z Z (aB (aC (aP (lZ (cN (cN (lZ (cN (cI (.int _ _) Z ?_)))))))))))))
       exact ⟨iE (aWd b (by omega) (by omega) (by omega) (by omega) (by omega) (by omega)).symm,M19.below⟩
      ·refine aM (cU (aC (aA (wq (bA Z Z (by first | decide | omega) (by first | decide | omega)) Z (aL 27 (.int .i64 6) (iE (by first | decide | omega)) (aR Z Z (aB (aC (fS (aE (aA (cY Z Z Z Z (oZ 19 Z (by first | decide | omega) (aB (aC (aE (cF Z (cS (dE (dE (eO ?_)))))))))))))))))))))
       refine aC (aE (aA (bJ Z Z (aB (aC (aP (cI (.int _ _) Z ?_)))))))
       exact ⟨iE (bJg b (by omega) (by omega) (by omega) (by omega) (by omega) (by omega)).symm,M19.below⟩
theorem aCg (w:World) (x:Int) :
  Calls prog 97 #[.int .u32 x] w (gK (fun v w'=>v=.bool false∧w'=w)):=by
 refine aI #[.tmp 2] 6 func97 Z results97 ntmps97 Z ?_
 have M0:=Mem.refl w
 refine aE (aA (wq (aJ (.bool false) Z) Z (aB (aC (aE (aA (aR Z Z (aR Z Z (cY Z Z Z Z (wq (aJ (.bool (decide _)) Z) Z (aB (aC (aP (cI (.bool (decide _)) Z ?_))))))))))))))
 exact ⟨(bF (by omega)).symm,Z⟩
theorem oJ (w:World) (x y:Int) :
  Calls prog 74 #[.int .u32 x,.int .u32 y] w (gK (fun v w'=>v=.int .i64 (qI x y)∧w'=w)):=by
 refine aI #[.tmp 4] 20 func74 Z results74 ntmps74 Z ?_
 have M0:=Mem.refl w
 refine aE (aA (bJ Z Z (aB (aC (aE (aA (aR Z Z (eL bNq Z Z (aCg _ _) ?_))))))))
 rintro v1 w1 ⟨rfl,rfl⟩
 have M1:Mem _ _ [] _:=M0
 refine wq (aJ (.bool false) Z) Z (aB (aC (aE (aA (aR Z Z (eL bNq Z Z (aCg _ _) ?_))))))
 rintro v2 w2 ⟨rfl,rfl⟩
 have M2:Mem _ _ [] _:=M1
 refine wq (aJ (.bool false) Z) Z (aB (aC (aE (aE (aA (wq (aH (.bool false) Z) Z (aB (aC (cF Z (aM (aC (aE (aE (aA (wq (aH (.bool false) Z) Z (aB (aC (cF Z (aM (aC (aE (aE (aA (aR Z Z (aR Z Z (cY Z Z Z Z (aB (aC ?_))))))))))))))))))))))))))))
 refine aW Z (fun h16 => ?_) (fun h16 => ?_)
 ·refine aE (aA (bJ Z Z (aB (aC (aP (cN (cI (.int _ _) Z ?_)))))))
  exact ⟨iE (by unfold qI;(repeat' split) <;> omega),Z⟩
 ·refine aM (aC (aE (aE (aA (aR Z Z (aR Z Z (cY Z Z Z Z (aB (aC ?_)))))))))
  refine aW Z (fun h19 => ?_) (fun h19 => ?_)
  ·refine aE (aA (bJ Z Z (aB (aC (aP (cN (cI (.int _ _) Z ?_)))))))
   exact ⟨iE (by unfold qI;(repeat' split) <;> omega),Z⟩
  ·refine aM (aC (aE (aA (bJ Z Z (aB (aC (aP (cI (.int _ _) Z ?_))))))))
   exact ⟨iE (by unfold qI;(repeat' split) <;> omega),Z⟩
theorem aJh (a b:Body) (w:World) :
  Calls prog 73 #[(.agg (aF a).toArray),(.agg (aF b).toArray)] w (gK (fun v w'=>v=.int .i64 (qI a.key b.key)∧∃ q os,w'=Go.Sort.grow (w.drewN q) os)):=by
 refine aI #[.tmp 4] 10 func73 Z results73 ntmps73 Z ?_
 have M0:=Mem.refl w
 refine aE (aA (aEi (.agg (.mk _)) M0 Z Z Z (fun M1=>(aEi (.agg (.mk _)) M1 Z Z Z (fun M2=>(bJ Z Z (aB (aC (aE (aA (wq (aD 0 dV Z) Z (wq (aK 0 (.int _ _) bV M2 Z Z Z) Z (wq (aD 0 dV Z) Z (wq (aK 1 (.int _ _) bV M2 Z Z Z) Z (eL aVv Z Z (oJ _ _ _) ?_)))))))))))))))
 rintro v3 w3 ⟨rfl,rfl⟩
 have M3:Mem _ _ [_,_] _:=M2
 refine bJ Z Z (aB (aC (aP (cI (.int _ _) Z ?_))))
 exact ⟨Z,bWe _ _ _⟩
theorem aJe (w:World) (A:Option Addr) (n c:Nat) (ls:List (List Value)) (R:Rd w 10 A n ls) (h1:∀ y∈ls,∀ u∈y,one u=true) (hn:n≤1048576) :
  Calls prog 71 #[.slice A n c] w (gK (fun v w'=>∃ A' n' c' e,v=.slice A' n' c'∧aZ 43 10 A' n' c' ls e∧Mem w [] [e] w'∧A'.isSome=A.isSome)):=by
 refine aI #[.tmp 2] 8 func71 Z results71 ntmps71 Z ?_
 have M0:=Mem.refl w
 refine aE (aA (eG Z Z (aB (aC (aE (aE (aA (dK Z Z (wq (zU _ underlying46 Z Z) Z (aB (aC ?_)))))))))))
 refine iV _ Z (fun h4 => ?_) (fun h4 => ?_)
 ·refine aE (aA (eG Z Z (aB (aC (aP (cN (cI (.slice _ _ _) Z ?_)))))))
  have hA:A=none:=by cases A <;> simp_all
  have hl:ls=[]:=by
   rcases Nat.eq_zero_or_pos n with h | h
   ·subst h;exact List.eq_nil_of_length_eq_zero R.len
   ·have:=R.some h;rw [hA] at this;cases this
  subst hA;subst hl
  exact ⟨_,_,_,_,Z,aZ.nil 43 10 default,M0.dummy default,Z⟩
 ·refine aM (aC (aE (aA (bW [] [] Z dS M0 Z Z Z Z (cQ Z) (by decide) (fun b1 w1 M1=>(dK Z Z (gO 0 ls dS M1 Z Z Z Z Z (aZ.empty b1) (R.mem M1) h1 (by omega) (fun A2 c2 e2 w2 M2 hR2 hA2 => ?_))))))))
  have hAA:=hA2
  refine eG Z Z (aB (aC (aP (cI (.slice _ _ _) Z ?_))))
  refine ⟨_,_,_,_,rfl,by simpa using hR2,M2, ?_⟩
  rw [hAA rfl];cases A <;> simp_all
end Go.Proofs.YtpcloigancpnbaaGreatDoor
