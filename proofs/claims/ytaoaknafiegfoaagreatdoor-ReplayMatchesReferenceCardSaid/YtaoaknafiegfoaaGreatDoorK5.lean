/- Part of the proof of a law of this seat (18 texts). No conditions. -/
import Derived.Test.YtaoaknafiegfoaaGreatDoorProg
import Derived.Test.YtaoaknafiegfoaaGreatDoorK3
import Derived.Test.YtaoaknafiegfoaaGreatDoorK4
import Derived.KernelRfl
set_option linter.unusedVariables false
set_option linter.unusedSimpArgs false
set_option linter.unnecessarySimpa false
set_option maxHeartbeats 100000000
namespace Go.Proofs.YtaoaknafiegfoaaGreatDoor
open Go.Bil
open Go.Proofs
open Go.Proofs.Tryz
theorem bZ:jO prog 35=true:=by kernel_rfl
theorem bB:jO prog 21=true:=by kernel_rfl
theorem aYn:∀ (d:Nat) (w:World) (x0 x1 y0 y1:Int),(Op.equalIn (d+2) 37 (.agg [.int .i32 x0,.int .i32 x1].toArray) (.agg [.int .i32 y0,.int .i32 y1].toArray)).run prog w=.ok (decide (x0=y0∧x1=y1)) w:=fun d w x0 x1 y0 y1=>by
  have h:=aCp (P:=prog) (T:=37) (dd:=d+1) (xs:=[.int .i32 x0,.int .i32 x1]) (ys:=[.int .i32 y0,.int .i32 y1]) (w:=w) underlying37 (by kernel_rfl) (lR rfl (oF bB rfl) (oF bB rfl) (vT (dd:=d+0) underlying21) (lR rfl (oF bB rfl) (oF bB rfl) (vT (dd:=d+0) underlying21) (aNw)))
  refine h.trans (congrArg (fun r=>Result.ok r w) ?_)
  simp only [Bool.decide_and,Bool.and_true,Bool.and_assoc]
theorem bP:jR prog 37=some 2:=by kernel_rfl
theorem bXt:∀ (d:Nat) (w:World) (x0 x1 x2 x3 x4 x5 x6 x7 x8 x9 y0 y1 y2 y3 y4 y5 y6 y7 y8 y9:Int),(Op.equalIn (d+3) 39 (.agg [.int .u32 x0,.int .i32 x1,.int .i32 x2,.int .i32 x3,.int .i32 x4,.int .i32 x5,.int .i32 x6,.int .i32 x7,.int .i32 x8,.int .i32 x9].toArray) (.agg [.int .u32 y0,.int .i32 y1,.int .i32 y2,.int .i32 y3,.int .i32 y4,.int .i32 y5,.int .i32 y6,.int .i32 y7,.int .i32 y8,.int .i32 y9].toArray)).run prog w=.ok (decide (x0=y0∧x1=y1∧x2=y2∧x3=y3∧x4=y4∧x5=y5∧x6=y6∧x7=y7∧x8=y8∧x9=y9)) w:=fun d w x0 x1 x2 x3 x4 x5 x6 x7 x8 x9 y0 y1 y2 y3 y4 y5 y6 y7 y8 y9=>by
  have h:=aCp (P:=prog) (T:=39) (dd:=d+2) (xs:=[.int .u32 x0,.int .i32 x1,.int .i32 x2,.int .i32 x3,.int .i32 x4,.int .i32 x5,.int .i32 x6,.int .i32 x7,.int .i32 x8,.int .i32 x9]) (ys:=[.int .u32 y0,.int .i32 y1,.int .i32 y2,.int .i32 y3,.int .i32 y4,.int .i32 y5,.int .i32 y6,.int .i32 y7,.int .i32 y8,.int .i32 y9]) (w:=w) underlying39 (by kernel_rfl) (lR rfl (oF bZ rfl) (oF bZ rfl) (vT (dd:=d+1) underlying35) (lR rfl (oF bB rfl) (oF bB rfl) (vT (dd:=d+1) underlying21) (lR rfl (aIk bP rfl) (aIk bP rfl) (aYn (d+0) w x2 x3 y2 y3) (lR rfl (oF bB rfl) (oF bB rfl) (vT (dd:=d+1) underlying21) (lR rfl (oF bB rfl) (oF bB rfl) (vT (dd:=d+1) underlying21) (lR rfl (aIk bP rfl) (aIk bP rfl) (aYn (d+0) w x6 x7 y6 y7) (lR rfl (aIk bP rfl) (aIk bP rfl) (aYn (d+0) w x8 x9 y8 y9) (aNw))))))))
  refine h.trans (congrArg (fun r=>Result.ok r w) ?_)
  simp only [Bool.decide_and,Bool.and_true,Bool.and_assoc]
theorem bXs:∀ (x0 x1 x2 x3 x4 x5 x6 x7 x8 x9 y0 y1 y2 y3 y4 y5 y6 y7 y8 y9:Int),EqA prog 39 [.int .u32 x0,.int .i32 x1,.int .i32 x2,.int .i32 x3,.int .i32 x4,.int .i32 x5,.int .i32 x6,.int .i32 x7,.int .i32 x8,.int .i32 x9] [.int .u32 y0,.int .i32 y1,.int .i32 y2,.int .i32 y3,.int .i32 y4,.int .i32 y5,.int .i32 y6,.int .i32 y7,.int .i32 y8,.int .i32 y9] (decide (x0=y0∧x1=y1∧x2=y2∧x3=y3∧x4=y4∧x5=y5∧x6=y6∧x7=y7∧x8=y8∧x9=y9)):=fun x0 x1 x2 x3 x4 x5 x6 x7 x8 x9 y0 y1 y2 y3 y4 y5 y6 y7 y8 y9=>⟨by kernel_rfl,fun w=>bXt 9997 w x0 x1 x2 x3 x4 x5 x6 x7 x8 x9 y0 y1 y2 y3 y4 y5 y6 y7 y8 y9⟩
theorem bR:jR prog 39=some 10:=by kernel_rfl
theorem bRl:aY prog 115=true:=by kernel_rfl
theorem bUp:∀ (d:Nat) (w:World) (x0 x1 y0 y1:Int),(Op.equalIn (d+2) 209 (.agg [.int .u32 x0,.int .u32 x1].toArray) (.agg [.int .u32 y0,.int .u32 y1].toArray)).run prog w=.ok (decide (x0=y0∧x1=y1)) w:=fun d w x0 x1 y0 y1=>by
  have h:=aCp (P:=prog) (T:=209) (dd:=d+1) (xs:=[.int .u32 x0,.int .u32 x1]) (ys:=[.int .u32 y0,.int .u32 y1]) (w:=w) underlying209 (by kernel_rfl) (lR rfl (oF bZ rfl) (oF bZ rfl) (vT (dd:=d+0) underlying35) (lR rfl (oF bZ rfl) (oF bZ rfl) (vT (dd:=d+0) underlying35) (aNw)))
  refine h.trans (congrArg (fun r=>Result.ok r w) ?_)
  simp only [Bool.decide_and,Bool.and_true,Bool.and_assoc]
theorem bUo:∀ (x0 x1 y0 y1:Int),EqA prog 209 [.int .u32 x0,.int .u32 x1] [.int .u32 y0,.int .u32 y1] (decide (x0=y0∧x1=y1)):=fun x0 x1 y0 y1=>⟨by kernel_rfl,fun w=>bUp 9998 w x0 x1 y0 y1⟩
theorem kR:jR prog 209=some 2:=by kernel_rfl
theorem bTj:aY prog 213=true:=by kernel_rfl
theorem bYl:oL prog 209=some (.agg [.int .u32 0,.int .u32 0].toArray):=by kernel_rfl
theorem fE:jO prog 3=true:=by kernel_rfl
theorem rR:jO prog 4=true:=by kernel_rfl
theorem mU:eZ prog 39 1 1=true:=by kernel_rfl
theorem kE:eZ prog 39 2 2=true:=by kernel_rfl
theorem cY:eZ prog 37 0 0=true:=by kernel_rfl
theorem aLd:aY prog 62=true:=by kernel_rfl
theorem cW:eZ prog 37 1 1=true:=by kernel_rfl
theorem eS:eZ prog 39 3 4=true:=by kernel_rfl
theorem pG:eZ prog 39 4 5=true:=by kernel_rfl
theorem fZ:eZ prog 39 5 6=true:=by kernel_rfl
theorem eH:eZ prog 39 6 8=true:=by kernel_rfl
theorem dU:fN prog 29 39 10 40=true:=by kernel_rfl
theorem dZ:eZ prog 39 0 0=true:=by kernel_rfl
theorem mixed:prog.follows .mixedOrders=true:=by kernel_rfl
theorem aUj:aY prog 139=true:=by kernel_rfl
theorem qU:gW prog 194 [.nilFunc,.int .i64 0] [(0,1),(1,1)]:=eT underlying194 (by kernel_rfl) (by kernel_rfl) (by kernel_rfl)
theorem zA:aCe prog 196 6 194 2=true:=by kernel_rfl
theorem bOw:iG prog 196=some [.nilFunc,.int .i64 0,.nilFunc,.int .i64 0,.nilFunc,.int .i64 0,.nilFunc,.int .i64 0,.nilFunc,.int .i64 0,.nilFunc,.int .i64 0]:=by kernel_rfl
theorem pZ:jR prog 194=some 2:=by kernel_rfl
theorem yC:iG prog 194=some [.nilFunc,.int .i64 0]:=by kernel_rfl
theorem tL:eZ prog 194 0 0=true:=by kernel_rfl
theorem aMc:jO prog 23=true:=by kernel_rfl
theorem bSa:aY prog 137=true:=by kernel_rfl
theorem tM:eZ prog 194 1 1=true:=by kernel_rfl
theorem aEi:jO prog 30=true:=by kernel_rfl
theorem bSb:aY prog 138=true:=by kernel_rfl
theorem bSc:aY prog 140=true:=by kernel_rfl
theorem bSd:aY prog 141=true:=by kernel_rfl
theorem bSe:aY prog 142=true:=by kernel_rfl
theorem bSf:aY prog 143=true:=by kernel_rfl
theorem aUg:aY prog 102=true:=by kernel_rfl
theorem mN:eZ prog 103 1 1=true:=by kernel_rfl
theorem sV:jO prog 101=true:=by kernel_rfl
theorem wB:aDa prog 101 35 3 .u32=true:=by kernel_rfl
theorem zv3:oL prog 3=some (.int .i64 0):=by kernel_rfl
theorem jA:eZ prog 103 0 0=true:=by kernel_rfl
theorem iD:jO prog 29=true:=by kernel_rfl
theorem gL:iG prog 39=some [.int .u32 0,.int .i32 0,.int .i32 0,.int .i32 0,.int .i32 0,.int .i32 0,.int .i32 0,.int .i32 0,.int .i32 0,.int .i32 0]:=by kernel_rfl
theorem wN:gW prog 39 [.int .u32 0,.int .i32 0,.int .i32 0,.int .i32 0,.int .i32 0,.int .i32 0,.int .i32 0,.int .i32 0,.int .i32 0,.int .i32 0] [(0,1),(1,1),(2,2),(4,1),(5,1),(6,2),(8,2)]:=eT underlying39 (by kernel_rfl) (by kernel_rfl) (by kernel_rfl)
theorem bEz:aY prog 151=true:=by kernel_rfl
theorem aNe:aY prog 116=true:=by kernel_rfl
theorem bWr:aY prog 64=true:=by kernel_rfl
theorem bRk:aY prog 114=true:=by kernel_rfl
theorem bPj:aY prog 27=true:=by kernel_rfl
theorem vA:aY prog 99=true:=by kernel_rfl
theorem aNf:aY prog 126=true:=by kernel_rfl
theorem bXm:aY prog 94=true:=by kernel_rfl
theorem bRn:aY prog 119=true:=by kernel_rfl
theorem bRc:aY prog 103=true:=by kernel_rfl
theorem us3:(prog.underlying 3).isSome=true:=by kernel_rfl
theorem bYh:(prog.underlying 178).isSome=true:=by kernel_rfl
theorem bFf:aY prog 188=true:=by kernel_rfl
theorem bSx:aY prog 187=true:=by kernel_rfl
theorem bFy:aY prog 253=true:=by kernel_rfl
theorem aPo:iG prog 253=some [.int .i32 0,.int .i32 0,.int .i32 0,.int .i32 0]:=by kernel_rfl
theorem bTp:aY prog 229=true:=by kernel_rfl
theorem aMo:gW prog 253 [.int .i32 0,.int .i32 0,.int .i32 0,.int .i32 0] [(0,1),(1,1),(2,1),(3,1)]:=eT underlying253 (by kernel_rfl) (by kernel_rfl) (by kernel_rfl)
theorem mJ:jR prog 253=some 4:=by kernel_rfl
theorem aAq:eZ prog 253 0 0=true:=by kernel_rfl
theorem aAs:eZ prog 253 2 2=true:=by kernel_rfl
theorem aAr:eZ prog 253 1 1=true:=by kernel_rfl
theorem aAt:eZ prog 253 3 3=true:=by kernel_rfl
theorem aUr:aY prog 231=true:=by kernel_rfl
theorem bTr:aY prog 232=true:=by kernel_rfl
theorem uZ:iG prog 283=some [.int .i32 0,.int .i32 0]:=by kernel_rfl
theorem aMp:gW prog 283 [.int .i32 0,.int .i32 0] [(0,1),(1,1)]:=eT underlying283 (by kernel_rfl) (by kernel_rfl) (by kernel_rfl)
theorem lK:jR prog 283=some 2:=by kernel_rfl
theorem fK:gW prog 37 [.int .i32 0,.int .i32 0] [(0,1),(1,1)]:=eT underlying37 (by kernel_rfl) (by kernel_rfl) (by kernel_rfl)
theorem bGc:aY prog 267=true:=by kernel_rfl
theorem bUb:aY prog 254=true:=by kernel_rfl
theorem bAi:iG prog 4=some [.bool false]:=by kernel_rfl
theorem aHl:eZ prog 283 1 1=true:=by kernel_rfl
theorem aHk:eZ prog 283 0 0=true:=by kernel_rfl
theorem bOz:iG prog 281=some [.slice none 0 0]:=by kernel_rfl
theorem bTq:aY prog 230=true:=by kernel_rfl
theorem bUc:aY prog 255=true:=by kernel_rfl
theorem aWb:jO prog 281=true:=by kernel_rfl
theorem bKf:fN prog 281 283 2 8=true:=by kernel_rfl
theorem eF:(prog.underlying 21).isSome=true:=by kernel_rfl
theorem bEm:aCe prog 323 2 35 1=true:=by kernel_rfl
theorem yL:(prog.underlying 35).isSome=true:=by kernel_rfl
theorem bTz:aY prog 245=true:=by kernel_rfl
theorem nU:(prog.underlying 2).isSome=true:=by kernel_rfl
theorem yV:(prog.underlying 237).isSome=true:=by kernel_rfl
theorem vK:aY prog 222=true:=by kernel_rfl
theorem aUq:aY prog 221=true:=by kernel_rfl
theorem bFo:aY prog 223=true:=by kernel_rfl
theorem aNj:aY prog 224=true:=by kernel_rfl
theorem aNm:aY prog 246=true:=by kernel_rfl
theorem bFq:aY prog 240=true:=by kernel_rfl
theorem aUp:aY prog 216=true:=by kernel_rfl
theorem bTx:aY prog 242=true:=by kernel_rfl
theorem jQ:iG prog 37=some [.int .i32 0,.int .i32 0]:=by kernel_rfl
theorem bFm:aY prog 218=true:=by kernel_rfl
theorem bFr:aY prog 241=true:=by kernel_rfl
theorem aGm:aY prog 239=true:=by kernel_rfl
theorem kI:jO prog 2=true:=by kernel_rfl
theorem aNh:aY prog 189=true:=by kernel_rfl
theorem bUl:aY prog 282=true:=by kernel_rfl
theorem aJp:iG prog 2=some [.int .i64 0]:=by kernel_rfl
theorem bGd:aY prog 283=true:=by kernel_rfl
theorem cX:jO prog 237=true:=by kernel_rfl
theorem bOy:iG prog 237=some [.int .u64 0]:=by kernel_rfl
theorem aCd:aCe prog 369 2 37 2=true:=by kernel_rfl
theorem bAh:iG prog 369=some [.int .i32 0,.int .i32 0,.int .i32 0,.int .i32 0]:=by kernel_rfl
theorem aNo:aY prog 277=true:=by kernel_rfl
theorem aNn:aY prog 276=true:=by kernel_rfl
theorem bUf:aY prog 259=true:=by kernel_rfl
theorem aCb:iG prog 296=some [.int .u32 0,.int .i32 0,.int .i32 0,.int .i32 0,.int .i32 0,.int .i32 0,.int .i32 0,.int .i32 0,.int .i32 0,.int .i32 0,.int .i32 0,.int .i32 0,.int .i32 0,.int .i32 0]:=by kernel_rfl
theorem bUe:aY prog 258=true:=by kernel_rfl
theorem bDo:gW prog 296 [.int .u32 0,.int .i32 0,.int .i32 0,.int .i32 0,.int .i32 0,.int .i32 0,.int .i32 0,.int .i32 0,.int .i32 0,.int .i32 0,.int .i32 0,.int .i32 0,.int .i32 0,.int .i32 0] [(0,10),(10,2),(12,2)]:=eT underlying296 (by kernel_rfl) (by kernel_rfl) (by kernel_rfl)
theorem qB:jR prog 296=some 14:=by kernel_rfl
theorem aNl:aY prog 237=true:=by kernel_rfl
theorem aRn:eZ prog 296 1 10=true:=by kernel_rfl
theorem aRo:eZ prog 296 2 12=true:=by kernel_rfl
theorem bTw:aY prog 238=true:=by kernel_rfl
theorem aAu:eZ prog 296 0 0=true:=by kernel_rfl
theorem oK:iG prog 211=some [.int .u32 0,.int .u32 0,.int .i32 0,.int .i32 0,.int .i32 0]:=by kernel_rfl
theorem bTk:aY prog 214=true:=by kernel_rfl
theorem bTl:aY prog 215=true:=by kernel_rfl
theorem xW:gW prog 211 [.int .u32 0,.int .u32 0,.int .i32 0,.int .i32 0,.int .i32 0] [(0,2),(2,2),(4,1)]:=eT underlying211 (by kernel_rfl) (by kernel_rfl) (by kernel_rfl)
theorem fL:jR prog 211=some 5:=by kernel_rfl
theorem aDn:gW prog 209 [.int .u32 0,.int .u32 0] [(0,1),(1,1)]:=eT underlying209 (by kernel_rfl) (by kernel_rfl) (by kernel_rfl)
theorem yD:iG prog 209=some [.int .u32 0,.int .u32 0]:=by kernel_rfl
theorem bTm:aY prog 217=true:=by kernel_rfl
theorem aRm:eZ prog 250 1 1024=true:=by kernel_rfl
theorem bTb:aY prog 204=true:=by kernel_rfl
theorem bTc:aY prog 205=true:=by kernel_rfl
theorem bIk:aDa prog 280 3 4 .i64=true:=by kernel_rfl
theorem zv4:oL prog 4=some (.bool false):=by kernel_rfl
theorem aHj:eZ prog 250 0 0=true:=by kernel_rfl
theorem aUd:aCe prog 248 1024 247 1=true:=by kernel_rfl
theorem aOq:jO prog 247=true:=by kernel_rfl
theorem aTl:fN prog 247 35 1 4=true:=by kernel_rfl
theorem bKg:fN prog 353 3 1 8=true:=by kernel_rfl
theorem iI:eZ prog 209 0 0=true:=by kernel_rfl
theorem lG:eZ prog 209 1 1=true:=by kernel_rfl
theorem bTv:aY prog 236=true:=by kernel_rfl
theorem bVg:jO prog 287=true:=by kernel_rfl
theorem bTu:aY prog 235=true:=by kernel_rfl
theorem aWa:jO prog 220=true:=by kernel_rfl
theorem aBu:fN prog 220 209 2 8=true:=by kernel_rfl
theorem bUd:aY prog 256=true:=by kernel_rfl
theorem bTs:aY prog 233=true:=by kernel_rfl
theorem bTt:aY prog 234=true:=by kernel_rfl
theorem bQu:jR prog 248=some 1024:=by kernel_rfl
theorem bTg:aY prog 210=true:=by kernel_rfl
theorem bDn:gW prog 288 [] []:=eT underlying288 (by kernel_rfl) (by kernel_rfl) (by kernel_rfl)
theorem bTi:aY prog 212=true:=by kernel_rfl
theorem bTh:aY prog 211=true:=by kernel_rfl
theorem bTa:aY prog 203=true:=by kernel_rfl
theorem aOi:aDa prog 245 35 253 .u32=true:=by kernel_rfl
theorem bQl:iG prog 3=some [.int .i64 0]:=by kernel_rfl
theorem bIu:jO prog 245=true:=by kernel_rfl
theorem bLb:oL prog 253=some (.agg [.int .i32 0,.int .i32 0,.int .i32 0,.int .i32 0].toArray):=by kernel_rfl
theorem bTd:aY prog 207=true:=by kernel_rfl
theorem bFl:aY prog 206=true:=by kernel_rfl
theorem bTf:aY prog 209=true:=by kernel_rfl
theorem bSr:aY prog 180=true:=by kernel_rfl
theorem bSs:aY prog 181=true:=by kernel_rfl
theorem bSt:aY prog 182=true:=by kernel_rfl
theorem bSv:aY prog 184=true:=by kernel_rfl
theorem bSu:aY prog 183=true:=by kernel_rfl
theorem bTe:aY prog 208=true:=by kernel_rfl
theorem aHi:eZ prog 219 0 0=true:=by kernel_rfl
theorem aIh:jO prog 217=true:=by kernel_rfl
theorem aHw:aDa prog 217 35 39 .u32=true:=by kernel_rfl
theorem bPa:oL prog 39=some (.agg [.int .u32 0,.int .i32 0,.int .i32 0,.int .i32 0,.int .i32 0,.int .i32 0,.int .i32 0,.int .i32 0,.int .i32 0,.int .i32 0].toArray):=by kernel_rfl
theorem bFe:aY prog 185=true:=by kernel_rfl
theorem vY:eZ prog 219 1 1=true:=by kernel_rfl
theorem rG:jO prog 166=true:=by kernel_rfl
theorem vD:fN prog 166 211 5 20=true:=by kernel_rfl
theorem bSm:aY prog 159=true:=by kernel_rfl
theorem bDm:gW prog 219 [.map none,.slice none 0 0] [(0,1),(1,1)]:=eT underlying219 (by kernel_rfl) (by kernel_rfl) (by kernel_rfl)
theorem bSk:aY prog 157=true:=by kernel_rfl
theorem bSl:aY prog 158=true:=by kernel_rfl
theorem yE:iG prog 344=some [.int .u64 0,.int .u64 0,.int .u64 0,.int .u64 0,.int .u64 0,.int .u64 0,.int .u64 0,.int .u64 0]:=by kernel_rfl
theorem bY:eZ prog 344 0 0=true:=by kernel_rfl
theorem dH:aCe prog 342 8 237 1=true:=by kernel_rfl
theorem qC:jR prog 344=some 8:=by kernel_rfl
theorem bGb:aY prog 266=true:=by kernel_rfl
theorem bUj:aY prog 265=true:=by kernel_rfl
theorem bFw:aY prog 251=true:=by kernel_rfl
theorem bFv:aY prog 250=true:=by kernel_rfl
theorem bFx:aY prog 252=true:=by kernel_rfl
theorem bFj:aY prog 199=true:=by kernel_rfl
theorem bSz:aY prog 200=true:=by kernel_rfl
theorem aUo:aY prog 177=true:=by kernel_rfl
theorem mK:aY prog 152=true:=by kernel_rfl
theorem bFt:aY prog 247=true:=by kernel_rfl
theorem bUi:aY prog 264=true:=by kernel_rfl
theorem bUa:aY prog 248=true:=by kernel_rfl
theorem bFu:aY prog 249=true:=by kernel_rfl
theorem aAp:eZ prog 239 1 2=true:=by kernel_rfl
theorem aAo:eZ prog 239 0 0=true:=by kernel_rfl
theorem aGb:iG prog 239=some [.int .i32 0,.int .i32 0,.int .i32 0,.int .i32 0]:=by kernel_rfl
theorem xX:gW prog 239 [.int .i32 0,.int .i32 0,.int .i32 0,.int .i32 0] [(0,2),(2,2)]:=eT underlying239 (by kernel_rfl) (by kernel_rfl) (by kernel_rfl)
theorem aNk:aY prog 226=true:=by kernel_rfl
theorem aZt:fN prog 315 239 4 16=true:=by kernel_rfl
theorem nW:jR prog 239=some 4:=by kernel_rfl
theorem aUn:aY prog 175=true:=by kernel_rfl
theorem bFh:aY prog 197=true:=by kernel_rfl
theorem bFi:aY prog 198=true:=by kernel_rfl
theorem bSy:aY prog 196=true:=by kernel_rfl
theorem bSo:aY prog 174=true:=by kernel_rfl
theorem bSp:aY prog 176=true:=by kernel_rfl
theorem aUm:aY prog 154=true:=by kernel_rfl
theorem bUm:aY prog 284=true:=by kernel_rfl
theorem bUk:aY prog 278=true:=by kernel_rfl
theorem jB:eZ prog 211 1 2=true:=by kernel_rfl
theorem bUg:aY prog 260=true:=by kernel_rfl
theorem bUh:aY prog 261=true:=by kernel_rfl
theorem bFz:aY prog 262=true:=by kernel_rfl
theorem bGa:aY prog 263=true:=by kernel_rfl
theorem tN:eZ prog 303 0 0=true:=by kernel_rfl
theorem gG:eZ prog 211 0 0=true:=by kernel_rfl
theorem aNg:aY prog 161=true:=by kernel_rfl
theorem bTy:aY prog 243=true:=by kernel_rfl
theorem bFs:aY prog 244=true:=by kernel_rfl
theorem tO:eZ prog 303 1 1=true:=by kernel_rfl
theorem qE:jO prog 260=true:=by kernel_rfl
theorem tP:eZ prog 303 2 2=true:=by kernel_rfl
theorem sN:fN prog 260 2 1 8=true:=by kernel_rfl
theorem bTn:aY prog 220=true:=by kernel_rfl
theorem aMq:gW prog 303 [.slice none 0 0,.slice none 0 0,.slice none 0 0] [(0,1),(1,1),(2,1)]:=eT underlying303 (by kernel_rfl) (by kernel_rfl) (by kernel_rfl)
theorem bFn:aY prog 219=true:=by kernel_rfl
theorem bSw:aY prog 186=true:=by kernel_rfl
theorem aUl:aY prog 148=true:=by kernel_rfl
theorem bSn:aY prog 160=true:=by kernel_rfl
theorem aHh:eZ prog 211 2 4=true:=by kernel_rfl
theorem bFg:aY prog 190=true:=by kernel_rfl
theorem aDe:jO prog 127=true:=by kernel_rfl
theorem aIx:fN prog 127 177 2 16=true:=by kernel_rfl
theorem aHf:eZ prog 177 0 0=true:=by kernel_rfl
theorem aHg:eZ prog 177 1 1=true:=by kernel_rfl
theorem bOv:iG prog 177=some [.int .i64 0,.int .i64 0]:=by kernel_rfl
theorem bOt:iG prog 127=some [.slice none 0 0]:=by kernel_rfl
theorem bFc:aY prog 163=true:=by kernel_rfl
theorem bFb:aY prog 162=true:=by kernel_rfl
theorem aMm:fN prog 201 174 1 8=true:=by kernel_rfl
theorem bVf:jO prog 174=true:=by kernel_rfl
theorem bRi:aY prog 111=true:=by kernel_rfl
theorem aGl:aY prog 112=true:=by kernel_rfl
theorem bRh:aY prog 110=true:=by kernel_rfl
theorem bEx:aY prog 109=true:=by kernel_rfl
theorem bRj:aY prog 113=true:=by kernel_rfl
theorem bWt:aY prog 66=true:=by kernel_rfl
theorem bWu:aY prog 67=true:=by kernel_rfl
theorem aAm:eZ prog 168 1 1=true:=by kernel_rfl
theorem tK:eZ prog 168 3 3=true:=by kernel_rfl
theorem aFr:eZ prog 58 2 2=true:=by kernel_rfl
theorem aHe:eZ prog 168 0 0=true:=by kernel_rfl
theorem bSg:aY prog 144=true:=by kernel_rfl
theorem aAn:eZ prog 168 2 2=true:=by kernel_rfl
theorem bMg:eZ prog 58 0 0=true:=by kernel_rfl
theorem aYx:eZ prog 58 1 1=true:=by kernel_rfl
theorem aUk:aY prog 145=true:=by kernel_rfl
theorem bSh:aY prog 146=true:=by kernel_rfl
theorem bSi:aY prog 147=true:=by kernel_rfl
theorem aPp:iG prog 58=some [.int .i64 0,.int .i64 0,.bool false]:=by kernel_rfl
theorem bDl:gW prog 168 [.slice none 0 0,.slice none 0 0,.slice none 0 0,.int .i64 0,.int .i64 0,.bool false] [(0,1),(1,1),(2,1),(3,3)]:=eT underlying168 (by kernel_rfl) (by kernel_rfl) (by kernel_rfl)
theorem aGi:aCe prog 170 4 169 1=true:=by kernel_rfl
theorem bOu:iG prog 170=some [.nilFunc,.nilFunc,.nilFunc,.nilFunc]:=by kernel_rfl
theorem aOp:jO prog 169=true:=by kernel_rfl
theorem bRd:aY prog 105=true:=by kernel_rfl
theorem bRe:aY prog 106=true:=by kernel_rfl
theorem bRf:aY prog 107=true:=by kernel_rfl
theorem bRg:aY prog 108=true:=by kernel_rfl
theorem aDq:jR prog 58=some 3:=by kernel_rfl
theorem bWs:aY prog 65=true:=by kernel_rfl
theorem bTo:aY prog 227=true:=by kernel_rfl
theorem bFp:aY prog 228=true:=by kernel_rfl
theorem bFk:aY prog 201=true:=by kernel_rfl
theorem aNi:aY prog 202=true:=by kernel_rfl
theorem bFd:aY prog 178=true:=by kernel_rfl
theorem zD:aY prog 153=true:=by kernel_rfl
theorem bSj:aY prog 155=true:=by kernel_rfl
theorem bSq:aY prog 179=true:=by kernel_rfl
theorem bOx:iG prog 214=some [.int .i64 0,.int .i64 0]:=by kernel_rfl
theorem bFa:aY prog 156=true:=by kernel_rfl
theorem mO:eZ prog 214 0 0=true:=by kernel_rfl
theorem mP:eZ prog 214 1 1=true:=by kernel_rfl
theorem bQt:jR prog 214=some 2:=by kernel_rfl
theorem aMl:fN prog 189 214 2 16=true:=by kernel_rfl
theorem bRu:aY prog 128=true:=by kernel_rfl
theorem bRv:aY prog 129=true:=by kernel_rfl
theorem bRw:aY prog 130=true:=by kernel_rfl
theorem bRy:aY prog 132=true:=by kernel_rfl
theorem bRx:aY prog 131=true:=by kernel_rfl
theorem gI:fN prog 31 5 1 1=true:=by kernel_rfl
theorem aPn:iG prog 139=some [.int .u32 0,.int .u32 0,.int .u32 0,.int .u32 0,.int .u32 0,.int .u32 0,.int .u32 0,.int .u32 0,.int .u32 0,.int .u32 0]:=by kernel_rfl
theorem jS:aCe prog 139 10 35 1=true:=by kernel_rfl
theorem uF:aY prog 136=true:=by kernel_rfl
theorem aTz:jR prog 139=some 10:=by kernel_rfl
theorem vE:jO prog 5=true:=by kernel_rfl
theorem us5:(prog.underlying 5).isSome=true:=by kernel_rfl
theorem aUh:aY prog 118=true:=by kernel_rfl
theorem bPs:aY prog 82=true:=by kernel_rfl
theorem bEw:aY prog 100=true:=by kernel_rfl
theorem bRb:aY prog 101=true:=by kernel_rfl
theorem vM:aY prog 79=true:=by kernel_rfl
theorem vN:aY prog 80=true:=by kernel_rfl
theorem bXa:aY prog 81=true:=by kernel_rfl
theorem aUi:aY prog 133=true:=by kernel_rfl
theorem vL:aY prog 59=true:=by kernel_rfl
theorem uE:aY prog 134=true:=by kernel_rfl
theorem bRz:aY prog 135=true:=by kernel_rfl
theorem vX:eZ prog 107 0 0=true:=by kernel_rfl
theorem bGg:aY prog 60=true:=by kernel_rfl
theorem tH:eZ prog 105 0 0=true:=by kernel_rfl
theorem bPm:aY prog 61=true:=by kernel_rfl
theorem bRq:aY prog 122=true:=by kernel_rfl
theorem bRm:aY prog 117=true:=by kernel_rfl
theorem bWv:aY prog 68=true:=by kernel_rfl
theorem bGe:aY prog 38=true:=by kernel_rfl
theorem bWq:aY prog 58=true:=by kernel_rfl
theorem bPn:aY prog 69=true:=by kernel_rfl
theorem bRs:aY prog 124=true:=by kernel_rfl
theorem bRt:aY prog 125=true:=by kernel_rfl
theorem bDi:gW prog 105 [.slice none 0 0,.map none] [(0,2)]:=eT underlying105 (by kernel_rfl) (by kernel_rfl) (by kernel_rfl)
theorem bQs:jR prog 105=some 2:=by kernel_rfl
theorem bPr:aY prog 78=true:=by kernel_rfl
theorem bWn:aY prog 54=true:=by kernel_rfl
theorem bEy:aY prog 127=true:=by kernel_rfl
theorem aPm:iG prog 112=some [.slice none 0 0,.int .i64 0,.int .u32 0,.int .i32 0,.int .i32 0,.int .i32 0,.int .i32 0,.int .i32 0,.int .i32 0,.int .i32 0,.int .i32 0,.int .i32 0,.slice none 0 0,.int .i64 0,.bool false]:=by kernel_rfl
theorem bDj:gW prog 112 [.slice none 0 0,.int .i64 0,.int .u32 0,.int .i32 0,.int .i32 0,.int .i32 0,.int .i32 0,.int .i32 0,.int .i32 0,.int .i32 0,.int .i32 0,.int .i32 0,.slice none 0 0,.int .i64 0,.bool false] [(0,1),(1,1),(2,10),(12,1),(13,1),(14,1)]:=eT underlying112 (by kernel_rfl) (by kernel_rfl) (by kernel_rfl)
theorem gM:jR prog 112=some 15:=by kernel_rfl
theorem bHe:eZ prog 114 0 0=true:=by kernel_rfl
theorem bHf:eZ prog 114 1 1=true:=by kernel_rfl
theorem tI:eZ prog 112 0 0=true:=by kernel_rfl
theorem tJ:eZ prog 112 1 1=true:=by kernel_rfl
theorem aHd:eZ prog 114 2 11=true:=by kernel_rfl
theorem bXn:aY prog 95=true:=by kernel_rfl
theorem bHg:eZ prog 114 3 12=true:=by kernel_rfl
theorem bXo:aY prog 96=true:=by kernel_rfl
theorem bXp:aY prog 97=true:=by kernel_rfl
theorem aRk:eZ prog 112 4 13=true:=by kernel_rfl
theorem aRl:eZ prog 112 5 14=true:=by kernel_rfl
theorem bPi:aY prog 25=true:=by kernel_rfl
theorem aRj:eZ prog 112 3 12=true:=by kernel_rfl
theorem iR:jO prog 31=true:=by kernel_rfl
theorem bHh:eZ prog 114 4 14=true:=by kernel_rfl
theorem bXq:aY prog 98=true:=by kernel_rfl
theorem bHd:eZ prog 112 2 2=true:=by kernel_rfl
theorem kU:fN prog 22 46 15 88=true:=by kernel_rfl
theorem aYr:eZ prog 41 1 1=true:=by kernel_rfl
theorem aOa:eZ prog 41 2 11=true:=by kernel_rfl
theorem rX:eZ prog 41 4 14=true:=by kernel_rfl
theorem bXb:aY prog 83=true:=by kernel_rfl
theorem oW:aDa prog 109 3 34 .i64=true:=by kernel_rfl
theorem bXd:aY prog 85=true:=by kernel_rfl
theorem bXg:aY prog 88=true:=by kernel_rfl
theorem jW:iG prog 33=some [.int .i64 0,.slice none 0 0,.int .i64 0,.bool false]:=by kernel_rfl
theorem bIr:jO prog 143=true:=by kernel_rfl
theorem bVc:jO prog 144=true:=by kernel_rfl
theorem jI:jR prog 41=some 15:=by kernel_rfl
theorem rN:gW prog 33 [.int .i64 0,.slice none 0 0,.int .i64 0,.bool false] [(0,1),(1,1),(2,1),(3,1)]:=eT underlying33 (by kernel_rfl) (by kernel_rfl) (by kernel_rfl)
theorem bXc:aY prog 84=true:=by kernel_rfl
theorem bWk:aY prog 26=true:=by kernel_rfl
theorem fV:jR prog 33=some 4:=by kernel_rfl
theorem bIs:jO prog 146=true:=by kernel_rfl
theorem bVd:jO prog 148=true:=by kernel_rfl
theorem bXf:aY prog 87=true:=by kernel_rfl
theorem bXe:aY prog 86=true:=by kernel_rfl
theorem bIt:jO prog 150=true:=by kernel_rfl
theorem bVe:jO prog 151=true:=by kernel_rfl
theorem bXh:aY prog 89=true:=by kernel_rfl
theorem bPp:aY prog 74=true:=by kernel_rfl
theorem aYs:eZ prog 41 3 12=true:=by kernel_rfl
theorem bXj:aY prog 91=true:=by kernel_rfl
theorem bWm:aY prog 53=true:=by kernel_rfl
theorem aXz:aY prog 24=true:=by kernel_rfl
theorem qL:eZ prog 41 0 0=true:=by kernel_rfl
theorem aGo:aY prog 55=true:=by kernel_rfl
theorem aXo:oL prog 34=some (.nilFunc):=by kernel_rfl
theorem bRo:aY prog 120=true:=by kernel_rfl
theorem bRp:aY prog 121=true:=by kernel_rfl
theorem bRr:aY prog 123=true:=by kernel_rfl
theorem bXi:aY prog 90=true:=by kernel_rfl
theorem bXk:aY prog 92=true:=by kernel_rfl
theorem bXl:aY prog 93=true:=by kernel_rfl
theorem nS:fN prog 27 41 15 88=true:=by kernel_rfl
theorem aJq:iG prog 41=some [.int .i64 0,.int .u32 0,.int .i32 0,.int .i32 0,.int .i32 0,.int .i32 0,.int .i32 0,.int .i32 0,.int .i32 0,.int .i32 0,.int .i32 0,.int .u32 0,.int .i32 0,.int .i32 0,.slice none 0 0]:=by kernel_rfl
theorem aXy:aY prog 20=true:=by kernel_rfl
theorem rT:fN prog 63 33 4 48=true:=by kernel_rfl
theorem aPl:iG prog 107=some [.slice none 0 0,.map none]:=by kernel_rfl
theorem bPk:aY prog 33=true:=by kernel_rfl
theorem xM:eZ prog 46 4 14=true:=by kernel_rfl
theorem qM:eZ prog 46 0 0=true:=by kernel_rfl
theorem bLa:iG prog 43=some [.int .i64 0,.slice none 0 0,.int .i64 0,.bool false]:=by kernel_rfl
theorem aBz:gW prog 43 [.int .i64 0,.slice none 0 0,.int .i64 0,.bool false] [(0,1),(1,1),(2,1),(3,1)]:=eT underlying43 (by kernel_rfl) (by kernel_rfl) (by kernel_rfl)
theorem aAc:jR prog 43=some 4:=by kernel_rfl
theorem xJ:eZ prog 46 1 1=true:=by kernel_rfl
theorem xK:eZ prog 46 2 11=true:=by kernel_rfl
theorem xL:eZ prog 46 3 12=true:=by kernel_rfl
theorem bDk:gW prog 114 [.int .i64 0,.int .u32 0,.int .i32 0,.int .i32 0,.int .i32 0,.int .i32 0,.int .i32 0,.int .i32 0,.int .i32 0,.int .i32 0,.int .i32 0,.int .u32 0,.int .i32 0,.int .i32 0,.slice none 0 0] [(0,1),(1,10),(11,1),(12,2),(14,1)]:=eT underlying114 (by kernel_rfl) (by kernel_rfl) (by kernel_rfl)
theorem bWo:aY prog 56=true:=by kernel_rfl
theorem bWi:jR prog 46=some 15:=by kernel_rfl
theorem bWj:aY prog 21=true:=by kernel_rfl
theorem bVr:fN prog 65 43 4 48=true:=by kernel_rfl
theorem aYt:eZ prog 43 0 0=true:=by kernel_rfl
theorem aYu:eZ prog 43 1 1=true:=by kernel_rfl
theorem aQm:aY prog 23=true:=by kernel_rfl
theorem aYv:eZ prog 43 2 2=true:=by kernel_rfl
theorem aYw:eZ prog 43 3 3=true:=by kernel_rfl
theorem aYq:eZ prog 33 0 0=true:=by kernel_rfl
theorem bMd:eZ prog 33 1 1=true:=by kernel_rfl
theorem bMe:eZ prog 33 2 2=true:=by kernel_rfl
theorem bMf:eZ prog 33 3 3=true:=by kernel_rfl
theorem bWp:aY prog 57=true:=by kernel_rfl
theorem aJd:gW prog 41 [.int .i64 0,.int .u32 0,.int .i32 0,.int .i32 0,.int .i32 0,.int .i32 0,.int .i32 0,.int .i32 0,.int .i32 0,.int .i32 0,.int .i32 0,.int .u32 0,.int .i32 0,.int .i32 0,.slice none 0 0] [(0,1),(1,10),(11,1),(12,2),(14,1)]:=eT underlying41 (by kernel_rfl) (by kernel_rfl) (by kernel_rfl)
theorem aQn:aY prog 35=true:=by kernel_rfl
theorem bWl:aY prog 37=true:=by kernel_rfl
theorem bPz:∀ (x0 x1 y0 y1:Int),EqA prog 37 [.int .i32 x0,.int .i32 x1] [.int .i32 y0,.int .i32 y1] (decide (x0=y0∧x1=y1)):=fun x0 x1 y0 y1=>⟨by kernel_rfl,fun w=>aYn 9998 w x0 x1 y0 y1⟩
theorem nT:fN prog 73 31 1 24=true:=by kernel_rfl
theorem bPq:aY prog 77=true:=by kernel_rfl
theorem gB:eZ prog 75 2 2=true:=by kernel_rfl
theorem eV:jO prog 73=true:=by kernel_rfl
theorem aMd:jO prog 25=true:=by kernel_rfl
theorem bWw:aY prog 72=true:=by kernel_rfl
theorem jX:iG prog 75=some [.slice none 0 0,.int .i64 0,.slice none 0 0]:=by kernel_rfl
theorem wO:gW prog 75 [.slice none 0 0,.int .i64 0,.slice none 0 0] [(0,1),(1,1),(2,1)]:=eT underlying75 (by kernel_rfl) (by kernel_rfl) (by kernel_rfl)
theorem eK:jR prog 75=some 3:=by kernel_rfl
theorem gA:eZ prog 75 0 0=true:=by kernel_rfl
theorem iW:jO prog 27=true:=by kernel_rfl
theorem bGh:aY prog 70=true:=by kernel_rfl
theorem bKz:iG prog 25=some [.pointer none]:=by kernel_rfl
theorem lN:eZ prog 75 1 1=true:=by kernel_rfl
theorem bPo:aY prog 71=true:=by kernel_rfl
theorem bWz:aY prog 76=true:=by kernel_rfl
theorem bWy:aY prog 75=true:=by kernel_rfl
theorem aQo:aY prog 48=true:=by kernel_rfl
theorem zX:iG prog 80=some [.slice none 0 0,.int .i64 0,.slice none 0 0]:=by kernel_rfl
theorem aTn:gW prog 80 [.slice none 0 0,.int .i64 0,.slice none 0 0] [(0,1),(1,1),(2,1)]:=eT underlying80 (by kernel_rfl) (by kernel_rfl) (by kernel_rfl)
theorem rA:jR prog 80=some 3:=by kernel_rfl
theorem oA:eZ prog 80 1 1=true:=by kernel_rfl
theorem jE:eZ prog 80 2 2=true:=by kernel_rfl
theorem rY:eZ prog 80 0 0=true:=by kernel_rfl
theorem yR:jO prog 22=true:=by kernel_rfl
theorem bWx:aY prog 73=true:=by kernel_rfl
theorem aLc:aY prog 46=true:=by kernel_rfl
theorem aCa:gW prog 46 [.int .i64 0,.int .u32 0,.int .i32 0,.int .i32 0,.int .i32 0,.int .i32 0,.int .i32 0,.int .i32 0,.int .i32 0,.int .i32 0,.int .i32 0,.int .u32 0,.int .i32 0,.int .i32 0,.slice none 0 0] [(0,1),(1,10),(11,1),(12,2),(14,1)]:=eT underlying46 (by kernel_rfl) (by kernel_rfl) (by kernel_rfl)
theorem aDu:aY prog 43=true:=by kernel_rfl
theorem aLb:aY prog 42=true:=by kernel_rfl
theorem aDv:aY prog 49=true:=by kernel_rfl
theorem aGn:aY prog 51=true:=by kernel_rfl
theorem rV:aY prog 40=true:=by kernel_rfl
theorem aLa:aY prog 41=true:=by kernel_rfl
theorem aYb:aY prog 45=true:=by kernel_rfl
theorem aYa:aY prog 44=true:=by kernel_rfl
theorem bGf:aY prog 47=true:=by kernel_rfl
theorem bYu:(prog.underlying 87).isSome=true:=by kernel_rfl
theorem bPl:aY prog 50=true:=by kernel_rfl
end Go.Proofs.YtaoaknafiegfoaaGreatDoor

namespace Go.Proofs.YtaoaknafiegfoaaGreatDoor
open Go.Bil
open Go.RowKit (Below)
open Go.Proofs
open Go.Proofs.Tryz
theorem tY (w:World) (n l:Int) (h0:0≤l) (h1:l≤2147483647) :
  Calls prog 62 #[.int .i32 n,.int .i32 l] w (Rb w (.bool (decide (zJ n l)))):=by
 have hneg:IntKind.i32.wrap (-l) = -l:=kM _ (by omega) (by omega)
 refine aI #[.tmp 4] 14 func62 Z results62 ntmps62 Z ?_
 have M0:=Mem.refl w
 refine aE (aA (wq (aJ (.bool false) Z) Z (aB (aC (aE (aA (aT Z Z (aT Z Z (wq (tX Z) Z (aL 7 (.int .i32 (-l)) (iE hneg) (cV Z Z Z Z (wq (aH (.bool (decide _)) Z) Z ?_))))))))))))
 refine dT 9 Z (fun g9 => ?_) (fun g9 => ?_)
 ·refine aT Z Z (aT Z Z (cV Z Z Z Z (wq (bM true (.bool (decide _)) Z Z) Z (wq (aJ (.bool (decide _)) Z) Z (aB (aC (aR (cF (.bool (decide _)) Z ?_))))))))
  exact ⟨by unfold zJ;first | exact bF (by omega) | exact bD (by omega),M0.below⟩
 ·refine aQ Z Z (aQ Z Z (aQ Z Z (wq (bM false (.bool false) Z Z) Z (wq (aJ (.bool false) Z) Z (aB (aC (aR (cF (.bool false) Z ?_))))))))
  exact ⟨by unfold zJ;first | exact bF (by omega) | exact bD (by omega),M0.below⟩
theorem aEr (w:World) (b:Body) :
  Calls prog 27 #[(.agg (aF b).toArray)] w (Rb w (.int .i64 (check b))):=by
 refine aI #[.tmp 2] 63 func27 Z results27 ntmps27 Z ?_
 have M0:=Mem.refl w
 refine aE (aA (bO (.agg (.mk _)) M0 Z Z Z (fun b1 w1 M1=>(bL Z Z (aB (aC (aE (aE (aA (wq (aD 1 mU Z) Z (wq (aK 0 (.int _ _) bB M1 Z Z Z) Z (cV Z Z Z Z (wq (aH (.bool (decide _)) Z) Z ?_)))))))))))))
 refine dT 6 Z (fun g6 => ?_) (fun g6 => ?_)
 ·refine aQ Z Z (aQ Z Z (aQ Z Z (wq (bM true (.bool true) Z Z) Z (aB (aC (cE Z (aE (aA (bL Z Z (aB (aC (aR (cK (cF (.int _ _) Z ?_))))))))))))))
  exact ⟨iE (by unfold check;unfold zJ at *;(repeat' split) <;> omega),M1.below⟩
 ·refine wq (aD 1 mU Z) Z (wq (aK 0 (.int _ _) bB M1 Z Z Z) Z (cV Z Z Z Z (wq (bM false (.bool (decide _)) Z Z) Z (aB (aC ?_)))))
  refine aW Z (fun h10 => ?_) (fun h10 => ?_)
  ·refine aE (aA (bL Z Z (aB (aC (aR (cK (cF (.int _ _) Z ?_)))))))
   exact ⟨iE (by unfold check;unfold zJ at *;(repeat' split) <;> omega),M1.below⟩
  ·refine aM (aC (aE (aE (aA (wq (aD 2 kE Z) Z (wq (aD 0 cY Z) Z (wq (aK 0 (.int _ _) bB M1 Z Z Z) Z (dM aLd Z Z M1 (tY _ _ _ (by omega) (by omega)) (fun w2 M2=>(wq (pT Z) Z (wq (aH (.bool (decide _)) Z) Z ?_)))))))))))
   refine dT 16 Z (fun g16 => ?_) (fun g16 => ?_)
   ·refine aQ Z Z (aQ Z Z (aQ Z Z (aQ Z Z (aQ Z Z (wq (bM true (.bool true) Z Z) Z (aB (aC (cE Z (aE (aA (bL Z Z (aB (aC (aR (cK (cF (.int _ _) Z ?_))))))))))))))))
    exact ⟨iE (by unfold check;unfold zJ at *;(repeat' split) <;> omega),M2.below⟩
   ·refine wq (aD 2 kE Z) Z (wq (aD 1 cW Z) Z (wq (aK 0 (.int _ _) bB M2 Z Z Z) Z (dM aLd Z Z M2 (tY _ _ _ (by omega) (by omega)) (fun w3 M3=>(wq (pT Z) Z (wq (bM false (.bool (decide _)) Z Z) Z (aB (aC ?_))))))))
    refine aW Z (fun h22 => ?_) (fun h22 => ?_)
    ·refine aE (aA (bL Z Z (aB (aC (aR (cK (cF (.int _ _) Z ?_)))))))
     exact ⟨iE (by unfold check;unfold zJ at *;(repeat' split) <;> omega),M3.below⟩
    ·refine aM (aC (aE (aE (aA (wq (aD 4 eS Z) Z (wq (aK 0 (.int _ _) bB M3 Z Z Z) Z (cV Z Z Z Z (wq (aH (.bool (decide _)) Z) Z ?_))))))))
     refine dT 26 Z (fun g26 => ?_) (fun g26 => ?_)
     ·refine aQ Z Z (aQ Z Z (aQ Z Z (wq (bM true (.bool true) Z Z) Z (aB (aC (cE Z (aE (aA (bL Z Z (aB (aC (aR (cK (cF (.int _ _) Z ?_))))))))))))))
      exact ⟨iE (by unfold check;unfold zJ at *;(repeat' split) <;> omega),M3.below⟩
     ·refine wq (aD 4 eS Z) Z (wq (aK 0 (.int _ _) bB M3 Z Z Z) Z (cV Z Z Z Z (wq (bM false (.bool (decide _)) Z Z) Z (aB (aC ?_)))))
      refine aW Z (fun h30 => ?_) (fun h30 => ?_)
      ·refine aE (aA (bL Z Z (aB (aC (aR (cK (cF (.int _ _) Z ?_)))))))
       exact ⟨iE (by unfold check;unfold zJ at *;(repeat' split) <;> omega),M3.below⟩
      ·refine aM (aC (aE (aE (aA (wq (aD 5 pG Z) Z (wq (aK 0 (.int _ _) bB M3 Z Z Z) Z (cV Z Z Z Z (wq (aH (.bool (decide _)) Z) Z ?_))))))))
       refine dT 34 Z (fun g34 => ?_) (fun g34 => ?_)
       ·refine aQ Z Z (aQ Z Z (aQ Z Z (wq (bM true (.bool true) Z Z) Z (aB (aC (cE Z (aE (aA (bL Z Z (aB (aC (aR (cK (cF (.int _ _) Z ?_))))))))))))))
        exact ⟨iE (by unfold check;unfold zJ at *;(repeat' split) <;> omega),M3.below⟩
       ·refine wq (aD 5 pG Z) Z (wq (aK 0 (.int _ _) bB M3 Z Z Z) Z (cV Z Z Z Z (wq (bM false (.bool (decide _)) Z Z) Z (aB (aC ?_)))))
        refine aW Z (fun h38 => ?_) (fun h38 => ?_)
        ·refine aE (aA (bL Z Z (aB (aC (aR (cK (cF (.int _ _) Z ?_)))))))
         exact ⟨iE (by unfold check;unfold zJ at *;(repeat' split) <;> omega),M3.below⟩
        ·refine aM (aC (aE (aE (aA (wq (aD 6 fZ Z) Z (wq (aD 0 cY Z) Z (wq (aK 0 (.int _ _) bB M3 Z Z Z) Z (dM aLd Z Z M3 (tY _ _ _ (by omega) (by omega)) (fun w4 M4=>(wq (pT Z) Z (wq (aH (.bool (decide _)) Z) Z ?_)))))))))))
         refine dT 44 Z (fun g44 => ?_) (fun g44 => ?_)
         ·refine aQ Z Z (aQ Z Z (aQ Z Z (aQ Z Z (aQ Z Z (wq (bM true (.bool true) Z Z) Z (aB (aC (cE Z (aE (aA (bL Z Z (aB (aC (aR (cK (cF (.int _ _) Z ?_))))))))))))))))
          exact ⟨iE (by unfold check;unfold zJ at *;(repeat' split) <;> omega),M4.below⟩
         ·refine wq (aD 6 fZ Z) Z (wq (aD 1 cW Z) Z (wq (aK 0 (.int _ _) bB M4 Z Z Z) Z (dM aLd Z Z M4 (tY _ _ _ (by omega) (by omega)) (fun w5 M5=>(wq (pT Z) Z (wq (bM false (.bool (decide _)) Z Z) Z (aB (aC ?_))))))))
          refine aW Z (fun h50 => ?_) (fun h50 => ?_)
          ·refine aE (aA (bL Z Z (aB (aC (aR (cK (cF (.int _ _) Z ?_)))))))
           exact ⟨iE (by unfold check;unfold zJ at *;(repeat' split) <;> omega),M5.below⟩
          ·refine aM (aC (aE (aE (aA (wq (aD 8 eH Z) Z (wq (aD 0 cY Z) Z (wq (aK 0 (.int _ _) bB M5 Z Z Z) Z (dM aLd Z Z M5 (tY _ _ _ (by omega) (by omega)) (fun w6 M6=>(wq (pT Z) Z (wq (aH (.bool (decide _)) Z) Z ?_)))))))))))
           refine dT 56 Z (fun g56 => ?_) (fun g56 => ?_)
           ·refine aQ Z Z (aQ Z Z (aQ Z Z (aQ Z Z (aQ Z Z (wq (bM true (.bool true) Z Z) Z (aB (aC (cE Z (aE (aA (bL Z Z (aB (aC (aR (cK (cF (.int _ _) Z ?_))))))))))))))))
            exact ⟨iE (by unfold check;unfold zJ at *;(repeat' split) <;> omega),M6.below⟩
           ·refine wq (aD 8 eH Z) Z (wq (aD 1 cW Z) Z (wq (aK 0 (.int _ _) bB M6 Z Z Z) Z (dM aLd Z Z M6 (tY _ _ _ (by omega) (by omega)) (fun w7 M7=>(wq (pT Z) Z (wq (bM false (.bool (decide _)) Z Z) Z (aB (aC ?_))))))))
            refine aW Z (fun h62 => ?_) (fun h62 => ?_)
            ·refine aE (aA (bL Z Z (aB (aC (aR (cK (cF (.int _ _) Z ?_)))))))
             exact ⟨iE (by unfold check;unfold zJ at *;(repeat' split) <;> omega),M7.below⟩
            ·refine aM (aC (aE (aA (bL Z Z (aB (aC (aR (cF (.int _ _) Z ?_))))))))
             exact ⟨iE (by unfold check;unfold zJ at *;(repeat' split) <;> omega),M7.below⟩
theorem bGz (a b:Body):EqA prog 39 (aF a) (aF b) (decide (a=b)):=by
 have h:=bXs a.key a.radius a.ax a.ay a.mass a.bounce a.px a.py a.vx a.vy b.key b.radius b.ax b.ay b.mass b.bounce b.px b.py b.vx b.vy
 rw [decide_eq_decide.2 (bEs (a:=a) (b:=b))]
 exact h
theorem iY (w:World) (key:Int) (A:Option Addr) (n c:Nat) (xs:List Body) (R:Rd w 10 A n (xs.map aF)) :
  Calls prog 99 #[.slice A n c,.int .u32 key] w (Rb w (.int .i64 (dV key xs))):=by
 have hlen:xs.length=n:=by simpa using R.len
 have hbd:=R.bound
 refine aI #[.tmp 4] 20 func99 Z results99 ntmps99 Z ?_
 have M0:=Mem.refl w
 refine aE (aA (bL Z Z (aB (aC (aE (aE (aA (bL Z Z (aB (aC (aS (dK (σ:=Nat) [0,1] (fun k=>[(5,.int .i64 (k:Int))]) (fun k w'=>(k≤n∧∀ (j:Nat) (c:Body),j < k→xs[j]? = some c→c.key≠key)∧Mem w [] [] w') (fun k=>n - k) 0 (bI Z eC) (⟨⟨by omega,fun j c hj=>by omega⟩,M0⟩) ?_))))))))))))
 rintro k ρ1 w1 ⟨⟨hk,hne⟩,hM1⟩
 refine aE (aE (aA (aT Z Z (dJ Z Z (wq (bW underlying29 Z) Z (cV Z Z Z Z (aB (aC ?_))))))))
 refine aW Z (fun h9 => ?_) (fun h9 => ?_)
 ·obtain ⟨xb,hxb⟩:=cG (k:=k) hlen (by omega)
  refine aM (aC (aE (aS (aE (aA (dJ Z Z (aT Z Z (wq (bG (k) dU Z Z Z ((R.mem hM1).below_len (aG aF hxb)) ((R.mem hM1).someK (aG aF hxb))) Z (wq (aU 0 dZ (R.mem hM1) (jD ((R.mem hM1).below_len (aG aF hxb))) Z) Z (wq (dR (o:=0) (.int _ _) bZ (R.mem hM1) (aG aF hxb) Z Z) Z (aT Z Z (cV Z Z Z Z (aB (aC ?_))))))))))))))
  refine aW Z (fun h18 => ?_) (fun h18 => ?_)
  ·refine aE (aA (aT Z Z (bL Z Z (aB (aC (aR (lP (cK (sY (lP (cK (cF (.int _ _) Z ?_))))))))))))
   exact ⟨iE (aAk hxb h18 hne).symm,hM1.below⟩
  ·refine aM (cS (aC (aA (aT Z Z (wq (bE Z Z (by omega) (by omega)) Z (bL Z Z (aB ?_)))))))
   refine bU (k+1) (bI Z eC) (bX Z (bX Z gR)) ?_ ?_
   ·exact ⟨⟨by omega,rU hne hxb h18⟩,hM1⟩
   ·omega
 ·refine cM (cZ (dF (eL (aC (aE (aA (bL Z Z (aB (aC (aR (cF (.int _ _) Z ?_)))))))))))
  have hkn:k=n:=by omega
  exact ⟨iE (aLo (fun j b hj=>hne j b (by have:=(List.getElem?_eq_some_iff.1 hj).1;omega) hj)).symm,hM1.below⟩
theorem aWk (w:World) (A:Option Addr) (n c:Nat) (xs:List Body) (R:Rd w 10 A n (xs.map aF)) (B:Option Addr) (m c':Nat) (ys:List Body) (R':Rd w 10 B m (ys.map aF)) :
  Calls prog 37 #[.slice A n c,.slice B m c'] w (Rb w (.bool (decide (xs=ys)))):=by
 have hlen:xs.length=n:=by simpa using R.len
 have hbd:=R.bound
 have hlen':ys.length=m:=by simpa using R'.len
 have hbd':=R'.bound
 refine aI #[.tmp 4] 26 func37 Z results37 ntmps37 Z ?_
 have M0:=Mem.refl w
 refine aE (aA (wq (aJ (.bool false) Z) Z (aB (aC (aE (aE (aA (dJ Z Z (wq (bW underlying29 Z) Z (dJ Z Z (wq (bW underlying29 Z) Z (cV Z Z Z Z (aB (aC ?_))))))))))))))
 refine aW Z (fun h10 => ?_) (fun h10 => ?_)
 ·refine aE (aA (wq (aJ (.bool false) Z) Z (aB (aC (aR (cK (cF (.bool false) Z ?_)))))))
  exact ⟨bF (fun e=>h10 (by rw [← hlen,← hlen',e])),M0.below⟩
 ·have hnm:n=m:=by omega
  refine aM (aC (aE (aE (aA (bL Z Z (aB (aC (aS (dK (σ:=Nat) [0,1] (fun k=>[(5,.int .i64 (k:Int))]) (fun k w'=>(k≤n∧∀ (j:Nat) (x:Body),j < k→xs[j]? = some x→ys[j]? = some x)∧Mem w [] [] w') (fun k=>n - k) 0 (bI Z eC) (⟨⟨by omega,fun j c hj=>by omega⟩,M0⟩) ?_)))))))))
  rintro k ρ1 w1 ⟨⟨hk,hne⟩,hM1⟩
  refine aE (aE (aA (aT Z Z (dJ Z Z (wq (bW underlying29 Z) Z (cV Z Z Z Z (aB (aC ?_))))))))
  refine aW Z (fun h14 => ?_) (fun h14 => ?_)
  ·obtain ⟨xb,hxb⟩:=cG (k:=k) hlen (by omega)
   obtain ⟨yb,hyb⟩:=cG (k:=k) hlen' (by omega)
   refine aM (aC (aE (aS (aE (kY [(0,0),(1,0),(2,1),(3,1),(4,0),(5,0),(6,1),(7,1),(8,0)] mixed Z (by kernel_rfl) (fun w2 hb2 hh2 => ?_))))))
   have M2:=hM1.drew hb2 hh2
   refine kB Z Z Z (eG Z Z Z (bQ Z Z Z (bG (k) dU Z Z Z ((R.mem M2).below_len (aG aF hxb)) ((R.mem M2).someK (aG aF hxb))) (bQ Z Z Z (dQ _ bR (R.mem M2) (aG aF hxb) Z) (kB Z Z Z (eG Z Z Z (bQ Z Z Z (bG (k) dU Z Z Z ((R'.mem M2).below_len (aG aF hyb)) ((R'.mem M2).someK (aG aF hyb))) (bQ Z Z Z (dQ _ bR (R'.mem M2) (aG aF hyb) Z) (aX Z Z Z (fun _=>bJh (bGz xb yb) Z Z) (bS (aC ?_))))))))))
   refine aW Z (fun h25 => ?_) (fun h25 => ?_)
   ·refine aE (aA (wq (aJ (.bool false) Z) Z (aB (aC (aR (lP (cK (sY (lP (cK (cF (.bool false) Z ?_)))))))))))
    exact ⟨bF (fun e=>h25 (by rw [e] at hxb;rw [hxb] at hyb;injection hyb)),M2.below⟩
   ·refine aM (cS (aC (aA (aT Z Z (wq (bE Z Z (by omega) (by omega)) Z (bL Z Z (aB ?_)))))))
    refine bU (k+1) (bI Z eC) (bX Z (bX Z gR)) ?_ ?_
    ·exact ⟨⟨by omega,rU (p:=fun j x=>ys[j]? = some x) hne hxb (by rw [hyb,Decidable.not_not.1 h25])⟩,M2⟩
    ·omega
  ·refine cM (cZ (dF (eL (aC (aE (aA (wq (aJ (.bool true) Z) Z (aB (aC (aR (cF (.bool true) Z ?_)))))))))))
   exact ⟨bT (List.ext_getElem? fun j=>by
   by_cases hj:j < xs.length
   ·obtain ⟨x,hx⟩:=cG (k:=j) rfl hj
    rw [hx,hne j x (by omega) hx]
   ·rw [List.getElem?_eq_none (by omega),List.getElem?_eq_none (by omega)]),hM1.below⟩
theorem xR (w:World) (b:Body) (gone:Bool) (A:Option Addr) (n c:Nat) (xs:List Body) (R:Rd w 10 A n (xs.map aF)) (hn:n≤1048576) :
  Calls prog 126 #[.slice A n c,(.agg (aF b).toArray),.bool gone] w (gY (fun v w'=>∃ A' n' c' e,v=.slice A' n' c'∧bA 39 10 A' n' c' ((zQ xs b gone).map aF) e∧Mem w [] [e] w')):=by
 have hlen:xs.length=n:=by simpa using R.len
 have hbd:=R.bound
 refine aI #[.tmp 6] 55 func126 Z results126 ntmps126 Z ?_
 have M0:=Mem.refl w
 refine aE (aA (bO (.agg (.mk _)) M0 Z Z Z (fun b1 w1 M1=>(eI Z Z (aB (aC (aE (aA (eI Z Z ?_)))))))))
 have M2:=M1.dummy default
 refine aB (aC (aE (aA (wq (aH (.bool _) Z) Z (wq (aJ (.bool _) Z) Z (aB (aC (aE (aE (aA (bL Z Z (aB (aC (aS (dK (σ:=Nat × List Body × Bool × Row) [0,4,6] (fun (k,acc,done,r)=>[(7,.slice r.A r.n r.c),(8,.bool done),(9,.int .i64 (k:Int))]) (fun (k,acc,done,r) w'=>(k≤n∧lC b gone (xs.take k)=(acc,done)∧bA 39 10 r.A r.n r.c (acc.map aF) r.e)∧Mem w [] [(some b1,bc (aF b) 39),r.e] w') (fun (k,acc,done,r)=>n - k) (0,[],gone,⟨none,0,0,(none,default)⟩) (bI Z (bI Z (bI Z eC))) (⟨⟨by omega,Z,bA.nil _ _ _⟩,M2⟩) ?_)))))))))))))))
 rintro ⟨k,acc,done,r⟩ ρ3 w3 ⟨⟨hk,heq,hr⟩,hM3⟩
 have hra:acc.length=r.n:=by simpa using hr.1
 have hrl:acc.length≤k+1:=by have h:=aWf b gone xs k;rw [heq] at h;exact h
 refine aE (aE (aA (aT Z Z (dJ Z Z (wq (bW underlying29 Z) Z (cV Z Z Z Z (aB (aC ?_))))))))
 refine aW Z (fun h14 => ?_) (fun h14 => ?_)
 ·obtain ⟨xb,hxb⟩:=cG (k:=k) hlen (by omega)
  refine aM (aC (aE (aS (aE (aE (kY [(0,0),(1,0),(2,0),(3,0),(4,0),(5,1),(6,1),(7,1),(8,0),(9,1),(10,0),(11,0)] mixed Z (by kernel_rfl) (fun w4 hb4 hh4 => ?_)))))))
  have M4:=hM3.drew hb4 hh4
  refine aX Z Z Z (fun _=>aH (.bool _) Z) (aX Z Z Z (fun _=>fB _ Z Z) (aX Z Z Z (fun _=>aH (.bool _) Z) ?_))
  refine aXq 19 _ Z (fun g19 => ?_) (fun g19 => ?_)
  ·have hd:done=false:=by simpa using g19
   refine kB Z Z Z (eG Z Z Z (bQ Z Z Z (bG (k) dU Z Z Z ((R.mem M4).below_len (aG aF hxb)) ((R.mem M4).someK (aG aF hxb))) (bQ Z Z Z (aU 0 dZ (R.mem M4) (jD ((R.mem M4).below_len (aG aF hxb))) Z) (bQ Z Z Z (dR (o:=0) (.int _ _) bZ (R.mem M4) (aG aF hxb) Z Z) (aX Z Z Z (fun _=>aD 0 dZ Z) (bQ Z Z Z (aK 0 (.int _ _) bZ M4 Z Z Z) (aX Z Z Z (fun _=>cH (.bool (decide _)) Z Z Z) (aX Z Z Z (fun _=>bM true (.bool (decide _)) Z Z) ?_))))))))
   refine bS (aC ?_)
   refine aW Z (fun h28 => ?_) (fun h28 => ?_)
   ·refine aE (aA (wq (aJ (.bool true) rfl) rfl (aB (aC (aA (dJ rfl rfl (wq (aV 0 bR M4 rfl rfl rfl) rfl (bV [.agg (List.toArray _)] _ rfl dU M4 rfl rfl rfl rfl (cO rfl) (by decide) (fun b5 w5 M5=>(cP 1 [aF b] dU M5 rfl rfl rfl rfl rfl hr rfl (by simpa using ⟨jJ b,jK b⟩) (dN.ofMem 2 M5 rfl) (by omega) (fun A6 c6 e6 w6 M6 hR6=>(eI rfl rfl (aB (aC (aE (gJ [(0,0),(1,0),(2,1),(3,1),(4,1),(5,0),(6,1),(7,0)] mixed M6 rfl (by kernel_rfl) (fun w7 M7=>(kB rfl rfl rfl (eG rfl rfl rfl (bQ rfl rfl rfl (bG (k) dU rfl rfl rfl ((R.mem M7).below_len (aG aF hxb)) ((R.mem M7).someK (aG aF hxb))) ?_))))))))))))))))))))
    refine bQ Z Z Z (aU 0 dZ (R.mem M7) (jD ((R.mem M7).below_len (aG aF hxb))) Z) (bQ Z Z Z (dR (o:=0) (.int _ _) bZ (R.mem M7) (aG aF hxb) Z Z) (aX Z Z Z (fun _=>aD 0 dZ Z) (bQ Z Z Z (aK 0 (.int _ _) bZ M7 Z Z Z) (aX Z Z Z (fun _=>cH (.bool (decide _)) Z Z Z) (bS (aC ?_))))))
    refine aW Z (fun h40 => ?_) (fun h40 => ?_)
    ·refine aA (dJ rfl rfl (dJ rfl rfl (aT rfl rfl (wq (bG (k) dU rfl rfl rfl ((R.mem M7).below_len (aG aF hxb)) ((R.mem M7).someK (aG aF hxb))) rfl (wq (dQ _ bR (R.mem M7) (aG aF hxb) rfl) rfl (bV [.agg (List.toArray _)] _ rfl dU M7 rfl rfl rfl rfl (cO rfl) (by decide) (fun b8 w8 M8=>(cP 1 [aF xb] dU M8 rfl rfl rfl rfl rfl hR6 rfl (by simpa using ⟨jJ xb,jK xb⟩) (dN.ofMem 3 M8 rfl) (by omega) (fun A9 c9 e9 w9 M9 hR9=>(eI rfl rfl (aB (cS (aC (aA (aT rfl rfl (wq (bE rfl rfl (by omega) (by omega)) rfl ?_))))))))))))))))
     refine bL Z Z (aB ?_)
     refine bU (k+1,(lC b gone (xs.take (k+1))).1,(lC b gone (xs.take (k+1))).2,⟨A9,r.n+1+1,c9,e9⟩) (bI rfl (bI (bv rfl (by rw [iF b gone hxb,heq];simp [gP, *])) (bI rfl eC))) (bX rfl (bX rfl (bX rfl gR))) ?_ ?_
     ·exact ⟨⟨by omega,rfl,by rw [iF b gone hxb,heq];simpa [gP, *] using hR9⟩,M9.keep [true,true,false,false]⟩
     ·(show n - (k+1) < n - k;omega)
    ·refine aM (cS (aC (aA (aT Z Z (wq (bE Z Z (by omega) (by omega)) Z (bL Z Z (aB ?_)))))))
     refine bU (k+1,(lC b gone (xs.take (k+1))).1,(lC b gone (xs.take (k+1))).2,⟨A6,r.n+1,c6,e6⟩) (bI rfl (bI (bv rfl (by rw [iF b gone hxb,heq];simp [gP, *])) (bI rfl eC))) (bX rfl (bX rfl (bX rfl gR))) ?_ ?_
     ·exact ⟨⟨by omega,rfl,by rw [iF b gone hxb,heq];simpa [gP, *] using hR6⟩,M7.keep [true,true,false]⟩
     ·(show n - (k+1) < n - k;omega)
   ·refine aM (aC (aE (gJ [(0,0),(1,0),(2,1),(3,1),(4,1),(5,0),(6,1),(7,0)] mixed M4 Z (by kernel_rfl) (fun w10 M10=>(kB Z Z Z (eG Z Z Z (bQ Z Z Z (bG (k) dU Z Z Z ((R.mem M10).below_len (aG aF hxb)) ((R.mem M10).someK (aG aF hxb))) (bQ Z Z Z (aU 0 dZ (R.mem M10) (jD ((R.mem M10).below_len (aG aF hxb))) Z) (bQ Z Z Z (dR (o:=0) (.int _ _) bZ (R.mem M10) (aG aF hxb) Z Z) (aX Z Z Z (fun _=>aD 0 dZ Z) (bQ Z Z Z (aK 0 (.int _ _) bZ M10 Z Z Z) ?_)))))))))))
    refine aX Z Z Z (fun _=>cH (.bool (decide _)) Z Z Z) (bS (aC ?_))
    refine aW Z (fun h40 => ?_) (fun h40 => ?_)
    ·refine aA (dJ rfl rfl (dJ rfl rfl (aT rfl rfl (wq (bG (k) dU rfl rfl rfl ((R.mem M10).below_len (aG aF hxb)) ((R.mem M10).someK (aG aF hxb))) rfl (wq (dQ _ bR (R.mem M10) (aG aF hxb) rfl) rfl (bV [.agg (List.toArray _)] _ rfl dU M10 rfl rfl rfl rfl (cO rfl) (by decide) (fun b11 w11 M11=>(cP 1 [aF xb] dU M11 rfl rfl rfl rfl rfl hr rfl (by simpa using ⟨jJ xb,jK xb⟩) (dN.ofMem 2 M11 rfl) (by omega) (fun A12 c12 e12 w12 M12 hR12=>(eI rfl rfl (aB (cS (aC (aA (aT rfl rfl (wq (bE rfl rfl (by omega) (by omega)) rfl ?_))))))))))))))))
     refine bL Z Z (aB ?_)
     refine bU (k+1,(lC b gone (xs.take (k+1))).1,(lC b gone (xs.take (k+1))).2,⟨A12,r.n+1,c12,e12⟩) (bI rfl (bI (bv rfl (by rw [iF b gone hxb,heq];simp [gP, *])) (bI rfl eC))) (bX rfl (bX rfl (bX rfl gR))) ?_ ?_
     ·exact ⟨⟨by omega,rfl,by rw [iF b gone hxb,heq];simpa [gP, *] using hR12⟩,M12.keep [true,true,false]⟩
     ·(show n - (k+1) < n - k;omega)
    ·refine aM (cS (aC (aA (aT Z Z (wq (bE Z Z (by omega) (by omega)) Z (bL Z Z (aB ?_)))))))
     refine bU (k+1,(lC b gone (xs.take (k+1))).1,(lC b gone (xs.take (k+1))).2,r) (bI rfl (bI (bv rfl (by rw [iF b gone hxb,heq];simp [gP, *])) (bI rfl eC))) (bX rfl (bX rfl (bX rfl gR))) ?_ ?_
     ·exact ⟨⟨by omega,rfl,by rw [iF b gone hxb,heq];simpa [gP, *] using hr⟩,M10.keep [true,true]⟩
     ·(show n - (k+1) < n - k;omega)
  ·have hd:done=true:=by simpa using g19
   refine yY Z Z Z (yY Z Z Z (qY Z Z Z (qY Z Z Z (qY Z Z Z (yY Z Z Z (qY Z Z Z (yY Z Z Z (aX Z Z Z (fun _=>bM false (.bool false) Z Z) (bS (aC (cB Z (aM (aC (aE (gJ [(0,0),(1,0),(2,1),(3,1),(4,1),(5,0),(6,1),(7,0)] mixed M4 Z (by kernel_rfl) (fun w13 M13=>(kB Z Z Z (eG Z Z Z ?_))))))))))))))))))
   refine bQ Z Z Z (bG (k) dU Z Z Z ((R.mem M13).below_len (aG aF hxb)) ((R.mem M13).someK (aG aF hxb))) (bQ Z Z Z (aU 0 dZ (R.mem M13) (jD ((R.mem M13).below_len (aG aF hxb))) Z) (bQ Z Z Z (dR (o:=0) (.int _ _) bZ (R.mem M13) (aG aF hxb) Z Z) (aX Z Z Z (fun _=>aD 0 dZ Z) (bQ Z Z Z (aK 0 (.int _ _) bZ M13 Z Z Z) (aX Z Z Z (fun _=>cH (.bool (decide _)) Z Z Z) (bS (aC ?_)))))))
   refine aW Z (fun h40 => ?_) (fun h40 => ?_)
   ·refine aA (dJ rfl rfl (dJ rfl rfl (aT rfl rfl (wq (bG (k) dU rfl rfl rfl ((R.mem M13).below_len (aG aF hxb)) ((R.mem M13).someK (aG aF hxb))) rfl (wq (dQ _ bR (R.mem M13) (aG aF hxb) rfl) rfl (bV [.agg (List.toArray _)] _ rfl dU M13 rfl rfl rfl rfl (cO rfl) (by decide) (fun b14 w14 M14=>(cP 1 [aF xb] dU M14 rfl rfl rfl rfl rfl hr rfl (by simpa using ⟨jJ xb,jK xb⟩) (dN.ofMem 2 M14 rfl) (by omega) (fun A15 c15 e15 w15 M15 hR15=>(eI rfl rfl (aB (cS (aC (aA (aT rfl rfl (wq (bE rfl rfl (by omega) (by omega)) rfl ?_))))))))))))))))
    refine bL Z Z (aB ?_)
    refine bU (k+1,(lC b gone (xs.take (k+1))).1,(lC b gone (xs.take (k+1))).2,⟨A15,r.n+1,c15,e15⟩) (bI rfl (bI (bv rfl (by rw [iF b gone hxb,heq];simp [gP, *])) (bI rfl eC))) (bX rfl (bX rfl (bX rfl gR))) ?_ ?_
    ·exact ⟨⟨by omega,rfl,by rw [iF b gone hxb,heq];simpa [gP, *] using hR15⟩,M15.keep [true,true,false]⟩
    ·(show n - (k+1) < n - k;omega)
   ·refine aM (cS (aC (aA (aT Z Z (wq (bE Z Z (by omega) (by omega)) Z (bL Z Z (aB ?_)))))))
    refine bU (k+1,(lC b gone (xs.take (k+1))).1,(lC b gone (xs.take (k+1))).2,r) (bI rfl (bI (bv rfl (by rw [iF b gone hxb,heq];simp [gP, *])) (bI rfl eC))) (bX rfl (bX rfl (bX rfl gR))) ?_ ?_
    ·exact ⟨⟨by omega,rfl,by rw [iF b gone hxb,heq];simpa [gP, *] using hr⟩,M13.keep [true,true]⟩
    ·(show n - (k+1) < n - k;omega)
 ·have hkn:k=n:=by omega
  subst hkn
  rw [List.take_of_length_le (by omega)] at heq
  refine cM (cZ (dF (eL (aC (aE (aE (aA (wq (aH (.bool _) Z) Z (wq (fB _ Z Z) Z (aB (aC ?_)))))))))))
  refine iN _ Z (fun h49 => ?_) (fun h49 => ?_)
  ·have hd:done=false:=by simpa using h49
   refine aA (dJ rfl rfl (wq (aV 0 bR hM3 rfl rfl rfl) rfl (bV [.agg (List.toArray _)] _ rfl dU hM3 rfl rfl rfl rfl (cO rfl) (by decide) (fun b16 w16 M16=>(cP 1 [aF b] dU M16 rfl rfl rfl rfl rfl hr rfl (by simpa using ⟨jJ b,jK b⟩) (dN.ofMem 2 M16 rfl) (by omega) (fun A17 c17 e17 w17 M17 hR17=>(eI rfl rfl (aB (aC (aE (aA (dJ rfl rfl (eI rfl rfl (aB (aC (aR (cF (.slice _ _ _) rfl ?_)))))))))))))))))
   exact ⟨_,_,_,_,rfl,by unfold zQ;rw [heq];simpa [*] using hR17,M17.keep [false,true,false]⟩
  ·have hd:done=true:=by simpa using h49
   refine aM (aC (aE (aA (dJ Z Z (eI Z Z (aB (aC (aR (cF (.slice _ _ _) Z ?_)))))))))
   exact ⟨_,_,_,_,rfl,by unfold zQ;rw [heq];simpa [*] using hr,hM3.keep [false,true]⟩
theorem vJ (w:World) (x y l:Int) (h0:0≤l) (h1:l≤2147483647) :
  Calls prog 139 #[.agg [.int .i32 x,.int .i32 y].toArray,.int .i32 l] w (Rb w (.bool (decide (-l≤x∧x≤l ∧ -l≤y∧y≤l)))):=by
 have hneg:IntKind.i32.wrap (-l) = -l:=kM _ (by omega) (by omega)
 refine aI #[.tmp 4] 29 func139 Z results139 ntmps139 Z ?_
 have M0:=Mem.refl w
 refine aE (aA (bO (.agg (.mk _)) M0 Z Z Z (fun b1 w1 M1=>(wq (aJ (.bool false) Z) Z (aB (aC (aE (aA (aT Z Z (wq (tX Z) Z (aL 6 (.int .i32 (-l)) (iE hneg) (wq (aD 0 cY Z) Z (wq (aK 0 (.int _ _) bB M1 Z Z Z) Z (cV Z Z Z Z (wq (aH (.bool (decide _)) Z) Z ?_)))))))))))))))
 refine dT 10 Z (fun g10 => ?_) (fun g10 => ?_)
 ·refine wq (aD 0 cY Z) Z (wq (aK 0 (.int _ _) bB M1 Z Z Z) Z (aT Z Z (cV Z Z Z Z (wq (bM true (.bool (decide _)) Z Z) Z (wq (aH (.bool (decide _)) Z) Z ?_)))))
  refine dT 16 Z (fun g16 => ?_) (fun g16 => ?_)
  ·refine aT Z Z (wq (tX Z) Z (aL 18 (.int .i32 (-l)) (iE hneg) (wq (aD 1 cW Z) Z (wq (aK 0 (.int _ _) bB M1 Z Z Z) Z (cV Z Z Z Z (wq (bM true (.bool (decide _)) Z Z) Z (wq (aH (.bool (decide _)) Z) Z ?_)))))))
   refine dT 23 Z (fun g23 => ?_) (fun g23 => ?_)
   ·refine wq (aD 1 cW Z) Z (wq (aK 0 (.int _ _) bB M1 Z Z Z) Z (aT Z Z (cV Z Z Z Z (wq (bM true (.bool (decide _)) Z Z) Z (wq (aJ (.bool (decide _)) Z) Z (aB (aC (aR (cF (.bool (decide _)) Z ?_)))))))))
    exact ⟨by first | exact bF (by omega) | exact bT (by omega) | exact bD (by omega),M1.below⟩
   ·refine aQ Z Z (aQ Z Z (aQ Z Z (aQ Z Z (wq (bM false (.bool false) Z Z) Z (wq (aJ (.bool false) Z) Z (aB (aC (aR (cF (.bool false) Z ?_)))))))))
    exact ⟨by first | exact bF (by omega) | exact bT (by omega) | exact bD (by omega),M1.below⟩
  ·refine aQ Z Z (aQ Z Z (aQ Z Z (aQ Z Z (aQ Z Z (wq (bM false (.bool false) Z Z) Z (wq (aH (.bool false) Z) Z (aQ Z Z (aQ Z Z (aQ Z Z (aQ Z Z (wq (bM false (.bool false) Z Z) Z (wq (aJ (.bool false) Z) Z (aB (aC (aR (cF (.bool false) Z ?_))))))))))))))))
   exact ⟨by first | exact bF (by omega) | exact bT (by omega) | exact bD (by omega),M1.below⟩
 ·refine aQ Z Z (aQ Z Z (aQ Z Z (aQ Z Z (wq (bM false (.bool false) Z Z) Z (wq (aH (.bool false) Z) Z (aQ Z Z (aQ Z Z (aQ Z Z (aQ Z Z (aQ Z Z (wq (bM false (.bool false) Z Z) Z (wq (aH (.bool false) Z) Z (aQ Z Z (aQ Z Z (aQ Z Z ?_)))))))))))))))
  refine aQ Z Z (wq (bM false (.bool false) Z Z) Z (wq (aJ (.bool false) Z) Z (aB (aC (aR (cF (.bool false) Z ?_))))))
  exact ⟨by first | exact bF (by omega) | exact bT (by omega) | exact bD (by omega),M1.below⟩
theorem aQc (w:World) (b:Body) (p:Nat) (R:Rd w 10 (some ⟨p,0,none⟩) 1 [aF b]) :
  Calls prog 137 #[.pointer (some ⟨p,0,none⟩)] w (Rb w (.bool (decide (4096≤b.radius∧b.radius≤4194304)))):=by
 rw [← iP p]
 refine aI #[.tmp 1] 10 func137 Z results137 ntmps137 Z ?_
 have M0:=Mem.refl w
 refine aE (aA (wq (aJ (.bool false) Z) Z (aB (aC (aE (aA (wq (aU 1 mU R (jD (R.below_len (show [aF b][0]? = some (aF b) from Z))) Z) Z (wq (dR (o:=1) (.int _ _) bB R (show [aF b][0]? = some (aF b) from Z) Z Z) Z (cV Z Z Z Z (wq (aH (.bool (decide _)) Z) Z ?_))))))))))
 refine dT 5 Z (fun g5 => ?_) (fun g5 => ?_)
 ·refine wq (aU 1 mU R (jD (R.below_len (show [aF b][0]? = some (aF b) from Z))) Z) Z (wq (dR (o:=1) (.int _ _) bB R (show [aF b][0]? = some (aF b) from Z) Z Z) Z (cV Z Z Z Z (wq (bM true (.bool (decide _)) Z Z) Z (wq (aJ (.bool (decide _)) Z) Z (aB (aC (aR (cF (.bool (decide _)) Z ?_))))))))
  exact ⟨by first | exact bF (by omega) | exact bT (by omega) | exact bD (by omega),M0.below⟩
 ·refine aQ Z Z (aQ Z Z (aQ Z Z (wq (bM false (.bool false) Z Z) Z (wq (aJ (.bool false) Z) Z (aB (aC (aR (cF (.bool false) Z ?_))))))))
  exact ⟨by first | exact bF (by omega) | exact bT (by omega) | exact bD (by omega),M0.below⟩
theorem aQd (w:World) (b:Body) (p:Nat) (R:Rd w 10 (some ⟨p,0,none⟩) 1 [aF b]) :
  Calls prog 138 #[.pointer (some ⟨p,0,none⟩)] w (Rb w (.bool (decide (-4194304≤b.ax∧b.ax≤4194304 ∧ -4194304≤b.ay∧b.ay≤4194304)))):=by
 rw [← iP p]
 refine aI #[.tmp 1] 5 func138 Z results138 ntmps138 Z ?_
 have M0:=Mem.refl w
 refine aE (aA (wq (aJ (.bool false) Z) Z (aB (aC (aE (aA (wq (aU 2 kE R (jD (R.below_len (show [aF b][0]? = some (aF b) from Z))) Z) Z (wq (lS (o:=2) _ bP R (show [aF b][0]? = some (aF b) from Z) Z Z Z) Z (dM aUj Z Z M0 (vJ _ _ _ _ (by omega) (by omega)) (fun w1 M1=>(wq (aJ (.bool (decide _)) Z) Z (aB (aC (aR (cF (.bool (decide _)) Z ?_)))))))))))))))
 exact ⟨by first | exact bF (by omega) | exact bT (by omega) | exact bD (by omega),M1.below⟩
theorem aQe (w:World) (b:Body) (p:Nat) (R:Rd w 10 (some ⟨p,0,none⟩) 1 [aF b]) :
  Calls prog 140 #[.pointer (some ⟨p,0,none⟩)] w (Rb w (.bool (decide (0≤b.mass∧b.mass≤1048576)))):=by
 rw [← iP p]
 refine aI #[.tmp 1] 10 func140 Z results140 ntmps140 Z ?_
 have M0:=Mem.refl w
 refine aE (aA (wq (aJ (.bool false) Z) Z (aB (aC (aE (aA (wq (aU 4 eS R (jD (R.below_len (show [aF b][0]? = some (aF b) from Z))) Z) Z (wq (dR (o:=4) (.int _ _) bB R (show [aF b][0]? = some (aF b) from Z) Z Z) Z (cV Z Z Z Z (wq (aH (.bool (decide _)) Z) Z ?_))))))))))
 refine dT 5 Z (fun g5 => ?_) (fun g5 => ?_)
 ·refine wq (aU 4 eS R (jD (R.below_len (show [aF b][0]? = some (aF b) from Z))) Z) Z (wq (dR (o:=4) (.int _ _) bB R (show [aF b][0]? = some (aF b) from Z) Z Z) Z (cV Z Z Z Z (wq (bM true (.bool (decide _)) Z Z) Z (wq (aJ (.bool (decide _)) Z) Z (aB (aC (aR (cF (.bool (decide _)) Z ?_))))))))
  exact ⟨by first | exact bF (by omega) | exact bT (by omega) | exact bD (by omega),M0.below⟩
 ·refine aQ Z Z (aQ Z Z (aQ Z Z (wq (bM false (.bool false) Z Z) Z (wq (aJ (.bool false) Z) Z (aB (aC (aR (cF (.bool false) Z ?_))))))))
  exact ⟨by first | exact bF (by omega) | exact bT (by omega) | exact bD (by omega),M0.below⟩
theorem aQf (w:World) (b:Body) (p:Nat) (R:Rd w 10 (some ⟨p,0,none⟩) 1 [aF b]) :
  Calls prog 141 #[.pointer (some ⟨p,0,none⟩)] w (Rb w (.bool (decide (0≤b.bounce∧b.bounce≤65536)))):=by
 rw [← iP p]
 refine aI #[.tmp 1] 10 func141 Z results141 ntmps141 Z ?_
 have M0:=Mem.refl w
 refine aE (aA (wq (aJ (.bool false) Z) Z (aB (aC (aE (aA (wq (aU 5 pG R (jD (R.below_len (show [aF b][0]? = some (aF b) from Z))) Z) Z (wq (dR (o:=5) (.int _ _) bB R (show [aF b][0]? = some (aF b) from Z) Z Z) Z (cV Z Z Z Z (wq (aH (.bool (decide _)) Z) Z ?_))))))))))
 refine dT 5 Z (fun g5 => ?_) (fun g5 => ?_)
 ·refine wq (aU 5 pG R (jD (R.below_len (show [aF b][0]? = some (aF b) from Z))) Z) Z (wq (dR (o:=5) (.int _ _) bB R (show [aF b][0]? = some (aF b) from Z) Z Z) Z (cV Z Z Z Z (wq (bM true (.bool (decide _)) Z Z) Z (wq (aJ (.bool (decide _)) Z) Z (aB (aC (aR (cF (.bool (decide _)) Z ?_))))))))
  exact ⟨by first | exact bF (by omega) | exact bT (by omega) | exact bD (by omega),M0.below⟩
 ·refine aQ Z Z (aQ Z Z (aQ Z Z (wq (bM false (.bool false) Z Z) Z (wq (aJ (.bool false) Z) Z (aB (aC (aR (cF (.bool false) Z ?_))))))))
  exact ⟨by first | exact bF (by omega) | exact bT (by omega) | exact bD (by omega),M0.below⟩
theorem aQg (w:World) (b:Body) (p:Nat) (R:Rd w 10 (some ⟨p,0,none⟩) 1 [aF b]) :
  Calls prog 142 #[.pointer (some ⟨p,0,none⟩)] w (Rb w (.bool (decide (-1073741824≤b.px∧b.px≤1073741824 ∧ -1073741824≤b.py∧b.py≤1073741824)))):=by
 rw [← iP p]
 refine aI #[.tmp 1] 5 func142 Z results142 ntmps142 Z ?_
 have M0:=Mem.refl w
 refine aE (aA (wq (aJ (.bool false) Z) Z (aB (aC (aE (aA (wq (aU 6 fZ R (jD (R.below_len (show [aF b][0]? = some (aF b) from Z))) Z) Z (wq (lS (o:=6) _ bP R (show [aF b][0]? = some (aF b) from Z) Z Z Z) Z (dM aUj Z Z M0 (vJ _ _ _ _ (by omega) (by omega)) (fun w1 M1=>(wq (aJ (.bool (decide _)) Z) Z (aB (aC (aR (cF (.bool (decide _)) Z ?_)))))))))))))))
 exact ⟨by first | exact bF (by omega) | exact bT (by omega) | exact bD (by omega),M1.below⟩
theorem aQh (w:World) (b:Body) (p:Nat) (R:Rd w 10 (some ⟨p,0,none⟩) 1 [aF b]) :
  Calls prog 143 #[.pointer (some ⟨p,0,none⟩)] w (Rb w (.bool (decide (-16777216≤b.vx∧b.vx≤16777216 ∧ -16777216≤b.vy∧b.vy≤16777216)))):=by
 rw [← iP p]
 refine aI #[.tmp 1] 5 func143 Z results143 ntmps143 Z ?_
 have M0:=Mem.refl w
 refine aE (aA (wq (aJ (.bool false) Z) Z (aB (aC (aE (aA (wq (aU 8 eH R (jD (R.below_len (show [aF b][0]? = some (aF b) from Z))) Z) Z (wq (lS (o:=8) _ bP R (show [aF b][0]? = some (aF b) from Z) Z Z Z) Z (dM aUj Z Z M0 (vJ _ _ _ _ (by omega) (by omega)) (fun w1 M1=>(wq (aJ (.bool (decide _)) Z) Z (aB (aC (aR (cF (.bool (decide _)) Z ?_)))))))))))))))
 exact ⟨by first | exact bF (by omega) | exact bT (by omega) | exact bD (by omega),M1.below⟩
theorem zB (w:World) (b:Body) :
  Calls prog 102 #[(.agg (aF b).toArray)] w (Rb w (.int .i64 (check b))):=by
 refine aI #[.tmp 2] 28 func102 Z results102 ntmps102 Z ?_
 have M0:=Mem.refl w
 refine aE (aA (bO (.agg (.mk _)) M0 Z Z Z (fun b1 w1 M1=>(bL Z Z (aB (aC (aE (aE (aA (wq (eB [] [.pointer _] Z Z) Z (wq (cI [(0,.func _ _ _),(1,.int _ _)] _ qU Z Z) Z (wq (eB [] [.pointer _] Z Z) Z (wq (cI [(0,.func _ _ _),(1,.int _ _)] _ qU Z Z) Z (wq (eB [] [.pointer _] Z Z) Z (wq (cI [(0,.func _ _ _),(1,.int _ _)] _ qU Z Z) Z (wq (eB [] [.pointer _] Z Z) Z (wq (cI [(0,.func _ _ _),(1,.int _ _)] _ qU Z Z) Z (wq (eB [] [.pointer _] Z Z) Z ?_))))))))))))))))))
 refine wq (cI [(0,.func _ _ _),(1,.int _ _)] _ qU Z Z) Z (wq (eB [] [.pointer _] Z Z) Z (wq (cI [(0,.func _ _ _),(1,.int _ _)] _ qU Z Z) Z (wq (wG [.agg (List.toArray _),.agg (List.toArray _),.agg (List.toArray _),.agg (List.toArray _),.agg (List.toArray _),.agg (List.toArray _)] zA bOw Z Z (cO Z)) Z (aT Z Z (aB (aC (aS (kC 7 (gD (aE (aA (cV Z Z Z Z (jU 19 Z (by first | decide | omega) (aB (aC (aE (cE Z (aM (aC (aE (aS (aE (aA ?_)))))))))))))))))))))))
 refine wq (sW 0 _ zA pZ Z Z (by decide) (by decide) Z Z) Z (aO yC M1 Z Z (fun b2 w2 M2=>(bC 1 _ pZ M2 Z Z Z Z Z (aP Z) Z (fun w3 M3=>(aB (aC (aE (aA (wq (aD 0 tL Z) Z (wq (aK 1 (.func _ _ _) aMc M3 Z Z Z) Z (dM bSa Z Z M3 (aQc _ b _ (rS 0 M3 Z Z)) (fun w4 M4=>(wq (pT Z) Z (aB (aC ?_)))))))))))))))
 refine aW Z (fun h24 => ?_) (fun h24 => ?_)
 ·refine aE (aA (wq (aD 1 tM Z) Z (wq (aK 1 (.int _ _) aEi M4 Z Z Z) Z (bL Z Z (aB (aC (aR (lP (cK (cK (lP (cK (cF (.int _ _) Z ?_)))))))))))))
  exact ⟨iE (aYd b (by omega)).symm,M4.below⟩
 ·refine aM (cS (aC (aA (wq (bE Z Z (by first | decide | omega) (by first | decide | omega)) Z (aL 27 (.int .i64 1) (iE (by first | decide | omega)) (aT Z Z (aB (aC (gD (aE (aA (cV Z Z Z Z (jU 19 Z (by first | decide | omega) (aB (aC (aE (cE Z (aM (aC (aE (aS (aE (aA (wq (sW 1 _ zA pZ Z Z (by decide) (by decide) Z Z) Z (aO yC M4 Z Z (fun b5 w5 M5 => ?_))))))))))))))))))))))))))
  refine bC 2 _ pZ M5 Z Z Z Z Z (aP Z) Z (fun w6 M6=>(aB (aC (aE (aA (wq (aD 0 tL Z) Z (wq (aK 2 (.func _ _ _) aMc M6 Z Z Z) Z (dM bSb Z Z M6 (aQd _ b _ (rS 0 M6 Z Z)) (fun w7 M7=>(wq (pT Z) Z (aB (aC ?_))))))))))))
  refine aW Z (fun h24 => ?_) (fun h24 => ?_)
  ·refine aE (aA (wq (aD 1 tM Z) Z (wq (aK 2 (.int _ _) aEi M7 Z Z Z) Z (bL Z Z (aB (aC (aR (lP (cK (cK (lP (cK (cF (.int _ _) Z ?_)))))))))))))
   exact ⟨iE (aYe b (by omega) (by omega)).symm,M7.below⟩
  ·refine aM (cS (aC (aA (wq (bE Z Z (by first | decide | omega) (by first | decide | omega)) Z (aL 27 (.int .i64 2) (iE (by first | decide | omega)) (aT Z Z (aB (aC (gD (aE (aA (cV Z Z Z Z (jU 19 Z (by first | decide | omega) (aB (aC (aE (cE Z (aM (aC (aE (aS (aE (aA (wq (sW 2 _ zA pZ Z Z (by decide) (by decide) Z Z) Z (aO yC M7 Z Z (fun b8 w8 M8 => ?_))))))))))))))))))))))))))
   refine bC 3 _ pZ M8 Z Z Z Z Z (aP Z) Z (fun w9 M9=>(aB (aC (aE (aA (wq (aD 0 tL Z) Z (wq (aK 3 (.func _ _ _) aMc M9 Z Z Z) Z (dM bSc Z Z M9 (aQe _ b _ (rS 0 M9 Z Z)) (fun w10 M10=>(wq (pT Z) Z (aB (aC ?_))))))))))))
   refine aW Z (fun h24 => ?_) (fun h24 => ?_)
   ·refine aE (aA (wq (aD 1 tM Z) Z (wq (aK 3 (.int _ _) aEi M10 Z Z Z) Z (bL Z Z (aB (aC (aR (lP (cK (cK (lP (cK (cF (.int _ _) Z ?_)))))))))))))
    exact ⟨iE (aYf b (by omega) (by omega) (by omega)).symm,M10.below⟩
   ·refine aM (cS (aC (aA (wq (bE Z Z (by first | decide | omega) (by first | decide | omega)) Z (aL 27 (.int .i64 3) (iE (by first | decide | omega)) (aT Z Z (aB (aC (gD (aE (aA (cV Z Z Z Z (jU 19 Z (by first | decide | omega) (aB (aC (aE (cE Z (aM (aC (aE (aS (aE (aA (wq (sW 3 _ zA pZ Z Z (by decide) (by decide) Z Z) Z (aO yC M10 Z Z (fun b11 w11 M11 => ?_))))))))))))))))))))))))))
    refine bC 4 _ pZ M11 Z Z Z Z Z (aP Z) Z (fun w12 M12=>(aB (aC (aE (aA (wq (aD 0 tL Z) Z (wq (aK 4 (.func _ _ _) aMc M12 Z Z Z) Z (dM bSd Z Z M12 (aQf _ b _ (rS 0 M12 Z Z)) (fun w13 M13=>(wq (pT Z) Z (aB (aC ?_))))))))))))
    refine aW Z (fun h24 => ?_) (fun h24 => ?_)
    ·refine aE (aA (wq (aD 1 tM Z) Z (wq (aK 4 (.int _ _) aEi M13 Z Z Z) Z (bL Z Z (aB (aC (aR (lP (cK (cK (lP (cK (cF (.int _ _) Z ?_)))))))))))))
     exact ⟨iE (aYg b (by omega) (by omega) (by omega) (by omega)).symm,M13.below⟩
    ·refine aM (cS (aC (aA (wq (bE Z Z (by first | decide | omega) (by first | decide | omega)) Z (aL 27 (.int .i64 4) (iE (by first | decide | omega)) (aT Z Z (aB (aC (gD (aE (aA (cV Z Z Z Z (jU 19 Z (by first | decide | omega) (aB (aC (aE (cE Z (aM (aC (aE (aS (aE (aA (wq (sW 4 _ zA pZ Z Z (by decide) (by decide) Z Z) Z (aO yC M13 Z Z (fun b14 w14 M14 => ?_))))))))))))))))))))))))))
     refine bC 5 _ pZ M14 Z Z Z Z Z (aP Z) Z (fun w15 M15=>(aB (aC (aE (aA (wq (aD 0 tL Z) Z (wq (aK 5 (.func _ _ _) aMc M15 Z Z Z) Z (dM bSe Z Z M15 (aQg _ b _ (rS 0 M15 Z Z)) (fun w16 M16=>(wq (pT Z) Z (aB (aC ?_))))))))))))
     refine aW Z (fun h24 => ?_) (fun h24 => ?_)
     ·refine aE (aA (wq (aD 1 tM Z) Z (wq (aK 5 (.int _ _) aEi M16 Z Z Z) Z (bL Z Z (aB (aC (aR (lP (cK (cK (lP (cK (cF (.int _ _) Z ?_)))))))))))))
      exact ⟨iE (aYh b (by omega) (by omega) (by omega) (by omega) (by omega)).symm,M16.below⟩
     ·refine aM (cS (aC (aA (wq (bE Z Z (by first | decide | omega) (by first | decide | omega)) Z (aL 27 (.int .i64 5) (iE (by first | decide | omega)) (aT Z Z (aB (aC (gD (aE (aA (cV Z Z Z Z (jU 19 Z (by first | decide | omega) (aB (aC (aE (cE Z (aM (aC (aE (aS (aE (aA (wq (sW 5 _ zA pZ Z Z (by decide) (by decide) Z Z) Z (aO yC M16 Z Z (fun b17 w17 M17 => ?_))))))))))))))))))))))))))
      refine bC 6 _ pZ M17 Z Z Z Z Z (aP Z) Z (fun w18 M18=>(aB (aC (aE (aA (wq (aD 0 tL Z) Z (wq (aK 6 (.func _ _ _) aMc M18 Z Z Z) Z (dM bSf Z Z M18 (aQh _ b _ (rS 0 M18 Z Z)) (fun w19 M19=>(wq (pT Z) Z (aB (aC ?_))))))))))))
      refine aW Z (fun h24 => ?_) (fun h24 => ?_)
      ·refine aE (aA (wq (aD 1 tM Z) Z (wq (aK 6 (.int _ _) aEi M19 Z Z Z) Z (bL Z Z (aB (aC (aR (lP (cK (cK (lP (cK (cF (.int _ _) Z ?_)))))))))))))
       exact ⟨iE (aYi b (by omega) (by omega) (by omega) (by omega) (by omega) (by omega)).symm,M19.below⟩
      ·refine aM (cS (aC (aA (wq (bE Z Z (by first | decide | omega) (by first | decide | omega)) Z (aL 27 (.int .i64 6) (iE (by first | decide | omega)) (aT Z Z (aB (aC (gD (aE (aA (cV Z Z Z Z (nP 19 Z (by first | decide | omega) (aB (aC (aE (cB Z (cM (cZ (cZ (eL ?_)))))))))))))))))))))
       refine aC (aE (aA (bL Z Z (aB (aC (aR (cF (.int _ _) Z ?_)))))))
       exact ⟨iE (bLq b (by omega) (by omega) (by omega) (by omega) (by omega) (by omega)).symm,M19.below⟩
theorem aDy (w:World) (x:Int) :
  Calls prog 151 #[.int .u32 x] w (gY (fun v w'=>v=.bool false∧w'=w)):=by
 refine aI #[.tmp 2] 6 func151 Z results151 ntmps151 Z ?_
 have M0:=Mem.refl w
 refine aE (aA (wq (aJ (.bool false) Z) Z (aB (aC (aE (aA (aT Z Z (aT Z Z (cV Z Z Z Z (wq (aJ (.bool (decide _)) Z) Z (aB (aC (aR (cF (.bool (decide _)) Z ?_))))))))))))))
 exact ⟨(bF (by omega)).symm,Z⟩
theorem pE (w:World) (x y:Int) :
  Calls prog 116 #[.int .u32 x,.int .u32 y] w (gY (fun v w'=>v=.int .i64 (rD x y)∧w'=w)):=by
 refine aI #[.tmp 4] 20 func116 Z results116 ntmps116 Z ?_
 have M0:=Mem.refl w
 refine aE (aA (bL Z Z (aB (aC (aE (aA (aT Z Z (eJ bEz Z Z (aDy _ _) ?_))))))))
 rintro v1 w1 ⟨rfl,rfl⟩
 have M1:Mem _ _ [] _:=M0
 refine wq (aJ (.bool false) Z) Z (aB (aC (aE (aA (aT Z Z (eJ bEz Z Z (aDy _ _) ?_))))))
 rintro v2 w2 ⟨rfl,rfl⟩
 have M2:Mem _ _ [] _:=M1
 refine wq (aJ (.bool false) Z) Z (aB (aC (aE (aE (aA (wq (aH (.bool false) Z) Z (aB (aC (cB Z (aM (aC (aE (aE (aA (wq (aH (.bool false) Z) Z (aB (aC (cB Z (aM (aC (aE (aE (aA (aT Z Z (aT Z Z (cV Z Z Z Z (aB (aC ?_))))))))))))))))))))))))))))
 refine aW Z (fun h16 => ?_) (fun h16 => ?_)
 ·refine aE (aA (bL Z Z (aB (aC (aR (cK (cF (.int _ _) Z ?_)))))))
  exact ⟨iE (by unfold rD;(repeat' split) <;> omega),Z⟩
 ·refine aM (aC (aE (aE (aA (aT Z Z (aT Z Z (cV Z Z Z Z (aB (aC ?_)))))))))
  refine aW Z (fun h19 => ?_) (fun h19 => ?_)
  ·refine aE (aA (bL Z Z (aB (aC (aR (cK (cF (.int _ _) Z ?_)))))))
   exact ⟨iE (by unfold rD;(repeat' split) <;> omega),Z⟩
  ·refine aM (aC (aE (aA (bL Z Z (aB (aC (aR (cF (.int _ _) Z ?_))))))))
   exact ⟨iE (by unfold rD;(repeat' split) <;> omega),Z⟩
theorem aKt (a b:Body) (w:World) :
  Calls prog 115 #[(.agg (aF a).toArray),(.agg (aF b).toArray)] w (gY (fun v w'=>v=.int .i64 (rD a.key b.key)∧∃ q os,w'=Go.Sort.grow (w.drewN q) os)):=by
 refine aI #[.tmp 4] 10 func115 Z results115 ntmps115 Z ?_
 have M0:=Mem.refl w
 refine aE (aA (aFy (.agg (.mk _)) M0 Z Z Z (fun M1=>(aFy (.agg (.mk _)) M1 Z Z Z (fun M2=>(bL Z Z (aB (aC (aE (aA (wq (aD 0 dZ Z) Z (wq (aK 0 (.int _ _) bZ M2 Z Z Z) Z (wq (aD 0 dZ Z) Z (wq (aK 1 (.int _ _) bZ M2 Z Z Z) Z (eJ aNe Z Z (pE _ _ _) ?_)))))))))))))))
 rintro v3 w3 ⟨rfl,rfl⟩
 have M3:Mem _ _ [_,_] _:=M2
 refine bL Z Z (aB (aC (aR (cF (.int _ _) Z ?_))))
 exact ⟨Z,bXv _ _ _⟩
theorem aKq (w:World) (A:Option Addr) (n c:Nat) (ls:List (List Value)) (R:Rd w 10 A n ls) (h1:∀ y∈ls,∀ u∈y,one u=true) (hn:n≤1048576) :
  Calls prog 64 #[.slice A n c] w (gY (fun v w'=>∃ A' n' c' e,v=.slice A' n' c'∧bA 39 10 A' n' c' ls e∧Mem w [] [e] w'∧A'.isSome=A.isSome)):=by
 refine aI #[.tmp 2] 8 func64 Z results64 ntmps64 Z ?_
 have M0:=Mem.refl w
 refine aE (aA (eI Z Z (aB (aC (aE (aE (aA (dJ Z Z (wq (aBj _ underlying29 Z Z) Z (aB (aC ?_)))))))))))
 refine iN _ Z (fun h4 => ?_) (fun h4 => ?_)
 ·refine aE (aA (eI Z Z (aB (aC (aR (cK (cF (.slice _ _ _) Z ?_)))))))
  have hA:A=none:=by cases A <;> simp_all
  have hl:ls=[]:=by
   rcases Nat.eq_zero_or_pos n with h | h
   ·subst h;exact List.eq_nil_of_length_eq_zero R.len
   ·have:=R.some h;rw [hA] at this;cases this
  subst hA;subst hl
  exact ⟨_,_,_,_,Z,bA.nil 39 10 default,M0.dummy default,Z⟩
 ·refine aM (aC (aE (aA (bV [] [] Z dU M0 Z Z Z Z (cO Z) (by decide) (fun b1 w1 M1=>(dJ Z Z (gK 0 ls dU M1 Z Z Z Z Z (bA.empty b1) (R.mem M1) h1 (by omega) (fun A2 c2 e2 w2 M2 hR2 hA2 => ?_))))))))
  have hAA:=hA2
  refine eI Z Z (aB (aC (aR (cF (.slice _ _ _) Z ?_))))
  refine ⟨_,_,_,_,rfl,by simpa using hR2,M2, ?_⟩
  rw [hAA rfl];cases A <;> simp_all
end Go.Proofs.YtaoaknafiegfoaaGreatDoor
