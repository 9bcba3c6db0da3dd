/- Part of the proof of a law of this seat (1 texts). No conditions. -/
import Derived.Test.YtaoaknafiegfoaaGreatDoorK5
import Derived.Test.YtaoaknafiegfoaaGreatDoorK6
set_option linter.unusedVariables false
set_option linter.unusedSimpArgs false
set_option linter.unnecessarySimpa false
set_option maxHeartbeats 100000000
namespace Go.Proofs.YtaoaknafiegfoaaGreatDoor
open Go.Bil
open Go.RowKit (Below)
open Go.Proofs
open Go.Proofs.Tryz
theorem bCq (w:World) (A:Option Addr) (n c:Nat) (er:eQ) (s:List Body) (hr:bA 39 10 A n c (s.map aF) er) (hO:Own [er] w) (b:Body) (hn:s.length≤1048576) :
  Calls prog 94 #[.slice A n c,(.agg (aF b).toArray)] w (gY (fun v w'=>∃ A' n' c' e',v=.tuple #[.slice A' n' c',.int .i64 (pY s b).2]∧bA 39 10 A' n' c' ((pY s b).1.map aF) e'∧Mem w (cD [er]) [e'] w')):=by
 have hlen:s.length=n:=by simpa using hr.1
 refine aI #[.tmp 4,.tmp 5] 26 func94 Z results94 ntmps94 Z ?_
 have M0:=hO.mem
 refine aE (aA (bO (.agg (.mk _)) M0 Z Z Z (fun b1 w1 M1=>(eI Z Z (bL Z Z (aB (aC (aE (aA (wq (aV 1 bR M1 Z Z Z) Z (dM bPj Z Z M1 (aEr _ b) (fun w2 M2=>(bL Z Z (aB (aC (aE (aE (aA (aT Z Z (cV Z Z Z Z (aB (aC ?_))))))))))))))))))))))
 refine aW Z (fun h10 => ?_) (fun h10 => ?_)
 ·refine aE (aA (dJ Z Z (aT Z Z (eI Z Z (bL Z Z (aB (aC (aR (cK (gE (.slice _ _ _) (.int _ _) Z Z ?_))))))))))
  have ha:pY s b=(s,check b):=by unfold pY;rw [if_pos h10]
  exact ⟨_,_,_,_,by rw [ha],by rw [ha];exact hr,M2.keep [true,false]⟩
 ·refine aM (aC (aE (aE (aA (dJ Z Z (wq (aD 0 dZ Z) Z (wq (aK 1 (.int _ _) bZ M2 Z Z Z) Z (dM vA Z Z M2 (iY _ b.key _ _ _ s (hr.rd M2 (aN (i:=0) Z))) (fun w3 M3=>(cV Z Z Z Z (aB (aC ?_))))))))))))
  refine aW Z (fun h17 => ?_) (fun h17 => ?_)
  ·refine aE (aA (dJ Z Z (eI Z Z (bL Z Z (aB (aC (aR (cK (gE (.slice _ _ _) (.int _ _) Z Z ?_)))))))))
   have ha:pY s b=(s,10):=by unfold pY;rw [if_neg h10,if_pos (by omega)]
   exact ⟨_,_,_,_,by rw [ha],by rw [ha];exact hr,M3.keep [true,false]⟩
  ·refine aM (aC (aE (aE (aA (dJ Z Z (wq (bW underlying29 Z) Z (cV Z Z Z Z (aB (aC ?_)))))))))
   refine aW Z (fun h21 => ?_) (fun h21 => ?_)
   ·refine aE (aA (dJ Z Z (eI Z Z (bL Z Z (aB (aC (aR (cK (gE (.slice _ _ _) (.int _ _) Z Z ?_)))))))))
    have ha:pY s b=(s,12):=by unfold pY;rw [if_neg h10,if_neg (by omega),if_pos (by omega)]
    exact ⟨_,_,_,_,by rw [ha],by rw [ha];exact hr,M3.keep [true,false]⟩
   ·refine aM (aC (aE (aA (dJ Z Z (wq (aV 1 bR M3 Z Z Z) Z (eJ aNf Z Z (xR _ b false _ _ _ s (hr.rd M3 (aN (i:=0) Z)) (by omega)) ?_))))))
    rintro v4 w4 ⟨A4,n4,c4,e4,rfl,hR4,hM4⟩
    have M4:Mem _ _ [_,_,_] _:=M3.call0 hM4
    refine eI Z Z (bL Z Z (aB (aC (aR (gE (.slice _ _ _) (.int _ _) Z Z ?_)))))
    have ha:pY s b=(zQ s b false,0):=by unfold pY;rw [if_neg h10,if_neg (by omega),if_neg (by omega)]
    exact ⟨_,_,_,_,by rw [ha],by rw [ha];exact hR4,M4.keep [false,false,true]⟩
theorem aOv (w:World) (A:Option Addr) (n c:Nat) (er:eQ) (s:List Body) (hr:bA 39 10 A n c (s.map aF) er) (hO:Own [er] w) (key:Int) (hn:s.length≤1048576) :
  Calls prog 95 #[.slice A n c,.int .u32 key] w (gY (fun v w'=>∃ A' n' c' e',v=.tuple #[.slice A' n' c',.int .i64 (iX s key).2]∧bA 39 10 A' n' c' ((iX s key).1.map aF) e'∧Mem w (cD [er]) [e'] w')):=by
 have hlen:s.length=n:=by simpa using hr.1
 refine aI #[.tmp 4,.tmp 5] 15 func95 Z results95 ntmps95 Z ?_
 have M0:=hO.mem
 refine aE (aA (eI Z Z (bL Z Z (aB (aC (aE (aE (aA (dJ Z Z (aT Z Z (dM vA Z Z M0 (iY _ key _ _ _ s (hr.rd M0 (aN (i:=0) Z))) (fun w1 M1=>(cV Z Z Z Z (aB (aC ?_)))))))))))))))
 refine aW Z (fun h9 => ?_) (fun h9 => ?_)
 ·refine aE (aA (dJ Z Z (eI Z Z (bL Z Z (aB (aC (aR (cK (gE (.slice _ _ _) (.int _ _) Z Z ?_)))))))))
  have ha:iX s key=(s,11):=by unfold iX;rw [if_pos h9]
  exact ⟨_,_,_,_,by rw [ha],by rw [ha];exact hr,M1.keep [true]⟩
 ·refine aM (aC (aE (aA (dJ Z Z (aT Z Z (wq (cI [(0,.int _ _)] _ wN Z Z) Z (eJ aNf Z Z (xR _ (sG key) true _ _ _ s (hr.rd M1 (aN (i:=0) Z)) (by omega)) ?_)))))))
  rintro v2 w2 ⟨A2,n2,c2,e2,rfl,hR2,hM2⟩
  have M2:Mem _ _ [_,_] _:=M1.call0 hM2
  refine eI Z Z (bL Z Z (aB (aC (aR (gE (.slice _ _ _) (.int _ _) Z Z ?_)))))
  have ha:iX s key=(zQ s (sG key) true,0):=by unfold iX;rw [if_neg h9]
  exact ⟨_,_,_,_,by rw [ha],by rw [ha];exact hR2,M2.keep [false,true]⟩
end Go.Proofs.YtaoaknafiegfoaaGreatDoor
