/- Part of the proof of a law of this seat (1 texts). No conditions. -/
import Derived.Test.YtpcloigancpnbaaGreatDoorK5
import Derived.Test.YtpcloigancpnbaaGreatDoorK6
set_option linter.unusedVariables false
set_option linter.unusedSimpArgs false
set_option linter.unnecessarySimpa false
set_option maxHeartbeats 100000000
namespace Go.Proofs.YtpcloigancpnbaaGreatDoor
open Go.Bil
open Go.RowKit (Below)
open Go.Proofs
open Go.Proofs.Tryz
theorem bAb (w:World) (A:Option Addr) (n c:Nat) (er:eL) (s:List Body) (hr:aZ 43 10 A n c (s.map aF) er) (hO:Own [er] w) (b:Body) (hn:s.length≤1048576) :
  Calls prog 59 #[.slice A n c,(.agg (aF b).toArray)] w (gH (fun v w'=>∃ A' n' c' e',v=.tuple #[.slice A' n' c',.int .i64 (oU s b).2]∧aZ 43 10 A' n' c' ((oU s b).1.map aF) e'∧Mem w (bY [er]) [e'] w')):=by
 have hlen:s.length=n:=by simpa using hr.1
 refine aI #[.tmp 4,.tmp 5] 26 func59 Z results59 ntmps59 Z ?_
 have M0:=hO.mem
 refine aE (aA (bN (.agg (.mk _)) M0 Z Z Z (fun b1 w1 M1=>(eH Z Z (bK Z Z (aB (aC (aE (aA (wq (aX 1 bQ M1 Z Z Z) Z (dN bMz Z Z M1 (aCu _ b) (fun w2 M2=>(bK Z Z (aB (aC (aE (aE (aA (aQ Z Z (cX Z Z Z Z (aB (aC ?_))))))))))))))))))))))
 refine aU Z (fun h10 => ?_) (fun h10 => ?_)
 ·refine aE (aA (dK Z Z (aQ Z Z (eH Z Z (bK Z Z (aB (aC (aO (cO (fX (.slice _ _ _) (.int _ _) Z Z ?_))))))))))
  have ha:oU s b=(s,check b):=by unfold oU;rw [if_pos h10]
  exact ⟨_,_,_,_,by rw [ha],by rw [ha];exact hr,M2.keep [true,false]⟩
 ·refine aM (aC (aE (aE (aA (dK Z Z (wq (aD 0 dT Z) Z (wq (aK 1 (.int _ _) bV M2 Z Z Z) Z (dN tG Z Z M2 (iD _ b.key _ _ _ s (hr.rd M2 (bA (i:=0) Z))) (fun w3 M3=>(cX Z Z Z Z (aB (aC ?_))))))))))))
  refine aU Z (fun h17 => ?_) (fun h17 => ?_)
  ·refine aE (aA (dK Z Z (eH Z Z (bK Z Z (aB (aC (aO (cO (fX (.slice _ _ _) (.int _ _) Z Z ?_)))))))))
   have ha:oU s b=(s,10):=by unfold oU;rw [if_neg h10,if_pos (by omega)]
   exact ⟨_,_,_,_,by rw [ha],by rw [ha];exact hr,M3.keep [true,false]⟩
  ·refine aM (aC (aE (aE (aA (dK Z Z (wq (cK underlying46 Z) Z (cX Z Z Z Z (aB (aC ?_)))))))))
   refine aU Z (fun h21 => ?_) (fun h21 => ?_)
   ·refine aE (aA (dK Z Z (eH Z Z (bK Z Z (aB (aC (aO (cO (fX (.slice _ _ _) (.int _ _) Z Z ?_)))))))))
    have ha:oU s b=(s,12):=by unfold oU;rw [if_neg h10,if_neg (by omega),if_pos (by omega)]
    exact ⟨_,_,_,_,by rw [ha],by rw [ha];exact hr,M3.keep [true,false]⟩
   ·refine aM (aC (aE (aA (dK Z Z (wq (aX 1 bQ M3 Z Z Z) Z (eP aVp Z Z (vZ _ b false _ _ _ s (hr.rd M3 (bA (i:=0) Z)) (by omega)) ?_))))))
    rintro v4 w4 ⟨A4,n4,c4,e4,rfl,hR4,hM4⟩
    have M4:Mem _ _ [_,_,_] _:=M3.call0 hM4
    refine eH Z Z (bK Z Z (aB (aC (aO (fX (.slice _ _ _) (.int _ _) Z Z ?_)))))
    have ha:oU s b=(xW s b false,0):=by unfold oU;rw [if_neg h10,if_neg (by omega),if_neg (by omega)]
    exact ⟨_,_,_,_,by rw [ha],by rw [ha];exact hR4,M4.keep [false,false,true]⟩
theorem aNd (w:World) (A:Option Addr) (n c:Nat) (er:eL) (s:List Body) (hr:aZ 43 10 A n c (s.map aF) er) (hO:Own [er] w) (key:Int) (hn:s.length≤1048576) :
  Calls prog 60 #[.slice A n c,.int .u32 key] w (gH (fun v w'=>∃ A' n' c' e',v=.tuple #[.slice A' n' c',.int .i64 (iC s key).2]∧aZ 43 10 A' n' c' ((iC s key).1.map aF) e'∧Mem w (bY [er]) [e'] w')):=by
 have hlen:s.length=n:=by simpa using hr.1
 refine aI #[.tmp 4,.tmp 5] 15 func60 Z results60 ntmps60 Z ?_
 have M0:=hO.mem
 refine aE (aA (eH Z Z (bK Z Z (aB (aC (aE (aE (aA (dK Z Z (aQ Z Z (dN tG Z Z M0 (iD _ key _ _ _ s (hr.rd M0 (bA (i:=0) Z))) (fun w1 M1=>(cX Z Z Z Z (aB (aC ?_)))))))))))))))
 refine aU Z (fun h9 => ?_) (fun h9 => ?_)
 ·refine aE (aA (dK Z Z (eH Z Z (bK Z Z (aB (aC (aO (cO (fX (.slice _ _ _) (.int _ _) Z Z ?_)))))))))
  have ha:iC s key=(s,11):=by unfold iC;rw [if_pos h9]
  exact ⟨_,_,_,_,by rw [ha],by rw [ha];exact hr,M1.keep [true]⟩
 ·refine aM (aC (aE (aA (dK Z Z (aQ Z Z (wq (cB [(0,.int _ _)] _ uU Z Z) Z (eP aVp Z Z (vZ _ (qY key) true _ _ _ s (hr.rd M1 (bA (i:=0) Z)) (by omega)) ?_)))))))
  rintro v2 w2 ⟨A2,n2,c2,e2,rfl,hR2,hM2⟩
  have M2:Mem _ _ [_,_] _:=M1.call0 hM2
  refine eH Z Z (bK Z Z (aB (aC (aO (fX (.slice _ _ _) (.int _ _) Z Z ?_)))))
  have ha:iC s key=(xW s (qY key) true,0):=by unfold iC;rw [if_neg h9]
  exact ⟨_,_,_,_,by rw [ha],by rw [ha];exact hR2,M2.keep [false,true]⟩
end Go.Proofs.YtpcloigancpnbaaGreatDoor
