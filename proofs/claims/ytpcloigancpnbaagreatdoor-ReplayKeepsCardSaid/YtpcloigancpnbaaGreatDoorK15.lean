/- Part of the proof of a law of this seat (1 texts). No conditions. -/
import Derived.Test.YtpcloigancpnbaaGreatDoorK6
import Derived.Test.YtpcloigancpnbaaGreatDoorK11
set_option linter.unusedVariables false
set_option linter.unusedSimpArgs false
set_option linter.unnecessarySimpa false
set_option maxHeartbeats 100000000
namespace Go.Bil
theorem Mem.keepL {w0 w:World} {X:List Nat} {L T:List eL} (ks:List Bool) (M:Mem w0 X (L++T) w):Mem w0 X (oK L ks++T) w:=M.sub ((vT L ks).append (List.Sublist.refl T))
theorem Mem.cells0 {w0 w:World} {X:List Nat} {R:List eL} {b T:Nat} {l l':List Value} {e:eL} (M:Mem w0 X ((e::R).set 0 (some b,bc l T)) w) (h:l=l'):Mem w0 X ((some b,bc l' T)::R) w:=by
 subst h
 exact M
def fD (rs:List Row) (cnt:Int):List Value:=rs.map (fun r=>Value.slice r.A r.n r.c)++[.int .i64 cnt]
structure GridRows (T:Nat) (rs:List Row) (g:Nat→List Int):Prop where
 len:rs.length=1024
 row:∀ (j:Nat) (r:Row),rs[j]? = some r→aZ T 1 r.A r.n r.c ((g j).map iM) r.e
theorem GridRows.get {T:Nat} {rs:List Row} {g:Nat→List Int} (h:GridRows T rs g) {j:Nat} (hj:j < 1024):∃ r,rs[j]? = some r:=⟨rs[j]'(by rw [h.len];exact hj),List.getElem?_eq_getElem _⟩
theorem GridRows.congr {T:Nat} {rs:List Row} {g g':Nat→List Int} (h:GridRows T rs g) (hg:∀ j,j < 1024→g' j=g j):GridRows T rs g' :=
 ⟨h.len,fun j r hr=>by rw [hg j (by rw [← h.len];exact (List.getElem?_eq_some_iff.1 hr).1)];exact h.row j r hr⟩
def bLp (g:Nat→List Int) (j:Nat) (l:List Int):Nat→List Int:=fun n=>if n=j then l else g n
theorem GridRows.put {T:Nat} {rs:List Row} {g:Nat→List Int} (h:GridRows T rs g) {j:Nat} {r:Row} {l:List Int} (hj:j < 1024) (hr:aZ T 1 r.A r.n r.c (l.map iM) r.e):GridRows T (rs.set j r) (bLp g j l):=by
 refine ⟨by rw [List.length_set,h.len],fun k q hq => ?_⟩
 unfold bLp
 rw [List.getElem?_set] at hq
 by_cases hk:k=j
 ·subst hk
  rw [if_pos rfl,if_pos (by rw [h.len];exact hj)] at hq
  injection hq with hq
  subst hq
  rw [if_pos rfl]
  exact hr
 ·rw [if_neg (fun e=>hk e.symm)] at hq
  rw [if_neg hk]
  exact h.row k q hq
theorem xQ {rs:List Row} {cnt:Int} {j:Nat} {r:Row} (h:rs[j]? = some r):nth (fD rs cnt) (0+j*1)=some (.slice r.A r.n r.c):=by
 rw [nQ,Nat.zero_add,Nat.mul_one]
 unfold fD
 rw [List.getElem?_append_left (by rw [List.length_map];exact (List.getElem?_eq_some_iff.1 h).1),List.getElem?_map,h]
 rfl
theorem aFs {rs:List Row} {cnt:Int} (h:rs.length=1024):nth (fD rs cnt) 1024=some (.int .i64 cnt):=by
 rw [nQ]
 unfold fD
 rw [List.getElem?_append_right (by rw [List.length_map,h];exact Nat.le_refl _),List.length_map,h]
 rfl
theorem aIo {rs:List Row} {cnt c:Int} (h:rs.length=1024):(fD rs cnt).set 1024 (.int .i64 c)=fD rs c:=by
 unfold fD
 rw [List.set_append_right _ _ (by rw [List.length_map,h];exact Nat.le_refl _),List.length_map,h]
 rfl
theorem aIp {rs:List Row} {cnt:Int} {j:Nat} (r:Row) (hj:j < rs.length):(fD rs cnt).set (0+j*1) (.slice r.A r.n r.c)=fD (rs.set j r) cnt:=by
 unfold fD
 rw [Nat.zero_add,Nat.mul_one,List.set_append_left _ _ (by rw [List.length_map];exact hj),List.map_set]
theorem aPm {rs:List Row} {cnt:Int} (h:rs.length=1024):((fD rs cnt).drop 0).take 1024=rs.map (fun r=>Value.slice r.A r.n r.c):=by
 unfold fD
 rw [List.drop_zero,List.take_append_of_le_length (by rw [List.length_map,h];exact Nat.le_refl _),List.take_of_length_le (by rw [List.length_map,h];exact Nat.le_refl _)]
theorem aSw {rs:List Row} {cnt:Int} (h:rs.length=1024):(fD rs cnt).length=1025:=by unfold fD;simp [h]
theorem xV {α:Type}:∀ {l:List α} {j:Nat} {x:α},l[j]? = some x→l.Perm (x::l.eraseIdx j)
 | a::l,0,x,h=>by simp only [List.getElem?_cons_zero,Option.some.injEq] at h;subst h;exact List.Perm.refl _
 | a::l,j+1,x,h=>((xV (l:=l) (j:=j) (by simpa using h)).cons a).trans (List.Perm.swap x a _)
theorem aKp {rs:List Row} {j:Nat} {r:Row} (h:rs[j]? = some r):(rs.map Row.e).Perm (r.e::(rs.eraseIdx j).map Row.e):=by
 simpa using (xV h).map Row.e
theorem aZx {rs:List Row} {j:Nat} (r:Row) (hj:j < rs.length):(r.e::(rs.eraseIdx j).map Row.e).Perm ((rs.set j r).map Row.e):=by
 have h1:(rs.set j r)[j]? = some r:=by rw [List.getElem?_set_self hj]
 have:=(aKp h1).symm
 rwa [List.eraseIdx_set_eq] at this
theorem Mem.pull {w0 w:World} {X:List Nat} {L:List eL} {rs:List Row} {j:Nat} {r:Row} (M:Mem w0 X (L++rs.map Row.e) w) (h:rs[j]? = some r):Mem w0 X ((L++[r.e])++(rs.eraseIdx j).map Row.e) w :=
 M.perm (by rw [List.append_assoc];exact List.Perm.append_left L (aKp h))
theorem Mem.push {w0 w:World} {X:List Nat} {L:List eL} {rs:List Row} {j:Nat} (r:Row) (M:Mem w0 X ((L++[r.e])++(rs.eraseIdx j).map Row.e) w) (hj:j < rs.length):Mem w0 X (L++(rs.set j r).map Row.e) w :=
 M.perm (by rw [List.append_assoc];exact List.Perm.append_left L (aZx r hj))
def wN (g:Nat→List Int) (key:Int) (bs:List Nat):Nat→List Int:=fun n=>if n∈bs then g n++[key] else g n
theorem bBo (g:Nat→List Int) (key:Int):wN g key []=g:=by funext n;simp [wN]
theorem bBn {g:Nat→List Int} {key:Int} {bs:List Nat} {i b:Nat} (hb:bs[i]? = some b) (hn:b∉bs.take i):wN g key (bs.take (i+1))=bLp (wN g key (bs.take i)) b (wN g key (bs.take i) b++[key]):=by
 have e:bs.take (i+1)=bs.take i++[b]:=by rw [List.take_add_one,hb];rfl
 funext n
 unfold wN bLp
 rw [e]
 by_cases h:n=b
 ·subst h
  simp [hn]
 ·simp [h]
theorem bBp {g:Nat→List Int} {key:Int} {bs:List Nat} {i b:Nat} (hb:bs[i]? = some b) (hn:b∈bs.take i):wN g key (bs.take (i+1))=wN g key (bs.take i):=by
 have e:bs.take (i+1)=bs.take i++[b]:=by rw [List.take_add_one,hb];rfl
 funext n
 unfold wN
 rw [e]
 by_cases h:n=b
 ·subst h
  simp [hn]
 ·simp [h]
def tX (bs:List Nat):Int→Option Bool:=fun k=>if ∃ b∈bs,(b:Int)=k then some true else none
theorem aAs {bs:List Nat} {b:Nat}:((tX bs (b:Int)).getD false=true)↔b∈bs:=by
 unfold tX
 by_cases h:∃ x∈bs,(x:Int)=(b:Int)
 ·rw [if_pos h]
  obtain ⟨x,hx,e⟩:=h
  have:x=b:=by omega
  subst this
  simp [hx]
 ·rw [if_neg h]
  simp only [Option.getD_none,Bool.false_eq_true,false_iff]
  exact fun hb=>h ⟨b,hb,Z⟩
theorem aYt (k:Int):tX [] k=none:=by simp [tX]
theorem aJt {bs:List Nat} {i b:Nat} (hb:bs[i]? = some b) (k:Int):tX (bs.take (i+1)) k=if k=(b:Int) then some true else tX (bs.take i) k:=by
 have e:bs.take (i+1)=bs.take i++[b]:=by rw [List.take_add_one,hb];rfl
 unfold tX
 rw [e]
 by_cases h:k=(b:Int)
 ·rw [if_pos h,if_pos ⟨b,by simp,h.symm⟩]
 ·rw [if_neg h]
  have:(∃ x∈bs.take i++[b],(x:Int)=k)↔(∃ x∈bs.take i,(x:Int)=k):=by
   constructor
   ·rintro ⟨x,hx,hk⟩
    rcases List.mem_append.1 hx with hx | hx
    ·exact ⟨x,hx,hk⟩
    ·simp only [List.mem_singleton] at hx;subst hx;exact absurd hk.symm h
   ·rintro ⟨x,hx,hk⟩;exact ⟨x,List.mem_append_left _ hx,hk⟩
  simp only [this]
theorem aYu {bs:List Nat} {i b:Nat} (hb:bs[i]? = some b) (hn:b∈bs.take i):tX (bs.take (i+1))=tX (bs.take i):=by
 funext k
 rw [aJt hb]
 by_cases h:k=(b:Int)
 ·rw [if_pos h,h]
  unfold tX
  rw [if_pos ⟨b,hn,rfl⟩]
 ·rw [if_neg h]
end Go.Bil
