/- Part of the proof of a law of this seat (15 texts). No conditions. -/
import Derived.Test.YtpcloigancpnbaaGreatDoorK7
import Derived.Test.YtpcloigancpnbaaGreatDoorK17
set_option linter.unusedVariables false
set_option linter.unusedSimpArgs false
set_option linter.unnecessarySimpa false
set_option maxHeartbeats 100000000
namespace Go.Bil
abbrev Pt:=Int × Int
structure PtI (v:Pt):Prop where
 x : -1082130432≤v.1∧v.1≤1082130432
 y : -1082130432≤v.2∧v.2≤1082130432
structure SgI (p q:Pt):Prop where
 hp:PtI p
 hq:PtI q
 x : -16777216≤q.1 - p.1∧q.1 - p.1≤16777216
 y : -16777216≤q.2 - p.2∧q.2 - p.2≤16777216
theorem PtI.i32 {v:Pt} (h:PtI v):I32 v:=⟨by have:=h.x;omega,by have:=h.y;omega⟩
theorem PtI.inX {v u:Pt} (h:PtI v) (g:PtI u):wV (u.1 - v.1):=by have:=h.x;have:=g.x;unfold wV;omega
theorem PtI.inY {v u:Pt} (h:PtI v) (g:PtI u):wV (u.2 - v.2):=by have:=h.y;have:=g.y;unfold wV;omega
theorem aGi {a b:Int} {A B:Nat} (ha:a.natAbs≤A) (hb:b.natAbs≤B) : -((A*B:Nat):Int)≤a*b∧a*b≤((A*B:Nat):Int):=by
 have h:=Nat.mul_le_mul ha hb
 rw [← Int.natAbs_mul] at h
 omega
theorem sqN (a:Int):0≤a*a:=by rw [← Int.natAbs_mul_self];omega
def nC (p q:Pt):Int:=(q.1 - p.1)*(q.1 - p.1)+(q.2 - p.2)*(q.2 - p.2)
def qH (p q c:Pt):Int:=max 0 (min ((c.1 - p.1)*(q.1 - p.1)+(c.2 - p.2)*(q.2 - p.2)) (nC p q))
theorem oP {p q:Pt} (h:SgI p q):0≤nC p q∧nC p q≤562949953421312∧(0≤(q.1 - p.1)*(q.1 - p.1)∧(q.1 - p.1)*(q.1 - p.1)≤281474976710656)∧0≤(q.2 - p.2)*(q.2 - p.2)∧(q.2 - p.2)*(q.2 - p.2)≤281474976710656:=by
 have hx:=h.x
 have hy:=h.y
 have a:=aGi (a:=q.1 - p.1) (b:=q.1 - p.1) (A:=16777216) (B:=16777216) (by omega) (by omega)
 have b:=aGi (a:=q.2 - p.2) (b:=q.2 - p.2) (A:=16777216) (B:=16777216) (by omega) (by omega)
 have c:=sqN (q.1 - p.1)
 have d:=sqN (q.2 - p.2)
 unfold nC
 omega
theorem zP {p q c:Pt} (h:SgI p q):0≤qH p q c∧qH p q c≤nC p q:=by
 have:=oP h
 unfold qH
 omega
theorem aJq {p q c:Pt} (h:SgI p q) (hc:PtI c):(-36310272144179200≤(c.1 - p.1)*(q.1 - p.1)∧(c.1 - p.1)*(q.1 - p.1)≤36310272144179200) ∧ -36310272144179200≤(c.2 - p.2)*(q.2 - p.2)∧(c.2 - p.2)*(q.2 - p.2)≤36310272144179200:=by
 have hx:=h.x
 have hy:=h.y
 have:=hc.x;have:=hc.y;have:=h.hp.x;have:=h.hp.y
 have a:=aGi (a:=c.1 - p.1) (b:=q.1 - p.1) (A:=2164260864) (B:=16777216) (by omega) (by omega)
 have b:=aGi (a:=c.2 - p.2) (b:=q.2 - p.2) (A:=2164260864) (B:=16777216) (by omega) (by omega)
 omega
theorem bIz {a n d:Int} (hn:0≤n) (hnd:n≤d) (hd:0 < d):(0≤a→0≤a*n / d∧a*n / d≤a)∧(a≤0→a≤a*n / d∧a*n / d≤0):=by
 refine ⟨fun h=>⟨Int.ediv_nonneg (Int.mul_nonneg h hn) (Int.le_of_lt hd), ?_⟩,fun h=>⟨?_, ?_⟩⟩
 ·exact Int.ediv_le_of_le_mul hd (Int.mul_le_mul_of_nonneg_left hnd h)
 ·exact (Int.le_ediv_iff_mul_le hd).2 (Int.mul_le_mul_of_nonpos_left h hnd)
 ·have h1:a*n≤0:=Int.mul_nonpos_of_nonpos_of_nonneg h hn
  exact Int.ediv_le_of_le_mul hd (by omega)
def cJ (p q c:Pt):Pt:=if nC p q=0 then p else (p.1+(q.1 - p.1)*qH p q c / nC p q,p.2+(q.2 - p.2)*qH p q c / nC p q)
theorem aGj {p q c:Pt} (h:SgI p q) (hd:nC p q≠0):((-16777216≤(q.1 - p.1)*qH p q c / nC p q∧(q.1 - p.1)*qH p q c / nC p q≤16777216) ∧ -1082130432≤p.1+(q.1 - p.1)*qH p q c / nC p q∧p.1+(q.1 - p.1)*qH p q c / nC p q≤1082130432) ∧
  (-16777216≤(q.2 - p.2)*qH p q c / nC p q∧(q.2 - p.2)*qH p q c / nC p q≤16777216) ∧ -1082130432≤p.2+(q.2 - p.2)*qH p q c / nC p q∧p.2+(q.2 - p.2)*qH p q c / nC p q≤1082130432:=by
 have hn:=zP (c:=c) h
 have hD:=oP h
 have a:=bIz (a:=q.1 - p.1) hn.1 hn.2 (by omega)
 have b:=bIz (a:=q.2 - p.2) hn.1 hn.2 (by omega)
 have:=h.hp.x;have:=h.hp.y;have:=h.hq.x;have:=h.hq.y;have:=h.x;have:=h.y
 generalize (q.1 - p.1)*qH p q c / nC p q=u at *
 generalize (q.2 - p.2)*qH p q c / nC p q=v at *
 omega
theorem fB {p q c:Pt} (h:SgI p q):PtI (cJ p q c):=by
 unfold cJ
 split
 ·exact h.hp
 ·rename_i hd
  have:=aGj (c:=c) h hd
  exact ⟨this.1.2,this.2.2⟩
abbrev Ch:=Pt × Pt × Nat
def gB (s:Ch) (x y:Pt):Ch:=if rM (y.1 - x.1) (y.2 - x.2) < s.2.2 then (x,y,rM (y.1 - x.1) (y.2 - x.2)) else s
def ch0:Ch:=((0,0),(0,0),18446744073709551615)
def nM (ap aq bp bq:Pt):Ch:=gB (gB (gB (gB ch0 ap (cJ bp bq ap)) aq (cJ bp bq aq)) (cJ ap aq bp) bp) (cJ ap aq bq) bq
structure ChI (s:Ch):Prop where
 a:PtI s.1
 b:PtI s.2.1
 l:s.2.2 < 18446744073709551616
theorem ChI.step {s:Ch} {x y:Pt} (h:ChI s) (hx:PtI x) (hy:PtI y):ChI (gB s x y):=by
 unfold gB
 split
 ·exact ⟨hx,hy,(sS (hx.inX hy) (hx.inY hy)).1⟩
 ·exact h
theorem bDq:ChI ch0:=⟨⟨by decide,by decide⟩,⟨by decide,by decide⟩,by decide⟩
theorem aYk {ap aq bp bq:Pt} (h1:SgI ap aq) (h2:SgI bp bq):ChI (nM ap aq bp bq) :=
 (((bDq.step h1.hp (fB h2)).step h1.hq (fB h2)).step (fB h1) h2.hp).step (fB h1) h2.hq
def aAt (b:Body):Pt:=(b.px - b.ax,b.py - b.ay)
def aAu (b:Body):Pt:=(b.px+b.ax,b.py+b.ay)
theorem qQ {b:Body} (h:Okb b):SgI (aAt b) (aAu b):=by
 have:=h.a;have:=h.p
 refine ⟨⟨?_, ?_⟩,⟨?_, ?_⟩, ?_, ?_⟩ <;> simp only [aAt,aAu] <;> omega
structure Con where
 low:Int
 high:Int
 nx:Int
 ny:Int
 depth:Int
deriving DecidableEq
def cL (c:Con):List Value:=[.int .u32 c.low,.int .u32 c.high,.int .i32 c.nx,.int .i32 c.ny,.int .i32 c.depth]
def pK (a b:Body):Ch:=nM (aAt a) (aAu a) (aAt b) (aAu b)
def rH (s:Ch):Int:=s.2.1.1 - s.1.1
def sO (s:Ch):Int:=s.2.1.2 - s.1.2
def kP (a b:Body):Option Con :=
 if (a.radius+b.radius).natAbs*(a.radius+b.radius).natAbs≤rM (rH (pK a b)) (sO (pK a b)) then none
 else some ⟨a.key,b.key,(qM (rH (pK a b)) (sO (pK a b))).1,(qM (rH (pK a b)) (sO (pK a b))).2,IntKind.wrap .i32 (a.radius+b.radius - len (rH (pK a b)) (sO (pK a b)))⟩
def lN (a b:Body):Option Con:=if b.key < a.key then kP b a else kP a b
def qJ (b:Body):List Value:=aF b++cM (aAt b)++cM (aAu b)
def loB (a b:Body):Body:=if b.key < a.key then b else a
def hiB (a b:Body):Body:=if b.key < a.key then a else b
theorem aOu (a b:Body):lN a b=kP (loB a b) (hiB a b):=by unfold lN loB hiB;split <;> rfl
theorem bRq {a b:Body} (ha:Okb a) (hb:Okb b):Okb (loB a b)∧Okb (hiB a b):=by unfold loB hiB;split <;> exact ⟨by assumption,by assumption⟩
theorem aAp {a b:Body} (ha:Okb a) (hb:Okb b):ChI (pK a b):=aYk (qQ ha) (qQ hb)
theorem bDr {a b:Body} (ha:Okb a) (hb:Okb b):wV (rH (pK a b))∧wV (sO (pK a b)):=⟨(aAp ha hb).a.inX (aAp ha hb).b,(aAp ha hb).a.inY (aAp ha hb).b⟩
def aOt (o:Option Con):List Value:=cL (o.getD ⟨0,0,0,0,0⟩)
theorem bHk {a b:Body} (ha:Okb a) (hb:Okb b):0≤(a.radius+b.radius)*(a.radius+b.radius)∧(a.radius+b.radius)*(a.radius+b.radius)≤70368744177664:=by
 have:=ha.r;have:=hb.r
 have h:=aGi (a:=a.radius+b.radius) (b:=a.radius+b.radius) (A:=8388608) (B:=8388608) (by omega) (by omega)
 have:=sqN (a.radius+b.radius)
 omega
theorem bLg (s:Int) (h:0≤s*s∧s*s≤70368744177664):IntKind.wrap .u64 (s*s)=((s.natAbs*s.natAbs:Nat):Int):=by
 rw [gS,Int.natAbs_mul_self];omega
end Go.Bil

namespace Go.Bil
def wW (b:Body):Value:=.agg (aF b).toArray
def aUy:Body:=⟨0,0,0,0,0,0,0,0,0,0⟩
def boM (xs:List Body):Int→Option Body:=fun k=>xs.reverse.find? (fun b=>decide (b.key=k))
theorem bIl (k:Int):boM [] k=none:=rfl
theorem bBy {xs:List Body} {k:Nat} {b:Body} (h:xs[k]? = some b) (q:Int):boM (xs.take (k+1)) q=if q=b.key then some b else boM (xs.take k) q:=by
 unfold boM
 rw [cH h,List.reverse_append]
 simp only [List.reverse_cons,List.reverse_nil,List.nil_append,List.singleton_append,List.find?_cons]
 by_cases e:q=b.key
 ·rw [if_pos e,decide_eq_true e.symm]
 ·rw [if_neg e,decide_eq_false (fun h=>e h.symm)]
theorem aDs {xs:List Body} (hs:cZ xs) {b:Body} (hb:b∈xs):boM xs b.key=some b:=by
 unfold boM
 cases hf:xs.reverse.find? (fun c=>decide (c.key=b.key)) with
 | none =>
  have:=List.find?_eq_none.1 hf b (by simpa using hb)
  simp at this
 | some c =>
  have hc:=List.find?_some hf
  have hm:c∈xs:=by simpa using List.mem_of_find?_eq_some hf
  simp only [decide_eq_true_eq] at hc
  rw [mJ hs hm hb hc]
def aEv (f:Int→Option Body) (z:Int × Int):Option Con:=(f z.1).bind fun a=>(f z.2).bind fun b=>lN a b
def lT (xs:List Body):List Con:=(pF xs).filterMap (aEv (boM xs))
theorem aCp {xs:List Body} (hs:cZ xs) {z:Int × Int} (h:z∈pF xs):∃ a b,a∈xs∧b∈xs∧a.key < b.key∧z=(a.key,b.key)∧boM xs z.1=some a∧boM xs z.2=some b:=by
 obtain ⟨a,ha,b,hb,h1,h2,rfl⟩:=(aZo hs).1 h
 exact ⟨a,b,ha,hb,h1,Z,aDs hs ha,aDs hs hb⟩
theorem vI {f:Int→Option Body} {z:Int × Int} {a b:Body} (h1:f z.1=some a) (h2:f z.2=some b):aEv f z=lN a b:=by simp [aEv,h1,h2]
theorem aSk {a b:Body} {c:Con} (h:kP a b=some c):c.low=a.key∧c.high=b.key:=by
 unfold kP at h
 split at h
 ·cases h
 ·injection h with h;subst h;exact ⟨rfl,rfl⟩
theorem aYo {a b:Body} {c:Con} (hk:a.key < b.key) (h:lN a b=some c):c.low=a.key∧c.high=b.key:=by
 unfold lN at h
 rw [if_neg (by omega)] at h
 exact aSk h
theorem bJk {α β:Type} {l:List α} {k:Nat} {z:α} {g:α→Option β} (h:l[k]? = some z):(l.take (k+1)).filterMap g=(l.take k).filterMap g++(g z).toList:=by
 rw [cH h,List.filterMap_append]
 cases hg:g z <;> simp [hg]
theorem aEm (xs:List Body):(lT xs).length≤(pF xs).length:=List.length_filterMap_le _ _
theorem yJ {x y:Pt} (hx:PtI x) (hy:PtI y):gB ch0 x y=(x,y,rM (y.1 - x.1) (y.2 - x.2)):=by
 have:=sS (hx.inX hy) (hx.inY hy)
 have h:rM (y.1 - x.1) (y.2 - x.2) < 18446744073709551615:=by unfold rM at *;omega
 exact if_pos h
theorem Mem.orderC {w0 w:World} {X:List Nat} {a b c d:eL} (M:Mem w0 X [a,b,c,d] w):Mem w0 X [c,b,a,d] w :=
 M.perm ((List.Perm.swap b a [c,d]).trans (((List.Perm.swap c a [d]).cons b).trans (List.Perm.swap c b [a,d])))
def tW:Con→List Con→Con
 | b,[]=>b
 | b,c::l=>tW (if b.depth < c.depth then c else b) l
def bNd:List Con→Option Con
 | []=>none
 | c::l=>some (tW c l)
end Go.Bil

namespace Go.Bil
def uX:List Nat→Nat
 | []=>0
 | d::l=>d+65536*uX l
def mE (d:Nat):Value:=.int .u64 (d:Int)
def bVi (m:Nat):List Nat:=[m % 65536,m / 65536 % 65536,m / 65536 / 65536 % 65536,m / 65536 / 65536 / 65536 % 65536,0,0,0,0]
theorem aDz {z0 z1 z2 z3 p0 p1 p2 p3 t0 t1 t2 t3:Nat} (h0:t0=z0+p0+0) (h1:t1=z1+p1+t0 / 65536) (h2:t2=z2+p2+t1 / 65536) (h3:t3=z3+p3+t2 / 65536) :
  t0 % 65536+65536*(t1 % 65536+65536*(t2 % 65536+65536*(t3 % 65536+65536*(t3 / 65536))))=(z0+65536*(z1+65536*(z2+65536*z3)))+(p0+65536*(p1+65536*(p2+65536*p3))):=by omega
theorem bFr {z p c x y:Nat} (hz:z < 65536) (hc:c < 65536) (hx:x < 65536) (hy:y < 65536) (hp:x*y=p):p≤4294836225∧z+p+c < 4294967296∧(z+p+c) / 65536 < 65536:=by
 have:x*y≤65535*65535:=Nat.mul_le_mul (by omega) (by omega)
 omega
theorem zN (x y0 y1 y2 y3:Nat):x*(y0+65536*(y1+65536*(y2+65536*y3)))=x*y0+65536*(x*y1+65536*(x*y2+65536*(x*y3))):=by
 simp only [Nat.mul_add,Nat.mul_left_comm x 65536]
theorem bDu (x0 x1 x2 x3 Y:Nat):(x0+65536*(x1+65536*(x2+65536*x3)))*Y=x0*Y+65536*(x1*Y+65536*(x2*Y+65536*(x3*Y))):=by
 simp only [Nat.add_mul,Nat.mul_assoc]
theorem bKl {x0 x1 x2 x3 y0 y1 y2 y3 a0 a1 a2 a3 b0 b1 b2 b3 c0 c1 c2 c3 d0 d1 d2 d3:Nat}
  (ha0:a0=0+x0*y0+0) (ha1:a1=0+x0*y1+a0 / 65536) (ha2:a2=0+x0*y2+a1 / 65536) (ha3:a3=0+x0*y3+a2 / 65536)
  (hb0:b0=a1 % 65536+x1*y0+0) (hb1:b1=a2 % 65536+x1*y1+b0 / 65536) (hb2:b2=a3 % 65536+x1*y2+b1 / 65536) (hb3:b3=a3 / 65536+x1*y3+b2 / 65536)
  (hc0:c0=b1 % 65536+x2*y0+0) (hc1:c1=b2 % 65536+x2*y1+c0 / 65536) (hc2:c2=b3 % 65536+x2*y2+c1 / 65536) (hc3:c3=b3 / 65536+x2*y3+c2 / 65536)
  (hd0:d0=c1 % 65536+x3*y0+0) (hd1:d1=c2 % 65536+x3*y1+d0 / 65536) (hd2:d2=c3 % 65536+x3*y2+d1 / 65536) (hd3:d3=c3 / 65536+x3*y3+d2 / 65536) :
  uX [a0 % 65536,b0 % 65536,c0 % 65536,d0 % 65536,d1 % 65536,d2 % 65536,d3 % 65536,d3 / 65536]=(x0+65536*(x1+65536*(x2+65536*x3)))*(y0+65536*(y1+65536*(y2+65536*y3))):=by
 have ra:=aDz ha0 ha1 ha2 ha3
 have rb:=aDz hb0 hb1 hb2 hb3
 have rc:=aDz hc0 hc1 hc2 hc3
 have rd:=aDz hd0 hd1 hd2 hd3
 rw [bDu,zN x0,zN x1,zN x2,zN x3]
 simp only [uX,Nat.mul_zero,Nat.add_zero]
 clear ha0 ha1 ha2 ha3 hb0 hb1 hb2 hb3 hc0 hc1 hc2 hc3 hd0 hd1 hd2 hd3
 generalize x0*y0+65536*(x0*y1+65536*(x0*y2+65536*(x0*y3)))=A at *
 generalize x1*y0+65536*(x1*y1+65536*(x1*y2+65536*(x1*y3)))=B at *
 generalize x2*y0+65536*(x2*y1+65536*(x2*y2+65536*(x2*y3)))=C at *
 generalize x3*y0+65536*(x3*y1+65536*(x3*y2+65536*(x3*y3)))=D at *
 omega
theorem aRh:∀ (l:List Nat) (j:Nat) (d:Nat),(∀ x∈l,x < 65536)→l[j]? = some d→uX l / 65536 ^ j % 65536=d
 | [],j,d,_,h=>by simp at h
 | x::l,0,d,hd,h=>by
  simp only [List.getElem?_cons_zero,Option.some.injEq] at h
  subst h
  have:=hd x (by simp)
  simp only [uX,Nat.pow_zero,Nat.div_one]
  omega
 | x::l,j+1,d,hd,h=>by
  have ih:=aRh l j d (fun y hy=>hd y (by simp [hy])) (by simpa using h)
  have hx:=hd x (by simp)
  rw [Nat.pow_succ,Nat.mul_comm,← Nat.div_div_eq_div_mul]
  simp only [uX]
  rw [show (x+65536*uX l) / 65536=uX l by omega]
  exact ih
theorem bOf (x i j s d:Nat) (hi:i=16*j+s) (hs:s < 16) (hd:x / 65536 ^ j % 65536=d):d / 2 ^ s % 2=x / 2 ^ i % 2:=by
 subst hd
 have e:(65536:Nat) ^ j=2 ^ (16*j):=by rw [Nat.pow_mul]
 rw [e]
 have h1:(x / 2 ^ (16*j) % 2 ^ 16) / 2 ^ s % 2=x / 2 ^ (16*j) / 2 ^ s % 2:=by
  rw [show (2:Nat) ^ 16=2 ^ s*2 ^ (16 - s) by rw [← Nat.pow_add];congr 1;omega,Nat.mod_mul_right_div_self]
  exact Nat.mod_mod_of_dvd _ ⟨2 ^ (16 - s - 1),by rw [← Nat.pow_succ'];congr 1;omega⟩
 rw [show (65536:Nat)=2 ^ 16 by decide,h1,Nat.div_div_eq_div_mul,← Nat.pow_add,hi]
structure Lb (X d i q r:Nat):Prop where
 q:q=X / 2 ^ i / d
 r:r=X / 2 ^ i % d
theorem bEo (X i:Nat):X / 2 ^ i=2*(X / 2 ^ (i+1))+X / 2 ^ i % 2:=by
 rw [Nat.pow_succ,← Nat.div_div_eq_div_mul];omega
theorem bKe {X d i q r b:Nat} (hd:0 < d) (h:Lb X d (i+1) q r) (hb:X / 2 ^ i % 2=b):r < d∧b < 2∧2*q≤X / 2 ^ i / d∧(d≤2*r+b→Lb X d i (2*q+1) (2*r+b - d))∧(¬ d≤2*r+b→Lb X d i (2*q) (2*r+b)):=by
 have hp:=bEo X i
 rw [hb] at hp
 have hr:r < d:=by rw [h.r];exact Nat.mod_lt _ hd
 have hb2:b < 2:=by omega
 have e:=Nat.div_add_mod (X / 2 ^ (i+1)) d
 rw [← h.q,← h.r] at e
 have hP:X / 2 ^ i=d*(2*q)+(2*r+b):=by rw [Nat.mul_left_comm];omega
 refine ⟨hr,hb2, ?_,fun hc => ?_,fun hc => ?_⟩
 ·rw [Nat.le_div_iff_mul_le hd,hP,Nat.mul_comm];omega
 ·have e2:X / 2 ^ i=(2*r+b - d)+d*(2*q+1):=by rw [hP,Nat.mul_add d];omega
  exact ⟨by rw [e2,Nat.add_mul_div_left _ _ hd,Nat.div_eq_of_lt (by omega),Nat.zero_add],by rw [e2,Nat.add_mul_mod_self_left,Nat.mod_eq_of_lt (by omega)]⟩
 ·have e2:X / 2 ^ i=(2*r+b)+d*(2*q):=by rw [hP];omega
  exact ⟨by rw [e2,Nat.add_mul_div_left _ _ hd,Nat.div_eq_of_lt (by omega),Nat.zero_add],by rw [e2,Nat.add_mul_mod_self_left,Nat.mod_eq_of_lt (by omega)]⟩
theorem bKd {X d:Nat} (hd:0 < d) (hX:X < 340282366920938463463374607431768211456):Lb X d 128 0 0:=by
 have:X / 2 ^ 128=0:=Nat.div_eq_of_lt hX
 exact ⟨by rw [this,Nat.zero_div],by rw [this,Nat.zero_mod]⟩
theorem bFd {X d i m:Nat} (h:X / d≤m):X / 2 ^ i / d≤m:=by
 refine Nat.le_trans (Nat.div_le_div_right (Nat.div_le_self _ _)) h
theorem bKc {X d q r:Nat} (h:Lb X d 0 q r):q=X / d∧r=X % d:=by
 have h1:=h.q;have h2:=h.r
 rw [Nat.pow_zero,Nat.div_one] at h1 h2
 exact ⟨h1,h2⟩
theorem aAr:∀ (l:List Con) (b:Con),b.depth≤(tW b l).depth∧∀ c∈l,c.depth≤(tW b l).depth
 | [],b=>⟨Int.le_refl _,by simp⟩
 | x::l,b=>by
  have ih:=aAr l (if b.depth < x.depth then x else b)
  have e:tW b (x::l)=tW (if b.depth < x.depth then x else b) l:=rfl
  rw [e]
  by_cases hx:b.depth < x.depth
  ·rw [if_pos hx] at ih ⊢
   refine ⟨by omega,fun c hc => ?_⟩
   rcases List.mem_cons.1 hc with rfl | hc
   ·exact ih.1
   ·exact ih.2 c hc
  ·rw [if_neg hx] at ih ⊢
   refine ⟨ih.1,fun c hc => ?_⟩
   rcases List.mem_cons.1 hc with rfl | hc
   ·omega
   ·exact ih.2 c hc
theorem aOw:∀ (l:List Con) (b:Con),∃ j:Nat,(b::l)[j]? = some (tW b l)∧∀ (i:Nat) (c:Con),i < j→(b::l)[i]? = some c→c.depth < (tW b l).depth
 | [],b=>⟨0,rfl,fun i c h=>by omega⟩
 | x::l,b=>by
  have e:tW b (x::l)=tW (if b.depth < x.depth then x else b) l:=rfl
  obtain ⟨j,h1,h2⟩:=aOw l (if b.depth < x.depth then x else b)
  have hm:=aAr l (if b.depth < x.depth then x else b)
  rw [e]
  by_cases hc:b.depth < x.depth
  ·rw [if_pos hc] at h1 h2 hm ⊢
   refine ⟨j+1,by simpa using h1,fun i c hi hci => ?_⟩
   cases i with
   | zero=>simp only [List.getElem?_cons_zero,Option.some.injEq] at hci;subst hci;omega
   | succ i=>exact h2 i c (by omega) (by simpa using hci)
  ·rw [if_neg hc] at h1 h2 hm ⊢
   cases j with
   | zero=>exact ⟨0,by simpa using h1,fun i c h=>by omega⟩
   | succ j =>
    have hb:=h2 0 b (by omega) rfl
    refine ⟨j+2,by simpa using h1,fun i c hi hci => ?_⟩
    match i,hci with
    | 0,hci=>simp only [List.getElem?_cons_zero,Option.some.injEq] at hci;subst hci;exact hb
    | 1,hci=>simp only [List.getElem?_cons_succ,List.getElem?_cons_zero,Option.some.injEq] at hci;subst hci;omega
    | i+2,hci=>exact h2 (i+1) c (by omega) (by simpa using hci)
def bWa:Con:=⟨0,0,0,0,0⟩
theorem aYq {l:List Con} {d:Con} (hd:(bNd l).getD bWa=d) (hl:l≠[]):d∈l∧(∀ c∈l,c.depth≤d.depth)∧∀ (i:Nat) (c:Con),l[i]? = some c→d∉l.take i→c.depth=d.depth→c=d:=by
 cases l with
 | nil=>exact absurd rfl hl
 | cons b l =>
  have hd':tW b l=d:=hd
  obtain ⟨j,h1,h2⟩:=aOw l b
  have hm:=aAr l b
  rw [hd'] at h1 h2 hm
  refine ⟨List.mem_of_getElem? h1,fun c hc => ?_,fun i c hi hn he => ?_⟩
  ·rcases List.mem_cons.1 hc with rfl | hc
   ·exact hm.1
   ·exact hm.2 c hc
  ·rcases Nat.lt_trichotomy i j with h | h | h
   ·have:=h2 i c h hi;omega
   ·subst h;rw [hi] at h1;injection h1
   ·refine absurd (List.mem_of_getElem? (i:=j) ?_) hn
    rw [List.getElem?_take,if_pos h];exact h1
theorem bKa {n m:Nat}:(m*m≤n→m≤wY n)∧(¬ m*m≤n→wY n < m):=by
 have h:=sB n
 refine ⟨fun hc => ?_,fun hc=>aKy (by omega)⟩
 have:=aKy (Nat.lt_of_le_of_lt hc h.2)
 omega
end Go.Bil
namespace Go.Bil
theorem bNf {m:Nat} (h:m < 18446744073709551616):∃ x0 x1 x2 x3:Nat,bVi m=[x0,x1,x2,x3,0,0,0,0]∧x0 < 65536∧x1 < 65536∧x2 < 65536∧x3 < 65536∧x0+65536*(x1+65536*(x2+65536*x3))=m :=
 ⟨_,_,_,_,rfl,by omega,by omega,by omega,by omega,by omega⟩
theorem bNh {l:List Nat} (h:l.length=8):∃ d0 d1 d2 d3 d4 d5 d6 d7,l=[d0,d1,d2,d3,d4,d5,d6,d7]:=by
 rcases l with _ | ⟨a0,_ | ⟨a1,_ | ⟨a2,_ | ⟨a3,_ | ⟨a4,_ | ⟨a5,_ | ⟨a6,_ | ⟨a7,_ | ⟨a8,l⟩⟩⟩⟩⟩⟩⟩⟩⟩ <;> first | exact ⟨_,_,_,_,_,_,_,_,rfl⟩ | (simp at h)
theorem bLm {D:List Nat} {j d:Nat} (h:D[j]? = some d):nth (D.map mE) (0+j*1)=some (.int .u64 (d:Int)):=by
 rw [nQ,Nat.zero_add,Nat.mul_one];exact aG mE h
theorem bWi (a b:Nat) (h:a≤4611686018427387904):IntKind.i64.wrap ((a:Int).tdiv (b:Int))=((a / b:Nat):Int):=by
 have e:(a:Int).tdiv (b:Int)=((a / b:Nat):Int):=(Int.ofNat_tdiv a b).symm
 have hq:=Nat.div_le_self a b
 rw [e]
 generalize a / b=c at *
 exact fJ _ (by omega) (by omega)
theorem bFe (dx dy:Int):len dx dy=0↔dx=0∧dy=0:=by
 have h:=sB (rM dx dy)
 unfold len
 constructor
 ·intro h0
  have h1:wY (rM dx dy)=0:=by omega
  rw [h1] at h
  have h2:rM dx dy=0:=by omega
  unfold rM at h2
  have a:dx.natAbs*dx.natAbs=0:=by omega
  have b:dy.natAbs*dy.natAbs=0:=by omega
  have a':=(Nat.mul_eq_zero.1 a).elim id id
  have b':=(Nat.mul_eq_zero.1 b).elim id id
  omega
 ·rintro ⟨rfl,rfl⟩
  rfl
def gI (z:Pt × Pt):List Value:=cM z.1++cM z.2
theorem bLl (m:List (Pt × Pt)):∀ y∈m.map gI,y.length=4:=by
 intro y hy
 obtain ⟨x,_,rfl⟩:=List.mem_map.1 hy
 rfl
def tV (l:List (Pt × Pt)):Ch:=l.foldl (fun s z=>gB s z.1 z.2) ch0
theorem aCa {l:List (Pt × Pt)} {k:Nat} {z:Pt × Pt} (h:l[k]? = some z):tV (l.take (k+1))=gB (tV (l.take k)) z.1 z.2:=by
 unfold tV
 rw [cH h,List.foldl_append];rfl
structure ChL (s:Ch):Prop where
 i:ChI s
 l:s.2.2=rM (s.2.1.1 - s.1.1) (s.2.1.2 - s.1.2)
theorem ChL.step {s:Ch} {x y:Pt} (h:ChL s) (hx:PtI x) (hy:PtI y):ChL (gB s x y):=by
 refine ⟨h.i.step hx hy, ?_⟩
 unfold gB
 split
 ·rfl
 ·exact h.l
theorem aJn {x y:Pt} (hx:PtI x) (hy:PtI y):tV [(x,y)]=(x,y,rM (y.1 - x.1) (y.2 - x.2))∧ChL (tV [(x,y)]):=by
 have e:tV [(x,y)]=(x,y,rM (y.1 - x.1) (y.2 - x.2)):=yJ hx hy
 rw [e]
 exact ⟨Z,⟨hx,hy,(sS (hx.inX hy) (hx.inY hy)).1⟩,Z⟩
structure Btw (p q z:Pt):Prop where
 x:min p.1 q.1≤z.1∧z.1≤max p.1 q.1
 y:min p.2 q.2≤z.2∧z.2≤max p.2 q.2
theorem qX {p q c:Pt} (h:SgI p q):Btw p q (cJ p q c):=by
 unfold cJ
 split
 ·exact ⟨by omega,by omega⟩
 ·rename_i hd
  have hn:=zP (c:=c) h
  have hD:=oP h
  have a:=bIz (a:=q.1 - p.1) hn.1 hn.2 (by omega)
  have b:=bIz (a:=q.2 - p.2) hn.1 hn.2 (by omega)
  generalize (q.1 - p.1)*qH p q c / nC p q=u at *
  generalize (q.2 - p.2)*qH p q c / nC p q=v at *
  refine ⟨?_, ?_⟩ <;> simp only <;> omega
theorem bMl (p q:Pt):Btw p q p:=⟨by omega,by omega⟩
theorem bMm (p q:Pt):Btw p q q:=⟨by omega,by omega⟩
theorem aSg {ap aq bp bq:Pt} (h1:SgI ap aq) (h2:SgI bp bq):Btw ap aq (nM ap aq bp bq).1∧Btw bp bq (nM ap aq bp bq).2.1:=by
 have st:∀ (s:Ch) (x y:Pt),Btw ap aq s.1∧Btw bp bq s.2.1→Btw ap aq x→Btw bp bq y→Btw ap aq (gB s x y).1∧Btw bp bq (gB s x y).2.1:=by
  intro s x y hs hx hy
  unfold gB
  split
  ·exact ⟨hx,hy⟩
  ·exact hs
 unfold nM
 refine st _ _ _ (st _ _ _ (st _ _ _ ?_ (bMm _ _) (qX h2)) (qX h1) (bMl _ _)) (qX h1) (bMm _ _)
 rw [yJ h1.hp (fB h2)]
 exact ⟨bMl _ _,qX h2⟩
theorem yF {d:Int} {e r:Nat} (h:d.natAbs*d.natAbs+e < r*r):d.natAbs < r:=aKy (by omega)
theorem bSb {a b:Body} {s t:Pt} (ra:0 < a.radius) (rb:0 < b.radius) (x1:a.px - max a.ax (-a.ax)≤s.1∧s.1≤a.px+max a.ax (-a.ax)) (y1:a.py - max a.ay (-a.ay)≤s.2∧s.2≤a.py+max a.ay (-a.ay))
  (x2:b.px - max b.ax (-b.ax)≤t.1∧t.1≤b.px+max b.ax (-b.ax)) (y2:b.py - max b.ay (-b.ay)≤t.2∧t.2≤b.py+max b.ay (-b.ay)) (hx:(t.1 - s.1).natAbs < (a.radius+b.radius).natAbs) (hy:(t.2 - s.2).natAbs < (a.radius+b.radius).natAbs):ovl (gZ a) (gZ b):=by
 simp only [ovl,gZ,kD,aSr,aSs]
 generalize max a.ax (-a.ax)=p at *
 generalize max a.ay (-a.ay)=q at *
 generalize max b.ax (-b.ax)=u at *
 generalize max b.ay (-b.ay)=v at *
 have hx' : -(a.radius+b.radius) < t.1 - s.1∧t.1 - s.1 < a.radius+b.radius:=by omega
 have hy' : -(a.radius+b.radius) < t.2 - s.2∧t.2 - s.2 < a.radius+b.radius:=by omega
 clear hx hy
 refine ⟨⟨?_, ?_⟩,⟨?_, ?_⟩, ?_, ?_, ?_, ?_⟩ <;> omega
theorem aVl {b:Body} {z:Pt} (h:Btw (aAt b) (aAu b) z):(b.px - max b.ax (-b.ax)≤z.1∧z.1≤b.px+max b.ax (-b.ax))∧b.py - max b.ay (-b.ay)≤z.2∧z.2≤b.py+max b.ay (-b.ay):=by
 have hx:=h.x
 have hy:=h.y
 simp only [aAt,aAu] at hx hy
 omega
theorem bIu {a b:Body} (ha:Okb a) (hb:Okb b) (h:(kP a b).isSome=true):ovl (gZ a) (gZ b):=by
 have w:=aSg (qQ ha) (qQ hb)
 have hc:¬ ((a.radius+b.radius).natAbs*(a.radius+b.radius).natAbs≤rM (rH (pK a b)) (sO (pK a b))):=by
  intro hc
  unfold kP at h
  rw [if_pos hc] at h
  cases h
 clear h
 have hl:(rH (pK a b)).natAbs*(rH (pK a b)).natAbs+(sO (pK a b)).natAbs*(sO (pK a b)).natAbs < (a.radius+b.radius).natAbs*(a.radius+b.radius).natAbs:=Nat.lt_of_not_le hc
 have hx:(rH (pK a b)).natAbs < (a.radius+b.radius).natAbs:=yF hl
 have hy:(sO (pK a b)).natAbs < (a.radius+b.radius).natAbs:=yF (e:=(rH (pK a b)).natAbs*(rH (pK a b)).natAbs) (by rw [Nat.add_comm];exact hl)
 have ra:=ha.r
 have rb:=hb.r
 have w1:=aVl w.1
 have w2:=aVl w.2
 exact bSb (by omega) (by omega) w1.1 w1.2 w2.1 w2.2 hx hy
theorem aSm {a b:Body} (ha:Okb a) (hb:Okb b) (hk:a.key < b.key) (h:¬ ovl (gZ a) (gZ b)):lN a b=none:=by
 unfold lN
 rw [if_neg (by omega)]
 cases hc:kP a b with
 | none=>rfl
 | some c=>exact absurd (bIu ha hb (by rw [hc];rfl)) h
def aRo (xs:List Body) (i:Nat):List Con:=(uB xs i).filterMap (aEv (boM xs))
def aJc (xs:List Body) (i k:Nat):List Con:=(wQ xs i k).filterMap (aEv (boM xs))
theorem wA {xs:List Body} (hs:cZ xs) (hb:∀ b∈xs,Okb b) {i k:Nat} {a b:Body} (ha:xs[i]? = some a) (h:xs[k]? = some b) (hi:i+1≤k):aJc xs i (k+1)=aJc xs i k++(lN a b).toList:=by
 have hk:=fK hs (show i < k by omega) ha h
 unfold aJc
 by_cases ho:ovl (gZ a) (gZ b)
 ·rw [bGn ha h hi ho,List.filterMap_append]
  congr 1
  have e:aEv (boM xs) (a.key,b.key)=lN a b:=vI (aDs hs (List.mem_of_getElem? ha)) (aDs hs (List.mem_of_getElem? h))
  cases hc:lN a b <;> simp [e,hc]
 ·rw [bKz ha h hi ho,aSm (hb a (List.mem_of_getElem? ha)) (hb b (List.mem_of_getElem? h)) hk ho]
  simp
theorem aUa (xs:List Body) (i:Nat):aJc xs i (i+1)=[]:=by unfold aJc;rw [aTz];rfl
theorem aXu (xs:List Body) (i:Nat):aRo xs (i+1)=aRo xs i++aJc xs i xs.length:=by unfold aRo aJc;rw [xP,List.filterMap_append]
theorem bBs (xs:List Body) (i:Nat):(aRo xs i).length≤i*xs.length:=Nat.le_trans (List.length_filterMap_le _ _) (aAw xs i)
theorem bGo (xs:List Body) (i k:Nat):(aJc xs i k).length≤xs.length:=Nat.le_trans (List.length_filterMap_le _ _) (aQv xs i k)
end Go.Bil
namespace Go.Bil
theorem bFl {a:Int} {m z q r:Nat} (hq:a.natAbs*m / z=q) (hr:a.natAbs*m % z=r) (hz:0 < (z:Int)) :
  (if decide (a < 0)=true then (if 0 < r then -(q:Int) - 1 else -(q:Int)) else (q:Int))=a*(m:Int) / (z:Int):=by
 by_cases ha:a < 0
 ·rw [if_pos (decide_eq_true ha),aMs ha (by omega),hq,hr]
  by_cases h0:r=0
  ·rw [if_neg (by omega),if_pos h0]
  ·rw [if_pos (by omega),if_neg h0]
 ·rw [if_neg (by simpa using ha),← aMt (by omega),hq]
theorem aSh {ap aq bp bq:Pt} (h1:SgI ap aq) (h2:SgI bp bq):∀ z∈([(ap,cJ bp bq ap),(aq,cJ bp bq aq),(cJ ap aq bp,bp),(cJ ap aq bq,bq)]:List (Pt × Pt)),PtI z.1∧PtI z.2:=by
 intro z hz
 simp only [List.mem_cons,List.not_mem_nil,or_false] at hz
 rcases hz with rfl | rfl | rfl | rfl
 ·exact ⟨h1.hp,fB h2⟩
 ·exact ⟨h1.hq,fB h2⟩
 ·exact ⟨fB h1,h2.hp⟩
 ·exact ⟨fB h1,h2.hq⟩
end Go.Bil
namespace Go.Bil
theorem lS (a b:Nat) (h:a+b < 18446744073709551616):IntKind.wrap .u64 ((a:Int)+(b:Int))=((a+b:Nat):Int):=by rw [gS];omega
theorem gL {z c x y:Nat} (hz:z < 65536) (hc:c < 65536) (hx:x < 65536) (hy:y < 65536):∃ t,t=z+x*y+c∧x*y < 18446744073709551616∧z+x*y < 18446744073709551616∧z+x*y+c < 18446744073709551616∧t < 18446744073709551616∧t / 65536 < 65536:=by
 have:=bFr hz hc hx hy rfl
 exact ⟨_,Z,by omega,by omega,by omega,by omega,this.2.2⟩
end Go.Bil
namespace Go.Bil
theorem bWf {a0 a1 a2 a3 a4 a5 a6 a7:Nat} (h0:a0 < 65536) (h1:a1 < 65536) (h2:a2 < 65536) (h3:a3 < 65536) (h4:a4 < 65536) (h5:a5 < 65536) (h6:a6 < 65536) (h7:a7 < 65536):∀ x∈[a0,a1,a2,a3,a4,a5,a6,a7],x < 65536:=by
 intro x hx
 simp only [List.mem_cons,List.not_mem_nil,or_false] at hx
 omega
end Go.Bil
namespace Go.Bil
structure BestC (ys:List Con) (i j:Nat):Prop where
 lt:ys≠[]→j < ys.length
 z:i=0→j=0
 ji:i≠0→j < i
 mx:∀ (p:Nat) (x b:Con),p < i→ys[p]? = some x→ys[j]? = some b→x.depth≤b.depth∧(p < j→x.depth < b.depth)
theorem BestC.new {ys:List Con} {i j:Nat} {x b:Con} (h:BestC ys i j) (hx:ys[i]? = some x) (hb:ys[j]? = some b) (hc:x.depth > b.depth):BestC ys (i+1) i:=by
 have hi:=(List.getElem?_eq_some_iff.1 hx).1
 refine ⟨fun _=>hi,fun h=>by omega,fun _=>by omega,fun p y c hp hy hcx => ?_⟩
 rw [hx] at hcx
 injection hcx with hcx
 subst hcx
 by_cases hpi:p=i
 ·subst hpi
  rw [hx] at hy
  injection hy with hy
  subst hy
  exact ⟨Int.le_refl _,fun h=>by omega⟩
 ·have:=(h.mx p y b (by omega) hy hb).1
  exact ⟨by omega,fun _=>by omega⟩
theorem BestC.old {ys:List Con} {i j:Nat} {x b:Con} (h:BestC ys i j) (hx:ys[i]? = some x) (hb:ys[j]? = some b) (hc:¬ x.depth > b.depth):BestC ys (i+1) j:=by
 refine ⟨h.lt,fun h=>by omega,fun _ => ?_,fun p y c hp hy hcx => ?_⟩
 ·by_cases hi:i=0
  ·have:=h.z hi;omega
  ·have:=h.ji hi;omega
 ·rw [hb] at hcx
  injection hcx with hcx
  subst hcx
  by_cases hpi:p=i
  ·subst hpi
   rw [hx] at hy
   injection hy with hy
   subst hy
   refine ⟨by omega,fun hpj => ?_⟩
   by_cases hi:p=0
   ·have:=h.z hi;omega
   ·have:=h.ji hi;omega
  ·exact h.mx p y b (by omega) hy hb
theorem BestC.done {ys:List Con} {m j:Nat} {d:Con} (h:BestC ys m j) (hn:ys≠[]) (hl:ys.length=m) (hd:(bNd ys).getD bWa=d):∃ x,ys[j]? = some x∧d=x:=by
 have hj:=h.lt hn
 refine ⟨ys[j],List.getElem?_eq_getElem hj, ?_⟩
 have hg:=List.getElem?_eq_getElem hj
 obtain ⟨h1,h2,h3⟩:=aYq hd hn
 obtain ⟨p,hp⟩:=List.getElem?_of_mem h1
 have hpl:=(List.getElem?_eq_some_iff.1 hp).1
 have e1:=(h.mx p d _ (by omega) hp hg).1
 have e2:=h2 _ (List.getElem_mem hj)
 refine (h3 j _ hg ?_ (by omega)).symm
 intro hm
 obtain ⟨q,hq⟩:=List.getElem?_of_mem hm
 rw [List.getElem?_take] at hq
 split at hq
 ·have:=(h.mx q d _ (by omega) hq hg).2 (by omega)
  omega
 ·cases hq
theorem bIt {xs:List Body} (hs:cZ xs) {c:Con} (h:c∈lT xs):∃ a b,a∈xs∧b∈xs∧a.key < b.key∧lN a b=some c∧c.low=a.key∧c.high=b.key:=by
 obtain ⟨z,hz,hc⟩:=List.mem_filterMap.1 h
 obtain ⟨a,b,ha,hb,hk,rfl,h1,h2⟩:=aCp hs hz
 rw [vI h1 h2] at hc
 have:=aYo hk hc
 exact ⟨a,b,ha,hb,hk,hc,this.1,this.2⟩
end Go.Bil

namespace Go.Bil
def bSt (a:Bx):Prop:=a=iU∨(a.x0≤a.x1∧a.y0≤a.y1)
structure Meas where
 nb:Int
 ns:Int
 sp:Nat
 sx:Int
 sy:Int
 bx:Bx
 ov:Int
deriving DecidableEq
structure OkM (k:Nat) (m:Meas):Prop where
 g:bSt m.bx
 x:m.bx=iU∨Okx m.bx
 nb:0≤m.nb∧m.nb≤k
 ns:0≤m.ns∧m.ns≤m.nb
 sp:m.sp < 18446744073709551616
 sx : -(16777216*(k:Int))≤m.sx∧m.sx≤16777216*k
 sy : -(16777216*(k:Int))≤m.sy∧m.sy≤16777216*k
 ov : -(2147483648*((k:Int)*k))≤m.ov∧m.ov≤2147483648*((k:Int)*k)
theorem OkM.mono {j k:Nat} {a:Meas} (h:OkM j a) (hjk:j≤k):OkM k a:=by
 have n1:=h.nb;have x1:=h.sx;have y1:=h.sy;have o1:=h.ov
 have hsq:(j:Int)*j≤(k:Int)*k:=Int.mul_le_mul (by omega) (by omega) (by omega) (by omega)
 refine ⟨h.g,h.x,by omega,h.ns,h.sp,by omega,by omega, ?_⟩
 generalize (j:Int)*j=J at *
 generalize (k:Int)*k=K at *
 omega
theorem aVj {xs:List Body}:(lT xs).length≤xs.length*xs.length:=Nat.le_trans (aEm xs) (aAw xs xs.length)
end Go.Bil

namespace Go.Bil
end Go.Bil

namespace Go.Bil
end Go.Bil
namespace Go.Bil
structure RightOne (xs:List Body) (c:Con):Prop where
 ne:¬ c.low=c.high
 l:0≤dO c.low xs
 h:0≤dO c.high xs
instance (xs:List Body) (c:Con):Decidable (RightOne xs c):=decidable_of_iff (¬ c.low=c.high∧0≤dO c.low xs∧0≤dO c.high xs) ⟨fun h=>⟨h.1,h.2.1,h.2.2⟩,fun h=>⟨h.1,h.2,h.3⟩⟩
end Go.Bil
namespace Go.Bil
theorem bJp {xs:List Body} {i:Nat} {b:Body} (h:xs[i]? = some b):xs.getD i default=b:=by rw [List.getD_eq_getElem?_getD,h];rfl
end Go.Bil
namespace Go.Bil
theorem vK {xs:List Body} {k:Int} (h:0≤dO k xs):∃ (p:Nat) (x:Body),xs[p]? = some x∧x.key=k∧dO k xs=(p:Int):=(eO k xs).elim (fun e=>absurd e.1 (by omega)) id
end Go.Bil

namespace Go.Bil
def jK (n l:Int):Int:=max (-l) (min n l)
theorem eX (n:Int) {l:Int} (h:0≤l) : -l≤jK n l∧jK n l≤l:=by unfold jK;omega
theorem bHr {dx dy:Int} (hx:wV dx) (hy:wV dy):(-65536≤(qM dx dy).1∧(qM dx dy).1≤65536)∧(-65536≤(qM dx dy).2∧(qM dx dy).2≤65536):=by
 have hl:=xT hx hy
 unfold qM
 by_cases h0:len dx dy=0
 ·rw [if_pos h0];decide
 ·rw [if_neg h0]
  have hs:=(sB (rM dx dy)).2
  have hle:∀ a:Nat,a*a≤rM dx dy→a≤wY (rM dx dy):=fun a ha=>by
   by_cases g:a≤wY (rM dx dy)
   ·exact g
   ·have:=Nat.mul_le_mul (show wY (rM dx dy)+1≤a by omega) (show wY (rM dx dy)+1≤a by omega);omega
  have h1:=hle dx.natAbs (by unfold rM;omega)
  have h2:=hle dy.natAbs (by unfold rM;omega)
  have hp:0 < len dx dy:=by omega
  have key:∀ d:Int,d.natAbs≤wY (rM dx dy) → -65536≤d*65536 / len dx dy∧d*65536 / len dx dy≤65536:=fun d hd=>by
   have hd' : -(len dx dy)≤d∧d≤len dx dy:=by unfold len;omega
   exact ⟨Int.le_ediv_of_mul_le hp (by omega),Int.ediv_le_of_le_mul hp (by omega)⟩
  have k1:=key dx h1
  have k2:=key dy h2
  rw [jQ _ (by omega) (by omega),jQ _ (by omega) (by omega)]
  exact ⟨k1,k2⟩
structure Okn (c:Con):Prop where
 x : -65536≤c.nx∧c.nx≤65536
 y : -65536≤c.ny∧c.ny≤65536
 d : -2147483648≤c.depth∧c.depth≤2147483647
theorem aSl {a b:Body} {c:Con} (ha:Okb a) (hb:Okb b) (h:kP a b=some c):Okn c:=by
 have hw:∀ x:Int, -2147483648≤IntKind.wrap .i32 x∧IntKind.wrap .i32 x≤2147483647:=fun x=>by
  simp only [IntKind.wrap,IntKind.bits,IntKind.signed,Bool.true_and,decide_eq_true_eq,ge_iff_le];split <;> omega
 have hd:=bDr ha hb
 have hu:=bHr hd.1 hd.2
 unfold kP at h
 split at h
 ·cases h
 ·injection h with h
  revert hu h
  generalize qM (rH (pK a b)) (sO (pK a b))=u
  generalize a.radius+b.radius - len (rH (pK a b)) (sO (pK a b))=q
  intro hu h
  subst h
  exact Okn.mk hu.1 hu.2 (hw q)
structure OkC (xs:List Body) (c:Con):Prop where
 ne:c.low < c.high
 l:0≤dO c.low xs
 h:0≤dO c.high xs
 n:Okn c
theorem aPf {xs:List Body} {b:Body} (hb:b∈xs):0≤dO b.key xs:=by
 rcases eO b.key xs with ⟨_,g⟩ | ⟨i,y,_,_,g⟩
 ·exact absurd Z (g b hb)
 ·omega
theorem rO {xs:List Body} (hs:cZ xs) (hb:∀ b∈xs,Okb b):∀ c∈lT xs,OkC xs c:=fun c hc=>by
 obtain ⟨a,b,ha,hb',hk,h,e1,e2⟩:=bIt hs hc
 have h':=h
 unfold lN at h'
 rw [if_neg (by omega)] at h'
 exact ⟨by omega,by rw [e1];exact aPf ha,by rw [e2];exact aPf hb',aSl (hb a ha) (hb b hb') h'⟩
def xJ (c:Con) (a b:Body):Int:=((b.vx - a.vx)*c.nx+(b.vy - a.vy)*c.ny) / 65536
def lJ (c:Con) (a b:Body):Int:=if 0≤xJ c a b∨a.mass+b.mass=0 then 0 else -xJ c a b*(65536+max a.bounce b.bounce) / (a.mass+b.mass)
def oG (j m n:Int):Int:=j*m / 65536*n / 65536
theorem yG {c:Con} {a b:Body} (hc:Okn c) (ha:Okb a) (hb:Okb b):(-2199023255552≤(b.vx - a.vx)*c.nx∧(b.vx - a.vx)*c.nx≤2199023255552)∧(-2199023255552≤(b.vy - a.vy)*c.ny∧(b.vy - a.vy)*c.ny≤2199023255552) ∧ -67108864≤xJ c a b∧xJ c a b≤67108864:=by
 have h1:=ha.v;have h2:=hb.v;have h3:=hc.x;have h4:=hc.y
 have m1:=aGi (a:=b.vx - a.vx) (b:=c.nx) (A:=33554432) (B:=65536) (by omega) (by omega)
 have m2:=aGi (a:=b.vy - a.vy) (b:=c.ny) (A:=33554432) (B:=65536) (by omega) (by omega)
 unfold xJ
 omega
theorem aHl {c:Con} {a b:Body} (hc:Okn c) (ha:Okb a) (hb:Okb b) (h:¬ (0≤xJ c a b)):0 ≤ -xJ c a b*(65536+max a.bounce b.bounce) ∧ -xJ c a b*(65536+max a.bounce b.bounce)≤8796093022208:=by
 have h1:=yG hc ha hb
 have h2:=ha.c;have h3:=hb.c
 have m:=aGi (a := -xJ c a b) (b:=65536+max a.bounce b.bounce) (A:=67108864) (B:=131072) (by omega) (by omega)
 have n:=Int.mul_nonneg (a := -xJ c a b) (b:=65536+max a.bounce b.bounce) (by omega) (by omega)
 omega
theorem aOy {x s m:Int} (hx:0≤x) (hs:0 < s) (hm:0≤m∧m≤s):0≤x / s∧x / s≤x∧0≤x / s*m∧x / s*m≤x:=by
 have h0:0≤x / s:=Int.ediv_nonneg hx (by omega)
 have h1:x / s*s≤x:=Int.ediv_mul_le x (by omega)
 have h2:x / s*m≤x / s*s:=Int.mul_le_mul_of_nonneg_left hm.2 h0
 have h3:x / s*1≤x / s*s:=Int.mul_le_mul_of_nonneg_left (by omega) h0
 have h4:0≤x / s*m:=Int.mul_nonneg h0 hm.1
 omega
theorem rE {c:Con} {a b:Body} (hc:Okn c) (ha:Okb a) (hb:Okb b) {m:Int} (hm:0≤m∧m≤a.mass+b.mass):0≤lJ c a b∧lJ c a b≤8796093022208∧0≤lJ c a b*m∧lJ c a b*m≤8796093022208:=by
 have h2:=ha.m;have h3:=hb.m
 unfold lJ
 split
 ·simp
 ·rename_i h
  have hp:=aHl hc ha hb (fun g=>h (.inl g))
  have hd:=aOy hp.1 (s:=a.mass+b.mass) (by omega) hm
  omega
theorem lE {j m n:Int} (h:0≤j*m∧j*m≤8796093022208) (hn : -65536≤n∧n≤65536):(0≤j*m / 65536∧j*m / 65536≤134217728)∧(-8796093022208≤j*m / 65536*n∧j*m / 65536*n≤8796093022208) ∧ -134217728≤oG j m n∧oG j m n≤134217728:=by
 have hk:0≤j*m / 65536∧j*m / 65536≤134217728:=by omega
 have m1:=aGi (a:=j*m / 65536) (b:=n) (A:=134217728) (B:=65536) (by omega) (by omega)
 unfold oG
 generalize j*m / 65536=k at *
 omega
def bdy (xs:List Body) (k:Int):Body:=xs.getD (dO k xs).toNat default
theorem aAl {xs:List Body} {k:Int} {p:Nat} {x:Body} (hx:xs[p]? = some x) (hp:dO k xs=(p:Int)):bdy xs k=x:=by
 unfold bdy
 rw [hp,Int.toNat_natCast,bJp hx]
theorem aDr {xs:List Body} {k:Int} (h:0≤dO k xs):bdy xs k∈xs∧(bdy xs k).key=k:=by
 obtain ⟨p,x,hx,hk,hf⟩:=vK h
 rw [aAl hx hf]
 exact ⟨List.mem_of_getElem? hx,hk⟩
def jV (xs:List Body) (c:Con):Int:=lJ c (bdy xs c.low) (bdy xs c.high)
def ctr (xs:List Body) (g:Con→Int) (c:Con) (b:Body):Int:=if c.low=b.key then -oG (jV xs c) b.mass (g c) else if c.high=b.key then oG (jV xs c) b.mass (g c) else 0
def iK (xs:List Body) (cs:List Con) (g:Con→Int) (b:Body):Int:=(cs.map (fun c=>ctr xs g c b)).sum
theorem kN {xs:List Body} {cs:List Con} {k:Nat} {c:Con} (h:cs[k]? = some c) (g:Con→Int) (b:Body):iK xs (cs.take (k+1)) g b=iK xs (cs.take k) g b+ctr xs g c b:=by
 unfold iK
 rw [cH h,List.map_append,List.sum_append]
 simp
theorem aLc (xs:List Body) (cs:List Con) (g:Con→Int) (b:Body):iK xs (cs.take 0) g b=0:=by simp [iK]
theorem bIv {xs:List Body} {c:Con} {g:Con→Int} {b:Body} (hs:cZ xs) (hx:∀ b∈xs,Okb b) (hc:OkC xs c) (hg : -65536≤g c∧g c≤65536) (hb:b∈xs) : -134217728≤ctr xs g c b∧ctr xs g c b≤134217728:=by
 obtain ⟨l1,l2⟩:=aDr hc.l
 obtain ⟨h1,h2⟩:=aDr hc.h
 have ma:=(hx _ l1).m;have mb:=(hx _ h1).m
 unfold ctr
 split
 ·rename_i e
  have:bdy xs c.low=b:=mJ hs l1 hb (by rw [l2,e])
  have hr:=rE hc.n (hx _ l1) (hx _ h1) (m:=b.mass) (by rw [← this];omega)
  have:=(lE hr.2.2 hg).2.2
  unfold jV
  omega
 ·split
  ·rename_i e
   have:bdy xs c.high=b:=mJ hs h1 hb (by rw [h2,e])
   have hr:=rE hc.n (hx _ l1) (hx _ h1) (m:=b.mass) (by rw [← this];omega)
   have:=(lE hr.2.2 hg).2.2
   unfold jV
   omega
  ·omega
theorem aXj {cs:List Con} {f:Con→Int} {B:Int} (hB:0≤B) (h:∀ c∈cs, -B≤f c∧f c≤B) : -(cs.length*B)≤(cs.map f).sum∧(cs.map f).sum≤cs.length*B:=by
 induction cs with
 | nil=>simp
 | cons c cs ih =>
  have h0:=h c (by simp)
  have h1:=ih (fun d hd=>h d (by simp [hd]))
  rw [List.map_cons,List.sum_cons,List.length_cons,Int.natCast_add,Int.add_mul]
  omega
theorem uV {xs:List Body} {cs:List Con} {g:Con→Int} {b:Body} (hs:cZ xs) (hx:∀ b∈xs,Okb b) (hc:∀ c∈cs,OkC xs c) (hg:∀ c∈cs, -65536≤g c∧g c≤65536) (hb:b∈xs) : -(cs.length*134217728)≤iK xs cs g b∧iK xs cs g b≤cs.length*134217728 :=
 aXj (by decide) (fun c h=>bIv hs hx (hc c h) (hg c h) hb)
def yA (xs:List Body) (cs:List Con) (b:Body):Body:={ b with vx:=jK (b.vx+iK xs cs (·.nx) b) 16777216,vy:=jK (b.vy+iK xs cs (·.ny) b) 16777216 }
def aTx (xs:List Body) (cs:List Con) (b:Body):Bool:=decide (jK (b.vx+iK xs cs (·.nx) b) 16777216≠b.vx+iK xs cs (·.nx) b) || decide (jK (b.vy+iK xs cs (·.ny) b) 16777216≠b.vy+iK xs cs (·.ny) b)
def aGx (xs:List Body) (cs:List Con):List Body:=xs.map (yA xs cs)
def aTy (xs:List Body) (cs:List Con):Bool:=xs.any (aTx xs cs)
def iF (xs:List Body) (cs:List Con):Nat→List Body × Bool
 | 0=>(xs,false)
 | k+1=>(aGx (iF xs cs k).1 cs,(iF xs cs k).2 || aTy (iF xs cs k).1 cs)
structure SameB (a b:Body):Prop where
 key:a.key=b.key
 radius:a.radius=b.radius
 ax:a.ax=b.ax
 ay:a.ay=b.ay
 mass:a.mass=b.mass
 bounce:a.bounce=b.bounce
structure Like (xs ys:List Body):Prop where
 len:ys.length=xs.length
 at_:∀ (i:Nat) (x y:Body),xs[i]? = some x→ys[i]? = some y→SameB y x
theorem Like.refl (xs:List Body):Like xs xs:=⟨rfl,fun i x y h1 h2=>by rw [h1] at h2;injection h2 with h2;subst h2;exact ⟨rfl,rfl,rfl,rfl,rfl,rfl⟩⟩
theorem Like.trans {xs ys zs:List Body} (h:Like xs ys) (g:Like ys zs):Like xs zs:=⟨by rw [g.len,h.len],fun i x z hx hz=>by
 have hi:=(List.getElem?_eq_some_iff.1 hx).1
 have hy:ys[i]? = some (ys[i]'(by rw [h.len];exact hi)):=List.getElem?_eq_getElem _
 have a:=h.at_ i x _ hx hy
 have b:=g.at_ i _ z hy hz
 exact ⟨b.key.trans a.key,b.radius.trans a.radius,b.ax.trans a.ax,b.ay.trans a.ay,b.mass.trans a.mass,b.bounce.trans a.bounce⟩⟩
theorem Like.map {xs:List Body} {f:Body→Body} (h:∀ b∈xs,SameB (f b) b):Like xs (xs.map f):=⟨by simp,fun i x y hx hy=>by
 rw [List.getElem?_map,hx] at hy
 injection hy with hy
 subst hy
 exact h x (List.mem_of_getElem? hx)⟩
theorem Like.keys {xs ys:List Body} (h:Like xs ys):ys.map (·.key)=xs.map (·.key):=by
 apply List.ext_getElem?
 intro i
 rw [List.getElem?_map,List.getElem?_map]
 by_cases hi:i < xs.length
 ·have h1:xs[i]? = some xs[i]:=List.getElem?_eq_getElem hi
  have h2:ys[i]? = some (ys[i]'(by rw [h.len];exact hi)):=List.getElem?_eq_getElem _
  rw [h1,h2]
  exact congrArg some (h.at_ i _ _ h1 h2).key
 ·have hl:=h.len
  rw [List.getElem?_eq_none (show ys.length≤i by omega),List.getElem?_eq_none (show xs.length≤i by omega)]
theorem Like.sorted {xs ys:List Body} (h:Like xs ys) (hs:cZ xs):cZ ys:=by
 have:=h.keys
 unfold cZ at *
 have h1:(xs.map (·.key)).Pairwise (· < ·):=List.pairwise_map.2 hs
 rw [← this] at h1
 exact List.pairwise_map.1 h1
theorem Like.find {xs ys:List Body} (h:Like xs ys) (k:Int):dO k ys=dO k xs:=xO k h.keys
theorem Like.okc {xs ys:List Body} (h:Like xs ys) {c:Con} (hc:OkC xs c):OkC ys c:=⟨hc.ne,by rw [h.find];exact hc.l,by rw [h.find];exact hc.h,hc.n⟩
theorem bGm (xs:List Body) (cs:List Con):Like xs (aGx xs cs):=Like.map (fun b _=>⟨rfl,rfl,rfl,rfl,rfl,rfl⟩)
theorem bSf {xs:List Body} {cs:List Con} (h:∀ b∈xs,Okb b):∀ b∈aGx xs cs,Okb b:=fun b hb=>by
 obtain ⟨x,hx,rfl⟩:=List.mem_map.1 hb
 have:=h x hx
 exact ⟨this.r,this.a,this.m,this.c,this.p,⟨(eX _ (by decide)).1,(eX _ (by decide)).2,(eX _ (by decide)).1,(eX _ (by decide)).2⟩⟩
theorem jP (xs:List Body) (cs:List Con):∀ k,Like xs (iF xs cs k).1
 | 0=>Like.refl xs
 | k+1=>(jP xs cs k).trans (bGm _ cs)
theorem sG {xs:List Body} {cs:List Con} (h:∀ b∈xs,Okb b):∀ k,∀ b∈(iF xs cs k).1,Okb b
 | 0=>h
 | k+1=>bSf (sG h k)
def pG (b:Body):Body:=if b.mass=0 then b else { b with vy:=jK (b.vy - 1024) 16777216 }
def mM (b:Body):Bool:=decide (b.mass≠0) && decide (jK (b.vy - 1024) 16777216≠b.vy - 1024)
def qS (xs:List Body):List Body:=xs.map pG
theorem aZb (b:Body):SameB (pG b) b:=by unfold pG;split <;> exact ⟨rfl,rfl,rfl,rfl,rfl,rfl⟩
theorem lG (xs:List Body):Like xs (qS xs):=Like.map (fun b _=>aZb b)
theorem bEm {b:Body} (h:Okb b):Okb (pG b):=by
 unfold pG
 split
 ·exact h
 ·exact ⟨h.r,h.a,h.m,h.c,h.p,⟨h.v.1,h.v.2.1,(eX _ (by decide)).1,(eX _ (by decide)).2⟩⟩
theorem zD {xs:List Body} (h:∀ b∈xs,Okb b):∀ b∈qS xs,Okb b:=fun b hb=>by
 obtain ⟨x,hx,rfl⟩:=List.mem_map.1 hb
 exact bEm (h x hx)
def qC (c:Con) (a b:Body):Int:=if c.depth - 1024≤0∨(a.mass=0∧b.mass=0) then 0 else (c.depth - 1024)*26214 / 65536
def rL (c:Con) (a b:Body) (m:Int):Int:=qC c a b*m / max 1 (a.mass+b.mass)
theorem aDq {c:Con} {a b:Body} (hc:Okn c):0≤qC c a b∧qC c a b≤1073741824:=by
 have:=hc.d
 unfold qC
 split <;> omega
theorem aXf {c:Con} {a b:Body} {m:Int} (hc:Okn c) (hm:0≤m∧m≤1048576):(0≤qC c a b*m∧qC c a b*m≤1125899906842624)∧0≤rL c a b m∧rL c a b m≤1125899906842624:=by
 have h:=aDq (a:=a) (b:=b) hc
 have m1:=aGi (a:=qC c a b) (b:=m) (A:=1073741824) (B:=1048576) (by omega) (by omega)
 have h0:=Int.mul_nonneg h.1 hm.1
 have hd:=aOy h0 (s:=max 1 (a.mass+b.mass)) (by omega) (m:=0) (by omega)
 unfold rL
 omega
theorem aBr {c:Con} {a b:Body} {m:Int} (hc:Okn c) (hm:0≤m∧m≤a.mass+b.mass):0≤rL c a b m∧rL c a b m≤1073741824:=by
 have h:=aDq (a:=a) (b:=b) hc
 have hs:m≤max 1 (a.mass+b.mass):=by omega
 have h1:qC c a b*m≤qC c a b*max 1 (a.mass+b.mass):=Int.mul_le_mul_of_nonneg_left hs h.1
 have h2:rL c a b m≤qC c a b:=Int.ediv_le_of_le_mul (by omega) h1
 have h3:0≤rL c a b m:=Int.ediv_nonneg (Int.mul_nonneg h.1 hm.1) (by omega)
 omega
def wR (xs:List Body) (g:Con→Int) (c:Con) (b:Body):Int:=if c.low=b.key then -(rL c (bdy xs c.low) (bdy xs c.high) b.mass*g c / 65536) else if c.high=b.key then rL c (bdy xs c.low) (bdy xs c.high) b.mass*g c / 65536 else 0
def wS (xs:List Body) (cs:List Con) (g:Con→Int) (b:Body):Int:=(cs.map (fun c=>wR xs g c b)).sum
theorem jG {xs:List Body} {cs:List Con} {k:Nat} {c:Con} (h:cs[k]? = some c) (g:Con→Int) (b:Body):wS xs (cs.take (k+1)) g b=wS xs (cs.take k) g b+wR xs g c b:=by
 unfold wS
 rw [cH h,List.map_append,List.sum_append]
 simp
theorem wC (xs:List Body) (cs:List Con) (g:Con→Int) (b:Body):wS xs (cs.take 0) g b=0:=by simp [wS]
theorem mU {s n:Int} (hs:0≤s∧s≤1073741824) (hn : -65536≤n∧n≤65536):(-70368744177664≤s*n∧s*n≤70368744177664) ∧ -1073741824≤s*n / 65536∧s*n / 65536≤1073741824:=by
 have m1:=aGi (a:=s) (b:=n) (A:=1073741824) (B:=65536) (by omega) (by omega)
 omega
theorem bGv {xs:List Body} {c:Con} {g:Con→Int} {b:Body} (hs:cZ xs) (hx:∀ b∈xs,Okb b) (hc:OkC xs c) (hg : -65536≤g c∧g c≤65536) (hb:b∈xs) : -1073741824≤wR xs g c b∧wR xs g c b≤1073741824:=by
 obtain ⟨l1,l2⟩:=aDr hc.l
 obtain ⟨h1,h2⟩:=aDr hc.h
 have ma:=(hx _ l1).m;have mb:=(hx _ h1).m
 unfold wR
 split
 ·rename_i e
  have:bdy xs c.low=b:=mJ hs l1 hb (by rw [l2,e])
  have hr:=aBr (c:=c) (a:=bdy xs c.low) (b:=bdy xs c.high) (m:=b.mass) hc.n (by rw [← this];omega)
  have:=(mU hr hg).2
  omega
 ·split
  ·rename_i e
   have:bdy xs c.high=b:=mJ hs h1 hb (by rw [h2,e])
   have hr:=aBr (c:=c) (a:=bdy xs c.low) (b:=bdy xs c.high) (m:=b.mass) hc.n (by rw [← this];omega)
   have:=(mU hr hg).2
   omega
  ·omega
theorem aRc {xs:List Body} {cs:List Con} {g:Con→Int} {b:Body} (hs:cZ xs) (hx:∀ b∈xs,Okb b) (hc:∀ c∈cs,OkC xs c) (hg:∀ c∈cs, -65536≤g c∧g c≤65536) (hb:b∈xs) : -(cs.length*1073741824)≤wS xs cs g b∧wS xs cs g b≤cs.length*1073741824 :=
 aXj (by decide) (fun c h=>bGv hs hx (hc c h) (hg c h) hb)
def aIu (b:Body) (s:Int):Int:=b.px+s+b.vx / 64
def aIv (b:Body) (s:Int):Int:=b.py+s+b.vy / 64
def uI (b:Body) (sx sy:Int):Body:={ b with px:=jK (aIu b sx) 1073741824,py:=jK (aIv b sy) 1073741824 }
def aIy (b:Body) (sx sy:Int):Bool:=decide (jK (aIu b sx) 1073741824≠aIu b sx) || decide (jK (aIv b sy) 1073741824≠aIv b sy)
def aWs (xs:List Body) (cs:List Con) (ys:List Body):List Body:=ys.map (fun b=>uI b (wS xs cs (·.nx) b) (wS xs cs (·.ny) b))
def aWr (xs:List Body) (cs:List Con) (ys:List Body):Bool:=ys.any (fun b=>aIy b (wS xs cs (·.nx) b) (wS xs cs (·.ny) b))
theorem bGb (b:Body) (sx sy:Int):SameB (uI b sx sy) b:=⟨rfl,rfl,rfl,rfl,rfl,rfl⟩
theorem aZr (xs:List Body) (cs:List Con) (ys:List Body):Like ys (aWs xs cs ys):=Like.map (fun b _=>bGb b _ _)
theorem bKp {b:Body} (h:Okb b) (sx sy:Int):Okb (uI b sx sy):=⟨h.r,h.a,h.m,h.c,⟨(eX _ (by decide)).1,(eX _ (by decide)).2,(eX _ (by decide)).1,(eX _ (by decide)).2⟩,h.v⟩
theorem bKj {xs:List Body} {cs:List Con} {ys:List Body} (h:∀ b∈ys,Okb b):∀ b∈aWs xs cs ys,Okb b:=fun b hb=>by
 obtain ⟨x,hx,rfl⟩:=List.mem_map.1 hb
 exact bKp (h x hx) _ _
def mD (xs:List Body):List Body:=(iF (qS xs) (lT xs) 4).1
def rD (xs:List Body):List Body:=aWs xs (lT xs) (mD xs)
def aAd (xs:List Body):Bool:=(xs.any mM || (iF (qS xs) (lT xs) 4).2) || aWr xs (lT xs) (mD xs)
theorem aBs (xs:List Body):Like xs (rD xs):=(lG xs).trans ((jP _ _ 4).trans (aZr _ _ _))
theorem aXh {xs:List Body} (h:∀ b∈xs,Okb b):∀ b∈rD xs,Okb b:=bKj (sG (zD h) 4)
end Go.Bil

namespace Go.Bil
structure Apart (xs:List Body) (cs:List Con) (k:Nat) (q:Int):Prop where
 s:cZ xs
 f:∀ c∈cs,(c.low≠q∧0≤dO c.low xs)∧c.high≠q∧0≤dO c.high xs
 at_:∃ y,xs[k]? = some y∧y.key=q
theorem Apart.like {xs ys:List Body} {cs:List Con} {k:Nat} {q:Int} (h:Apart xs cs k q) (l:Like xs ys):Apart ys cs k q:=by
 refine ⟨l.sorted h.s,fun c hc => ?_, ?_⟩
 ·rw [l.find,l.find];exact h.f c hc
 ·obtain ⟨y,hy,e⟩:=h.at_
  have hk:=(List.getElem?_eq_some_iff.1 hy).1
  have h2:ys[k]? = some (ys[k]'(by rw [l.len];exact hk)):=List.getElem?_eq_getElem _
  exact ⟨_,h2,by rw [(l.at_ k _ _ hy h2).key,e]⟩
end Go.Bil

namespace Go.Bil
theorem vL {xs:List Body} {k:Int} (hs:cZ xs) (h:0≤dO k xs):∃ (p:Nat) (x:Body),xs[p]? = some x∧x.key=k∧aCj k xs=p∧bdy xs k=x∧x∈xs:=by
 obtain ⟨p,x,hp,hk,hf⟩:=vK h
 subst hk
 exact ⟨p,x,hp,Z,zI (by have:=(List.getElem?_eq_some_iff.1 hp).1;omega) (fun j c hj hc=>fK hs hj hc hp) (fun j c hj hc=>by have:=aDc hs hj hp hc;omega),aAl hp hf,List.mem_of_getElem? hp⟩
theorem aRb {α:Type} {xs:List Body} (hs:cZ xs) {pa pb:Nat} {xa xb:Body} (ha:xs[pa]? = some xa) (hb:xs[pb]? = some xb) (hne:xa.key < xb.key) {F G:Body→α} (h:∀ b∈xs,b.key≠xa.key→b.key≠xb.key→G b=F b):((xs.map F).set pa (G xa)).set pb (G xb)=xs.map G:=by
 apply List.ext_getElem?
 intro i
 have la:=(List.getElem?_eq_some_iff.1 ha).1
 have lb:=(List.getElem?_eq_some_iff.1 hb).1
 by_cases h1:pb=i
 ·subst h1
  rw [List.getElem?_set_self (by simpa using lb),List.getElem?_map,hb];rfl
 ·rw [List.getElem?_set_ne h1]
  by_cases h2:pa=i
  ·subst h2
   rw [List.getElem?_set_self (by simpa using la),List.getElem?_map,ha];rfl
  ·rw [List.getElem?_set_ne h2,List.getElem?_map,List.getElem?_map]
   cases hi:xs[i]? with
   | none=>rfl
   | some b =>
    have e1:b.key≠xa.key:=by
     rcases Nat.lt_or_gt_of_ne h2 with g | g
     ·have:=fK hs g ha hi;omega
     ·have:=fK hs g hi ha;omega
    have e2:b.key≠xb.key:=by
     rcases Nat.lt_or_gt_of_ne h1 with g | g
     ·have:=fK hs g hb hi;omega
     ·have:=fK hs g hi hb;omega
    exact congrArg some (h b (List.mem_of_getElem? hi) e1 e2).symm
def aLl (xs:List Body) (g:Con→Int) (c:Con) (F:Body→Int) (b:Body):Int:=F b+ctr xs g c b
theorem aXd {xs:List Body} (hs:cZ xs) {pa pb:Nat} {xa xb:Body} {c:Con} (ha:xs[pa]? = some xa) (hb:xs[pb]? = some xb) (ka:xa.key=c.low) (kb:xb.key=c.high) (hc:OkC xs c) (ba:bdy xs c.low=xa) (bb:bdy xs c.high=xb) (g:Con→Int) (F:Body→Int) :
  ((xs.map F).set pa (F xa - oG (lJ c xa xb) xa.mass (g c))).set pb (F xb+oG (lJ c xa xb) xb.mass (g c))=xs.map (aLl xs g c F):=by
 have hne:=hc.ne
 have e1:aLl xs g c F xa=F xa - oG (lJ c xa xb) xa.mass (g c):=by unfold aLl ctr jV;rw [if_pos ka.symm,ba,bb];omega
 have e2:aLl xs g c F xb=F xb+oG (lJ c xa xb) xb.mass (g c):=by unfold aLl ctr jV;rw [if_neg (by omega),if_pos kb.symm,ba,bb]
 rw [← e1,← e2]
 exact aRb hs ha hb (by omega) (fun b _ h1 h2=>by unfold aLl ctr;rw [if_neg (by omega),if_neg (by omega)];omega)
theorem xR {α:Type} {l:List α} {i j:Nat} {x y:α} (h:l[j]? = some y) (hij:i≠j):(l.set i x)[j]? = some y:=by rw [List.getElem?_set_ne hij];exact h
theorem aLd {xs:List Body} {cs:List Con} {k:Nat} {c:Con} (h:cs[k]? = some c) (g:Con→Int):aLl xs g c (fun b=>iK xs (cs.take k) g b)=fun b=>iK xs (cs.take (k+1)) g b:=funext fun b=>(kN h g b).symm
def dH (z:Int):List Value:=[.int .i64 z]
theorem bKx (k:Nat):List.replicate k ([.int .i64 0]:List Value)=(List.replicate k (0:Int)).map dH:=by simp [dH]
theorem aXa {α β:Type} {l:List α} {n:Nat} (h:l.length=n) (z:β):List.replicate n z=l.map (fun _=>z):=(List.eq_replicate_iff.2 ⟨by rw [List.length_map,h],fun b hb=>by obtain ⟨_,_,e⟩:=List.mem_map.1 hb;exact e.symm⟩).symm
def cP (z:Int × Int):List Value:=[.int .i64 z.1,.int .i64 z.2]
theorem bKy (k:Nat):List.replicate k ([.int .i64 0,.int .i64 0]:List Value)=(List.replicate k ((0,0):Int × Int)).map cP:=by simp [cP]
def kL (xs:List Body) (cs:List Con) (b:Body):Int × Int:=(wS xs cs (·.nx) b,wS xs cs (·.ny) b)
def aRm (xs:List Body) (c:Con) (F:Body→Int × Int) (b:Body):Int × Int:=((F b).1+wR xs (·.nx) c b,(F b).2+wR xs (·.ny) c b)
def aRd (s z:Int) (c:Con) (f:Int × Int):Int × Int:=(f.1+z*(s*c.nx / 65536),f.2+z*(s*c.ny / 65536))
theorem bLf {xs:List Body} (hs:cZ xs) {pa pb:Nat} {xa xb:Body} {c:Con} (ha:xs[pa]? = some xa) (hb:xs[pb]? = some xb) (ka:xa.key=c.low) (kb:xb.key=c.high) (hc:OkC xs c) (ba:bdy xs c.low=xa) (bb:bdy xs c.high=xb) (F:Body→Int × Int) :
  ((xs.map F).set pa (aRd (rL c xa xb xa.mass) (-1) c (F xa))).set pb (aRd (rL c xa xb xb.mass) 1 c (F xb))=xs.map (aRm xs c F):=by
 have hne:=hc.ne
 have e1:aRm xs c F xa=aRd (rL c xa xb xa.mass) (-1) c (F xa):=by unfold aRm wR aRd;rw [if_pos ka.symm,if_pos ka.symm,ba,bb];apply Prod.ext <;> (try simp only) <;> omega
 have e2:aRm xs c F xb=aRd (rL c xa xb xb.mass) 1 c (F xb):=by unfold aRm wR aRd;rw [if_neg (by omega),if_pos kb.symm,if_neg (by omega),if_pos kb.symm,ba,bb];apply Prod.ext <;> (try simp only) <;> omega
 rw [← e1,← e2]
 exact aRb hs ha hb (by omega) (fun b _ h1 h2=>by unfold aRm wR;rw [if_neg (by omega),if_neg (by omega),if_neg (by omega),if_neg (by omega)];apply Prod.ext <;> (try simp only) <;> omega)
theorem bAn {xs:List Body} {cs:List Con} {k:Nat} {c:Con} (h:cs[k]? = some c):aRm xs c (kL xs (cs.take k))=kL xs (cs.take (k+1)):=funext fun b=>Prod.ext (jG h _ b).symm (jG h _ b).symm
theorem aZ.awayB {w0 w:World} {X:List Nat} {S:List eL} {T sz:Nat} {A:Option Addr} {n c:Nat} {ls:List (List Value)} {e:eL} {b:Nat} {o:Obj} (h:aZ T sz A n c ls e) (M:Mem w0 X S w) (i j:Nat) (hi:gD S i=some e) (hj:gD S j=some (some b,o)) (hij:Nat.beq i j=false):0 < n→∀ q off,A=some ⟨q,off,none⟩→q∉bY [(some b,o)]:=by
 intro hn q off hA hq
 obtain ⟨b2,L,_,h1,h2,_⟩:=h.block hn
 rw [h1] at hA
 injection hA with hA
 injection hA with hA
 subst hA
 have hqb:b2=b:=by simpa [bY] using hq
 subst hqb
 rw [jS] at hi hj
 have ha:=M.apart
 have hne:i≠j:=fun g=>by subst g;simp at hij
 have hli:=(List.getElem?_eq_some_iff.1 hi).1
 have hlj:=(List.getElem?_eq_some_iff.1 hj).1
 have key:∀ (a b:Nat) (x y:eL),a < b→S[a]? = some x→S[b]? = some y→x.1=some b2→y.1=some b2→False:=fun p r x y hpr hx hy ex ey=>by
  have e1:S=S.take r++S.drop r:=(List.take_append_drop r S).symm
  rw [e1,kB] at ha
  have m1:b2∈bY (S.take r):=gV.2 ⟨x.2,by rw [← ex];exact List.mem_of_getElem? (by rw [List.getElem?_take_of_lt hpr];exact hx)⟩
  have m2:b2∈bY (S.drop r):=gV.2 ⟨y.2,by rw [← ey];exact List.mem_of_getElem? (i:=0) (by rw [List.getElem?_drop];exact hy)⟩
  exact (List.nodup_append.1 ha).2.2 _ m1 _ m2 Z
 rcases Nat.lt_or_gt_of_ne hne with g | g
 ·exact key i j _ _ g hi hj (by rw [h2]) Z
 ·exact key j i _ _ g hj hi Z (by rw [h2])
end Go.Bil

namespace Go.Bil
def pS (r:Row):List Value:=[.slice r.A r.n r.c]
structure IslR (T:Nat) (rs:List Row) (L:List (List Int)):Prop where
 len:rs.length=L.length
 row:∀ (j:Nat) (r:Row) (l:List Int),rs[j]? = some r→L[j]? = some l→aZ T 1 r.A r.n r.c (l.map iM) r.e
theorem IslR.nil (T:Nat):IslR T [] []:=⟨rfl,by simp⟩
theorem IslR.snoc {T:Nat} {rs:List Row} {L:List (List Int)} (h:IslR T rs L):IslR T (rs++[fH]) (L++[[]]):=by
 refine ⟨by simp [h.len],fun j r l hr hl => ?_⟩
 by_cases hj:j < rs.length
 ·rw [List.getElem?_append_left hj] at hr
  rw [List.getElem?_append_left (by rw [← h.len];exact hj)] at hl
  exact h.row j r l hr hl
 ·have hj2:j=rs.length:=by
   have:=(List.getElem?_eq_some_iff.1 hr).1
   simp at this
   omega
  rw [hj2,List.getElem?_append_right (Nat.le_refl _),Nat.sub_self] at hr
  rw [hj2,h.len,List.getElem?_append_right (Nat.le_refl _),Nat.sub_self] at hl
  simp only [List.getElem?_cons_zero,Option.some.injEq] at hr hl
  subst hr hl
  exact aZ.nil _ _ _
theorem IslR.put {T:Nat} {rs:List Row} {L:List (List Int)} (h:IslR T rs L) {j:Nat} {r:Row} {l:List Int} (hj:j < L.length) (hr:aZ T 1 r.A r.n r.c (l.map iM) r.e):IslR T (rs.set j r) (L.set j l):=by
 refine ⟨by rw [List.length_set,List.length_set,h.len],fun k q m hq hm => ?_⟩
 rw [List.getElem?_set] at hq hm
 by_cases hk:j=k
 ·subst hk
  rw [if_pos rfl,if_pos (by rw [h.len];exact hj)] at hq
  rw [if_pos rfl,if_pos hj] at hm
  injection hq with hq
  injection hm with hm
  subst hq hm
  exact hr
 ·rw [if_neg hk] at hq hm
  exact h.row k q m hq hm
end Go.Bil

namespace Go.Bil
theorem Mem.dummyL {w0 w:World} {X:List Nat} {L T:List eL} (M:Mem w0 X (L++T) w) (o:Obj):Mem w0 X ((L++[(none,o)])++T) w :=
 (M.dummy o).perm (by rw [List.append_assoc,List.append_assoc];exact List.Perm.append_left L List.perm_append_comm)
theorem Mem.pushNew {w0 w:World} {X:List Nat} {L:List eL} {rs:List Row} (r:Row) (M:Mem w0 X ((L++[r.e])++rs.map Row.e) w):Mem w0 X (L++(rs++[r]).map Row.e) w :=
 M.perm (by rw [List.append_assoc,List.map_append];exact List.Perm.append_left L List.perm_append_comm)
theorem IslR.add {T:Nat} {rs:List Row} {L:List (List Int)} {r:Row} {l:List Int} (h:IslR T rs L) (hr:aZ T 1 r.A r.n r.c (l.map iM) r.e):IslR T (rs++[r]) (L++[l]):=by
 refine ⟨by simp [h.len],fun j q k hq hk => ?_⟩
 by_cases hj:j < rs.length
 ·rw [List.getElem?_append_left hj] at hq
  rw [List.getElem?_append_left (by rw [← h.len];exact hj)] at hk
  exact h.row j q k hq hk
 ·have hj2:j=rs.length:=by
   have:=(List.getElem?_eq_some_iff.1 hq).1
   simp at this
   omega
  rw [hj2,List.getElem?_append_right (Nat.le_refl _),Nat.sub_self] at hq
  rw [hj2,h.len,List.getElem?_append_right (Nat.le_refl _),Nat.sub_self] at hk
  simp only [List.getElem?_cons_zero,Option.some.injEq] at hq hk
  subst hq hk
  exact hr
end Go.Bil

namespace Go.Bil
structure IslRd (w:World) (A:Option Addr) (n:Nat) (rs:List Row) (L:List (List Int)):Prop where
 hd:Rd w 1 A n (rs.map pS)
 len:rs.length=L.length
 row:∀ (j:Nat) (r:Row) (l:List Int),rs[j]? = some r→L[j]? = some l→Rd w 1 r.A r.n (l.map iM)
theorem IslRd.mem {w0 w:World} {S:List eL} {A:Option Addr} {n:Nat} {rs:List Row} {L:List (List Int)} (h:IslRd w0 A n rs L) (M:Mem w0 [] S w):IslRd w A n rs L :=
 ⟨h.hd.mem M,h.len,fun j r l hr hl=>(h.row j r l hr hl).mem M⟩
theorem IslRd.n_eq {w:World} {A:Option Addr} {n:Nat} {rs:List Row} {L:List (List Int)} (h:IslRd w A n rs L):L.length=n∧rs.length=n:=by
 have:=h.hd.len
 rw [List.length_map] at this
 exact ⟨by rw [← h.len];exact this,this⟩
theorem IslR.rd {w0 w:World} {X:List Nat} {S:List eL} {T T' c n:Nat} {A:Option Addr} {e:eL} {rs:List Row} {L:List (List Int)} (h:IslR T rs L) (hq:aZ T' 1 A n c (rs.map pS) e) (M:Mem w0 X S w) (he:e∈S) (ht:∀ r∈rs,r.e∈S):IslRd w A n rs L :=
 ⟨hq.rd M he,h.len,fun j r l hr hl=>(h.row j r l hr hl).rd M (ht r (List.mem_of_getElem? hr))⟩
theorem IslRd.one {w:World} {A A1:Option Addr} {n1 c1:Nat} {l1:List Int} (h0:Rd w 1 A 1 [[.slice A1 n1 c1]]) (h1:Rd w 1 A1 n1 (l1.map iM)):IslRd w A 1 [⟨A1,n1,c1,default⟩] [l1]:=by
 refine ⟨h0,Z,fun j r l hr hl => ?_⟩
 match j with
 | 0=>simp only [List.getElem?_cons_zero,Option.some.injEq] at hr hl;subst hr hl;exact h1
 | j+1=>simp at hr
theorem IslRd.two {w:World} {A A1 A2:Option Addr} {n1 c1 n2 c2:Nat} {l1 l2:List Int} (h0:Rd w 1 A 2 [[.slice A1 n1 c1],[.slice A2 n2 c2]]) (h1:Rd w 1 A1 n1 (l1.map iM)) (h2:Rd w 1 A2 n2 (l2.map iM)):IslRd w A 2 [⟨A1,n1,c1,default⟩,⟨A2,n2,c2,default⟩] [l1,l2]:=by
 refine ⟨h0,Z,fun j r l hr hl => ?_⟩
 match j with
 | 0=>simp only [List.getElem?_cons_zero,Option.some.injEq] at hr hl;subst hr hl;exact h1
 | 1=>simp only [List.getElem?_cons_succ,List.getElem?_cons_zero,Option.some.injEq] at hr hl;subst hr hl;exact h2
 | j+2=>simp at hr
end Go.Bil

namespace Go.Bil
end Go.Bil

namespace Go.Bil
open Go Go.RowKit Go.Deep
section
variable {H:Type} {enc:TypeId × Value→H} {P:Program} {w:World} {base:Nat} {spare:Nat→Bool} {held:Bool}
theorem aQk {sz len:Nat} {a:Addr} {Q:List Value→Prop} (hsz:0 < sz) (hbig:len≤281474976710656) (hall:∀ i,i < len→∃ cs':List Value,cs'.length=sz∧(∀ j,j < sz→w.cell? (a.add (i*sz+j))=cs'[j]?)∧Q cs') :
  ∃ ls:List (List Value),Rd w sz (some a) len ls∧∀ l∈ls,Q l:=by
 have hex:∀ k,k≤len→∃ ls:List (List Value),ls.length=k∧∀ i l,ls[i]? = some l→l.length=sz∧(∀ j,j < sz→w.cell? (a.add (i*sz+j))=l[j]?)∧Q l:=by
  intro k
  induction k with
  | zero=>intro _;exact ⟨[],rfl,by simp⟩
  | succ k ih =>
   intro hk'
   obtain ⟨ls,q1,q2⟩:=ih (by omega)
   obtain ⟨cs',r1,r2,r3⟩:=hall k (by omega)
   refine ⟨ls++[cs'],by simp [q1],fun i l hil => ?_⟩
   rw [List.getElem?_append] at hil
   split at hil
   ·exact q2 i l hil
   ·rename_i hge
    have hik:i=k:=by
     have:=(List.getElem?_eq_some_iff.1 hil).1
     simp at this
     omega
    subst hik
    simp only [q1,Nat.sub_self,List.getElem?_cons_zero,Option.some.injEq] at hil
    subst hil
    exact ⟨r1,r2,r3⟩
 obtain ⟨ls,q1,q2⟩:=hex len (Nat.le_refl _)
 refine ⟨ls,⟨q1,fun l hl' => ?_,hbig,fun hpos => ?_⟩,fun l hl' => ?_⟩
 ·obtain ⟨i,hi⟩:=List.getElem?_of_mem hl'
  exact (q2 i l hi).1
 ·obtain ⟨l0,hl0⟩:∃ l0,ls[0]? = some l0:=⟨ls[0]'(by omega),List.getElem?_eq_getElem _⟩
  obtain ⟨r1,r2,_⟩:=q2 0 l0 hl0
  have hc0:=r2 0 (by omega)
  have hl00:l0[0]? = some (l0[0]'(by omega)):=List.getElem?_eq_getElem _
  rw [hl00] at hc0
  obtain ⟨b,off,spot⟩:=a
  have hs:spot=none:=by
   cases spot with
   | none=>rfl
   | some s =>
    exfalso
    simp only [World.cell?] at hc0
    split at hc0
    ·have:((⟨b,off,some s⟩:Addr).add (0*sz+0)).spot.isSome=true:=by unfold Addr.add;split <;> simp_all
     rw [this] at hc0
     simp at hc0
    ·cases hc0
  subst hs
  refine ⟨b,off,Z, ?_,fun i l hil j v hj => ?_⟩
  ·rw [eV] at hc0
   unfold World.cell? at hc0
   by_cases hlt:b < w.heap.size
   ·exact hlt
   ·rw [Array.getElem?_eq_none (Nat.le_of_not_lt hlt)] at hc0
    cases hc0
  ·obtain ⟨r1,r2,_⟩:=q2 i l hil
   have hj':j < sz:=by rw [← r1];exact (List.getElem?_eq_some_iff.1 hj).1
   have:=r2 j hj'
   rw [eV,← Nat.add_assoc] at this
   rw [this,hj]
 ·obtain ⟨i,hi⟩:=List.getElem?_of_mem hl'
  exact (q2 i l hi).2.2
theorem aDe {e:TypeId}:∀ {l:List (DataW H)} {d:DataW H},d∈l→∀ n∈d.weights P e,n∈DataW.weightsAll P e l
 | x::l,d,hd,n,hn=>by
  simp only [DataW.weightsAll,List.mem_append]
  rcases List.mem_cons.1 hd with rfl | hd
  ·exact .inl hn
  ·exact .inr (aDe hd n hn)
theorem xF {t e:TypeId} {elems sp:List (DataW H)} (hu:P.underlying t=some (.slice e)) (h:∀ n∈(DataW.slice elems sp).weights P t,n≤reachBytes):(elems.length+sp.length)*P.bytesOf e≤reachBytes∧∀ d∈elems,∀ n∈d.weights P e,n≤reachBytes:=by
 simp only [DataW.weights,hu,List.mem_cons,List.mem_append] at h
 exact ⟨h _ (.inl Z),fun d hd n hn=>h n (.inr (.inl (aDe hd n hn)))⟩
theorem aDa {t e sz bytes:Nat} {A:Option Addr} {len cap:Nat} {d:DataW H} {ps:List MemPlace} (hw:∀ n∈d.weights P t,n≤reachBytes) (hs:fQ P t e sz bytes=true) (h:DataW.Trod enc P w base spare held t (.slice A len cap) d ps):len*bytes≤140737488351232:=by
 obtain ⟨h1,h2,h3,h4,h5,h6,zv,hzv,hzs⟩:=gP hs
 obtain ⟨fuel,hf⟩:=h
 rcases open_slice h1 hf with ⟨hcs,_⟩ | ⟨a,l,c,m',n,D,Pl,hcs,hb,hlc,_,hm,hx,_⟩
 ·simp only [Value.cells,List.cons.injEq,Value.slice.injEq,and_true] at hcs
  obtain ⟨rfl,rfl,rfl⟩:=hcs
  simp
 ·simp only [Value.cells,List.cons.injEq,Value.slice.injEq,and_true] at hcs
  obtain ⟨rfl,rfl,rfl⟩:=hcs
  obtain ⟨rfl,_⟩:=Prod.mk.inj hx
  have z:=(xF h1 hw).1
  rw [h4] at z
  simp only [List.length_map,List.length_range] at z
  have hr:reachBytes=140737488351232:=rfl
  rw [hr] at z
  exact Nat.le_trans (Nat.mul_le_mul_right _ (by omega)) z
end
theorem Mem.call0U {w0 w w':World} {X:List Nat} {L T A T':List eL} (M:Mem w0 X (L++T) w) (C:Mem w [] (A++T') w'):Mem w0 X ((L++(T++T'))++A) w' :=
 (M.call0 C).perm (by
  rw [List.append_assoc,List.append_assoc,List.append_assoc]
  refine List.Perm.append_left L (List.Perm.append_left T ?_)
  exact List.perm_append_comm)
end Go.Bil

namespace Go.Bil
open Go Go.RowKit
variable {P:Program} {n:Nat} {Q:Exit→fG→World→Prop} {ρ:fG} {w:World} {l0 rest:List Oper}
section
variable {d:Nat} {ty:TypeId} {pos:String} {af:Array Edge} {gd:Option (Nat × Bool)}
variable {w0:World} {X:List Nat} {S:List eL}
variable {β:Type}
theorem pW (i:Nat) {t kt et:Nat} {kk:IntKind} {enc:β→Value} {x y u:Operand} {f:Int→Option β} {p:Option Nat} {e:eL} {k:Int} {v:β} (ht:aBf P t kt et kk=true) (M:Mem w0 X S w) (hg:nA l0 ρ gd=true) (hi:gD S i=some e) (hm:kT kk enc f p e) (hp:p.isSome=true)
  (hx:ev ρ x=.map p) (hy:ev ρ y=.int kk k) (hu:ev ρ u=enc v)
  (h:∀ e' w',kT kk enc (fun a=>if a=k then some v else f a) p e'→Mem w0 X (S.set i e') w'→wl P n l0 rest Q ρ w'):wl P n l0 (⟨none,.insert t x y u,ty,pos,af,gd⟩::rest) Q ρ w:=by
 obtain ⟨h1,h2⟩:=vU ht
 rcases hm with ⟨rfl,_⟩ | ⟨b,o,rfl,rfl,l,clock,rfl,hn,hf⟩
 ·simp at hp
 ·have hck:(Instr.checkKey false 10000 kt (.int kk k)).run P w=.ok () w:=MapKept.run_checkKey (d:=.int kk) h2 (by simp [MapKept.IsKey]) false 9999
  have hfk:=MapKept.run_findKey (P:=P) (w:=w) h2 (oI kk enc k l 0)
  have hb:=M.at_ hi
  cases hq:lki k l 0 with
  | none =>
   have hnot:=zJ hq
   obtain ⟨w',hw',M'⟩:=lA (P:=P) (o':=.map ((l++[(k,v,clock)]).map (pO kk enc)).toArray (clock+1)) M hi ⟨_,_,rfl⟩
   refine rF hg ?_ (h _ w' (.inr ⟨b,_,Z,Z,l++[(k,v,clock)],clock+1,Z, ?_, ?_⟩) M')
   ·have e1:(l.map (pO kk enc)).toArray.push { key:=.int kk k,val:=enc v,born:=clock }=((l++[(k,v,clock)]).map (pO kk enc)).toArray:=by simp [pO]
    simp only [execOp,hx,hy,hu,Instr.mapUpdate,Sem.run_bind,bW h1,Result.andThen_ok,MapKept.run_getObj_map hb,hck,List.toList_toArray,hfk,hq,Option.map_none,e1,hw',Sem.run_pure]
   ·rw [List.map_append,List.nodup_append]
    refine ⟨hn,by simp, ?_⟩
    intro a ha c hc hac
    simp only [List.map_cons,List.map_nil,List.mem_singleton] at hc
    obtain ⟨q,hq1,hq2⟩:=List.mem_map.1 ha
    exact hnot q hq1 (by rw [hq2,hac,hc])
   ·intro a
    show (if a=k then some v else f a)=_
    rw [aBe,← hf a]
    by_cases ha:a=k
    ·rw [if_pos ha,ha,hf k,xU hnot]
     simp [lk]
    ·rw [if_neg ha]
     have:lk a [(k,v,clock)]=none:=xU (by simpa using fun e=>ha e.symm)
     rw [this];simp
  | some q =>
   obtain ⟨j,v0⟩:=q
   obtain ⟨_,p0,hj,hp0,_⟩:=zK hq
   rw [Nat.sub_zero] at hj
   obtain ⟨w',hw',M'⟩:=lA (P:=P) (o':=.map ((l.set j (k,v,p0.2.2)).map (pO kk enc)).toArray clock) M hi ⟨_,_,rfl⟩
   refine rF hg ?_ (h _ w' (.inr ⟨b,_,Z,Z,l.set j (k,v,p0.2.2),clock,Z,by rw [aPu hj hp0];exact hn,fun a=>by rw [aTd hj hp0 hn a,← hf a]⟩) M')
   have hold:((((l.map (pO kk enc)).toArray[j]?).map (·.key)).getD (.int kk k))=.int kk k:=by simp [hj,pO,hp0]
   have hkey:(Instr.keyThatStays (.int kk k) (.int kk k)).run P w=.ok (.int kk k) w:=MapKept.run_keyThatStays (d:=.int kk) (by simp [MapKept.IsKey])
   simp only [execOp,hx,hy,hu,Instr.mapUpdate,Sem.run_bind,bW h1,Result.andThen_ok,MapKept.run_getObj_map hb,hck,List.toList_toArray,hfk,hq,Option.map_some,hold,hkey,aBy hj,hw',Sem.run_pure]
end
theorem aFy:∀ (S:List eL) (ks:List Bool),ks.length=S.length→S.Perm (oK S ks++oK S (ks.map (!·)))
 | [],[],_=>List.Perm.nil
 | e::S,b::ks,h=>by
  have ih:=aFy S ks (by simpa using h)
  cases b
  ·simp only [oK,List.map_cons,Bool.not_false,cond_false,cond_true]
   exact (List.Perm.cons e ih).trans List.perm_middle.symm
  ·simp only [oK,List.map_cons,Bool.not_true,cond_false,cond_true,List.cons_append]
   exact List.Perm.cons e ih
theorem Mem.ownK {w0 w:World} {X:List Nat} {S:List eL} (ks:List Bool) (M:Mem w0 X S w):Own (oK S ks) w:=(M.keep ks).toOwn
theorem Mem.callK {w0 w w':World} {X:List Nat} {S A':List eL} (ks:List Bool) (hk:ks.length=S.length) (M:Mem w0 X S w) (C:Mem w (bY (oK S ks)) A' w'):Mem w0 X (A'++oK S (ks.map (!·))) w' :=
 (M.perm (aFy S ks hk)).call C
theorem Mem.segU {w0 w w':World} {X:List Nat} {L T B A T':List eL} (i k:Nat) (M:Mem w0 X (L++T) w) (hk:i+k≤L.length) (C:Mem w (bY ((L.drop i).take k)) (B++(A++T')) w'):Mem w0 X (((L.take i++B++L.drop (i+k))++(T++T'))++A) w':=by
 have hL:(L.drop i)=(L.drop i).take k++L.drop (i+k):=by rw [← List.drop_drop,List.take_append_drop]
 have hP:(L++T).Perm ((L.drop i).take k++(L.take i++(L.drop (i+k)++T))):=by
  have h1:L++T=L.take i++(((L.drop i).take k)++(L.drop (i+k)++T)):=by
   rw [← List.append_assoc ((L.drop i).take k),← hL,← List.append_assoc,List.take_append_drop]
  rw [h1,← List.append_assoc (L.take i),← List.append_assoc ((L.drop i).take k) (L.take i)]
  exact List.Perm.append_right _ List.perm_append_comm
 refine ((M.perm hP).call C).perm ?_
 have g1:(B++(A++T')++(L.take i++(L.drop (i+k)++T))).Perm ((L.take i++(L.drop (i+k)++T))++(B++(A++T'))):=List.perm_append_comm
 refine g1.trans ?_
 simp only [List.append_assoc]
 refine List.Perm.append_left _ ?_
 have g2:(L.drop (i+k)++(T++(B++(A++T')))).Perm (B++(L.drop (i+k)++(T++(A++T')))):=by
  rw [← List.append_assoc (L.drop (i+k)),← List.append_assoc (L.drop (i+k)++T),← List.append_assoc (L.drop (i+k)),← List.append_assoc B]
  exact List.Perm.append_right _ List.perm_append_comm
 refine g2.trans ?_
 refine List.Perm.append_left _ (List.Perm.append_left _ (List.Perm.append_left _ List.perm_append_comm))
theorem Mem.awayK {w0 w:World} {X:List Nat} {S:List eL} {sz nn:Nat} {A:Option Addr} {ls:List (List Value)} (ks:List Bool) (M:Mem w0 X S w) (R:Rd w0 sz A nn ls) (hd:0 < nn→∀ q off,A=some ⟨q,off,none⟩→q∉X):0 < nn→∀ q off,A=some ⟨q,off,none⟩→q∉bY (oK S ks) :=
 (M.keep ks).away 0 (oK S ks).length R hd |> fun h hn q off hA hq=>h hn q off hA (by simpa using hq)
end Go.Bil
