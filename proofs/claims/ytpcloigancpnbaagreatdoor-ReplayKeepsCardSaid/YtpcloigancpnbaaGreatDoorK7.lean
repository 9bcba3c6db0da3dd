/- Part of the proof of a law of this seat (1 texts). No conditions. -/
import Derived.Test.YtpcloigancpnbaaGreatDoorK6
import Derived.Lib.BitFns
import Derived.Lib.Mul64
set_option linter.unusedVariables false
set_option linter.unusedSimpArgs false
set_option linter.unnecessarySimpa false
set_option maxHeartbeats 100000000
namespace Go.Bil
theorem gS (x:Int):IntKind.wrap .u64 x=x % 18446744073709551616:=by simp [IntKind.wrap,IntKind.bits,IntKind.signed]
theorem aXz (x:Nat) (h:x < 2 ^ 64):x < 2 ^ Go.Lib.bitLen x:=by
 induction x using Nat.strongRecOn with
 | _ x ih =>
  by_cases h0:x=0
  ·subst h0;exact Nat.two_pow_pos _
  ·rw [Go.Lib.bitLen_half x h0 h,Nat.pow_add]
   have:=ih (x / 2) (by omega) (by omega)
   omega
theorem aXy (x:Nat) (h0:x≠0) (h:x < 2 ^ 64):2 ^ (Go.Lib.bitLen x - 1)≤x:=by
 refine Decidable.byContradiction fun hc => ?_
 have h1:=Go.Lib.bitLen_le x (Go.Lib.bitLen x - 1) (by have:=Go.Lib.bitLen_le x 64 (Nat.le_refl _) h;omega) (by omega)
 have h2:=Go.Lib.bitLen_half x h0 h
 omega
def lzN (y:Nat):Nat:=64 - Go.Lib.bitLen y
theorem bKh {y:Nat} (h0:y≠0) (h:y < 18446744073709551616):lzN y≤63∧9223372036854775808≤y*2 ^ lzN y∧y*2 ^ lzN y < 18446744073709551616:=by
 have hl:=Go.Lib.bitLen_le y 64 (Nat.le_refl _) h
 have h1:=aXz y h
 have h2:=aXy y h0 h
 have h3:1≤Go.Lib.bitLen y:=by rw [Go.Lib.bitLen_half y h0 h];omega
 unfold lzN
 refine ⟨by omega, ?_, ?_⟩
 ·have:(9223372036854775808:Nat)=2 ^ (Go.Lib.bitLen y - 1)*2 ^ (64 - Go.Lib.bitLen y):=by rw [← Nat.pow_add,show Go.Lib.bitLen y - 1+(64 - Go.Lib.bitLen y)=63 by omega]
  rw [this];exact Nat.mul_le_mul_right _ h2
 ·have:(18446744073709551616:Nat)=2 ^ Go.Lib.bitLen y*2 ^ (64 - Go.Lib.bitLen y):=by rw [← Nat.pow_add,show Go.Lib.bitLen y+(64 - Go.Lib.bitLen y)=64 by omega]
  rw [this];exact Nat.mul_lt_mul_of_pos_right h1 (Nat.two_pow_pos _)
def dgQ (u y1 y0 d:Nat):Nat:=(u*4294967296+d) / (y1*4294967296+y0)
structure Dg (u y1 y0 d q r:Nat):Prop where
 e:q*y1+r=u
 ge:dgQ u y1 y0 d≤q
theorem aVz (u y1 y0 d:Nat):dgQ u y1 y0 d*y1*4294967296+dgQ u y1 y0 d*y0≤u*4294967296+d:=by
 have h3:=Nat.div_mul_le_self (u*4294967296+d) (y1*4294967296+y0)
 rw [show (u*4294967296+d) / (y1*4294967296+y0)=dgQ u y1 y0 d from rfl,Nat.mul_add,← Nat.mul_assoc] at h3
 exact h3
theorem bRp {u y1 y0 d q:Nat} (h1:0 < y1) (h:q*y1*4294967296+q*y0≤u*4294967296+d):q≤dgQ u y1 y0 d:=by
 unfold dgQ
 rw [Nat.le_div_iff_mul_le (by omega),Nat.mul_add,← Nat.mul_assoc]
 exact h
theorem aSo {u y1 y0 d:Nat} (hu:u < y1*4294967296+y0) (hd:d < 4294967296):dgQ u y1 y0 d < 4294967296:=by
 unfold dgQ
 apply Nat.div_lt_of_lt_mul;omega
theorem bIy {u y1 y0 d:Nat} (h1:0 < y1) (hd:d < 4294967296):Dg u y1 y0 d (u / y1) (u - u / y1*y1):=by
 have e:=Nat.div_add_mod u y1
 rw [Nat.mul_comm] at e
 refine ⟨by omega, ?_⟩
 rw [Nat.le_div_iff_mul_le h1]
 have h3:=aVz u y1 y0 d
 generalize dgQ u y1 y0 d=Q at *
 generalize Q*y0=a at *
 generalize Q*y1=b at *
 omega
theorem aDu {u y1 y0 d q r:Nat} (hu:u < y1*4294967296+y0) (hd:d < 4294967296) (D:Dg u y1 y0 d q r) (h:4294967296≤q∨r*4294967296+d < q*y0):1≤q∧Dg u y1 y0 d (q - 1) (r+y1):=by
 have hQ:dgQ u y1 y0 d < q:=by
  rcases h with h | h
  ·have:=aSo hu hd;omega
  ·refine Decidable.byContradiction fun hc => ?_
   have e:dgQ u y1 y0 d=q:=by have:=D.ge;omega
   have h3:=aVz u y1 y0 d
   rw [e] at h3
   have:=D.e
   generalize q*y0=a at *
   generalize q*y1=b at *
   omega
 refine ⟨by omega, ?_,by omega⟩
 have:=D.e
 obtain ⟨p,rfl⟩:∃ p,q=p+1:=⟨q - 1,by omega⟩
 rw [Nat.add_mul] at this
 rw [show p+1 - 1=p by omega]
 omega
theorem aMc {u y1 y0 d q r:Nat} (h1:0 < y1) (D:Dg u y1 y0 d q r) (h:q*y0≤r*4294967296+d):q=dgQ u y1 y0 d:=by
 refine Nat.le_antisymm (bRp h1 ?_) D.ge
 have:=D.e
 generalize q*y0=a at *
 generalize q*y1=b at *
 omega
theorem yM {u y1 y0 d q r:Nat} (h1:0 < y1) (hy0:y0 < 4294967296) (hu:u < y1*4294967296+y0) (D:Dg u y1 y0 d q r) (h:4294967296≤r):q=dgQ u y1 y0 d:=by
 refine aMc h1 D ?_
 have hq:q < 4294967296:=by
  have:=D.e
  refine Decidable.byContradiction fun hc => ?_
  have h5:y1*4294967296≤q*y1:=by rw [Nat.mul_comm q];exact Nat.mul_le_mul_left _ (by omega)
  omega
 have h6:q*y0≤4294967295*4294967295:=Nat.mul_le_mul (by omega) (by omega)
 omega
theorem aMd {u y1 y0 d q r:Nat} (hy1:2147483648≤y1) (hu:u < 18446744073709551616) (D:Dg u y1 y0 d q r):q < 8589934592:=by
 have:=D.e
 refine Decidable.byContradiction fun hc => ?_
 have h5:8589934592*2147483648≤q*y1:=Nat.mul_le_mul (by omega) hy1
 omega
theorem bNe {q y0:Nat} (h:q < 4294967296) (h0:y0 < 4294967296):q*y0≤18446744065119617025:=Nat.mul_le_mul (Nat.le_of_lt_succ h) (Nat.le_of_lt_succ h0)
theorem aWa {u y1 y0 d:Nat} (h1:0 < y1):dgQ u y1 y0 d*(y1*4294967296+y0)≤u*4294967296+d∧u*4294967296+d < dgQ u y1 y0 d*(y1*4294967296+y0)+(y1*4294967296+y0):=by
 have h:=Nat.div_add_mod (u*4294967296+d) (y1*4294967296+y0)
 have hm:=Nat.mod_lt (u*4294967296+d) (show y1*4294967296+y0 > 0 by omega)
 rw [Nat.mul_comm] at h
 rw [show (u*4294967296+d) / (y1*4294967296+y0)=dgQ u y1 y0 d from rfl] at h
 generalize dgQ u y1 y0 d*(y1*4294967296+y0)=a at *
 omega
theorem aUo {u Y a b q1 u2 q0 r:Nat} (e1:q1*Y+u2=u*4294967296+a) (e0:q0*Y+r=u2*4294967296+b) (hr:r < Y) :
  (u*18446744073709551616+a*4294967296+b) / Y=q1*4294967296+q0∧(u*18446744073709551616+a*4294967296+b) % Y=r:=by
 have hY:0 < Y:=by omega
 have e:u*18446744073709551616+a*4294967296+b=r+Y*(q1*4294967296+q0):=by
  rw [Nat.mul_add,Nat.mul_comm Y q0,← Nat.mul_assoc,Nat.mul_comm Y q1]
  generalize q1*Y=x at *
  generalize q0*Y=y at *
  omega
 rw [e]
 exact ⟨by rw [Nat.add_mul_div_left _ _ hY,Nat.div_eq_of_lt hr,Nat.zero_add],by rw [Nat.add_mul_mod_self_left,Nat.mod_eq_of_lt hr]⟩
theorem bAo {hi lo y s:Nat} (hs:s≤63) (hlo:lo < 18446744073709551616) :
  (hi*2 ^ s+lo / 2 ^ (64 - s))*18446744073709551616+lo*2 ^ s % 18446744073709551616=(hi*18446744073709551616+lo)*2 ^ s:=by
 have hp:(18446744073709551616:Nat)=2 ^ s*2 ^ (64 - s):=by rw [← Nat.pow_add,show s+(64 - s)=64 by omega]
 have e:lo*2 ^ s / 18446744073709551616=lo / 2 ^ (64 - s):=by
  rw [hp,Nat.mul_comm lo,Nat.mul_div_mul_left _ _ (Nat.two_pow_pos s)]
 have:=Nat.div_add_mod (lo*2 ^ s) 18446744073709551616
 rw [e] at this
 rw [Nat.add_mul,Nat.add_mul,Nat.mul_right_comm hi]
 generalize hi*18446744073709551616*2 ^ s=p at *
 generalize lo / 2 ^ (64 - s)=q at *
 generalize lo*2 ^ s=r at *
 omega
theorem bHd {hi lo y s:Nat} (hs:s≤63) (hlo:lo < 18446744073709551616) (hh:hi < y):hi*2 ^ s+lo / 2 ^ (64 - s) < y*2 ^ s∧lo / 2 ^ (64 - s) < 2 ^ s:=by
 have hp:(18446744073709551616:Nat)=2 ^ (64 - s)*2 ^ s:=by rw [← Nat.pow_add,show 64 - s+s=64 by omega]
 have h1:lo / 2 ^ (64 - s) < 2 ^ s:=by
  apply Nat.div_lt_of_lt_mul;omega
 have h2:(hi+1)*2 ^ s≤y*2 ^ s:=Nat.mul_le_mul_right _ hh
 rw [Nat.add_mul] at h2
 exact ⟨by omega,h1⟩
theorem bLo {N y s:Nat}:N*2 ^ s / (y*2 ^ s)=N / y∧(N*2 ^ s % (y*2 ^ s)) / 2 ^ s=N % y:=by
 have hp:=Nat.two_pow_pos s
 exact ⟨Nat.mul_div_mul_right _ _ hp,by rw [Nat.mul_mod_mul_right,Nat.mul_div_cancel _ hp]⟩
theorem aXk (a:Nat) (ha:a < 18446744073709551616):IntKind.wrap .u64 ((BitVec.ofInt (IntKind.bits .u64) (a:Int) &&& BitVec.ofInt (IntKind.bits .u64) 4294967295).toNat)=((a % 4294967296:Nat):Int):=by
 rw [BitVec.toNat_and,show IntKind.bits .u64=64 from rfl,BitVec.toNat_ofInt,BitVec.toNat_ofInt,gS]
 rw [show ((a:Int) % ((2 ^ 64:Nat):Int)).toNat=a by omega,show ((4294967295:Int) % ((2 ^ 64:Nat):Int)).toNat=2 ^ 32 - 1 by omega,Nat.and_two_pow_sub_one_eq_mod]
 omega
theorem bVw (a A b s:Nat) (hA:a*2 ^ s=A) (hb:b < 2 ^ s) (h:A+b < 18446744073709551616):IntKind.wrap .u64 ((BitVec.ofInt (IntKind.bits .u64) (A:Int) ||| BitVec.ofInt (IntKind.bits .u64) (b:Int)).toNat)=((A+b:Nat):Int):=by
 rw [BitVec.toNat_or,show IntKind.bits .u64=64 from rfl,BitVec.toNat_ofInt,BitVec.toNat_ofInt,gS]
 have e:=Nat.shiftLeft_add_eq_or_of_lt hb a
 rw [Nat.shiftLeft_eq,hA] at e
 rw [show ((A:Int) % ((2 ^ 64:Nat):Int)).toNat=A by omega,show ((b:Int) % ((2 ^ 64:Nat):Int)).toNat=b by omega,← e]
 omega
theorem bVl (a b:Nat):(a:Int).fdiv (b:Int)=((a / b:Nat):Int):=by rw [Int.fdiv_eq_ediv_of_nonneg _ (by omega)];rfl
theorem aLe (a n:Nat) (k:Int) (hk:k=(n:Int)) (hn:n≤64):(a:Int).fdiv (2 ^ (min k.toNat (IntKind.bits .u64)))=((a / 2 ^ n:Nat):Int):=by
 subst hk
 rw [show min ((n:Int).toNat) (IntKind.bits .u64)=n by rw [show IntKind.bits .u64=64 from rfl];omega,show ((2:Int) ^ n)=((2 ^ n:Nat):Int) by simp,bVl]
theorem aXl (a:Nat):(a:Int).fdiv (2 ^ (min (32:Int).toNat (IntKind.bits .u64)))=((a / 4294967296:Nat):Int):=by
 rw [aLe a 32 32 rfl (by omega),show (2 ^ 32:Nat)=4294967296 by decide]
theorem bLn (n:Nat) (k:Int) (hk:k=(n:Int)) (hn:n≤64):(4611686018427387904:Int).fdiv (2 ^ (min k.toNat (IntKind.bits .u64)))=((4611686018427387904 / 2 ^ n:Nat):Int):=aLe 4611686018427387904 n k hk hn
theorem bHq (a:Nat):(a:Int).fdiv (2 ^ (min (1:Int).toNat (IntKind.bits .u64)))=((a / 2:Nat):Int):=by
 rw [aLe a 1 1 rfl (by omega),Nat.pow_one]
theorem bHo (a n:Nat) (k:Int) (hk:k=(n:Int)) (hn:n≤64):IntKind.wrap .u64 ((a:Int)*2 ^ (min k.toNat (IntKind.bits .u64)))=((a*2 ^ n % 18446744073709551616:Nat):Int):=by
 subst hk
 rw [show min ((n:Int).toNat) (IntKind.bits .u64)=n by rw [show IntKind.bits .u64=64 from rfl];omega,show ((2:Int) ^ n)=((2 ^ n:Nat):Int) by simp,gS]
 rw [← Int.natCast_mul];rfl
theorem bHp (a n:Nat) (k:Int) (hk:k=(n:Int)) (hn:n≤64) (h:a*2 ^ n < 18446744073709551616):IntKind.wrap .u64 ((a:Int)*2 ^ (min k.toNat (IntKind.bits .u64)))=((a*2 ^ n:Nat):Int):=by
 rw [bHo a n k hk hn,Nat.mod_eq_of_lt h]
theorem jL (a b:Nat) (ha:a < 18446744073709551616):IntKind.wrap .u64 ((a:Int).tdiv (b:Int))=((a / b:Nat):Int):=by
 rw [← Int.ofNat_tdiv,gS]
 have:=Nat.div_le_self a b
 generalize a / b=c at *
 omega
theorem jZ (a b:Nat):(a:Int).tmod (b:Int)=((a % b:Nat):Int):=(Int.ofNat_tmod a b).symm
theorem lX (a b:Nat) (h:a*b < 18446744073709551616):IntKind.wrap .u64 ((a:Int)*(b:Int))=((a*b:Nat):Int):=by
 rw [gS,← Int.natCast_mul]
 generalize a*b=c at *
 omega
theorem bNq (a b:Nat):IntKind.wrap .u64 ((a:Int)*(b:Int))=((a*b % 18446744073709551616:Nat):Int):=by
 rw [gS,← Int.natCast_mul];omega
structure Dv (hi lo y s A E Y U W y1 y0 d1 d0 Q1 U2 Q0 R:Nat):Prop where
 hs:lzN y=s
 eY:y*2 ^ s=Y
 eA:hi*2 ^ s=A
 eE:lo / 2 ^ (64 - s)=E
 hE:E < 2 ^ s
 eU:A+E=U
 eW:lo*2 ^ s % 18446744073709551616=W
 ey1:Y / 4294967296=y1
 ey0:Y % 4294967296=y0
 ed1:W / 4294967296=d1
 ed0:W % 4294967296=d0
 eQ1:dgQ U y1 y0 d1=Q1
 eU2:Q1*Y+U2=U*4294967296+d1
 eQ0:dgQ U2 y1 y0 d0=Q0
 eR:Q0*Y+R=U2*4294967296+d0
 fq:(hi*18446744073709551616+lo) / y=Q1*4294967296+Q0
 fr:(hi*18446744073709551616+lo) % y=R / 2 ^ s
theorem aYs {hi lo y:Nat} (hy:hi < y) (hY:y < 18446744073709551616) (hl:lo < 18446744073709551616):∃ s A E Y U W y1 y0 d1 d0 Q1 U2 Q0 R:Nat,Dv hi lo y s A E Y U W y1 y0 d1 d0 Q1 U2 Q0 R∧s≤63∧Y < 18446744073709551616∧U < y1*4294967296+y0∧W < 18446744073709551616 ∧
  (2147483648≤y1∧y1 < 4294967296∧y0 < 4294967296∧d1 < 4294967296∧d0 < 4294967296)∧Q1 < 4294967296∧U2 < y1*4294967296+y0∧Q0 < 4294967296∧R < 18446744073709551616:=by
 obtain ⟨s,hs⟩:∃ s,lzN y=s:=⟨_,rfl⟩
 have hz:=bKh (y:=y) (by omega) hY
 rw [hs] at hz
 have hU:=bHd (s:=s) hz.1 hl hy
 have hw:=bAo (hi:=hi) (lo:=lo) (y:=y) (s:=s) hz.1 hl
 have hun:=bLo (N:=hi*18446744073709551616+lo) (y:=y) (s:=s)
 obtain ⟨Y,hYe⟩:∃ Y,y*2 ^ s=Y:=⟨_,rfl⟩
 obtain ⟨U,hUe⟩:∃ U,hi*2 ^ s+lo / 2 ^ (64 - s)=U:=⟨_,rfl⟩
 obtain ⟨W,hWe⟩:∃ W,lo*2 ^ s % 18446744073709551616=W:=⟨_,rfl⟩
 rw [hYe] at hz hU hun
 rw [hUe] at hU hw
 rw [hWe] at hw
 have hWl:W < 18446744073709551616:=by rw [← hWe];exact Nat.mod_lt _ (by omega)
 have e1:(Y / 4294967296)*4294967296+Y % 4294967296=Y:=Nat.div_add_mod' Y 4294967296
 have hUY:U < (Y / 4294967296)*4294967296+Y % 4294967296:=by omega
 have h1:0 < Y / 4294967296:=by omega
 have hd1:W / 4294967296 < 4294967296:=by omega
 have g1:=aWa (u:=U) (y0:=Y % 4294967296) (d:=W / 4294967296) h1
 obtain ⟨U2,hU2⟩:∃ U2,U2=U*4294967296+W / 4294967296 - dgQ U (Y / 4294967296) (Y % 4294967296) (W / 4294967296)*Y:=⟨_,rfl⟩
 have hU2Y:U2 < (Y / 4294967296)*4294967296+Y % 4294967296:=by rw [e1] at g1 ⊢;omega
 have g0:=aWa (u:=U2) (y0:=Y % 4294967296) (d:=W % 4294967296) h1
 rw [e1] at g1 g0
 obtain ⟨R,hR⟩:∃ R,R=U2*4294967296+W % 4294967296 - dgQ U2 (Y / 4294967296) (Y % 4294967296) (W % 4294967296)*Y:=⟨_,rfl⟩
 have t:=aUo (u:=U) (Y:=Y) (a:=W / 4294967296) (b:=W % 4294967296) (q1:=dgQ U (Y / 4294967296) (Y % 4294967296) (W / 4294967296)) (u2:=U2) (q0:=dgQ U2 (Y / 4294967296) (Y % 4294967296) (W % 4294967296)) (r:=R) (by omega) (by omega) (by omega)
 rw [show U*18446744073709551616+W / 4294967296*4294967296+W % 4294967296=(hi*18446744073709551616+lo)*2 ^ s by rw [Nat.add_assoc,Nat.div_add_mod' W,hw]] at t
 exact ⟨s,_,_,Y,U,W,_,_,_,_,_,U2,_,R,⟨hs,hYe,Z,Z,hU.2,hUe,hWe,Z,Z,Z,Z,Z,by omega,Z,by omega,hun.1.symm.trans t.1,hun.2.symm.trans (by rw [t.2])⟩,hz.1,hz.2.2,hUY,hWl,⟨by omega,by omega,by omega,by omega,by omega⟩,aSo hUY hd1,hU2Y,aSo hU2Y (by omega),by omega⟩
theorem aOx {u y1 y0 d:Nat} (h1:0 < y1) (h2:y1 < 4294967296) (hd:d < 4294967296) (hu:u < 18446744073709551616):∃ p P r:Nat,u / y1=p∧p*y1=P∧u - P=r∧P≤u∧r < 4294967296∧Dg u y1 y0 d p r:=by
 have h3:=Nat.div_mul_le_self u y1
 have h4:=Nat.lt_div_mul_add (a:=u) (b:=y1) h1
 exact ⟨_,_,_,Z,Z,Z,h3,by omega,bIy h1 hd⟩
theorem aYy {m z:Nat} (hz:0 < z):(-(m:Int)) / (z:Int)=if m % z=0 then -((m / z:Nat):Int) else -((m / z:Nat):Int) - 1:=by
 have h:=Nat.div_add_mod m z
 have hm:=Nat.mod_lt m hz
 obtain ⟨q,hq⟩:∃ q,m / z=q:=⟨_,rfl⟩
 obtain ⟨r,hr⟩:∃ r,m % z=r:=⟨_,rfl⟩
 rw [hq,hr] at h
 rw [hr] at hm
 rw [hq,hr]
 have h':(m:Int)=(z:Int)*(q:Int)+(r:Int):=by rw [← Int.natCast_mul];omega
 split
 ·rename_i h0
  rw [h',h0,show -((z:Int)*(q:Int)+((0:Nat):Int))=(z:Int)*(-(q:Int)) by rw [Int.mul_neg];omega]
  exact Int.mul_ediv_cancel_left _ (by omega)
 ·rename_i h0
  have e : -(m:Int)=((z:Int) - (r:Int))+(z:Int)*(-(q:Int) - 1):=by
   rw [h',Int.mul_sub,Int.mul_neg,Int.mul_one];omega
  rw [e,Int.add_mul_ediv_left _ _ (by omega),Int.ediv_eq_zero_of_lt (by omega) (by omega)]
  omega
theorem wrI (x:Int):IntKind.wrap .i64 x=(x+9223372036854775808) % 18446744073709551616 - 9223372036854775808:=by
 simp only [IntKind.wrap,IntKind.bits,IntKind.signed,Bool.true_and,decide_eq_true_eq,ge_iff_le];split <;> omega
theorem aNq (q:Nat) (h:q≤4611686018427387904):IntKind.wrap .i64 (IntKind.wrap .u64 (-(q:Int))) = -(q:Int):=by rw [wrI,gS];omega
theorem aMt {a:Int} {m z:Nat} (h:0≤a):((a.natAbs*m / z:Nat):Int)=a*(m:Int) / (z:Int):=by
 rw [Int.natCast_ediv,Int.natCast_mul,show ((a.natAbs:Nat):Int)=a by omega]
theorem aMs {a:Int} {m z:Nat} (h:a < 0) (hz:0 < z):a*(m:Int) / (z:Int)=if a.natAbs*m % z=0 then -((a.natAbs*m / z:Nat):Int) else -((a.natAbs*m / z:Nat):Int) - 1:=by
 rw [← aYy hz,Int.natCast_mul,show ((a.natAbs:Nat):Int) = -a by omega,Int.neg_mul,Int.neg_neg]
theorem aQa {a:Int} {m z:Nat} (ha : -4294967296≤a∧a≤4294967296) (hm:m≤z) (hz:0 < z) (hz':z < 18446744073709551616) :
  a.natAbs*m / 18446744073709551616 < z∧a.natAbs*m % 18446744073709551616 < 18446744073709551616∧a.natAbs*m / 18446744073709551616*18446744073709551616+a.natAbs*m % 18446744073709551616=a.natAbs*m∧a.natAbs*m / z≤4294967296:=by
 have h:a.natAbs*m≤4294967296*z:=Nat.mul_le_mul (by omega) hm
 refine ⟨Nat.div_lt_of_lt_mul (by omega),Nat.mod_lt _ (by omega),Nat.div_add_mod' _ _,Nat.div_le_of_le_mul (by omega)⟩
def wY:Nat→Nat
 | 0=>0
 | n+1=>if (wY n+1)*(wY n+1)≤n+1 then wY n+1 else wY n
theorem sB:∀ n,wY n*wY n≤n∧n < (wY n+1)*(wY n+1)
 | 0=>by simp [wY]
 | n+1=>by
  have h:=sB n
  rw [wY]
  split
  ·rename_i hc
   refine ⟨hc, ?_⟩
   have e:(wY n+1+1)*(wY n+1+1)=(wY n+1)*(wY n+1)+(wY n+1)+(wY n+1)+1:=by rw [Nat.add_mul,Nat.mul_add];omega
   omega
  ·exact ⟨by omega,by omega⟩
theorem aKy {a b:Nat} (h:a*a < b*b):a < b:=by
 refine Decidable.byContradiction fun hc => ?_
 have:=Nat.mul_le_mul (show b≤a by omega) (show b≤a by omega)
 omega
theorem bRl {n r:Nat} (h1:r*r≤n) (h2:n < (r+1)*(r+1)):r=wY n:=by
 have h:=sB n
 have a:=aKy (Nat.lt_of_le_of_lt h1 h.2)
 have b:=aKy (Nat.lt_of_le_of_lt h.1 h2)
 omega
theorem bEt {n:Nat} (h:n < 18446744073709551616):wY n < 4294967296:=by
 apply aKy
 have:=(sB n).1
 omega
structure Iq (n i R e:Nat):Prop where
 ile:i≤32
 ee:e=2 ^ (32 - i)
 le:R*R≤n
 lt:n < (R+e)*(R+e)
 top:R+e≤4294967296
theorem bJy {n:Nat} (h:n < 18446744073709551616):Iq n 0 0 4294967296:=⟨by omega,by decide,by omega,by omega,by omega⟩
theorem bJz {n i R e:Nat} (h:i < 32) (I:Iq n i R e):∃ f:Nat,e=2*f∧1≤f∧f=2 ^ (32 - (i+1))∧4611686018427387904 / 2 ^ (2*i)=f*f∧R*e / 2=R*f∧R*e+f*f < 18446744073709551616∧(R+f)*(R+f)=R*R+(R*e+f*f)∧(R+f)*f=R*f+f*f ∧
  ((R*e+f*f≤n - R*R)→Iq n (i+1) (R+f) f)∧(¬ (R*e+f*f≤n - R*R)→Iq n (i+1) R f):=by
 obtain ⟨f,hf⟩:∃ f,f=2 ^ (32 - (i+1)):=⟨_,rfl⟩
 have he:e=2*f:=by rw [I.ee,hf,show 32 - i=32 - (i+1)+1 by omega,Nat.pow_succ];omega
 have h1:1≤f:=by rw [hf];exact Nat.one_le_two_pow
 have hff:4611686018427387904 / 2 ^ (2*i)=f*f:=by
  rw [show (4611686018427387904:Nat)=2 ^ (2*(32 - (i+1)))*2 ^ (2*i) by rw [← Nat.pow_add,show 2*(32 - (i+1))+2*i=62 by omega],Nat.mul_div_cancel _ (Nat.two_pow_pos _),hf,← Nat.pow_add]
  congr 1;omega
 have s1:R*e=2*(R*f):=by rw [he,← Nat.mul_assoc,Nat.mul_comm R 2,Nat.mul_assoc]
 have s2:(R+f)*(R+f)=R*R+(R*e+f*f):=by rw [Nat.add_mul,Nat.mul_add,Nat.mul_add,Nat.mul_comm f R,s1];omega
 have s3:(R+f)*(R+f)≤4294967295*4294967295:=Nat.mul_le_mul (by have:=I.top;omega) (by have:=I.top;omega)
 refine ⟨f,he,h1,hf,hff,by omega,by omega,s2,Nat.add_mul _ _ _,fun hc=>⟨by omega,hf,by have:=I.le;omega, ?_,by have:=I.top;omega⟩,fun hc=>⟨by omega,hf,I.le,by omega,by have:=I.top;omega⟩⟩
 have:=I.lt
 rwa [he,show R+2*f=R+f+f by omega] at this
theorem bJx {n R e:Nat} (I:Iq n 32 R e):R*e=wY n:=by
 have he:e=1:=I.ee
 have h:=I.lt
 rw [he] at h
 rw [he,Nat.mul_one]
 exact bRl I.le h
def rM (dx dy:Int):Nat:=dx.natAbs*dx.natAbs+dy.natAbs*dy.natAbs
def wV (d:Int):Prop := -2181038080≤d∧d≤2181038080
theorem sS {dx dy:Int} (hx:wV dx) (hy:wV dy):rM dx dy < 18446744073709551616∧dx.natAbs*dx.natAbs≤4756927106410086400∧dy.natAbs*dy.natAbs≤4756927106410086400:=by
 unfold wV at hx hy
 have h1:dx.natAbs*dx.natAbs≤2181038080*2181038080:=Nat.mul_le_mul (by omega) (by omega)
 have h2:dy.natAbs*dy.natAbs≤2181038080*2181038080:=Nat.mul_le_mul (by omega) (by omega)
 unfold rM
 exact ⟨by omega,by omega,by omega⟩
theorem aCf {a b:Int} (hb:0 < b):(a.tmod b < 0→a.tdiv b - 1=a / b)∧(¬ a.tmod b < 0→a.tdiv b=a / b):=by
 have h:=Int.tdiv_eq_ediv (a:=a) (b:=b)
 have hm:=Int.tmod_eq_emod (a:=a) (b:=b)
 have e:=Int.emod_nonneg a (show b≠0 by omega)
 have l:=Int.emod_lt_of_pos a hb
 have hs:b.sign=1:=Int.sign_eq_one_of_pos hb
 have hn:(b.natAbs:Int)=b:=by omega
 by_cases hc:0≤a∨b ∣ a
 ·rw [if_pos hc] at h hm
  exact ⟨fun h'=>by omega,fun _=>by omega⟩
 ·rw [if_neg hc] at h hm
  rw [hs] at h
  refine ⟨fun _=>by omega,fun h' => ?_⟩
  omega
def len (dx dy:Int):Int:=(wY (rM dx dy):Int)
def qM (dx dy:Int):Int × Int:=if len dx dy=0 then (65536,0) else (IntKind.wrap .i32 (dx*65536 / len dx dy),IntKind.wrap .i32 (dy*65536 / len dx dy))
structure I32 (v:Int × Int):Prop where
 x : -2147483648≤v.1∧v.1≤2147483647
 y : -2147483648≤v.2∧v.2≤2147483647
theorem aKc (a:Int) (h:wV a):IntKind.wrap .i64 (a*2 ^ (min (16:Int).toNat (IntKind.bits .i64)))=a*65536:=by
 unfold wV at h
 rw [show (2:Int) ^ (min (16:Int).toNat (IntKind.bits .i64))=65536 from rfl,wrI];omega
theorem xT {dx dy:Int} (hx:wV dx) (hy:wV dy):0≤len dx dy∧len dx dy < 4294967296:=by
 have:=bEt (sS hx hy).1
 unfold len;omega
theorem aHq (a b:Int):(a.tdiv b).natAbs≤a.natAbs:=by rw [Int.natAbs_tdiv];exact Nat.div_le_self _ _
end Go.Bil
