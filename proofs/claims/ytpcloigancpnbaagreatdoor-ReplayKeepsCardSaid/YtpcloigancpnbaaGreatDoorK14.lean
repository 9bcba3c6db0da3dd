/- Part of the proof of a law of this seat (1 texts). No conditions. -/
import Derived.Test.YtpcloigancpnbaaGreatDoorK13
import Derived.Test.YtpcloigancpnbaaGreatDoorK7
set_option linter.unusedVariables false
set_option linter.unusedSimpArgs false
set_option linter.unnecessarySimpa false
set_option maxHeartbeats 100000000
namespace Go.Bil
section
variable {P:Program} {ρ:fG} {w:World}
theorem bGg {x:Operand} {args:List Operand} {ts:Array TypeId} {f:FuncId} {first cap:List Value} {v:Value} (hx:ev ρ x=.func (.func f) first.toArray cap.toArray) (h:(callFunc f (first++args.map (ev ρ)++cap).toArray).run P w=.ok (.value v) w):kS P ρ w (.call ⟨.value x,args.toArray,ts⟩) v:=fun dst ty pos af gd=>by
 simp [execOp,resolve,Deferred.ofValue,hx,invoke]
 simpa using h
theorem aWy {t:TypeId} {x:Operand} {k:IntKind} {a:Int} (hx:ev ρ x=.int k a):kS P ρ w (.unOp .xor t x) (.int k (k.wrap ((BitVec.ofInt k.bits (if k.signed then -1 else k.max) ^^^ BitVec.ofInt k.bits a).toNat))):=fun dst ty pos af gd=>by
 simp [execOp,hx,Op.unary,Op.intBits]
theorem aWd {R:Value→World→Prop} {w0:World} {X:List Nat} {S:List eL} {t b:Nat} {T m:Nat} {l:List Value} {p:Nat} {T':TypeId} (v1:Value) (i:Nat) (hT:jA P T=some m) (M:Mem w0 X S w) (h1:ρ t=v1) (hy:ρ b=.pointer (some ⟨p,0,none⟩)) (hi:gD S i=some (some p,bc l T')) (hl:l.length=m)
  (h:R (.tuple #[v1,.agg l.toArray]) w):aDi P #[.tmp t,.cell b T] R .ret ρ w:=by
 have hv:=fZ (P:=P) (w:=w) hT hl (dL.ofMem i M hi)
 exact ⟨_,by simp [uP,h1,hy,asAddr,hv],h⟩
end
theorem aVx (p:Nat) (h:p < 18446744073709551616):IntKind.wrap .u64 ((BitVec.ofInt (IntKind.bits .u64) (if IntKind.signed .u64 then -1 else IntKind.max .u64) ^^^ BitVec.ofInt (IntKind.bits .u64) (p:Int)).toNat)=((18446744073709551615 - p:Nat):Int):=by
 have e1:BitVec.ofInt 64 18446744073709551615=BitVec.allOnes 64:=by decide
 have e2:BitVec.ofInt 64 (p:Int)=BitVec.ofNat 64 p:=BitVec.ofInt_natCast 64 p
 show IntKind.wrap .u64 (((BitVec.ofInt 64 18446744073709551615 ^^^ BitVec.ofInt 64 (p:Int)).toNat:Nat):Int)=_
 rw [e1,e2,BitVec.allOnes_xor,BitVec.toNat_not,BitVec.toNat_ofNat,Nat.mod_eq_of_lt (by omega),gS]
 omega
theorem bVx (a b B s:Nat) (hB:b*2 ^ s=B) (ha:a < 2 ^ s) (h:B+a < 18446744073709551616):IntKind.wrap .u64 ((BitVec.ofInt (IntKind.bits .u64) (a:Int) ||| BitVec.ofInt (IntKind.bits .u64) (B:Int)).toNat)=((a+B:Nat):Int):=by
 rw [BitVec.or_comm,bVw b B a s hB ha h,Nat.add_comm]
theorem bNn (x:Int) (n:Nat) (k:Int) (hk:k=(n:Int)) (hn:n≤64):x.fdiv (2 ^ (min k.toNat (IntKind.bits .i64)))=x / ((2 ^ n:Nat):Int):=by
 subst hk
 rw [Int.toNat_natCast,show min n (IntKind.bits .i64)=n from Nat.min_eq_left hn,Int.fdiv_eq_ediv_of_nonneg _ (by exact Int.pow_nonneg (by decide))]
 rw [Int.natCast_pow];rfl
theorem qT (x:Int):x.fdiv (2 ^ (min (16:Int).toNat (IntKind.bits .i64)))=x / 65536:=bNn x 16 16 rfl (by omega)
theorem bJt (x:Int):x.fdiv (2 ^ (min (63:Int).toNat (IntKind.bits .i64)))=x / 9223372036854775808:=bNn x 63 63 rfl (by omega)
theorem aPp (x:Int):x.fdiv (2 ^ (min (6:Int).toNat (IntKind.bits .i32)))=x / 64:=by
 rw [Int.fdiv_eq_ediv_of_nonneg _ (by decide)];rfl
structure MulR (a b h:Int) (l:Nat):Prop where
 eq:(h=0∧(l:Int)=a*b∧0≤a*b)∨(h = -1∧(l:Int)=18446744073709551616+a*b∧a*b < 0)
 rng : -4611686018427387904≤a*b∧a*b≤4611686018427387904
theorem MulR.pos {a b:Int} {p:Nat} (h:a*b=(p:Int)) (hp:p≤4611686018427387904):MulR a b 0 p:=⟨.inl ⟨rfl,h.symm,by omega⟩,by omega⟩
theorem MulR.neg {a b:Int} {p:Nat} (h:a*b = -(p:Int)) (hp:p≤4611686018427387904):MulR a b (if p=0 then 0 else -1) ((18446744073709551616 - p) % 18446744073709551616):=by
 refine ⟨?_,by omega⟩
 by_cases h0:p=0
 ·rw [if_pos h0,h0];exact .inl ⟨rfl,by omega,by omega⟩
 ·rw [if_neg h0];exact .inr ⟨rfl,by omega,by omega⟩
theorem MulR.low {a b h:Int} {l:Nat} (m:MulR a b h l):l < 18446744073709551616:=by have:=m.eq;have:=m.rng;omega
theorem MulR.high {a b h:Int} {l:Nat} (m:MulR a b h l):∃ H B:Nat,IntKind.wrap .u64 h=(H:Int)∧H*2 ^ 48 % 18446744073709551616=B∧(∃ q:Nat,q*2 ^ 48=B)∧l / 65536 < 2 ^ 48∧B+l / 65536 < 18446744073709551616∧IntKind.wrap .i64 ((l / 65536+B:Nat):Int)=a*b / 65536∧h / 65536=h∧a*b / 65536 / 9223372036854775808=h:=by
 have hr:=m.rng
 rcases m.eq with ⟨rfl,hl,h0⟩ | ⟨rfl,hl,h0⟩
 ·refine ⟨0,0,by rw [gS];rfl,Z,⟨0,Z⟩,by omega,by omega, ?_,Z,by omega⟩
  rw [wrI];omega
 ·refine ⟨18446744073709551615,18446462598732840960,by rw [gS];rfl,by decide,⟨65535,by decide⟩,by omega,by omega, ?_,Z,by omega⟩
  rw [wrI];omega
end Go.Bil
