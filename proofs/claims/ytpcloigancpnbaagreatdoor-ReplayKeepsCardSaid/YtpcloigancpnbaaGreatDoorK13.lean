/- Part of the proof of a law of this seat (3 texts). No conditions. -/
import Derived.Test.YtpcloigancpnbaaGreatDoorK11
import Derived.Laws.MakeOwn
set_option linter.unusedVariables false
set_option linter.unusedSimpArgs false
set_option linter.unnecessarySimpa false
set_option maxHeartbeats 100000000
namespace Go.Bil
theorem aPy (zs:List Value) (hs:zs.length≠0):∀ m:Nat,(List.range (m*zs.length)).map (fun i=>zs.toArray[i % zs.toArray.size]!)=(List.replicate m zs).flatten
 | 0=>by simp
 | m+1=>by
  rw [Nat.add_mul,Nat.one_mul,List.range_add,List.map_append,aPy zs hs m,List.replicate_succ',List.flatten_append]
  congr 1
  simp only [List.flatten_cons,List.flatten_nil,List.append_nil,List.map_map]
  refine List.ext_getElem (by simp) fun i h1 h2 => ?_
  simp only [List.getElem_map,List.getElem_range,Function.comp_apply,List.size_toArray]
  have hi:i < zs.length:=by simpa using h1
  rw [Nat.mul_add_mod_self_right,Nat.mod_eq_of_lt hi]
  simp [hi]
theorem nF {P:Program} {n:Nat} {Q:Exit→fG→World→Prop} {ρ:fG} {w w0:World} {X:List Nat} {S:List eL} {l0 rest:List Oper} {d:Nat} {ty:TypeId} {pos:String} {af:Array Edge} {gd:Option (Nat × Bool)}
  {t e sz bytes:Nat} {x y:Operand} {kl kc:IntKind} {z1 z2:Int} (m:Nat) (zs:List Value) (ht:fQ P t e sz bytes=true) (hz:gQ P e=some zs) (hzs:zs.length=sz) (M:Mem w0 X S w) (hg:nA l0 ρ gd=true) (hd:Nat.blt d n=true)
  (hx:ev ρ x=.int kl z1) (h1:z1=(m:Int)) (hy:ev ρ y=.int kc z2) (h2:z2=(m:Int)) (hbig:bytes*m≤281474976710656) (hm:m≤281474976710656)
  (h:∀ b w',Mem w0 X (S++[(some b,bc (List.replicate m zs).flatten e)]) w'→wl P n l0 rest Q (upd ρ d (.slice (some ⟨b,0,none⟩) m m)) w'):wl P n l0 (⟨some d,.makeSlice t x y,ty,pos,af,gd⟩::rest) Q ρ w:=by
 obtain ⟨q1,q2,q3,q4,q5,q6,zv,hzv,hzz⟩:=gP ht
 obtain ⟨zi,hzi⟩:∃ zi,P.info? e=some zi:=Option.isSome_iff_exists.1 q2
 have hz':zi.zero=some zv:=by simpa [nI,hzi] using hzv
 have hl:zv.cells.toList=zs:=by simpa [gQ,hzi,hz'] using hz
 have hcs:zv.cells=zs.toArray:=by rw [← hl]
 have hsize:zi.size=sz:=by rw [← q3];simp [Program.cellsOf,hzi]
 have hby:zi.bytes=bytes:=by rw [← q4];simp [Program.bytesOf,hzi]
 refine nT hg hd ?_ (h w.heap.size _ (M.alloc _))
 subst h1 h2
 have hr:=run_make (P:=P) w t e zi zv q1 hzi hz' kl kc (m:Int) (m:Int) (by omega) (Int.le_refl _) (by rw [hby,← Int.natCast_mul];omega) (by omega)
 simp only [Int.toNat_natCast] at hr
 have hc:madeCells zv.cells (m*zi.size)=(List.replicate m zs).flatten.toArray:=by
  rw [hsize,hcs,← aPy zs (by omega) m,hzs]
  apply Array.ext'
  simp [madeCells]
 rw [hc] at hr
 simp only [execOp,hx,hy]
 simp only [Sem.run_bind,hr,Result.andThen_ok,Sem.run_pure]
 rfl
end Go.Bil

namespace Go.Bil
open Go.RowKit (Below)
inductive Pl where
 | done:Pl
 | op (i k:Nat) (r:Pl):Pl
 | fork (i j:Nat) (ri rj:Pl):Pl
 | fork3 (i j k:Nat) (ri rj rk:Pl):Pl
def Pl.len:Pl→Nat
 | .done=>0
 | .op _ _ r=>r.len+1
 | .fork _ _ ri _=>ri.len+1
 | .fork3 _ _ _ ri _ _=>ri.len+1
section
variable {P:Program} {n:Nat} {Q:Exit→fG→World→Prop} {ρ:fG} {w:World} {l0 rest:List Oper}
variable {d:Nat} {op:Op} {ty:TypeId} {pos:String} {af:Array Edge} {gd:Option (Nat × Bool)}
def Ac (P:Program) (n:Nat) (l0:List Oper) (R:jB→fG→World→Prop) (i:Nat) (pend:jB) (ρ:fG) (w:World):Prop :=
 ∃ o,oN l0 i=some o∧wl P n l0 [o] (pJ (fun ρ' w'=>wO (qV l0 i pend) w'∧R (qV l0 i pend) ρ' w') (fun _ _ _=>False)) ρ w
def T (P:Program) (n:Nat) (l0:List Oper) (Q:Exit→fG→World→Prop):Pl→jB→fG→World→Prop
 | .done,_,ρ,w=>Q .normal ρ w
 | .op i 0 r,pend,ρ,w=>∃ o d v,oN l0 i=some o∧o.dst=some d∧Nat.blt d n=true∧(∀ w',Yl P l0 o ρ v w')∧T P n l0 Q r pend (upd ρ d v) w
 | .op i 2 r,pend,ρ,w=>Ac P n l0 (fun pend ρ w=>T P n l0 Q r pend ρ w) i pend ρ w
 | .op i _ r,pend,ρ,w=>∃ o d v,oN l0 i=some o∧o.dst=some d∧Nat.blt d n=true∧Yl P l0 o ρ v w∧T P n l0 Q r ((i,fun w'=>Yl P l0 o ρ v w')::pend) (upd ρ d v) w
 | .fork i j ri rj,pend,ρ,w=>Ac P n l0 (fun pend ρ w=>T P n l0 Q ri pend ρ w) i pend ρ w∧Ac P n l0 (fun pend ρ w=>T P n l0 Q rj pend ρ w) j pend ρ w
 | .fork3 i j k ri rj rk,pend,ρ,w=>Ac P n l0 (fun pend ρ w=>T P n l0 Q ri pend ρ w) i pend ρ w∧Ac P n l0 (fun pend ρ w=>T P n l0 Q rj pend ρ w) j pend ρ w∧Ac P n l0 (fun pend ρ w=>T P n l0 Q rk pend ρ w) k pend ρ w
end
end Go.Bil

namespace Go.Bil
section
variable {P:Program} {n:Nat} {Q:Exit→fG→World→Prop} {ρ:fG} {w:World}
end
end Go.Bil
