/- Part of the proof of a law of this seat (3 texts). No conditions. -/
import Derived.Test.YtpcloigancpnbaaGreatDoorK11
import Derived.Laws.MakeOwn
set_option linter.unusedVariables false
set_option linter.unusedSimpArgs false
set_option linter.unnecessarySimpa false
set_option maxHeartbeats 100000000
namespace Go.Bil
theorem aQc (zs:List Value) (hs:zs.length≠0):∀ m:Nat,(List.range (m*zs.length)).map (fun i=>zs.toArray[i % zs.toArray.size]!)=(List.replicate m zs).flatten
 | 0=>by simp
 | m+1=>by
  rw [Nat.add_mul,Nat.one_mul,List.range_add,List.map_append,aQc zs hs m,List.replicate_succ',List.flatten_append]
  congr 1
  simp only [List.flatten_cons,List.flatten_nil,List.append_nil,List.map_map]
  refine List.ext_getElem (by simp) fun i h1 h2 => ?_
  simp only [List.getElem_map,List.getElem_range,Function.comp_apply,List.size_toArray]
  have hi:i < zs.length:=by simpa using h1
  rw [Nat.mul_add_mod_self_right,Nat.mod_eq_of_lt hi]
  simp [hi]
theorem nO {P:Program} {n:Nat} {Q:Exit→fI→World→Prop} {ρ:fI} {w w0:World} {X:List Nat} {S:List eN} {l0 rest:List Oper} {d:Nat} {ty:TypeId} {pos:String} {af:Array Edge} {gd:Option (Nat × Bool)}
  {t e sz bytes:Nat} {x y:Operand} {kl kc:IntKind} {z1 z2:Int} (m:Nat) (zs:List Value) (ht:fU P t e sz bytes=true) (hz:gU P e=some zs) (hzs:zs.length=sz) (M:Mem w0 X S w) (hg:nB l0 ρ gd=true) (hd:Nat.blt d n=true)
  (hx:ev ρ x=.int kl z1) (h1:z1=(m:Int)) (hy:ev ρ y=.int kc z2) (h2:z2=(m:Int)) (hbig:bytes*m≤281474976710656) (hm:m≤281474976710656)
  (h:∀ b w',Mem w0 X (S++[(some b,bc (List.replicate m zs).flatten e)]) w'→wl P n l0 rest Q (upd ρ d (.slice (some ⟨b,0,none⟩) m m)) w'):wl P n l0 (⟨some d,.makeSlice t x y,ty,pos,af,gd⟩::rest) Q ρ w:=by
 obtain ⟨q1,q2,q3,q4,q5,q6,zv,hzv,hzz⟩:=gT ht
 obtain ⟨zi,hzi⟩:∃ zi,P.info? e=some zi:=Option.isSome_iff_exists.1 q2
 have hz':zi.zero=some zv:=by simpa [nR,hzi] using hzv
 have hl:zv.cells.toList=zs:=by simpa [gU,hzi,hz'] using hz
 have hcs:zv.cells=zs.toArray:=by rw [← hl]
 have hsize:zi.size=sz:=by rw [← q3];simp [Program.cellsOf,hzi]
 have hby:zi.bytes=bytes:=by rw [← q4];simp [Program.bytesOf,hzi]
 refine oH hg hd ?_ (h w.heap.size _ (M.alloc _))
 subst h1 h2
 have hr:=run_make (P:=P) w t e zi zv q1 hzi hz' kl kc (m:Int) (m:Int) (by omega) (Int.le_refl _) (by rw [hby,← Int.natCast_mul];omega) (by omega)
 simp only [Int.toNat_natCast] at hr
 have hc:madeCells zv.cells (m*zi.size)=(List.replicate m zs).flatten.toArray:=by
  rw [hsize,hcs,← aQc zs (by omega) m,hzs]
  apply Array.ext'
  simp [madeCells]
 rw [hc] at hr
 simp only [execOp,hx,hy]
 simp only [Sem.run_bind,hr,Result.andThen_ok,Sem.run_pure]
 rfl
end Go.Bil

namespace Go.Bil
open Go.RowKit (Below)
inductive Pl where
 | done:Pl
 | op (i k:Nat) (r:Pl):Pl
 | fork (i j:Nat) (ri rj:Pl):Pl
 | fork3 (i j k:Nat) (ri rj rk:Pl):Pl
def Pl.len:Pl→Nat
 | .done=>0
 | .op _ _ r=>r.len+1
 | .fork _ _ ri _=>ri.len+1
 | .fork3 _ _ _ ri _ _=>ri.len+1
def rF (ops:Array Oper):Array Bool→Pl→Bool
 | listed,.done=>(Region.ready .any ops listed).isEmpty
 | listed,.op i 2 r=>decide (Region.ready .any ops listed=[i]) && rF ops (listed.setIfInBounds i true) r
 | listed,.op i _ r=>(Region.ready .any ops listed).contains i && Region.free .any ops listed i && rF ops (listed.setIfInBounds i true) r
 | listed,.fork i j ri rj=>decide (Region.ready .any ops listed=[i,j]) && rF ops (listed.setIfInBounds i true) ri && rF ops (listed.setIfInBounds j true) rj && Nat.beq ri.len rj.len
 | listed,.fork3 i j k ri rj rk=>decide (Region.ready .any ops listed=[i,j,k]) && rF ops (listed.setIfInBounds i true) ri && rF ops (listed.setIfInBounds j true) rj && rF ops (listed.setIfInBounds k true) rk && Nat.beq ri.len rj.len && Nat.beq ri.len rk.len
section
variable {P:Program} {n:Nat} {Q:Exit→fI→World→Prop} {ρ:fI} {w:World} {l0 rest:List Oper}
variable {d:Nat} {op:Op} {ty:TypeId} {pos:String} {af:Array Edge} {gd:Option (Nat × Bool)}
def Ac (P:Program) (n:Nat) (l0:List Oper) (R:gQ→fI→World→Prop) (i:Nat) (pend:gQ) (ρ:fI) (w:World):Prop :=
 ∃ o,nD l0 i=some o∧wl P n l0 [o] (nZ (fun ρ' w'=>rN (nW l0 i pend) w'∧R (nW l0 i pend) ρ' w') (fun _ _ _=>False)) ρ w
def T (P:Program) (n:Nat) (l0:List Oper) (Q:Exit→fI→World→Prop):Pl→gQ→fI→World→Prop
 | .done,_,ρ,w=>Q .normal ρ w
 | .op i 0 r,pend,ρ,w=>∃ o d v,nD l0 i=some o∧o.dst=some d∧Nat.blt d n=true∧(∀ w',Yl P l0 o ρ v w')∧T P n l0 Q r pend (upd ρ d v) w
 | .op i 2 r,pend,ρ,w=>Ac P n l0 (fun pend ρ w=>T P n l0 Q r pend ρ w) i pend ρ w
 | .op i _ r,pend,ρ,w=>∃ o d v,nD l0 i=some o∧o.dst=some d∧Nat.blt d n=true∧Yl P l0 o ρ v w∧T P n l0 Q r ((i,fun w'=>Yl P l0 o ρ v w')::pend) (upd ρ d v) w
 | .fork i j ri rj,pend,ρ,w=>Ac P n l0 (fun pend ρ w=>T P n l0 Q ri pend ρ w) i pend ρ w∧Ac P n l0 (fun pend ρ w=>T P n l0 Q rj pend ρ w) j pend ρ w
 | .fork3 i j k ri rj rk,pend,ρ,w=>Ac P n l0 (fun pend ρ w=>T P n l0 Q ri pend ρ w) i pend ρ w∧Ac P n l0 (fun pend ρ w=>T P n l0 Q rj pend ρ w) j pend ρ w∧Ac P n l0 (fun pend ρ w=>T P n l0 Q rk pend ρ w) k pend ρ w
theorem T_p {i:Nat} {r:Pl} {pend:gQ} {v:Value} (ho:nD l0 i=some ⟨some d,op,ty,pos,af,gd⟩) (hg:nB l0 ρ gd=true) (hd:Nat.blt d n=true) (A:∀ w',kX P ρ w' op v)
  (h:T P n l0 Q r pend (upd ρ d v) w):T P n l0 Q (.op i 0 r) pend ρ w :=
 ⟨_,d,v,ho,rfl,hd,fun w'=>.inl ⟨hg,A w' _ _ _ _ _⟩,h⟩
theorem T_r {i:Nat} {r:Pl} {pend:gQ} {v:Value} (ho:nD l0 i=some ⟨some d,op,ty,pos,af,gd⟩) (hg:nB l0 ρ gd=true) (hd:Nat.blt d n=true) (A:kX P ρ w op v)
  (h:T P n l0 Q r ((i,fun w'=>Yl P l0 ⟨some d,op,ty,pos,af,gd⟩ ρ v w')::pend) (upd ρ d v) w):T P n l0 Q (.op i 1 r) pend ρ w :=
 ⟨_,d,v,ho,rfl,hd,.inl ⟨hg,A _ _ _ _ _⟩,h⟩
theorem aYd {pl:Pl} {pend:gQ} (t:Nat) (v:Value) (ht:ρ t=v) (h:T P n l0 Q pl pend (upd ρ t v) w):T P n l0 Q pl pend ρ w:=by
 rwa [nN ht] at h
theorem aJk {pend:gQ} (h:Q .normal ρ w):T P n l0 Q .done pend ρ w:=h
theorem kB {R:gQ→fI→World→Prop} {i:Nat} {pend:gQ} {o:Oper} (ks:List Bool) (ho:nD l0 i=some o) (hk:aQf l0 i (bFd pend)=ks)
  (h:wl P n l0 [o] (nZ (fun ρ' w'=>rN (aCh pend ks) w'∧R (aCh pend ks) ρ' w') (fun _ _ _=>False)) ρ w):Ac P n l0 R i pend ρ w:=by
 refine ⟨o,ho, ?_⟩
 rw [xU,hk]
 exact h
theorem T_e {i:Nat} {r:Pl} {pend:gQ} (h:Ac P n l0 (fun pend ρ w=>T P n l0 Q r pend ρ w) i pend ρ w):T P n l0 Q (.op i 2 r) pend ρ w:=h
theorem aRs {i j:Nat} {ri rj:Pl} {pend:gQ} (h1:Ac P n l0 (fun pend ρ w=>T P n l0 Q ri pend ρ w) i pend ρ w) (h2:Ac P n l0 (fun pend ρ w=>T P n l0 Q rj pend ρ w) j pend ρ w):T P n l0 Q (.fork i j ri rj) pend ρ w:=⟨h1,h2⟩
theorem bIx {i j k:Nat} {ri rj rk:Pl} {pend:gQ} (h1:Ac P n l0 (fun pend ρ w=>T P n l0 Q ri pend ρ w) i pend ρ w) (h2:Ac P n l0 (fun pend ρ w=>T P n l0 Q rj pend ρ w) j pend ρ w) (h3:Ac P n l0 (fun pend ρ w=>T P n l0 Q rk pend ρ w) k pend ρ w):T P n l0 Q (.fork3 i j k ri rj rk) pend ρ w:=⟨h1,h2,h3⟩
theorem vH {R:gQ→fI→World→Prop} {i:Nat} {pend:gQ} {a:Act} (ha:Agree n a ρ) {G:Act→World→Prop} (hfin:∀ a' w' ρ',Agree n a' ρ'→rN (nW l0 i pend) w'→R (nW l0 i pend) ρ' w'→G a' w') (h:Ac P n l0 R i pend ρ w) :
  wpOp P l0.toArray (wZ fun a w=>nU n Q .normal a w) i G a w:=by
 obtain ⟨o,ho,h1⟩:=h
 have hoi:l0.toArray[i]? = some o:=by rw [rE] at ho;simpa using ho
 unfold wl at h1
 have h2:=h1 a ha
 unfold wpList at h2
 unfold wpOp
 simp only [hoi]
 have fin:∀ a' w',nU n (nZ (fun ρ' w'=>rN (nW l0 i pend) w'∧R (nW l0 i pend) ρ' w') (fun _ _ _=>False)) .normal a' w'→G a' w':=by
  rintro a' w' ⟨ρ',ha',h3,h4⟩
  exact hfin a' w' ρ' ha' h3 h4
 split
 ·rename_i hw
  rw [if_pos hw] at h2
  rcases h2 with h2 | ⟨_,a0,w0,ρ0,_,h3⟩
  ·refine .inl ?_
   unfold Oper.wp at h2 ⊢
   generalize (execOp a.eval o).run P w=r at h2 ⊢
   cases r with
   | ok nx w' =>
    cases nx <;> simp only [Oper.upon,wpList] at h2 ⊢ <;> first
     | exact fin _ _ h2
     | exact Calls.mono h2 (fun e w'' he=>by
       cases e with
       | returned v=>exact fin _ _ he
       | panicked c=>obtain ⟨_,_,h3⟩:=he;exact h3.elim
       | outgrown=>obtain ⟨_,_,_,_,h3⟩:=he;exact h3.elim)
     | exact Rows.mono h2 (fun _ _ he=>fin _ _ he)
   | halt x w' =>
    cases x <;> simp only [Oper.upon] at h2 ⊢
    obtain ⟨_,_,h3⟩:=h2
    exact h3.elim
  ·exact h3.elim
 ·rename_i hw
  rw [if_neg hw] at h2
  exact fin _ _ h2
theorem bOl (hsel:Region.noSelect l0.toArray=true):∀ (pl:Pl) (pend:gQ) (listed:Array Bool) (ρ:fI) (w:World) (a:Act),Agree n a ρ→rF l0.toArray listed pl=true→pB l0.toArray listed→rN pend w→T P n l0 Q pl pend ρ w →
  Tr P l0.toArray (fun a w=>nU n Q .normal a w) pl.len pend listed a w:=by
 intro pl
 induction pl with
 | done =>
  intro pend listed ρ w a ha hp hc hall h
  simp only [rF,List.isEmpty_iff] at hp
  exact ⟨hp,ρ,ha,h⟩
 | fork i j ri rj ihi ihj =>
  intro pend listed ρ w a ha hp hc hall h
  simp only [rF,Bool.and_eq_true,decide_eq_true_eq] at hp
  obtain ⟨⟨⟨hr,h1⟩,h2⟩,h3⟩:=hp
  have hl:ri.len=rj.len:=Nat.eq_of_beq_eq_true h3
  refine ⟨fun h0=>(by rw [h0] at hr;cases hr),fun q hq => ?_⟩
  have hq':=hq
  rw [hr] at hq'
  rcases List.mem_cons.1 hq' with e | e
  ·subst e
   refine vH ha (fun a' w' ρ' ha' h4 h5 => ?_) h.1
   rw [mC] at h4 h5
   exact ⟨(jI _ _).1 h4,ihi _ _ ρ' w' a' ha' h1 (hc.set hq) h4 h5⟩
  ·have e':q=j:=by simpa using e
   subst e'
   refine vH ha (fun a' w' ρ' ha' h4 h5 => ?_) h.2
   rw [mC] at h4 h5
   refine ⟨(jI _ _).1 h4, ?_⟩
   rw [hl]
   exact ihj _ _ ρ' w' a' ha' h2 (hc.set hq) h4 h5
 | fork3 i j k ri rj rk ihi ihj ihk =>
  intro pend listed ρ w a ha hp hc hall h
  simp only [rF,Bool.and_eq_true,decide_eq_true_eq] at hp
  obtain ⟨⟨⟨⟨⟨hr,h1⟩,h2⟩,h3⟩,h4⟩,h5⟩:=hp
  have hl:ri.len=rj.len:=Nat.eq_of_beq_eq_true h4
  have hl2:ri.len=rk.len:=Nat.eq_of_beq_eq_true h5
  refine ⟨fun h0=>(by rw [h0] at hr;cases hr),fun q hq => ?_⟩
  have hq':=hq
  rw [hr] at hq'
  have hq3:q=i∨q=j∨q=k:=by simpa using hq'
  rcases hq3 with e | e | e
  ·subst e
   refine vH ha (fun a' w' ρ' ha' h6 h7 => ?_) h.1
   rw [mC] at h6 h7
   exact ⟨(jI _ _).1 h6,ihi _ _ ρ' w' a' ha' h1 (hc.set hq) h6 h7⟩
  ·subst e
   refine vH ha (fun a' w' ρ' ha' h6 h7 => ?_) h.2.1
   rw [mC] at h6 h7
   refine ⟨(jI _ _).1 h6, ?_⟩
   show Tr P l0.toArray _ ri.len _ _ _ _
   rw [hl]
   exact ihj _ _ ρ' w' a' ha' h2 (hc.set hq) h6 h7
  ·subst e
   refine vH ha (fun a' w' ρ' ha' h6 h7 => ?_) h.2.2
   rw [mC] at h6 h7
   refine ⟨(jI _ _).1 h6, ?_⟩
   show Tr P l0.toArray _ ri.len _ _ _ _
   rw [hl2]
   exact ihk _ _ ρ' w' a' ha' h3 (hc.set hq) h6 h7
 | op i k r ih =>
  intro pend listed ρ w a ha hp hc hall h
  have quiet:∀ (o:Oper) (d:Nat) (v:Value) (Y:World→Prop) (pend':gQ),((Region.ready .any l0.toArray listed).contains i && Region.free .any l0.toArray listed i && rF l0.toArray (listed.setIfInBounds i true) r)=true →
    nD l0 i=some o→o.dst=some d→Nat.blt d n=true→Y w→(∀ w',Y w'→Yl P l0 o ρ v w')→(pend'=(i,Y)::pend∨(pend'=pend∧∀ w,Y w))→T P n l0 Q r pend' (upd ρ d v) w →
    Tr P l0.toArray (fun a w=>nU n Q .normal a w) (r.len+1) pend listed a w:=by
   intro o d v Y pend' hpl ho hd hdn hy hY hpend hD
   simp only [Bool.and_eq_true] at hpl
   obtain ⟨⟨h1,h2⟩,h3⟩:=hpl
   have hr:i∈Region.ready .any l0.toArray listed:=by simpa using h1
   have hoi:l0.toArray[i]? = some o:=by rw [rE] at ho;simpa using ho
   have ha':Agree n (a.put o.dst v) (upd ρ d v):=by rw [hd];exact ha.upd d hdn v
   have hall':rN pend' w:=by
    rcases hpend with rfl | ⟨rfl,_⟩
    ·exact ⟨hy,hall⟩
    ·exact hall
   have H:=ih pend' (listed.setIfInBounds i true) (upd ρ d v) w (a.put o.dst v) ha' h3 (hc.set hr) hall' hD
   refine aLj hoi hsel r.len pend listed a w (Region.free_spec hoi h2) hr hc ((jI _ _).1 hall) hy (fun w' hy'=>bBz ha (hY w' hy')) ?_
   refine aEn _ pend' _ _ _ _ (fun p hp' => ?_) H
   rcases hpend with rfl | ⟨rfl,hall2⟩
   ·exact .inl hp'
   ·rcases List.mem_cons.1 hp' with rfl | h
    ·exact .inr hall2
    ·exact .inl h
  match k,hp,h with
  | 0,hp,h =>
   obtain ⟨o,d,v,h1,h2,h3,h4,h5⟩:=h
   exact quiet o d v (fun w'=>Yl P l0 o ρ v w') pend hp h1 h2 h3 (h4 w) (fun _ h=>h) (.inr ⟨Z,h4⟩) h5
  | 1,hp,h =>
   obtain ⟨o,d,v,h1,h2,h3,h4,h5⟩:=h
   exact quiet o d v (fun w'=>Yl P l0 o ρ v w') _ hp h1 h2 h3 h4 (fun _ h=>h) (.inl Z) h5
  | k+3,hp,h =>
   obtain ⟨o,d,v,h1,h2,h3,h4,h5⟩:=h
   exact quiet o d v (fun w'=>Yl P l0 o ρ v w') _ hp h1 h2 h3 h4 (fun _ h=>h) (.inl Z) h5
  | 2,hp,h =>
   simp only [rF,Bool.and_eq_true,decide_eq_true_eq] at hp
   obtain ⟨hr,hp'⟩:=hp
   refine bBw hr ?_
   have hir:i∈Region.ready .any l0.toArray listed:=by rw [hr];simp
   refine vH ha (fun a' w' ρ' ha' h4 h5 => ?_) h
   rw [mC] at h4 h5
   exact ⟨(jI _ _).1 h4,ih _ _ ρ' w' a' ha' hp' (hc.set hir) h4 h5⟩
theorem bOo {id:Nat} (pl:Pl) (hm:P.follows .mixedOrders=true) (hlen:pl.len=l0.length) (hB:(Region.noSelect l0.toArray && rF l0.toArray (Array.replicate l0.length false) pl)=true)
  (h:∀ w',Below w.heap.size w w'→w'.heap=w.heap→T P n l0 Q pl [] ρ w'):W P n (.region id l0.toArray true) Q ρ w:=by
 unfold W
 intro a ha
 simp only [Bool.and_eq_true] at hB
 refine wp_region_any hm ?_
 have hc:pB l0.toArray (Array.replicate l0.length false):=fun j o _ hl=>by
  rcases Nat.lt_or_ge j l0.length with h | h
  ·simp [h] at hl
  ·simp [Array.getElem?_eq_none (show (Array.replicate l0.length false).size≤j by simpa using h)] at hl
 have:=aLi _ _ _ _ _ (bOl (Q:=Q) hB.1 pl [] (Array.replicate l0.length false) ρ { w with drawn:=w.drawn+1 } a ha hB.2 hc trivial (h _ ⟨rfl,rfl,rfl,Nat.le_refl _,fun _ _=>rfl⟩ rfl))
 rw [hlen] at this
 have e:l0.toArray.size=l0.length:=by simp
 rw [e]
 have gen:∀ (f:Nat) (listed:Array Bool) (a:Act) (w:World),wpAny P .any l0.toArray (wZ fun a w=>nU n Q .normal a w) f listed a w→wpAny P .any l0.toArray (nU n Q) f listed a w:=by
  intro f
  induction f with
  | zero=>intro listed a w h;exact h
  | succ f ih =>
   intro listed a w h
   refine ⟨h.1,fun i hi => ?_⟩
   have h2:=h.2 i hi
   unfold wpOp at h2 ⊢
   split
   ·rename_i ho;simp only [ho] at h2;exact ih _ _ _ h2
   ·rename_i o ho
    simp only [ho] at h2
    split
    ·rename_i hw
     rw [if_pos hw] at h2
     rcases h2 with h2 | ⟨_,_,_,h3⟩
     ·refine .inl ?_
      unfold Oper.wp at h2 ⊢
      generalize (execOp a.eval o).run P w=r at h2 ⊢
      cases r with
      | ok nx w' =>
       cases nx <;> simp only [Oper.upon] at h2 ⊢ <;> first
        | exact ih _ _ _ h2
        | exact Calls.mono h2 (fun e w'' he=>by
          cases e with
          | returned v=>exact ih _ _ _ he
          | panicked c=>exact he.elim
          | outgrown=>obtain ⟨_,_,h3⟩:=he;exact h3.elim)
        | exact Rows.mono h2 (fun _ _ he=>ih _ _ _ he)
      | halt x w' =>
       cases x <;> simp only [Oper.upon] at h2 ⊢
       exact h2.elim
     ·exact h3.elim
    ·rename_i hw
     rw [if_neg hw] at h2
     exact ih _ _ _ h2
 exact gen _ _ _ _ this
end
end Go.Bil

namespace Go.Bil
section
variable {P:Program} {n:Nat} {Q:Exit→fI→World→Prop} {ρ:fI} {w:World}
end
end Go.Bil
