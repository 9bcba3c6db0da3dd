/- Part of the proof of a law of this seat (1 texts). No conditions. -/
import Derived.Test.YtpcloigancpnbaaGreatDoorK14
import Derived.Laws.BytesArg
set_option linter.unusedVariables false
set_option linter.unusedSimpArgs false
set_option linter.unnecessarySimpa false
set_option maxHeartbeats 100000000
namespace Go.Bil
def bB (x:Int):List Value:=[.int .u8 x]
theorem sM (l:List Int):∀ y∈l.map bB,y.length=1:=by
 intro y hy
 obtain ⟨x,_,rfl⟩:=List.mem_map.1 hy
 rfl
theorem iS (l:List Int):∀ y∈l.map bB,∀ u∈y,one u=true:=by
 intro y hy u hu
 obtain ⟨x,_,rfl⟩:=List.mem_map.1 hy
 rw [bB,List.mem_singleton] at hu
 subst hu
 rfl
section
variable {P:Program} {n:Nat} {Q:Exit→fG→World→Prop} {ρ:fG} {w:World} {l0 rest:List Oper}
variable {d:Nat} {ty:TypeId} {pos:String} {af:Array Edge} {gd:Option (Nat × Bool)}
variable {w0:World} {X:List Nat} {S:List eL}
theorem aXo (i:Nat) {t e:TypeId} {x:Operand} {A:Option Addr} {m c:Nat} {ls:List (List Value)} {en:eL} (ht:P.underlying t=some (.slice e)) (he:P.underlying e=some (.int .u8)) (M:Mem w0 X S w) (hg:nA l0 ρ gd=true) (hd:Nat.blt d n=true)
  (hx:ev ρ x=.slice A m c) (hi:gD S i=some en) (hR:aZ e 1 A m c ls en) (hm:0 < m)
  (h:∀ en' w',Mem w0 X (S.set i en') w'→aZ e 1 A m c ls en'→wl P n l0 rest Q (upd ρ d (.slice A m c)) w') :
  wl P n l0 (⟨some d,.convert t t x,ty,pos,af,gd⟩::rest) Q ρ w:=by
 obtain ⟨b,L,fr,rfl,rfl,hL,hmc,hfr⟩:=hR.block hm
 have hh:=M.at_ hi
 have hsh:w.shape? b=some (e,L.length):=by unfold World.shape?;rw [hh];simp [bm]
 have hrun:(convert t t (.slice (some ⟨b,0,none⟩) m c)).run P w=.ok (.slice (some ⟨b,0,none⟩) m c) (w.freeze ⟨b,L.length,none⟩ 1):=by
  simp [convert,run_underlying ht,run_underlying he,markStringish,hsh]
 obtain ⟨lo,hi2⟩:=fr
 obtain ⟨fr',hfr',hw1,hw2⟩:∃ fr':Nat × Nat,L.length≤fr'.1∧(w.freeze ⟨b,L.length,none⟩ 1).heap[b]? = some (bm L e fr')∧∀ c,c≠b→(w.freeze ⟨b,L.length,none⟩ 1).heap[c]? = w.heap[c]? := by
  refine ⟨if lo == hi2 then (L.length,L.length+1) else (min lo L.length,max hi2 (L.length+1)), ?_, ?_, ?_⟩
  ·by_cases hq:lo=hi2
   ·subst hq
    simp
   ·rw [if_neg (by simpa using hq)]
    rcases hfr with h | ⟨_,h⟩
    ·injection h with h1 h2
     omega
    ·have:L.length≤lo:=h
     show L.length≤min lo L.length
     omega
  ·unfold World.freeze
   rw [if_neg (by decide)]
   simp [Array.getElem?_modify,hh,bm]
  ·intro c hc
   unfold World.freeze
   rw [if_neg (by decide)]
   simp only [Array.getElem?_modify]
   rw [if_neg (fun e=>hc e.symm)]
 have hi':=hi
 rw [jS] at hi'
 have M':Mem w0 X (S.set i (some b,bm L e fr')) (w.freeze ⟨b,L.length,none⟩ 1):=M.write hi' _ (by unfold World.freeze;rw [if_neg (by decide)];exact ⟨rfl,rfl,rfl,by simp⟩) hw1 hw2
 refine nT hg hd (by simp [execOp,hx,hrun]) (h _ _ M' ?_)
 obtain ⟨r1,r2,r3,r4⟩:=hR
 refine ⟨r1,r2,r3,.inr ?_⟩
 rcases r4 with ⟨q,_⟩ | ⟨b2,L2,fr2,q1,q2,q3,q4,q5,q6⟩
 ·cases q
 ·injection q2 with q7 q8
  have hLL:L=L2:=by simp only [bm,Obj.cells.injEq] at q8;simpa using q8.1
  subst hLL
  exact ⟨b,L,fr',Z,Z,.inr ⟨Z,hfr'⟩,q4,q5,q6⟩
theorem aNc {src dst e:TypeId} (hs:P.underlying src=some (.slice e)) (he:P.underlying e=some (.int .u8)) (hd:P.underlying dst=some .string) {x:Operand} {A:Option Addr} {m c:Nat} {xs:List Int} (R:Rd w 1 A m (xs.map bB)) (hx:ev ρ x=.slice A m c) :
  kS P ρ w (.convert src dst x) (.string (strOfNums xs)):=by
 intro d2 ty pos af gd
 have hl:xs.length=m:=by simpa using R.len
 by_cases hm:m=0
 ·subst hm
  obtain rfl:xs=[]:=List.eq_nil_of_length_eq_zero hl
  have e0:ByteArray.empty=strOfNums []:=rfl
  cases A with
  | none=>simp only [execOp,hx,Sem.run_bind,run_convert_bytes_nil w src e hs he 0 c dst hd,Result.andThen,Sem.run_pure,e0]
  | some a=>simp only [execOp,hx,Sem.run_bind,run_convert_bytes_string w src dst e (some a) 0 c hs he hd,run_bytesToString (P:=P) w a 0 c [] (aCk a w),List.foldl_nil,Result.andThen,Sem.run_pure,e0]
 ·obtain ⟨b,off,rfl,_,hc⟩:=R.at_ (by omega)
  have h:=run_convert_bytes_arg w src e hs he b off m c xs hl (fun i hi=>by
   have hxi:xs[i]? = some (xs[i]'(by omega)):=List.getElem?_eq_getElem _
   have hcc:=hc i [.int .u8 (xs[i]'(by omega))] (by rw [List.getElem?_map,hxi];rfl)
   have:=hcc 0 (.int .u8 (xs[i]'(by omega))) rfl
   rw [Nat.mul_one,Nat.add_zero] at this
   rw [this,List.getD_eq_getElem?_getD,hxi]
   rfl) dst hd
  simp only [execOp,hx,Sem.run_bind,h,Result.andThen,Sem.run_pure]
theorem aQj {t t':TypeId} {x y:Operand} {a b:ByteArray} (hx:ev ρ x=.string a) (hy:ev ρ y=.string b):kS P ρ w (.binOp .neq t x y t') (.bool (decide (a.data.toList≠b.data.toList))):=by
 intro d2 ty pos af gd
 have e:(!(a.toList == b.toList))=decide (a.data.toList≠b.data.toList):=by
  have e2:(a.toList == b.toList)=decide (a.data.toList=b.data.toList):=by
   rw [ByteArray.toList_eq,ByteArray.toList_eq,Bool.eq_iff_iff]
   simp only [beq_iff_eq,decide_eq_true_eq]
  rw [e2]
  simp only [ne_eq,decide_not]
 have g:(eqGuard .neq t x y (.string a) (.string b)).run P w=.ok () w:=rfl
 simp only [execOp,hx,hy,Sem.run_bind,g,Result.andThen,binOp,Op.stringOp,Sem.run_pure,e]
end
theorem wD (xs:List Int) (h:∀ x∈xs,0≤x∧x≤255) (ys:List UInt8):(strOfNums xs).data.toList≠ys↔xs≠ys.map (fun y=>(y.toNat:Int)):=by
 rw [strOfNums_data]
 refine not_congr ⟨fun e => ?_,fun e => ?_⟩
 ·subst e
  rw [List.map_map]
  refine (List.map_id xs).symm.trans (List.map_congr_left fun x hx => ?_)
  obtain ⟨h0,h1⟩:=h x hx
  show x=(((UInt8.ofNat x.toNat).toNat:Nat):Int)
  rw [UInt8.toNat_ofNat',Nat.mod_eq_of_lt (by omega)]
  omega
 ·subst e
  rw [List.map_map]
  refine (List.map_congr_left fun y hy => ?_).trans (List.map_id ys)
  show UInt8.ofNat ((y.toNat:Int)).toNat=y
  rw [Int.toNat_natCast]
  exact UInt8.ofNat_toNat
theorem bIa (x:Int):IntKind.wrap .u32 x=x % 4294967296:=by simp [IntKind.wrap,IntKind.bits,IntKind.signed]
theorem wr8 (x:Int):IntKind.wrap .u8 x=x % 256:=by simp [IntKind.wrap,IntKind.bits,IntKind.signed]
theorem bGf (a:Int) (s:Nat) (hs:s≤32):a.fdiv (2 ^ (min ((s:Int)).toNat (IntKind.bits .u32)))=a / ((2 ^ s:Nat):Int):=by
 rw [Int.toNat_natCast,show min s (IntKind.bits .u32)=s from Nat.min_eq_left hs,Int.fdiv_eq_ediv_of_nonneg _ (by exact Int.pow_nonneg (by decide)),Int.natCast_pow]
 rfl
theorem bKu (a:Int):a.fdiv (2 ^ (min (24:Int).toNat (IntKind.bits .u32)))=a / 16777216:=bGf a 24 (by decide)
theorem bKt (a:Int):a.fdiv (2 ^ (min (16:Int).toNat (IntKind.bits .u32)))=a / 65536:=bGf a 16 (by decide)
theorem bSe (a:Int):a.fdiv (2 ^ (min (8:Int).toNat (IntKind.bits .u32)))=a / 256:=bGf a 8 (by decide)
theorem bGe (a:Nat) (s:Nat) (hs:s≤32) (h:a*2 ^ s < 4294967296):IntKind.wrap .u32 ((a:Int)*2 ^ (min ((s:Int)).toNat (IntKind.bits .u32)))=((a*2 ^ s:Nat):Int):=by
 rw [Int.toNat_natCast,show min s (IntKind.bits .u32)=s from Nat.min_eq_left hs,show ((2:Int) ^ s)=((2 ^ s:Nat):Int) by simp,← Int.natCast_mul,bIa]
 omega
theorem bKs (a:Nat) (h:a < 256):IntKind.wrap .u32 ((a:Int)*2 ^ (min (24:Int).toNat (IntKind.bits .u32)))=((a*16777216:Nat):Int):=bGe a 24 (by decide) (by omega)
theorem bKr (a:Nat) (h:a < 256):IntKind.wrap .u32 ((a:Int)*2 ^ (min (16:Int).toNat (IntKind.bits .u32)))=((a*65536:Nat):Int):=bGe a 16 (by decide) (by omega)
theorem bSd (a:Nat) (h:a < 256):IntKind.wrap .u32 ((a:Int)*2 ^ (min (8:Int).toNat (IntKind.bits .u32)))=((a*256:Nat):Int):=bGe a 8 (by decide) (by omega)
theorem bSc (a A b s:Nat) (hA:a*2 ^ s=A) (hb:b < 2 ^ s) (h:A+b < 4294967296):IntKind.wrap .u32 ((BitVec.ofInt (IntKind.bits .u32) (A:Int) ||| BitVec.ofInt (IntKind.bits .u32) (b:Int)).toNat)=((A+b:Nat):Int):=by
 rw [BitVec.toNat_or,show IntKind.bits .u32=32 from rfl,BitVec.toNat_ofInt,BitVec.toNat_ofInt,bIa]
 have e:=Nat.shiftLeft_add_eq_or_of_lt hb a
 rw [Nat.shiftLeft_eq,hA] at e
 rw [show ((A:Int) % ((2 ^ 32:Nat):Int)).toNat=A by omega,show ((b:Int) % ((2 ^ 32:Nat):Int)).toNat=b by omega,← e]
 omega
end Go.Bil
namespace Go.Bil
theorem Rd.subB {w:World} {m c:Nat} {A:Option Addr} {ls:List Int} (R:Rd w 1 A m (ls.map bB)) (l h:Nat) (hl:l≤h) (hh:h≤m) (hc:m≤c):Rd w 1 (wT A c l 1) (h - l) (((ls.drop l).take (h - l)).map bB):=by
 rw [List.map_take,List.map_drop]
 exact R.sub l h hl hh hc
end Go.Bil
namespace Go.Bil
theorem xX {P:Program} {ρ:fG} {w:World} {t t' e:TypeId} {x:Operand} {p:Option Addr} (b:Bool) (ht:P.underlying t=some (.pointer e)) (hx:ev ρ x=.pointer p) (hb:p.isSome=b):kS P ρ w (.binOp .neq t x (.const (.pointer none)) t') (.bool b):=fun dst ty pos af gd=>(by
  subst hb
  have hq:(eqGuard .neq t x (.const (.pointer none)) (.pointer p) (.pointer none)).run P w=.ok () w:=rfl
  have hb:=(aCz (P:=P) (p:=p) ht w).2
  have e:(!p.isNone)=p.isSome:=by cases p <;> rfl
  simp only [execOp,hx,yN,Sem.run_bind,hq,hb,Result.andThen_ok,Sem.run_pure,e])
end Go.Bil
namespace Go.Bil
theorem aZ.awayS {w0 w:World} {X:List Nat} {S:List eL} {T sz:Nat} {A:Option Addr} {n c:Nat} {ls:List (List Value)} {e:eL} (h:aZ T sz A n c ls e) (M:Mem w0 X S w) (i k j:Nat) (hj:gD S j=some e) (hij:(Nat.blt j i || Nat.ble (i+k) j)=true):0 < n→∀ q off,A=some ⟨q,off,none⟩→q∉bY ((S.drop i).take k):=by
 intro hn q off hA hq
 obtain ⟨b2,L,fr,h1,h2,_⟩:=h.block hn
 rw [h1] at hA
 injection hA with hA
 injection hA with hA
 subst hA
 obtain ⟨o,ho⟩:=gV.1 hq
 obtain ⟨p,hp⟩:=List.getElem?_of_mem ho
 have hpk:p < k:=by
  have:=(List.getElem?_eq_some_iff.1 hp).1
  rw [List.length_take] at this
  omega
 rw [List.getElem?_take_of_lt hpk,List.getElem?_drop] at hp
 rw [jS,h2] at hj
 have hne:j≠i+p:=by
  rw [Bool.or_eq_true] at hij
  rcases hij with g | g
  ·have:=Nat.le_of_ble_eq_true g;omega
  ·have:=Nat.le_of_ble_eq_true g;omega
 have hap:=M.apart
 unfold bY at hap
 have key:∀ (S:List eL),(S.filterMap (·.1)).Nodup→∀ (a c:Nat) (x:Nat) (o o':Obj),S[a]? = some (some x,o)→S[c]? = some (some x,o')→a=c:=by
  intro S
  induction S with
  | nil=>intro _ a c x o o' h;simp at h
  | cons s S ih =>
   intro hn a c x o o' ha hc
   have hm:∀ (d:Nat) (o:Obj),S[d]? = some (some x,o)→x∈S.filterMap (·.1):=fun d o hd=>List.mem_filterMap.2 ⟨_,List.mem_of_getElem? hd,rfl⟩
   cases a with
   | zero =>
    cases c with
    | zero=>rfl
    | succ c =>
     simp only [List.getElem?_cons_zero,Option.some.injEq] at ha
     simp only [List.getElem?_cons_succ] at hc
     subst ha
     have hn2:(x::S.filterMap (·.1)).Nodup:=hn
     exact absurd (hm c o' hc) (List.nodup_cons.1 hn2).1
   | succ a =>
    cases c with
    | zero =>
     simp only [List.getElem?_cons_zero,Option.some.injEq] at hc
     simp only [List.getElem?_cons_succ] at ha
     subst hc
     have hn2:(x::S.filterMap (·.1)).Nodup:=hn
     exact absurd (hm a o ha) (List.nodup_cons.1 hn2).1
    | succ c =>
     simp only [List.getElem?_cons_succ] at ha hc
     have hn':(S.filterMap (·.1)).Nodup:=hn.sublist (List.Sublist.filterMap _ (List.sublist_cons_self s S))
     rw [ih hn' a c x o o' ha hc]
 exact hne (key S hap j (i+p) b2 _ o hj hp)
end Go.Bil
