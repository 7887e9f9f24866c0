/- Texts: NumB. -/
import Derived.Lib.OwnBridge
import Derived.Lib.Repeat
import Derived.Lib.Join
import Derived.Test.YtcjgimlcefhhmaaGreatDoorU10
set_option linter.unusedVariables false
set_option linter.unusedSimpArgs false
set_option maxRecDepth 100000
set_option maxHeartbeats 12800000
namespace Go.Proofs.YtcjgimlcefhhmaaGreatDoor
open Go.RowKit Go.Sort Go.Lib
theorem V4 {a b:Nat}{k:Nat}(ha:(digs a).length≤k)(hb:(digs b).length≤k):(digs (a+b)).length≤k+1:=by
 have h1:=Kl ha
 have h2:=Kl hb
 refine Kf (Nat.lt_of_lt_of_le ?_ (To k))
 generalize BB ^ k=X at *
 omega
theorem Se {a b:Nat}{k m:Nat}(ha:(digs a).length≤k)(hb:(digs b).length≤m):(digs (a * b)).length≤k+m:=by
 have h1:=Kl ha
 have h2:=Kl hb
 refine Kf ?_
 rw[Nat.pow_add]
 exact Nat.mul_lt_mul'' h1 h2
theorem Om {a b:Nat}(h:a≤b):(digs a).length≤(digs b).length:=by
 refine Kf ?_
 have:=Kl (n:=b) (Nat.le_refl _)
 omega
theorem Nc {l:List Nat}(h:Dig l):(digs (nval l)).length≤l.length:=Lk l h
def padD:Nat→Nat→List UInt8
 | 0,_=>[]
 | k+1,r=>padD k (r / 10) ++ [UInt8.ofNat (48+r % 10)]
theorem N0 {u:Nat}(h:u < 10):decDigits u=[UInt8.ofNat (48+u)]:=by rw[decDigits,dif_pos h]
theorem Qh {u:Nat}(h:¬ u < 10):decDigits u=decDigits (u / 10) ++ [UInt8.ofNat (48+u % 10)]:=by rw[decDigits,dif_neg h]
theorem V2:∀ (k q r:Nat),0 < q→r < 10 ^ k→decDigits (q * 10 ^ k+r)=decDigits q ++ padD k r
 | 0,q,r,hq,hr=>by
  obtain rfl:r=0:=by simpa using hr
  simp[padD]
 | k+1,q,r,hq,hr=>by
  have hp:1≤10 ^ k:=Nat.one_le_pow _ _ (by decide)
  have e:q * 10 ^ (k+1)+r=10 * (q * 10 ^ k)+r:=by rw[Nat.pow_succ,← Nat.mul_assoc,Nat.mul_comm _ 10]
  have hqk:1≤q * 10 ^ k:=Nat.mul_pos hq hp
  rw[e,Qh (by omega)]
  have e1:(10 * (q * 10 ^ k)+r) / 10=q * 10 ^ k+r / 10:=by omega
  have e2:(10 * (q * 10 ^ k)+r) % 10=r % 10:=by omega
  rw[e1,e2,V2 k q (r / 10) hq (by rw[Nat.pow_succ] at hr;omega),List.append_assoc]
  rfl
theorem Zz:∀ k,padD k 0=List.replicate k 48
 | 0=>rfl
 | k+1=>by
  unfold padD
  rw[show(0:Nat) / 10=0 by rfl,Zz k,List.replicate_succ']
  rfl
theorem Zy:∀ (k r:Nat),r < 10 ^ (k+1)→padD (k+1) r=List.replicate (k+1 - (decDigits r).length) 48 ++ decDigits r
 | 0,r,hr=>by
  have hr:r < 10:=by simpa using hr
  rw[N0 hr]
  simp[padD,Nat.mod_eq_of_lt hr]
 | k+1,r,hr=>by
  unfold padD
  by_cases h:r < 10
  ·rw[show r / 10=0 by omega,Zz,N0 h,Nat.mod_eq_of_lt h]
   rfl
  ·rw[Zy k (r / 10) (by rw[Nat.pow_succ] at hr;omega),Qh h,List.append_assoc,List.length_append]
   congr 1
   congr 1
   simp
theorem Sa:∀ (k r:Nat),r < 10 ^ (k+1)→(decDigits r).length≤k+1
 | 0,r,hr=>by rw[N0 (by simpa using hr)];simp
 | k+1,r,hr=>by
  by_cases h:r < 10
  ·rw[N0 h];simp
  ·rw[Qh h,List.length_append]
   have:=Sa k (r / 10) (by rw[Nat.pow_succ] at hr;omega)
   simp;omega
theorem J0k (x:UInt8):∀ c,repeatL [x] c=List.replicate c x
 | 0=>rfl
 | c+1=>by unfold repeatL;rw[J0k x c];rfl
def part (q r:Nat):List UInt8:=if q=0 then decDigits r else padD 9 r
theorem J2e (m:Nat)(hm:0 < m):decDigits m=(if m / 1000000000=0 then [] else decDigits (m / 1000000000)) ++ part (m / 1000000000) (m % 1000000000):=by
 have h:=Nat.div_add_mod m 1000000000
 have hr:=Nat.mod_lt m (show 0 < 1000000000 by decide)
 generalize m / 1000000000=q at *
 generalize m % 1000000000=r at *
 by_cases hq:q=0
 ·subst hq
  simp[part]
  rw[← h];simp
 ·rw[if_neg hq,part,if_neg hq,← V2 9 q r (by omega) (by simpa using hr),← h]
  congr 1
  rw[Nat.mul_comm]
def Lf (N m:Nat)(ps:List (List UInt8)):Prop:=m=N / 1000000000 ^ ps.length∧(N=0→ps=[])∧(0 < N→decDigits N=(if m=0 then [] else decDigits m) ++ ps.reverse.flatten)
theorem Lf.start (N:Nat):Lf N N []:=⟨by simp,fun _=>rfl,fun h=>by simp[show N≠0 by omega]⟩
theorem Lf.step {N m:Nat}{ps:List (List UInt8)}(h:Lf N m ps)(hm:0 < m):Lf N (m / 1000000000) (ps ++ [part (m / 1000000000) (m % 1000000000)]):=by
 refine⟨by rw[h.1,List.length_append,Nat.div_div_eq_div_mul];rfl,fun hN=>?_,fun hN=>?_⟩
 ·have:=h.1
  rw[hN,Nat.zero_div] at this
  omega
 rw[h.2.2 hN,if_neg (by omega),J2e m hm,List.reverse_append]
 simp[List.append_assoc]
theorem Lf.few {N m:Nat}{ps:List (List UInt8)}(h:Lf N m ps)(hm:0 < m):ps.length < N:=by
 have h1:1000000000 ^ ps.length≤N:=by
  rcases Nat.lt_or_ge N (1000000000 ^ ps.length) with h'|h'
  ·rw[h.1,Nat.div_eq_of_lt h'] at hm;omega
  ·exact h'
 exact Nat.lt_of_lt_of_le (Nat.lt_pow_self (by decide)) h1
theorem Lf.stop {N:Nat}{ps:List (List UInt8)}(h:Lf N 0 ps):(ps=[]∧N=0)∨(ps≠[]∧decDigits N=ps.reverse.flatten):=by
 by_cases hN:N=0
 ·exact .inl ⟨h.2.1 hN,hN⟩
 ·have h2:=h.2.2 (by omega)
  refine .inr ⟨fun hp=>?_,by simpa using h2⟩
  subst hp
  have:=h.1
  simp at this;omega
def OwnS (w:World)(base:Nat)(v:Value)(xs:List (List UInt8)):Prop:=w.ownsRow base 9 1 v xs.length (xs.map encStr)
theorem OwnS.nil (w:World)(base:Nat):OwnS w base (.slice none 0 0) []:=World.ownsRow_nil w base _ 1
theorem OwnS.grow {w w':World}{base:Nat}{v:Value}{l:List (List UInt8)}(h:OwnS w base v l)(g:Gr w w'):OwnS w' base v l:=by
 refine World.ownsRow.kept (row:=none) h ⟨g.os,g.tape,g.output,g.size,fun k hk _=>Below.block g k hk⟩ ?_
 cases v.ownBlock<;>simp
theorem OwnS.lt {w:World}{base:Nat}{v:Value}{l:List (List UInt8)}(h:OwnS w base v l):∀ k,v.ownBlock=some k→base≤k∧k < w.heap.size:=World.ownsRow.lt h
theorem NatL.kept {w w':World}{row:Option Nat}{v:Value}{l:List Nat}(h:NatL w v l)(hn:∀ g,row=some g→M7 g v)(hg:w.grownBy w' row):NatL w' v l:=by
 cases row with
 | none=>exact h.grow ⟨hg.os,hg.tape,hg.output,hg.size,fun k hk=>hg.block k hk (by simp)⟩
 | some g=>exact h.keep (hn g rfl) hg
theorem Zj {g b o n c k:Nat}(h:k < g)(hb:g≤b):M7 k (.slice (some ⟨b,o,none⟩) n c):=fun b' o' n' c' e=>by
 injection e with e _ _
 injection e with e
 injection e with e
 omega
theorem J1f:BB≤10 ^ 10:=by rw[Jc];decide
theorem Lf.bound {N m L:Nat}{ps:List (List UInt8)}(h:Lf N m ps)(hm:0 < m)(hN:N < BB ^ L):ps.length < 2 * L:=by
 have h1:1000000000 ^ ps.length≤N:=by
  rcases Nat.lt_or_ge N (1000000000 ^ ps.length) with h'|h'
  ·rw[h.1,Nat.div_eq_of_lt h'] at hm;omega
  ·exact h'
 have h2:65536 ^ ps.length≤1000000000 ^ ps.length:=Nat.pow_le_pow_left (by decide) _
 have h3:BB ^ L=65536 ^ (2 * L):=by rw[Nat.pow_mul,Jc]
 rw[h3] at hN
 exact(Nat.pow_lt_pow_iff_right (by decide:1 < 65536)).1 (Nat.lt_of_le_of_lt h2 (Nat.lt_of_le_of_lt h1 hN))
theorem Qi {N L:Nat}(hN:N < BB ^ L):(decDigits N).length≤10 * L+1:=by
 refine Sa (10 * L) N (Nat.lt_of_lt_of_le hN ?_)
 refine Nat.le_trans (Nat.pow_le_pow_left J1f L) ?_
 rw[← Nat.pow_mul]
 exact Nat.pow_le_pow_right (by decide) (by omega)
theorem J3i:(Tryz.prog.info? 9).map (fun i=>(i.zero,i.size,i.bytes))=some (some (.string ⟨#[]⟩),1,16):=by kernel_rfl
section
variable {ops:Array Oper}{rest:List Oper}{o:Oper}{a:Act}{Q:Exit→Act→World→Prop}{w:World}
theorem J19 (hgd:o.guard=none)(s x:Operand)(ho:o.op = .call { callee:=.builtin .append,args:=#[s,x],argTypes:=#[83,83] })
  (base:Nat) (v:Value) (l:List (List UInt8)) (m:List UInt8) (b c:Nat) (hs:a.eval s=v) (hown:OwnS w base v l) (hx:a.eval x = .slice (some ⟨b,0,none⟩) 1 c) (hm:w.cell? ⟨b,0,none⟩=some (encStr m))
  (hlen:l.length+1≤8796093022208) (hbase:base≤w.heap.size)
  (h:∀ v' w',OwnS w' base v' (l ++ [m])→w.grownBy w' v.ownBlock→wpList Tryz.prog ops Q rest (a.put o.dst v') w'):wpList Tryz.prog ops Q (o :: rest) a w:=by
 obtain⟨i0,hi,hz0,hz1,hz2⟩:=info_parts J3i
 refine wpList_append_own _ hgd s x 83 ho base 9 i0 (.string ⟨#[]⟩) 1 16 Tryz.underlying83 hi hz0 hz1 hz2 rfl (by omega) v l.length (l.map encStr) hs hown ⟨b,0,none⟩ 1 c [encStr m] hx
  (by simp) (fun j u hu=>?_) (fun u hu=>by
   obtain rfl:u=encStr m:=by simpa using hu
   rfl) (by unfold maxLen;omega) (by omega) hbase (fun v' w' hown' hg _=>?_)
 ·obtain rfl:j=0:=by
   have:=(List.getElem?_eq_some_iff.1 hu).1
   simpa using this
  simp at hu
  subst hu
  rw[Qd];exact hm
 ·refine h v' w' ?_ hg
  unfold OwnS
  rw[List.map_append,List.length_append]
  exact hown'
end
end Go.Proofs.YtcjgimlcefhhmaaGreatDoor
