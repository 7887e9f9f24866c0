/- Texts: NumB. -/
import Derived.Lib.OwnBridge
import Derived.Test.YtcjgimlcefhhmaaGreatDoorC8
set_option linter.unusedVariables false
set_option linter.unusedSimpArgs false
set_option maxRecDepth 100000
set_option maxHeartbeats 12800000
namespace Go.Proofs.YtcjgimlcefhhmaaGreatDoor
open Go.RowKit Go.Sort Go.Lib
theorem Xn {a b:Nat}{k:Nat}(c:(digs a).length≤k)(d:(digs b).length≤k):(digs (a+b)).length≤k+1:=by
 have f:=Kt c;have g:=Kt d;refine Kj (Nat.lt_of_lt_of_le ?_ (Un k));generalize BB ^ k=X at *;omega
theorem Tb {a b:Nat}{k m:Nat}(f:(digs a).length≤k)(g:(digs b).length≤m):(digs (a * b)).length≤k+m:=by
 have c:=Kt f;have d:=Kt g;refine Kj ?_;rw[Nat.pow_add];exact Nat.mul_lt_mul'' c d
theorem Pf {a b:Nat}(h:a≤b):(digs a).length≤(digs b).length:=by
 refine Kj ?_;have:=Kt (n:=b) (Nat.le_refl _);omega
theorem M4 {l:List Nat}(h:Dig l):(digs (nval l)).length≤l.length:=L5 l h
def padD:Nat→Nat→List UInt8
 | 0,_=>[]
 | k+1,r=>padD k (r / 10) ++ [UInt8.ofNat (48+r % 10)]
theorem Pe {u:Nat}(h:u < 10):decDigits u=[UInt8.ofNat (48+u)]:=by rw[decDigits,dif_pos h]
theorem S2 {u:Nat}(h:¬ u < 10):decDigits u=decDigits (u / 10) ++ [UInt8.ofNat (48+u % 10)]:=by rw[decDigits,dif_neg h]
theorem Xm:∀ (k q r:Nat),0 < q→r < 10 ^ k→decDigits (q * 10 ^ k+r)=decDigits q ++ padD k r
 | 0,q,r,hq,hr=>by
  obtain rfl:r=0:=by simpa using hr
  simp[padD]
 | k+1,q,r,hq,hr=>by
  have d:1≤10 ^ k:=Nat.one_le_pow _ _ (by decide);have e:q * 10 ^ (k+1)+r=10 * (q * 10 ^ k)+r:=by rw[Nat.pow_succ,← Nat.mul_assoc,Nat.mul_comm _ 10]
  have f:1≤q * 10 ^ k:=Nat.mul_pos hq d;rw[e,S2 (by omega)];have b:(10 * (q * 10 ^ k)+r) / 10=q * 10 ^ k+r / 10:=by omega
  have c:(10 * (q * 10 ^ k)+r) % 10=r % 10:=by omega
  rw[b,c,Xm k q (r / 10) hq (by rw[Nat.pow_succ] at hr;omega),List.append_assoc];rfl
theorem J0g:∀ k,padD k 0=List.replicate k 48
 | 0=>rfl
 | k+1=>by
  unfold padD;rw[show(0:Nat) / 10=0 by rfl,J0g k,List.replicate_succ'];rfl
theorem J0f:∀ (k r:Nat),r < 10 ^ (k+1)→padD (k+1) r=List.replicate (k+1 - (decDigits r).length) 48 ++ decDigits r
 | 0,r,b=>by
  have b:r < 10:=by simpa using b
  rw[Pe b];simp[padD,Nat.mod_eq_of_lt b]
 | k+1,r,b=>by
  unfold padD;by_cases h:r < 10
  ·rw[show r / 10=0 by omega,J0g,Pe h,Nat.mod_eq_of_lt h];rfl
  ·rw[J0f k (r / 10) (by rw[Nat.pow_succ] at b;omega),S2 h,List.append_assoc,List.length_append];congr 1;congr 1;simp
theorem S3:∀ (k r:Nat),r < 10 ^ (k+1)→(decDigits r).length≤k+1
 | 0,r,hr=>by rw[Pe (by simpa using hr)];simp
 | k+1,r,hr=>by
  by_cases h:r < 10
  ·rw[Pe h];simp
  ·rw[S2 h,List.length_append];have:=S3 k (r / 10) (by rw[Nat.pow_succ] at hr;omega);simp;omega
theorem J0R (x:UInt8):∀ c,repeatL [x] c=List.replicate c x
 | 0=>rfl
 | c+1=>by unfold repeatL;rw[J0R x c];rfl
def part (q r:Nat):List UInt8:=if q=0 then decDigits r else padD 9 r
theorem J2J (m:Nat)(d:0 < m):decDigits m=(if m / 1000000000=0 then [] else decDigits (m / 1000000000)) ++ part (m / 1000000000) (m % 1000000000):=by
 have h:=Nat.div_add_mod m 1000000000;have c:=Nat.mod_lt m (show 0 < 1000000000 by decide);generalize m / 1000000000=q at *;generalize m % 1000000000=r at *;by_cases b:q=0
 ·subst b;simp[part];rw[← h];simp
 ·rw[if_neg b,part,if_neg b,← Xm 9 q r (by omega) (by simpa using c),← h];congr 1;rw[Nat.mul_comm]
def L0 (N m:Nat)(ps:List (List UInt8)):Prop:=m=N / 1000000000 ^ ps.length∧(N=0→ps=[])∧(0 < N→decDigits N=(if m=0 then [] else decDigits m) ++ ps.reverse.flatten)
theorem L0.start (N:Nat):L0 N N []:=⟨by simp,fun _=>rfl,fun h=>by simp[show N≠0 by omega]⟩
theorem L0.step {N m:Nat}{c:List (List UInt8)}(h:L0 N m c)(d:0 < m):L0 N (m / 1000000000) (c ++ [part (m / 1000000000) (m % 1000000000)]):=by
 refine⟨by rw[h.1,List.length_append,Nat.div_div_eq_div_mul];rfl,fun b=>?_,fun b=>?_⟩
 ·have:=h.1;rw[b,Nat.zero_div] at this;omega
 rw[h.2.2 b,if_neg (by omega),J2J m d,List.reverse_append];simp[List.append_assoc]
theorem L0.few {N m:Nat}{b:List (List UInt8)}(h:L0 N m b)(f:0 < m):b.length < N:=by
 have d:1000000000 ^ b.length≤N:=by
  rcases Nat.lt_or_ge N (1000000000 ^ b.length) with c|c
  ·rw[h.1,Nat.div_eq_of_lt c] at f;omega
  ·exact c
 exact Nat.lt_of_lt_of_le (Nat.lt_pow_self (by decide)) d
theorem L0.stop {N:Nat}{b:List (List UInt8)}(h:L0 N 0 b):(b=[]∧N=0)∨(b≠[]∧decDigits N=b.reverse.flatten):=by
 by_cases c:N=0
 ·exact .inl ⟨h.2.1 c,c⟩
 ·have d:=h.2.2 (by omega);refine .inr ⟨fun f=>?_,by simpa using d⟩;subst f;have:=h.1;simp at this;omega
def OwnS (w:World)(base:Nat)(v:Value)(xs:List (List UInt8)):Prop:=w.ownsRow base 9 1 v xs.length (xs.map encStr)
theorem OwnS.nil (w:World)(base:Nat):OwnS w base (.slice none 0 0) []:=World.ownsRow_nil w base _ 1
theorem OwnS.grow {w w':World}{base:Nat}{v:Value}{l:List (List UInt8)}(h:OwnS w base v l)(g:Gr w w'):OwnS w' base v l:=by
 refine World.ownsRow.kept (row:=none) h ⟨g.os,g.tape,g.output,g.size,fun k b _=>Below.block g k b⟩ ?_
 cases v.ownBlock<;>simp
theorem OwnS.lt {w:World}{base:Nat}{v:Value}{l:List (List UInt8)}(h:OwnS w base v l):∀ k,v.ownBlock=some k→base≤k∧k < w.heap.size:=World.ownsRow.lt h
theorem NatL.kept {w w':World}{row:Option Nat}{v:Value}{l:List Nat}(h:NatL w v l)(d:∀ g,row=some g→Nt g v)(b:w.grownBy w' row):NatL w' v l:=by
 cases row with
 | none=>exact h.grow ⟨b.os,b.tape,b.output,b.size,fun k c=>b.block k c (by simp)⟩
 | some g=>exact h.keep (d g rfl) b
theorem J02 {g b o n c k:Nat}(h:k < g)(d:g≤b):Nt k (.slice (some ⟨b,o,none⟩) n c):=fun b' f n' c' e=>by
 injection e with e _ _;injection e with e;injection e with e;omega
theorem J1N:BB≤10 ^ 10:=by rw[Jd];decide
theorem L0.bound {N m L:Nat}{b:List (List UInt8)}(h:L0 N m b)(j:0 < m)(d:N < BB ^ L):b.length < 2 * L:=by
 have f:1000000000 ^ b.length≤N:=by
  rcases Nat.lt_or_ge N (1000000000 ^ b.length) with c|c
  ·rw[h.1,Nat.div_eq_of_lt c] at j;omega
  ·exact c
 have g:65536 ^ b.length≤1000000000 ^ b.length:=Nat.pow_le_pow_left (by decide) _;have i:BB ^ L=65536 ^ (2 * L):=by rw[Nat.pow_mul,Jd]
 rw[i] at d;exact(Nat.pow_lt_pow_iff_right (by decide:1 < 65536)).1 (Nat.lt_of_le_of_lt g (Nat.lt_of_le_of_lt f d))
theorem Q4 {N L:Nat}(b:N < BB ^ L):(decDigits N).length≤10 * L+1:=by
 refine S3 (10 * L) N (Nat.lt_of_lt_of_le b ?_);refine Nat.le_trans (Nat.pow_le_pow_left J1N L) ?_;rw[← Nat.pow_mul];exact Nat.pow_le_pow_right (by decide) (by omega)
theorem J3A:(Tryz.prog.info? 9).map (fun i=>(i.zero,i.size,i.bytes))=some (some (.string ⟨#[]⟩),1,16):=by kernel_rfl
section
variable {ops:Array Oper}{rest:List Oper}{o:Oper}{a:Act}{Q:Exit→Act→World→Prop}{w:World}
theorem J1I (k:o.guard=none)(s x:Operand)(q:o.op = .call { callee:=.builtin .append,args:=#[s,x],argTypes:=#[83,83] })
  (base:Nat) (v:Value) (l:List (List UInt8)) (m:List UInt8) (b c:Nat) (y:a.eval s=v) (r:OwnS w base v l) (z:a.eval x = .slice (some ⟨b,0,none⟩) 1 c) (p:w.cell? ⟨b,0,none⟩=some (encStr m))
  (D:l.length+1≤8796093022208) (g:base≤w.heap.size)
  (h:∀ f w',OwnS w' base f (l ++ [m])→w.grownBy w' v.ownBlock→wpList Tryz.prog ops Q rest (a.put o.dst f) w'):wpList Tryz.prog ops Q (o :: rest) a w:=by
 obtain⟨i0,n,A,B,C⟩:=info_parts J3A;refine wpList_append_own _ k s x 83 q base 9 i0 (.string ⟨#[]⟩) 1 16 Tryz.underlying83 n A B C rfl (by omega) v l.length (l.map encStr) y r ⟨b,0,none⟩ 1 c [encStr m] z
  (by simp) (fun j u d=>?_) (fun u d=>by
   obtain rfl:u=encStr m:=by simpa using d
   rfl) (by unfold maxLen;omega) (by omega) g (fun f w' t i _=>?_)
 ·obtain rfl:j=0:=by
   have:=(List.getElem?_eq_some_iff.1 d).1;simpa using this
  simp at d;subst d;rw[Q0];exact p
 ·refine h f w' ?_ i;unfold OwnS;rw[List.map_append,List.length_append];exact t
end
end Go.Proofs.YtcjgimlcefhhmaaGreatDoor
