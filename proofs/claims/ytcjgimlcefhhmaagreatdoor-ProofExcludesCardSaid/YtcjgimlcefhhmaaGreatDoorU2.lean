/- Texts: Math. -/
set_option linter.unusedVariables false
set_option linter.unusedSimpArgs false
set_option maxRecDepth 100000
set_option maxHeartbeats 12800000
namespace Go.Proofs.YtcjgimlcefhhmaaGreatDoor
def BB:Nat:=4294967296
theorem Jc:BB=4294967296:=rfl
theorem Jt:0 < BB:=by unfold BB;omega
def nval:List Nat→Nat
 | []=>0
 | d :: l=>d+BB * nval l
def digs (n:Nat):List Nat:=if h:n=0 then [] else n % BB :: digs (n / BB)
termination_by n
decreasing_by exact Nat.div_lt_self (by omega) (by unfold BB;omega)
def Dig (l:List Nat):Prop:=∀ x,x ∈ l→x < BB
def gd (l:List Nat)(i:Nat):Nat:=l.getD i 0
theorem Dig.nil:Dig []:=fun _ h=>by cases h
theorem Dig.cons {d:Nat}{l:List Nat}(hd:d < BB)(h:Dig l):Dig (d :: l):=fun x hx=>by
 rcases List.mem_cons.1 hx with rfl|hx
 ·exact hd
 ·exact h x hx
theorem Dig.head {d:Nat}{l:List Nat}(h:Dig (d :: l)):d < BB:=h d (by simp)
theorem Dig.tail {d:Nat}{l:List Nat}(h:Dig (d :: l)):Dig l:=fun x hx=>h x (by simp[hx])
theorem Dig.append {l m:List Nat}(h:Dig l)(k:Dig m):Dig (l ++ m):=fun x hx=>by
 rcases List.mem_append.1 hx with hx|hx
 ·exact h x hx
 ·exact k x hx
theorem Dig.take {l:List Nat}(h:Dig l)(n:Nat):Dig (l.take n):=fun x hx=>h x (List.mem_of_mem_take hx)
theorem Dig.drop {l:List Nat}(h:Dig l)(n:Nat):Dig (l.drop n):=fun x hx=>h x (List.mem_of_mem_drop hx)
theorem Dig.gd {l:List Nat}(h:Dig l)(i:Nat):gd l i < BB:=by
 unfold Proofs.YtcjgimlcefhhmaaGreatDoor.gd
 rw[List.getD_eq_getElem?_getD]
 rcases Nat.lt_or_ge i l.length with hi|hi
 ·rw[List.getElem?_eq_getElem hi];exact h _ (List.getElem_mem hi)
 ·rw[List.getElem?_eq_none hi];exact Jt
theorem Mz {l:List Nat}{k:Nat}(h:k < l.length):gd l k=l[k]:=by simp[gd,List.getD,List.getElem?_eq_getElem h]
theorem Pm {l:List Nat}{k:Nat}(h:l.length≤k):gd l k=0:=by simp[gd,List.getD,List.getElem?_eq_none h]
theorem J6f {la lb:List Nat}{k:Nat}(hka:k < la.length)(hkb:k < lb.length)(h:la.take k=lb.take k):
  la.take (k+1)=lb.take (k+1)↔gd la k=gd lb k:=by
 rw[List.take_succ_eq_append_getElem hka,List.take_succ_eq_append_getElem hkb,h,Mz hka,Mz hkb]
 exact⟨fun e=>by exact(List.cons.inj (List.append_cancel_left e)).1,fun e=>by rw[e]⟩
theorem Kk:digs 0=[]:=by rw[digs];simp
theorem On {n:Nat}(h:n≠0):digs n=n % BB :: digs (n / BB):=by rw[digs];simp[h]
theorem J7 {n:Nat}:digs n=[]↔n=0:=by
 constructor
 ·intro h
  by_cases hn:n=0
  ·exact hn
  ·rw[On hn] at h;cases h
 ·rintro rfl;exact Kk
theorem Je (n:Nat):nval (digs n)=n:=by
 induction n using Nat.strongRecOn with
 | _ n ih=>
  by_cases h:n=0
  ·subst h;simp[Kk,nval]
  ·rw[On h,nval,ih _ (Nat.div_lt_self (by omega) (by unfold BB;omega))]
   exact Nat.mod_add_div n BB
theorem V5 {m n:Nat}(h:digs m=digs n):m=n:=by
 rw[← Je m,← Je n,h]
theorem Dig.digs (n:Nat):Dig (digs n):=by
 induction n using Nat.strongRecOn with
 | _ n ih=>
  by_cases h:n=0
  ·subst h;rw[Kk];exact Dig.nil
  ·rw[On h];exact Dig.cons (Nat.mod_lt _ Jt) (ih _ (Nat.div_lt_self (by omega) (by unfold BB;omega)))
theorem Qj {d n:Nat}(hd:d < BB)(h:d≠0∨n≠0):Proofs.YtcjgimlcefhhmaaGreatDoor.digs (d+BB * n)=d :: Proofs.YtcjgimlcefhhmaaGreatDoor.digs n:=by
 have hB:=Jt
 have hne:d+BB * n≠0:=by
  rcases h with h|h
  ·omega
  ·have:=Nat.mul_pos hB (Nat.pos_of_ne_zero h);omega
 rw[On hne,Nat.add_mul_mod_self_left,Nat.mod_eq_of_lt hd,Nat.add_mul_div_left _ _ hB,Nat.div_eq_of_lt hd,Nat.zero_add]
def trimL (l:List Nat):List Nat:=digs (nval l)
theorem Lk (l:List Nat)(h:Dig l):(trimL l).length≤l.length:=by
 unfold trimL
 induction l with
 | nil=>simp[nval,Kk]
 | cons d l ih=>
  have hd:=h.head
  by_cases h0:d≠0∨nval l≠0
  ·rw[nval,Qj hd h0];simp;exact ih h.tail
  ·have:d=0:=by omega
   have h2:nval l=0:=by omega
   simp[nval,this,h2,Kk]
theorem Zl (l m:List Nat):nval (l ++ m)=nval l+BB ^ l.length * nval m:=by
 induction l with
 | nil=>simp[nval]
 | cons d l ih=>simp[nval,ih,Nat.pow_succ,Nat.mul_add,Nat.mul_assoc,Nat.mul_comm,Nat.mul_left_comm,Nat.add_assoc]
theorem Oq (l:List Nat)(d:Nat):nval (l ++ [d])=nval l+BB ^ l.length * d:=by
 rw[Zl];simp[nval]
theorem Lh (l:List Nat)(h:Dig l):nval l < BB ^ l.length:=by
 induction l with
 | nil=>simp[nval]
 | cons d l ih=>
  have h1:=h.head
  have h2:=ih h.tail
  simp only[nval,List.length_cons,Nat.pow_succ]
  have h3:BB * (nval l+1)≤BB * BB ^ l.length:=Nat.mul_le_mul_left _ h2
  rw[Nat.mul_add] at h3
  rw[Nat.mul_comm (BB ^ l.length)]
  omega
theorem Ps (n:Nat):nval (List.replicate n 0)=0:=by
 induction n with
 | zero=>rfl
 | succ n ih=>simp[List.replicate_succ,nval,ih]
theorem J0P (l:List Nat)(d:Nat)(h:Dig l)(hd:d < BB)(h0:d≠0):trimL (l ++ [d])=l ++ [d]:=by
 unfold trimL
 induction l with
 | nil=>simp only[List.nil_append,nval,Nat.mul_zero,Nat.add_zero];rw[show d=d+BB * 0 from by omega,Qj hd (.inl h0),Kk];rfl
 | cons x l ih=>
  have hx:=h.head
  have hne:nval (l ++ [d])≠0:=by
   rw[Oq]
   have:=Nat.mul_pos (Nat.pow_pos (n:=l.length) Jt) (Nat.pos_of_ne_zero h0)
   omega
  rw[List.cons_append,nval,Qj hx (.inr hne),ih h.tail]
theorem J0Q (l:List Nat):trimL (l ++ [0])=trimL l:=by
 unfold trimL;rw[Oq];simp
theorem Kf {n k:Nat}(h:n < BB ^ k):(digs n).length≤k:=by
 induction k generalizing n with
 | zero=>simp at h;subst h;simp[Kk]
 | succ k ih=>
  by_cases h0:n=0
  ·subst h0;simp[Kk]
  ·rw[On h0,List.length_cons]
   have:n / BB < BB ^ k:=by
    rw[Nat.div_lt_iff_lt_mul Jt];rw[Nat.pow_succ] at h;exact h
   have:=ih this
   omega
theorem Kl {n k:Nat}(h:(digs n).length≤k):n < BB ^ k:=by
 have h1:=Lh (digs n) (Dig.digs n)
 rw[Je] at h1
 exact Nat.lt_of_lt_of_le h1 (Nat.pow_le_pow_right Jt h)
theorem J4k (l:List Nat)(k:Nat)(h:k < l.length):nval (l.take (k+1))=nval (l.take k)+BB ^ k * gd l k:=by
 rw[List.take_succ_eq_append_getElem h,Oq,List.length_take,Nat.min_eq_left (by omega)]
 simp[gd,List.getD,List.getElem?_eq_getElem h]
theorem K8 (l:List Nat)(k:Nat):nval (l.take (k+1))=nval (l.take k)+BB ^ k * gd l k:=by
 rcases Nat.lt_or_ge k l.length with h|h
 ·exact J4k l k h
 ·rw[List.take_of_length_le (by omega),List.take_of_length_le (by omega)]
  simp[gd,List.getD,List.getElem?_eq_none h]
theorem Zo (l:List Nat)(k:Nat):nval l=nval (l.take k)+BB ^ (min k l.length) * nval (l.drop k):=by
 have:=Zl (l.take k) (l.drop k)
 rw[List.take_append_drop,List.length_take] at this
 exact this
def cmpZ (a b:Int):Int:=if a < b then -1 else if a=b then 0 else 1
theorem J2m {n:Nat}(h:digs n≠[]):(digs n).getLast h≠0:=by
 induction n using Nat.strongRecOn with
 | _ n ih=>
  have hn:n≠0:=fun e=>h (by rw[e];exact Kk)
  have hd:digs n=n % BB :: digs (n / BB):=On hn
  by_cases h2:digs (n / BB)=[]
  ·have h3:n / BB=0:=J7.1 h2
   simp only[hd,h2,List.getLast_singleton]
   intro h4
   have:=Nat.mod_add_div n BB
   rw[h3,h4] at this
   simp at this;omega
  ·simp only[hd]
   rw[List.getLast_cons h2]
   exact ih _ (Nat.div_lt_self (by omega) (by unfold BB;omega)) h2
theorem J0O (l:List Nat)(h:Dig l):trimL l=l↔(l=[]∨gd l (l.length - 1)≠0):=by
 rcases List.eq_nil_or_concat l with rfl|⟨m,d,rfl⟩
 ·simp[trimL,nval,Kk]
 ·have hm:Dig m:=fun x hx=>h x (by simp[hx])
  have hd:d < BB:=h d (by simp)
  have e1:gd (m ++ [d]) ((m ++ [d]).length - 1)=d:=by simp[gd,List.getD]
  rw[List.concat_eq_append,e1]
  by_cases h0:d=0
  ·subst h0
   rw[J0Q]
   have:=Lk m hm
   constructor
   ·intro e
    have:=congrArg List.length e
    simp at this;omega
   ·simp
  ·rw[J0P m d hm hd h0];simp[h0]
theorem K4 (l:List Nat)(k:Nat):nval (l.drop k)=gd l k+BB * nval (l.drop (k+1)):=by
 rcases Nat.lt_or_ge k l.length with h|h
 ·rw[List.drop_eq_getElem_cons h,nval,Mz h]
 ·rw[List.drop_eq_nil_of_le h,List.drop_eq_nil_of_le (by omega),Pm h];simp[nval]
theorem M0 (l:List Nat)(k:Nat):nval l=nval (l.take k)+BB ^ k * nval (l.drop k):=by
 rcases Nat.lt_or_ge k l.length with h|h
 ·have:=Zo l k
  rwa [Nat.min_eq_left (by omega)] at this
 ·rw[List.drop_eq_nil_of_le h,List.take_of_length_le h];simp[nval]
theorem Oa {l:List Nat}(h:Dig l)(k:Nat):nval (l.take k) < BB ^ k:=by
 refine Nat.lt_of_lt_of_le (Lh _ (h.take k)) (Nat.pow_le_pow_right Jt ?_)
 rw[List.length_take];omega
theorem J4i {la lb:List Nat}(ha:Dig la){k:Nat}(h:nval (la.drop k) < nval (lb.drop k)):nval la < nval lb:=by
 rw[M0 la k,M0 lb k]
 have h1:=Oa ha k
 have h2:BB ^ k * (nval (la.drop k)+1)≤BB ^ k * nval (lb.drop k):=Nat.mul_le_mul_left _ h
 rw[Nat.mul_add] at h2
 omega
theorem Qx {la lb:List Nat}(ha:Dig la)(hb:Dig lb){k:Nat}(h:nval (la.drop (k+1))=nval (lb.drop (k+1)))(hd:gd la k < gd lb k):nval la < nval lb:=by
 refine J4i ha (k:=k) ?_
 rw[K4 la k,K4 lb k,h];omega
theorem Zm {la lb:List Nat}{k:Nat}(h:nval (la.drop (k+1))=nval (lb.drop (k+1)))(hd:gd la k=gd lb k):nval (la.drop k)=nval (lb.drop k):=by
 rw[K4 la k,K4 lb k,h,hd]
theorem Tb {a b:Nat}(h:(digs a).length < (digs b).length):a < b:=by
 have h1:a < BB ^ (digs a).length:=Kl (Nat.le_refl _)
 have h2:¬ b < BB ^ (digs a).length:=fun h3=>by have:=Kf h3;omega
 omega
theorem Ok {a b:Nat}(h:a < b):cmpZ a b = -1:=by unfold cmpZ;rw[if_pos (by omega)]
theorem R4 {a b:Nat}(h:b < a):cmpZ a b=1:=by unfold cmpZ;rw[if_neg (by omega),if_neg (by omega)]
theorem Vr {a b:Nat}(h:a=b):cmpZ a b=0:=by unfold cmpZ;rw[if_neg (by omega),if_pos (by omega)]
theorem Nb (a b:Int):cmpZ a b < 0↔a < b:=by unfold cmpZ;split<;>(try split)<;>omega
theorem Dig.set {l:List Nat}(h:Dig l)(i x:Nat)(hx:x < BB):Dig (l.set i x):=fun y hy=>by
 rcases List.mem_or_eq_of_mem_set hy with hy|rfl
 ·exact h y hy
 ·exact hx
theorem Xw {l:List Nat}{i x:Nat}(h:i < l.length):gd (l.set i x) i=x:=by simp[gd,List.getD,h]
theorem Lq {l:List Nat}{i j x:Nat}(h:i≠j):gd (l.set i x) j=gd l j:=by simp[gd,List.getD,List.getElem?_set_ne h]
theorem N9 {l:List Nat}{i:Nat}(x:Nat)(h:i < l.length):nval (l.set i x)+BB ^ i * gd l i=nval l+BB ^ i * x:=by
 induction l generalizing i with
 | nil=>simp at h
 | cons d l ih=>
  cases i with
  | zero=>simp[nval,gd];omega
  | succ i=>
   have:=ih (i:=i) (by simpa using h)
   have e:gd (d :: l) (i+1)=gd l i:=by simp[gd]
   rw[e]
   simp only[List.set_cons_succ,nval,Nat.pow_succ]
   have h2:=congrArg (fun z=>BB * z) this
   simp only[Nat.mul_add] at h2
   have c1:BB ^ i * BB * gd l i=BB * (BB ^ i * gd l i):=by rw[Nat.mul_comm (BB ^ i) BB,Nat.mul_assoc]
   have c2:BB ^ i * BB * x=BB * (BB ^ i * x):=by rw[Nat.mul_comm (BB ^ i) BB,Nat.mul_assoc]
   rw[c1,c2];omega
theorem Td {l:List Nat}{i k c s x y V W:Nat}(hi:i+k < l.length)(h:nval l+BB ^ (i+k) * c=V+BB ^ i * (x * W))
  (hs:s=c+x * y+gd l (i+k)):nval (l.set (i+k) (s % BB))+BB ^ (i+k+1) * (s / BB)=V+BB ^ i * (x * (W+BB ^ k * y)):=by
 have h1:=N9 (l:=l) (s % BB) hi
 have e:=Nat.mod_add_div s BB
 have e3:=congrArg (fun z=>BB ^ (i+k) * z) e
 rw[hs] at e3
 simp only[Nat.mul_add] at e3
 rw[← hs] at e3
 have c1:BB ^ (i+k+1) * (s / BB)=BB ^ (i+k) * (BB * (s / BB)):=by rw[Nat.pow_succ,Nat.mul_assoc]
 have c2:BB ^ i * (x * (W+BB ^ k * y))=BB ^ i * (x * W)+BB ^ (i+k) * (x * y):=by
  rw[Nat.mul_add,Nat.mul_add,Nat.pow_add,Nat.mul_assoc (BB ^ i) (BB ^ k),Nat.mul_left_comm x (BB ^ k) y]
 rw[c1,c2]
 omega
theorem Y5 {l:List Nat}{i n c V x W:Nat}(hi:i+n < l.length)(h0:gd l (i+n)=0)(h:nval l+BB ^ (i+n) * c=V+BB ^ i * (x * W)):
  nval (l.set (i+n) c)=V+BB ^ i * (x * W):=by
 have h1:=N9 (l:=l) c hi
 rw[h0] at h1
 omega
theorem Qu {x y:Nat}(hx:x < BB)(hy:y < BB):x * y≤18446744065119617025:=by
 have h1:x≤4294967295:=by rw[Jc] at hx;omega
 have h2:y≤4294967295:=by rw[Jc] at hy;omega
 exact Nat.mul_le_mul h1 h2
def qhat (x y z f s:Nat):Nat:=min (BB - 1) (((x * BB+y) * BB+z) / (f * BB+s))
theorem J02 {x y z f s q:Nat}(hf:0 < f)(h1:q≤BB - 1)(h2:q * (f * BB+s)≤(x * BB+y) * BB+z):q≤qhat x y z f s:=by
 unfold qhat
 have hD:0 < f * BB+s:=by have:=Nat.mul_pos hf Jt;omega
 have:=(Nat.le_div_iff_mul_le hD).2 h2
 omega
theorem J5g {x y z f s q:Nat}(hf:0 < f)(h2:(x * BB+y) * BB+z < q * (f * BB+s)):qhat x y z f s < q:=by
 unfold qhat
 have hD:0 < f * BB+s:=by have:=Nat.mul_pos hf Jt;omega
 have:=(Nat.div_lt_iff_lt_mul hD).2 h2
 omega
theorem J5i {x y z f s q:Nat}(h:BB≤q):qhat x y z f s < q:=by
 unfold qhat;have:=Jt;omega
theorem J5h (x y z f s:Nat):qhat x y z f s < BB:=by unfold qhat;have:=Jt;omega
theorem Ql (q f s:Nat):q * (f * BB+s)=q * f * BB+q * s:=by rw[Nat.mul_add,Nat.mul_assoc]
theorem J2K {x y z f s:Nat}(hy:y < BB)(hz:z < BB)(hf:2147483648≤f)(hx:x≤f):
  qhat x y z f s≤(x * BB+y) / f∧(x * BB+y) / f≤BB+1:=by
 have hf0:0 < f:=by omega
 constructor
 ·rw[Nat.le_div_iff_mul_le hf0]
  have hD:0 < f * BB+s:=by have:=Nat.mul_pos hf0 Jt;omega
  have h1:qhat x y z f s≤((x * BB+y) * BB+z) / (f * BB+s):=by unfold qhat;omega
  have h2:=(Nat.le_div_iff_mul_le hD).1 h1
  rw[Ql] at h2
  generalize qhat x y z f s * f=P at *
  generalize qhat x y z f s * s=R at *
  generalize x * BB+y=N at *
  rw[Jc] at *
  omega
 ·have h3:(x * BB+y) / f < BB+2:=by
   rw[Nat.div_lt_iff_lt_mul hf0,Nat.add_mul]
   have:x * BB≤f * BB:=Nat.mul_le_mul_right _ hx
   rw[Nat.mul_comm BB f]
   generalize f * BB=P at *
   generalize x * BB=R at *
   rw[Jc] at *
   omega
  omega
theorem J2L {x y z f s q r:Nat}(hf:0 < f)(h:x * BB+y=q * f+r)(ht:r * BB+z < q * s):qhat x y z f s < q:=by
 refine J5g hf ?_
 rw[Ql,h,Nat.add_mul]
 omega
theorem J2J {x y z f s q r:Nat}(hf:0 < f)(h:x * BB+y=q * f+r)(hq:q < BB)(ht:q * s≤r * BB+z)(hg:qhat x y z f s≤q):q=qhat x y z f s:=by
 refine Nat.le_antisymm (J02 hf (by omega) ?_) hg
 rw[Ql,h,Nat.add_mul]
 omega
theorem J2M {x y f q r:Nat}(hy:y < BB)(hx:x≤f)(h:x * BB+y=q * f+r)(hq:q=BB+1):r+f < BB:=by
 subst hq
 rw[Nat.add_mul,Nat.one_mul,Nat.mul_comm BB f] at h
 have:x * BB≤f * BB:=Nat.mul_le_mul_right _ hx
 omega
theorem J2I {x y z f s q r:Nat}(hf:0 < f)(hy:y < BB)(hs:s < BB)(hx:x≤f)(h:x * BB+y=(q+1) * f+r)(hq:q+1≤BB+1)(hr:BB≤r+f)(hg:qhat x y z f s≤q):q=qhat x y z f s:=by
 have hq2:q < BB:=by
  rcases Nat.lt_or_ge q BB with h'|h'
  ·exact h'
  ·have:=J2M (q:=q+1) hy hx h (by omega);omega
 refine Nat.le_antisymm (J02 hf (by omega) ?_) hg
 have e:x * BB+y=q * f+(r+f):=by rw[h,Nat.add_mul];omega
 rw[Ql,e,Nat.add_mul]
 have h1:q * s≤BB * BB:=Nat.mul_le_mul (Nat.le_of_lt hq2) (Nat.le_of_lt hs)
 have h2:BB * BB≤(r+f) * BB:=Nat.mul_le_mul_right _ hr
 omega
theorem J5j {I P N Nl V Vl x y z f s:Nat}(hN:N=Nl+I * P * ((x * BB+y) * BB+z))(hNl:Nl < I * P)(hV:V=Vl+P * (f * BB+s))(hVl:Vl < P)(hf:0 < f)(hlt:N < I * (BB * V)):
  I * ((qhat x y z f s - 1) * V)≤N∧N < I * ((qhat x y z f s+1) * V):=by
 obtain⟨D,hD⟩:∃ D,f * BB+s=D:=⟨_,rfl⟩
 obtain⟨M,hM⟩:∃ M,(x * BB+y) * BB+z=M:=⟨_,rfl⟩
 have hDB:BB≤D:=by rw[← hD];have:=Nat.mul_le_mul_right BB hf;omega
 have hD0:0 < D:=Nat.lt_of_lt_of_le Jt hDB
 obtain⟨G,hG⟩:∃ G,qhat x y z f s=G:=⟨_,rfl⟩
 have hG1:G=min (BB - 1) (M / D):=by rw[← hG,qhat,hD,hM]
 rw[hG]
 rw[hD] at hV
 rw[hM] at hN
 have hGD:G * D≤M:=by rw[← Nat.le_div_iff_mul_le hD0];omega
 have hGB:G < BB:=by have:=Jt;omega
 constructor
 ·have h1:(G - 1) * V≤P * M:=by
   have h2:V≤P * (D+1):=by rw[hV,Nat.mul_add];omega
   have h3:(G - 1) * (D+1)≤M:=by
    rcases Nat.eq_zero_or_pos G with h0|h0
    ·subst h0;simp
    ·obtain⟨g,rfl⟩:∃ g,G=g+1:=⟨G - 1,by omega⟩
     rw[Nat.add_sub_cancel,Nat.mul_add,Nat.mul_one]
     rw[Nat.add_mul,Nat.one_mul] at hGD
     omega
   calc (G - 1) * V≤(G - 1) * (P * (D+1)):=Nat.mul_le_mul_left _ h2
    _=P * ((G - 1) * (D+1)):=Nat.mul_left_comm _ _ _
    _≤P * M:=Nat.mul_le_mul_left _ h3
  have:=Nat.mul_le_mul_left I h1
  rw[hN,Nat.mul_assoc]
  omega
 ·by_cases hc:G=BB - 1
  ·have:G+1=BB:=by have:=Jt;omega
   rw[this];exact hlt
  ·have hG2:G=M / D:=by omega
   have h4:M+1≤(G+1) * D:=by
    have:=Nat.lt_mul_div_succ M hD0
    rw[hG2,Nat.mul_comm];exact this
   have h5:P * (M+1)≤(G+1) * V:=by
    calc P * (M+1)≤P * ((G+1) * D):=Nat.mul_le_mul_left _ h4
     _=(G+1) * (P * D):=Nat.mul_left_comm _ _ _
     _≤(G+1) * V:=Nat.mul_le_mul_left _ (by omega)
   have h6:=Nat.mul_le_mul_left I h5
   rw[Nat.mul_add,Nat.mul_add,Nat.mul_one] at h6
   rw[hN,Nat.mul_assoc]
   omega
theorem Xx {l:List Nat}(h:Dig l){k j:Nat}(hl:nval l < BB ^ k)(hj:k≤j):gd l j=0:=by
 refine Nat.eq_zero_of_not_pos fun hp=>?_
 have h1:=M0 l j
 have h2:=K4 l j
 have h3:BB ^ j * 1≤BB ^ j * nval (l.drop j):=Nat.mul_le_mul_left _ (by omega)
 have h4:BB ^ k≤BB ^ j:=Nat.pow_le_pow_right Jt hj
 generalize BB ^ j=X at *
 generalize BB ^ k=Y at *
 omega
theorem Zn {l:List Nat}(h:Dig l){k:Nat}(hz:∀ j,k≤j→gd l j=0):nval l < BB ^ k:=by
 have h1:=M0 l k
 have h2:nval (l.drop k)=0:=by
  have key:∀ m n,l.length - n≤m→k≤n→nval (l.drop n)=0:=by
   intro m
   induction m with
   | zero=>intro n hm _;rw[List.drop_eq_nil_of_le (by omega)];rfl
   | succ m ih=>
    intro n hm hk
    rw[K4,hz n hk]
    rcases Nat.lt_or_ge n l.length with hn|hn
    ·rw[ih (n+1) (by omega) (by omega)];simp
    ·rw[List.drop_eq_nil_of_le (by omega)];simp[nval]
  exact key _ k (Nat.le_refl _) (Nat.le_refl _)
 have h3:=Oa h k
 rw[h1,h2];simpa using h3
theorem J0e {m:List Nat}{at' i q d c br N V W Z C d':Nat}(hi:at'+i < m.length)(h:nval m+BB ^ at' * (q * W)=N+BB ^ (at'+i) * (c+br))
  (hp:q * d+c=Z+BB * C) (hd:d'+Z+br=gd m (at'+i)+BB * V):
  nval (m.set (at'+i) d')+BB ^ at' * (q * (W+BB ^ i * d))=N+BB ^ (at'+i+1) * (C+V):=by
 have h1:=N9 (l:=m) d' hi
 have e1:BB ^ at' * (q * (W+BB ^ i * d))=BB ^ at' * (q * W)+BB ^ (at'+i) * (q * d):=by
  rw[Nat.mul_add,Nat.mul_add,Nat.pow_add,Nat.mul_assoc (BB ^ at') (BB ^ i),Nat.mul_left_comm q (BB ^ i) d]
 have e2:BB ^ (at'+i+1) * (C+V)=BB ^ (at'+i) * (BB * C+BB * V):=by rw[Nat.pow_succ,Nat.mul_assoc,Nat.mul_add]
 rw[e1,e2]
 have e3:=congrArg (fun z=>BB ^ (at'+i) * z) hp
 have e4:=congrArg (fun z=>BB ^ (at'+i) * z) hd
 simp only[Nat.mul_add] at e3 e4 h ⊢
 generalize BB ^ (at'+i)=X at *
 omega
theorem J1C {m:List Nat}{at' i d c N W s:Nat}(hi:at'+i < m.length)(h:nval m+BB ^ (at'+i) * c=N+BB ^ at' * W)
  (hs:s=gd m (at'+i)+d+c):
  nval (m.set (at'+i) (s % BB))+BB ^ (at'+i+1) * (s / BB)=N+BB ^ at' * (W+BB ^ i * d):=by
 have h1:=N9 (l:=m) (s % BB) hi
 have e:=Nat.mod_add_div s BB
 have e1:BB ^ at' * (W+BB ^ i * d)=BB ^ at' * W+BB ^ (at'+i) * d:=by rw[Nat.mul_add,Nat.pow_add,Nat.mul_assoc]
 have e2:BB ^ (at'+i+1) * (s / BB)=BB ^ (at'+i) * (BB * (s / BB)):=by rw[Nat.pow_succ,Nat.mul_assoc]
 rw[e1,e2]
 have e3:=congrArg (fun z=>BB ^ (at'+i) * z) e
 rw[hs] at e3
 simp only[Nat.mul_add] at e3
 rw[← hs] at e3
 generalize BB ^ (at'+i)=X at *
 omega
theorem J63 {T T':Nat}(hT:T * T'=BB)(l m:List Nat)(hl:Dig l):∀ (n k:Nat),(∀ t,k≤t→t < k+n→gd m t=(gd l (t+1) * BB+gd l t) / T % BB)→nval (l.drop (k+n))=0→nval ((m.drop k).take n)=nval (l.drop k) / T:=by
 have hT0:0 < T:=by
  rcases Nat.eq_zero_or_pos T with h|h
  ·subst h;rw[Nat.zero_mul] at hT;have:=Jt;omega
  ·exact h
 intro n
 induction n with
 | zero=>intro k _ h;simp only[Nat.add_zero] at h;rw[h];simp[nval]
 | succ n ih=>
  intro k hd hz
  have ih':=ih (k+1) (fun t h1 h2=>hd t (by omega) (by omega)) (by rw[show k+1+n=k+(n+1) from by omega];exact hz)
  have e1:nval ((m.drop k).take (n+1))=gd m k+BB * nval ((m.drop (k+1)).take n):=by
   rcases Nat.lt_or_ge k m.length with h|h
   ·rw[List.drop_eq_getElem_cons h,List.take_succ_cons,nval,Mz h]
   ·rw[List.drop_eq_nil_of_le h,List.drop_eq_nil_of_le (by omega),Pm h];simp[nval]
  rw[e1,ih',hd k (Nat.le_refl _) (by omega),K4 l k,K4 l (k+1)]
  have hx:gd l k < BB:=hl.gd k
  obtain⟨x,hx'⟩:∃ x,gd l k=x:=⟨_,rfl⟩
  obtain⟨y,hy'⟩:∃ y,gd l (k+1)=y:=⟨_,rfl⟩
  obtain⟨R,hR⟩:∃ R,nval (l.drop (k+1+1))=R:=⟨_,rfl⟩
  rw[hx'] at hx
  simp only[hx',hy',hR]
  -- y+BB R=y+T (T' R)
  have a1:(y+BB * R) / T=y / T+T' * R:=by
   rw[← hT,Nat.mul_assoc,Nat.add_mul_div_left _ _ hT0]
  have a2:(x+BB * (y+BB * R)) / T=(y * BB+x) / T+BB * (T' * R):=by
   have:x+BB * (y+BB * R)=(y * BB+x)+T * (BB * (T' * R)):=by
    have e:BB * (BB * R)=T * (BB * (T' * R)):=by
     rw[Nat.mul_left_comm T BB,← Nat.mul_assoc T T' R,hT]
    rw[Nat.mul_add,e,Nat.mul_comm BB y];omega
   rw[this,Nat.add_mul_div_left _ _ hT0]
  have a3:(y * BB+x) / T / BB=y / T:=by
   rw[Nat.div_div_eq_div_mul,Nat.mul_comm T BB,← Nat.div_div_eq_div_mul,Nat.mul_comm y BB,Nat.mul_add_div Jt,Nat.div_eq_of_lt hx,Nat.add_zero]
  rw[a1,a2,Nat.mul_add]
  have a4:=Nat.mod_add_div ((y * BB+x) / T) BB
  rw[a3] at a4
  omega
theorem J52 {s:Nat}(hs:s≤32):2 ^ s * 2 ^ (32 - s)=BB:=by
 rw[← Nat.pow_add,show s+(32 - s)=32 from by omega,Jc]
theorem J2r {A V Q R:Nat}(h:R+V * Q=A)(hR:R < V):A / V=Q∧A % V=R:=by
 have hV:0 < V:=Nat.lt_of_le_of_lt (Nat.zero_le _) hR
 constructor
 ·rw[← h,Nat.add_mul_div_left _ _ hV,Nat.div_eq_of_lt hR,Nat.zero_add]
 ·rw[← h,Nat.add_mul_mod_self_left,Nat.mod_eq_of_lt hR]
theorem V7 {n k:Nat}(h1:BB ^ k≤n)(h2:n < BB ^ (k+1)):(digs n).length=k+1:=by
 have a:=Kf h2
 have b:¬ (digs n).length≤k:=fun h=>by have:=Kl h;omega
 omega
theorem Pt (l:List Nat)(k:Nat)(h:l.length=k+1):nval l=nval (l.take k)+BB ^ k * gd l k:=by
 have:=K8 l k
 rw[List.take_of_length_le (by omega)] at this
 exact this
theorem J4l (l:List Nat)(k:Nat)(h:l.length=k+2):nval l=nval (l.take k)+BB ^ k * (gd l (k+1) * BB+gd l k):=by
 rw[Pt l (k+1) h,K8,Nat.pow_succ,Nat.mul_add,Nat.mul_assoc,Nat.mul_comm (gd l (k+1)) BB]
 omega
theorem J4m {l:List Nat}(hd:Dig l)(k:Nat)(h:nval l < BB ^ (k+3)):nval l=nval (l.take k)+BB ^ k * ((gd l (k+2) * BB+gd l (k+1)) * BB+gd l k):=by
 have hz:nval (l.drop (k+3))=0:=by
  refine Nat.eq_zero_of_not_pos fun hp=>?_
  have h1:=M0 l (k+3)
  have h2:=Nat.mul_le_mul_left (BB ^ (k+3)) hp
  generalize BB ^ (k+3)=X at *
  omega
 have e:=M0 l k
 rw[K4 l k,K4 l (k+1),K4 l (k+1+1),hz] at e
 rw[e]
 congr 2
 rw[show k+1+1=k+2 from rfl]
 simp only[Nat.mul_zero,Nat.add_zero]
 generalize gd l (k+2)=a
 generalize gd l (k+1)=b
 rw[Nat.mul_comm BB (b+_),Nat.mul_comm BB a,Nat.add_comm b,Nat.add_comm (gd l k)]
end Go.Proofs.YtcjgimlcefhhmaaGreatDoor
