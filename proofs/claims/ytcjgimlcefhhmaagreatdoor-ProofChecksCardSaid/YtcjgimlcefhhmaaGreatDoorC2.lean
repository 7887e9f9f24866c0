/- Texts: Math. -/
set_option linter.unusedVariables false
set_option linter.unusedSimpArgs false
set_option maxRecDepth 100000
set_option maxHeartbeats 12800000
namespace Go.Proofs.YtcjgimlcefhhmaaGreatDoor
def BB:Nat:=4294967296
theorem Jd:BB=4294967296:=rfl
theorem Jt:0 < BB:=by unfold BB;omega
def nval:List Nat→Nat
 | []=>0
 | d :: l=>d+BB * nval l
def digs (n:Nat):List Nat:=if h:n=0 then [] else n % BB :: digs (n / BB)
termination_by n
decreasing_by exact Nat.div_lt_self (by omega) (by unfold BB;omega)
def Dig (l:List Nat):Prop:=∀ x,x ∈ l→x < BB
def gd (l:List Nat)(i:Nat):Nat:=l.getD i 0
theorem Dig.nil:Dig []:=fun _ h=>by cases h
theorem Dig.cons {d:Nat}{l:List Nat}(b:d < BB)(h:Dig l):Dig (d :: l):=fun x a=>by
 rcases List.mem_cons.1 a with rfl|a
 ·exact b
 ·exact h x a
theorem Dig.head {d:Nat}{l:List Nat}(h:Dig (d :: l)):d < BB:=h d (by simp)
theorem Dig.tail {d:Nat}{l:List Nat}(h:Dig (d :: l)):Dig l:=fun x a=>h x (by simp[a])
theorem Dig.append {l m:List Nat}(h:Dig l)(k:Dig m):Dig (l ++ m):=fun x a=>by
 rcases List.mem_append.1 a with a|a
 ·exact h x a
 ·exact k x a
theorem Dig.take {l:List Nat}(h:Dig l)(n:Nat):Dig (l.take n):=fun x a=>h x (List.mem_of_mem_take a)
theorem Dig.drop {l:List Nat}(h:Dig l)(n:Nat):Dig (l.drop n):=fun x a=>h x (List.mem_of_mem_drop a)
theorem Dig.gd {l:List Nat}(h:Dig l)(i:Nat):gd l i < BB:=by
 unfold Proofs.YtcjgimlcefhhmaaGreatDoor.gd;rw[List.getD_eq_getElem?_getD];rcases Nat.lt_or_ge i l.length with a|a
 ·rw[List.getElem?_eq_getElem a];exact h _ (List.getElem_mem a)
 ·rw[List.getElem?_eq_none a];exact Jt
theorem Nk {l:List Nat}{k:Nat}(h:k < l.length):gd l k=l[k]:=by simp[gd,List.getD,List.getElem?_eq_getElem h]
theorem Qc {l:List Nat}{k:Nat}(h:l.length≤k):gd l k=0:=by simp[gd,List.getD,List.getElem?_eq_none h]
theorem J6o {a lb:List Nat}{k:Nat}(b:k < a.length)(c:k < lb.length)(h:a.take k=lb.take k):
  a.take (k+1)=lb.take (k+1)↔gd a k=gd lb k:=by
 rw[List.take_succ_eq_append_getElem b,List.take_succ_eq_append_getElem c,h,Nk b,Nk c];exact⟨fun e=>by exact(List.cons.inj (List.append_cancel_left e)).1,fun e=>by rw[e]⟩
theorem Kr:digs 0=[]:=by rw[digs];simp
theorem Pg {n:Nat}(h:n≠0):digs n=n % BB :: digs (n / BB):=by rw[digs];simp[h]
theorem Ka {n:Nat}:digs n=[]↔n=0:=by
 constructor
 ·intro h;by_cases a:n=0
  ·exact a
  ·rw[Pg a] at h;cases h
 ·rintro rfl;exact Kr
theorem Jf (n:Nat):nval (digs n)=n:=by
 induction n using Nat.strongRecOn with
 | _ n ih=>
  by_cases h:n=0
  ·subst h;simp[Kr,nval]
  ·rw[Pg h,nval,ih _ (Nat.div_lt_self (by omega) (by unfold BB;omega))];exact Nat.mod_add_div n BB
theorem Xo {m n:Nat}(h:digs m=digs n):m=n:=by
 rw[← Jf m,← Jf n,h]
theorem Dig.digs (n:Nat):Dig (digs n):=by
 induction n using Nat.strongRecOn with
 | _ n ih=>
  by_cases h:n=0
  ·subst h;rw[Kr];exact Dig.nil
  ·rw[Pg h];exact Dig.cons (Nat.mod_lt _ Jt) (ih _ (Nat.div_lt_self (by omega) (by unfold BB;omega)))
theorem Q6 {d n:Nat}(b:d < BB)(h:d≠0∨n≠0):Proofs.YtcjgimlcefhhmaaGreatDoor.digs (d+BB * n)=d :: Proofs.YtcjgimlcefhhmaaGreatDoor.digs n:=by
 have a:=Jt;have c:d+BB * n≠0:=by
  rcases h with h|h
  ·omega
  ·have:=Nat.mul_pos a (Nat.pos_of_ne_zero h);omega
 rw[Pg c,Nat.add_mul_mod_self_left,Nat.mod_eq_of_lt b,Nat.add_mul_div_left _ _ a,Nat.div_eq_of_lt b,Nat.zero_add]
def trimL (l:List Nat):List Nat:=digs (nval l)
theorem L5 (l:List Nat)(h:Dig l):(trimL l).length≤l.length:=by
 unfold trimL
 induction l with
 | nil=>simp[nval,Kr]
 | cons d l ih=>
  have c:=h.head;by_cases a:d≠0∨nval l≠0
  ·rw[nval,Q6 c a];simp;exact ih h.tail
  ·have:d=0:=by omega
   have b:nval l=0:=by omega
   simp[nval,this,b,Kr]
theorem J04 (l m:List Nat):nval (l ++ m)=nval l+BB ^ l.length * nval m:=by
 induction l with
 | nil=>simp[nval]
 | cons d l ih=>simp[nval,ih,Nat.pow_succ,Nat.mul_add,Nat.mul_assoc,Nat.mul_comm,Nat.mul_left_comm,Nat.add_assoc]
theorem Pj (l:List Nat)(d:Nat):nval (l ++ [d])=nval l+BB ^ l.length * d:=by
 rw[J04];simp[nval]
theorem Ln (l:List Nat)(h:Dig l):nval l < BB ^ l.length:=by
 induction l with
 | nil=>simp[nval]
 | cons d l ih=>
  have c:=h.head;have a:=ih h.tail;simp only[nval,List.length_cons,Nat.pow_succ];have b:BB * (nval l+1)≤BB * BB ^ l.length:=Nat.mul_le_mul_left _ a;rw[Nat.mul_add] at b;rw[Nat.mul_comm (BB ^ l.length)];omega
theorem Qi (n:Nat):nval (List.replicate n 0)=0:=by
 induction n with
 | zero=>rfl
 | succ n ih=>simp[List.replicate_succ,nval,ih]
theorem J1n (l:List Nat)(d:Nat)(h:Dig l)(b:d < BB)(a:d≠0):trimL (l ++ [d])=l ++ [d]:=by
 unfold trimL
 induction l with
 | nil=>simp only[List.nil_append,nval,Nat.mul_zero,Nat.add_zero];rw[show d=d+BB * 0 from by omega,Q6 b (.inl a),Kr];rfl
 | cons x l ih=>
  have f:=h.head;have c:nval (l ++ [d])≠0:=by
   rw[Pj];have:=Nat.mul_pos (Nat.pow_pos (n:=l.length) Jt) (Nat.pos_of_ne_zero a);omega
  rw[List.cons_append,nval,Q6 f (.inr c),ih h.tail]
theorem J1o (l:List Nat):trimL (l ++ [0])=trimL l:=by
 unfold trimL;rw[Pj];simp
theorem Kj {n k:Nat}(h:n < BB ^ k):(digs n).length≤k:=by
 induction k generalizing n with
 | zero=>simp at h;subst h;simp[Kr]
 | succ k ih=>
  by_cases a:n=0
  ·subst a;simp[Kr]
  ·rw[Pg a,List.length_cons];have:n / BB < BB ^ k:=by
    rw[Nat.div_lt_iff_lt_mul Jt];rw[Nat.pow_succ] at h;exact h
   have:=ih this;omega
theorem Kt {n k:Nat}(h:(digs n).length≤k):n < BB ^ k:=by
 have a:=Ln (digs n) (Dig.digs n);rw[Jf] at a;exact Nat.lt_of_lt_of_le a (Nat.pow_le_pow_right Jt h)
theorem J4y (l:List Nat)(k:Nat)(h:k < l.length):nval (l.take (k+1))=nval (l.take k)+BB ^ k * gd l k:=by
 rw[List.take_succ_eq_append_getElem h,Pj,List.length_take,Nat.min_eq_left (by omega)];simp[gd,List.getD,List.getElem?_eq_getElem h]
theorem Lo (l:List Nat)(k:Nat):nval (l.take (k+1))=nval (l.take k)+BB ^ k * gd l k:=by
 rcases Nat.lt_or_ge k l.length with h|h
 ·exact J4y l k h
 ·rw[List.take_of_length_le (by omega),List.take_of_length_le (by omega)];simp[gd,List.getD,List.getElem?_eq_none h]
theorem J07 (l:List Nat)(k:Nat):nval l=nval (l.take k)+BB ^ (min k l.length) * nval (l.drop k):=by
 have:=J04 (l.take k) (l.drop k);rw[List.take_append_drop,List.length_take] at this;exact this
def cmpZ (a b:Int):Int:=if a < b then -1 else if a=b then 0 else 1
theorem J2P {n:Nat}(h:digs n≠[]):(digs n).getLast h≠0:=by
 induction n using Nat.strongRecOn with
 | _ n ih=>
  have f:n≠0:=fun e=>h (by rw[e];exact Kr);have b:digs n=n % BB :: digs (n / BB):=Pg f;by_cases a:digs (n / BB)=[]
  ·have c:n / BB=0:=Ka.1 a;simp only[b,a,List.getLast_singleton];intro d;have:=Nat.mod_add_div n BB;rw[c,d] at this;simp at this;omega
  ·simp only[b];rw[List.getLast_cons a];exact ih _ (Nat.div_lt_self (by omega) (by unfold BB;omega)) a
theorem J1m (l:List Nat)(h:Dig l):trimL l=l↔(l=[]∨gd l (l.length - 1)≠0):=by
 rcases List.eq_nil_or_concat l with rfl|⟨m,d,rfl⟩
 ·simp[trimL,nval,Kr]
 ·have b:Dig m:=fun x g=>h x (by simp[g]);have f:d < BB:=h d (by simp);have c:gd (m ++ [d]) ((m ++ [d]).length - 1)=d:=by simp[gd,List.getD]
  rw[List.concat_eq_append,c];by_cases a:d=0
  ·subst a;rw[J1o];have:=L5 m b;constructor
   ·intro e;have:=congrArg List.length e;simp at this;omega
   ·simp
  ·rw[J1n m d b f a];simp[a]
theorem K9 (l:List Nat)(k:Nat):nval (l.drop k)=gd l k+BB * nval (l.drop (k+1)):=by
 rcases Nat.lt_or_ge k l.length with h|h
 ·rw[List.drop_eq_getElem_cons h,nval,Nk h]
 ·rw[List.drop_eq_nil_of_le h,List.drop_eq_nil_of_le (by omega),Qc h];simp[nval]
theorem Nm (l:List Nat)(k:Nat):nval l=nval (l.take k)+BB ^ k * nval (l.drop k):=by
 rcases Nat.lt_or_ge k l.length with h|h
 ·have:=J07 l k
  rwa [Nat.min_eq_left (by omega)] at this
 ·rw[List.drop_eq_nil_of_le h,List.take_of_length_le h];simp[nval]
theorem Ou {l:List Nat}(h:Dig l)(k:Nat):nval (l.take k) < BB ^ k:=by
 refine Nat.lt_of_lt_of_le (Ln _ (h.take k)) (Nat.pow_le_pow_right Jt ?_);rw[List.length_take];omega
theorem J4w {a lb:List Nat}(c:Dig a){k:Nat}(h:nval (a.drop k) < nval (lb.drop k)):nval a < nval lb:=by
 rw[Nm a k,Nm lb k];have d:=Ou c k;have b:BB ^ k * (nval (a.drop k)+1)≤BB ^ k * nval (lb.drop k):=Nat.mul_le_mul_left _ h;rw[Nat.mul_add] at b;omega
theorem Ro {a lb:List Nat}(b:Dig a)(c:Dig lb){k:Nat}(h:nval (a.drop (k+1))=nval (lb.drop (k+1)))(d:gd a k < gd lb k):nval a < nval lb:=by
 refine J4w b (k:=k) ?_;rw[K9 a k,K9 lb k,h];omega
theorem J05 {a lb:List Nat}{k:Nat}(h:nval (a.drop (k+1))=nval (lb.drop (k+1)))(b:gd a k=gd lb k):nval (a.drop k)=nval (lb.drop k):=by
 rw[K9 a k,K9 lb k,h,b]
theorem Ua {a b:Nat}(h:(digs a).length < (digs b).length):a < b:=by
 have d:a < BB ^ (digs a).length:=Kt (Nat.le_refl _);have f:¬ b < BB ^ (digs a).length:=fun c=>by have:=Kj c;omega
 omega
theorem Pc {a b:Nat}(h:a < b):cmpZ a b = -1:=by unfold cmpZ;rw[if_pos (by omega)]
theorem Sv {a b:Nat}(h:b < a):cmpZ a b=1:=by unfold cmpZ;rw[if_neg (by omega),if_neg (by omega)]
theorem Xb {a b:Nat}(h:a=b):cmpZ a b=0:=by unfold cmpZ;rw[if_neg (by omega),if_pos (by omega)]
theorem Nw (a b:Int):cmpZ a b < 0↔a < b:=by unfold cmpZ;split<;>(try split)<;>omega
theorem Dig.set {l:List Nat}(h:Dig l)(i x:Nat)(b:x < BB):Dig (l.set i x):=fun y a=>by
 rcases List.mem_or_eq_of_mem_set a with a|rfl
 ·exact h y a
 ·exact b
theorem Yc {l:List Nat}{i x:Nat}(h:i < l.length):gd (l.set i x) i=x:=by simp[gd,List.getD,h]
theorem Ma {l:List Nat}{i j x:Nat}(h:i≠j):gd (l.set i x) j=gd l j:=by simp[gd,List.getD,List.getElem?_set_ne h]
theorem Ot {l:List Nat}{i:Nat}(x:Nat)(h:i < l.length):nval (l.set i x)+BB ^ i * gd l i=nval l+BB ^ i * x:=by
 induction l generalizing i with
 | nil=>simp at h
 | cons d l ih=>
  cases i with
  | zero=>simp[nval,gd];omega
  | succ i=>
   have:=ih (i:=i) (by simpa using h);have e:gd (d :: l) (i+1)=gd l i:=by simp[gd]
   rw[e];simp only[List.set_cons_succ,nval,Nat.pow_succ];have b:=congrArg (fun z=>BB * z) this;simp only[Nat.mul_add] at b;have a:BB ^ i * BB * gd l i=BB * (BB ^ i * gd l i):=by rw[Nat.mul_comm (BB ^ i) BB,Nat.mul_assoc]
   have c2:BB ^ i * BB * x=BB * (BB ^ i * x):=by rw[Nat.mul_comm (BB ^ i) BB,Nat.mul_assoc]
   rw[a,c2];omega
theorem Ud {l:List Nat}{i k c s x y V W:Nat}(f:i+k < l.length)(h:nval l+BB ^ (i+k) * c=V+BB ^ i * (x * W))
  (b:s=c+x * y+gd l (i+k)):nval (l.set (i+k) (s % BB))+BB ^ (i+k+1) * (s / BB)=V+BB ^ i * (x * (W+BB ^ k * y)):=by
 have g:=Ot (l:=l) (s % BB) f;have e:=Nat.mod_add_div s BB;have a:=congrArg (fun z=>BB ^ (i+k) * z) e;rw[b] at a;simp only[Nat.mul_add] at a;rw[← b] at a;have d:BB ^ (i+k+1) * (s / BB)=BB ^ (i+k) * (BB * (s / BB)):=by rw[Nat.pow_succ,Nat.mul_assoc]
 have c2:BB ^ i * (x * (W+BB ^ k * y))=BB ^ i * (x * W)+BB ^ (i+k) * (x * y):=by
  rw[Nat.mul_add,Nat.mul_add,Nat.pow_add,Nat.mul_assoc (BB ^ i) (BB ^ k),Nat.mul_left_comm x (BB ^ k) y]
 rw[d,c2];omega
theorem Zo {l:List Nat}{i n c V x W:Nat}(d:i+n < l.length)(a:gd l (i+n)=0)(h:nval l+BB ^ (i+n) * c=V+BB ^ i * (x * W)):
  nval (l.set (i+n) c)=V+BB ^ i * (x * W):=by
 have b:=Ot (l:=l) c d;rw[a] at b;omega
theorem Rk {x y:Nat}(c:x < BB)(d:y < BB):x * y≤18446744065119617025:=by
 have a:x≤4294967295:=by rw[Jd] at c;omega
 have b:y≤4294967295:=by rw[Jd] at d;omega
 exact Nat.mul_le_mul a b
def qhat (x y z f s:Nat):Nat:=min (BB - 1) (((x * BB+y) * BB+z) / (f * BB+s))
theorem J0q {x y z f s q:Nat}(c:0 < f)(d:q≤BB - 1)(a:q * (f * BB+s)≤(x * BB+y) * BB+z):q≤qhat x y z f s:=by
 unfold qhat;have b:0 < f * BB+s:=by have:=Nat.mul_pos c Jt;omega
 have:=(Nat.le_div_iff_mul_le b).2 a;omega
theorem J5o {x y z f s q:Nat}(c:0 < f)(a:(x * BB+y) * BB+z < q * (f * BB+s)):qhat x y z f s < q:=by
 unfold qhat;have b:0 < f * BB+s:=by have:=Nat.mul_pos c Jt;omega
 have:=(Nat.div_lt_iff_lt_mul b).2 a;omega
theorem J5q {x y z f s q:Nat}(h:BB≤q):qhat x y z f s < q:=by
 unfold qhat;have:=Jt;omega
theorem J5p (x y z f s:Nat):qhat x y z f s < BB:=by unfold qhat;have:=Jt;omega
theorem Ra (q f s:Nat):q * (f * BB+s)=q * f * BB+q * s:=by rw[Nat.mul_add,Nat.mul_assoc]
theorem J37 {x y z f s:Nat}(j:y < BB)(k:z < BB)(i:2147483648≤f)(g:x≤f):
  qhat x y z f s≤(x * BB+y) / f∧(x * BB+y) / f≤BB+1:=by
 have a:0 < f:=by omega
 constructor
 ·rw[Nat.le_div_iff_mul_le a];have d:0 < f * BB+s:=by have:=Nat.mul_pos a Jt;omega
  have b:qhat x y z f s≤((x * BB+y) * BB+z) / (f * BB+s):=by unfold qhat;omega
  have c:=(Nat.le_div_iff_mul_le d).1 b;rw[Ra] at c;generalize qhat x y z f s * f=P at *;generalize qhat x y z f s * s=R at *;generalize x * BB+y=N at *;rw[Jd] at *;omega
 ·have h:(x * BB+y) / f < BB+2:=by
   rw[Nat.div_lt_iff_lt_mul a,Nat.add_mul];have:x * BB≤f * BB:=Nat.mul_le_mul_right _ g;rw[Nat.mul_comm BB f];generalize f * BB=P at *;generalize x * BB=R at *;rw[Jd] at *;omega
  omega
theorem J38 {x y z f s q r:Nat}(a:0 < f)(h:x * BB+y=q * f+r)(b:r * BB+z < q * s):qhat x y z f s < q:=by
 refine J5o a ?_;rw[Ra,h,Nat.add_mul];omega
theorem J36 {x y z f s q r:Nat}(a:0 < f)(h:x * BB+y=q * f+r)(c:q < BB)(d:q * s≤r * BB+z)(b:qhat x y z f s≤q):q=qhat x y z f s:=by
 refine Nat.le_antisymm (J0q a (by omega) ?_) b;rw[Ra,h,Nat.add_mul];omega
theorem J39 {x y f q r:Nat}(c:y < BB)(b:x≤f)(h:x * BB+y=q * f+r)(a:q=BB+1):r+f < BB:=by
 subst a;rw[Nat.add_mul,Nat.one_mul,Nat.mul_comm BB f] at h;have:x * BB≤f * BB:=Nat.mul_le_mul_right _ b;omega
theorem J35 {x y z f s q r:Nat}(b:0 < f)(k:y < BB)(i:s < BB)(j:x≤f)(h:x * BB+y=(q+1) * f+r)(n:q+1≤BB+1)(g:BB≤r+f)(c:qhat x y z f s≤q):q=qhat x y z f s:=by
 have d:q < BB:=by
  rcases Nat.lt_or_ge q BB with a|a
  ·exact a
  ·have:=J39 (q:=q+1) k j h (by omega);omega
 refine Nat.le_antisymm (J0q b (by omega) ?_) c;have e:x * BB+y=q * f+(r+f):=by rw[h,Nat.add_mul];omega
 rw[Ra,e,Nat.add_mul];have l:q * s≤BB * BB:=Nat.mul_le_mul (Nat.le_of_lt d) (Nat.le_of_lt i);have m:BB * BB≤(r+f) * BB:=Nat.mul_le_mul_right _ g;omega
theorem J5r {I P N Nl V Vl x y z f s:Nat}(b:N=Nl+I * P * ((x * BB+y) * BB+z))(B:Nl < I * P)(j:V=Vl+P * (f * BB+s))(C:Vl < P)(u:0 < f)(v:N < I * (BB * V)):
  I * ((qhat x y z f s - 1) * V)≤N∧N < I * ((qhat x y z f s+1) * V):=by
 obtain⟨D,a⟩:∃ D,f * BB+s=D:=⟨_,rfl⟩
 obtain⟨M,i⟩:∃ M,(x * BB+y) * BB+z=M:=⟨_,rfl⟩
 have q:BB≤D:=by rw[← a];have:=Nat.mul_le_mul_right BB u;omega
 have d:0 < D:=Nat.lt_of_lt_of_le Jt q;obtain⟨G,h⟩:∃ G,qhat x y z f s=G:=⟨_,rfl⟩
 have w:G=min (BB - 1) (M / D):=by rw[← h,qhat,a,i]
 rw[h];rw[a] at j;rw[i] at b;have t:G * D≤M:=by rw[← Nat.le_div_iff_mul_le d];omega
 have A:G < BB:=by have:=Jt;omega
 constructor
 ·have k:(G - 1) * V≤P * M:=by
   have l:V≤P * (D+1):=by rw[j,Nat.mul_add];omega
   have m:(G - 1) * (D+1)≤M:=by
    rcases Nat.eq_zero_or_pos G with c|c
    ·subst c;simp
    ·obtain⟨g,rfl⟩:∃ g,G=g+1:=⟨G - 1,by omega⟩
     rw[Nat.add_sub_cancel,Nat.mul_add,Nat.mul_one];rw[Nat.add_mul,Nat.one_mul] at t;omega
   calc (G - 1) * V≤(G - 1) * (P * (D+1)):=Nat.mul_le_mul_left _ l
    _=P * ((G - 1) * (D+1)):=Nat.mul_left_comm _ _ _
    _≤P * M:=Nat.mul_le_mul_left _ m
  have:=Nat.mul_le_mul_left I k;rw[b,Nat.mul_assoc];omega
 ·by_cases E:G=BB - 1
  ·have:G+1=BB:=by have:=Jt;omega
   rw[this];exact v
  ·have r:G=M / D:=by omega
   have n:M+1≤(G+1) * D:=by
    have:=Nat.lt_mul_div_succ M d;rw[r,Nat.mul_comm];exact this
   have o:P * (M+1)≤(G+1) * V:=by
    calc P * (M+1)≤P * ((G+1) * D):=Nat.mul_le_mul_left _ n
     _=(G+1) * (P * D):=Nat.mul_left_comm _ _ _
     _≤(G+1) * V:=Nat.mul_le_mul_left _ (by omega)
   have p:=Nat.mul_le_mul_left I o;rw[Nat.mul_add,Nat.mul_add,Nat.mul_one] at p;rw[b,Nat.mul_assoc];omega
theorem Yd {l:List Nat}(h:Dig l){k j:Nat}(g:nval l < BB ^ k)(a:k≤j):gd l j=0:=by
 refine Nat.eq_zero_of_not_pos fun i=>?_;have b:=Nm l j;have c:=K9 l j;have d:BB ^ j * 1≤BB ^ j * nval (l.drop j):=Nat.mul_le_mul_left _ (by omega);have f:BB ^ k≤BB ^ j:=Nat.pow_le_pow_right Jt a;generalize BB ^ j=X at *;generalize BB ^ k=Y at *;omega
theorem J06 {l:List Nat}(h:Dig l){k:Nat}(i:∀ j,k≤j→gd l j=0):nval l < BB ^ k:=by
 have a:=Nm l k;have b:nval (l.drop k)=0:=by
  have key:∀ m n,l.length - n≤m→k≤n→nval (l.drop n)=0:=by
   intro m
   induction m with
   | zero=>intro n f _;rw[List.drop_eq_nil_of_le (by omega)];rfl
   | succ m ih=>
    intro n f d;rw[K9,i n d];rcases Nat.lt_or_ge n l.length with g|g
    ·rw[ih (n+1) (by omega) (by omega)];simp
    ·rw[List.drop_eq_nil_of_le (by omega)];simp[nval]
  exact key _ k (Nat.le_refl _) (Nat.le_refl _)
 have c:=Ou h k;rw[a,b];simpa using c
theorem J0A {m:List Nat}{a i q d c g N V W f C b:Nat}(r:a+i < m.length)(h:nval m+BB ^ a * (q * W)=N+BB ^ (a+i) * (c+g))
  (s:q * d+c=f+BB * C) (p:b+f+g=gd m (a+i)+BB * V):
  nval (m.set (a+i) b)+BB ^ a * (q * (W+BB ^ i * d))=N+BB ^ (a+i+1) * (C+V):=by
 have t:=Ot (l:=m) b r;have j:BB ^ a * (q * (W+BB ^ i * d))=BB ^ a * (q * W)+BB ^ (a+i) * (q * d):=by
  rw[Nat.mul_add,Nat.mul_add,Nat.pow_add,Nat.mul_assoc (BB ^ a) (BB ^ i),Nat.mul_left_comm q (BB ^ i) d]
 have k:BB ^ (a+i+1) * (C+V)=BB ^ (a+i) * (BB * C+BB * V):=by rw[Nat.pow_succ,Nat.mul_assoc,Nat.mul_add]
 rw[j,k];have n:=congrArg (fun z=>BB ^ (a+i) * z) s;have o:=congrArg (fun z=>BB ^ (a+i) * z) p;simp only[Nat.mul_add] at n o h ⊢;generalize BB ^ (a+i)=X at *;omega
theorem J2c {m:List Nat}{a i d c N W s:Nat}(k:a+i < m.length)(h:nval m+BB ^ (a+i) * c=N+BB ^ a * W)
  (f:s=gd m (a+i)+d+c):
  nval (m.set (a+i) (s % BB))+BB ^ (a+i+1) * (s / BB)=N+BB ^ a * (W+BB ^ i * d):=by
 have n:=Ot (l:=m) (s % BB) k;have e:=Nat.mod_add_div s BB;have g:BB ^ a * (W+BB ^ i * d)=BB ^ a * W+BB ^ (a+i) * d:=by rw[Nat.mul_add,Nat.pow_add,Nat.mul_assoc]
 have j:BB ^ (a+i+1) * (s / BB)=BB ^ (a+i) * (BB * (s / BB)):=by rw[Nat.pow_succ,Nat.mul_assoc]
 rw[g,j];have b:=congrArg (fun z=>BB ^ (a+i) * z) e;rw[f] at b;simp only[Nat.mul_add] at b;rw[← f] at b;generalize BB ^ (a+i)=X at *;omega
theorem J6a {T a:Nat}(b:T * a=BB)(l m:List Nat)(p:Dig l):∀ (n k:Nat),(∀ t,k≤t→t < k+n→gd m t=(gd l (t+1) * BB+gd l t) / T % BB)→nval (l.drop (k+n))=0→nval ((m.drop k).take n)=nval (l.drop k) / T:=by
 have c:0 < T:=by
  rcases Nat.eq_zero_or_pos T with h|h
  ·subst h;rw[Nat.zero_mul] at b;have:=Jt;omega
  ·exact h
 intro n
 induction n with
 | zero=>intro k _ h;simp only[Nat.add_zero] at h;rw[h];simp[nval]
 | succ n ih=>
  intro k d r;have s:=ih (k+1) (fun t u v=>d t (by omega) (by omega)) (by rw[show k+1+n=k+(n+1) from by omega];exact r);have j:nval ((m.drop k).take (n+1))=gd m k+BB * nval ((m.drop (k+1)).take n):=by
   rcases Nat.lt_or_ge k m.length with h|h
   ·rw[List.drop_eq_getElem_cons h,List.take_succ_cons,nval,Nk h]
   ·rw[List.drop_eq_nil_of_le h,List.drop_eq_nil_of_le (by omega),Qc h];simp[nval]
  rw[j,s,d k (Nat.le_refl _) (by omega),K9 l k,K9 l (k+1)];have f:gd l k < BB:=p.gd k;obtain⟨x,g⟩:∃ x,gd l k=x:=⟨_,rfl⟩
  obtain⟨y,q⟩:∃ y,gd l (k+1)=y:=⟨_,rfl⟩
  obtain⟨R,o⟩:∃ R,nval (l.drop (k+1+1))=R:=⟨_,rfl⟩
  rw[g] at f;simp only[g,q,o]
  -- y+BB R=y+T (a R)
  have i:(y+BB * R) / T=y / T+a * R:=by
   rw[← b,Nat.mul_assoc,Nat.add_mul_div_left _ _ c]
  have a2:(x+BB * (y+BB * R)) / T=(y * BB+x) / T+BB * (a * R):=by
   have:x+BB * (y+BB * R)=(y * BB+x)+T * (BB * (a * R)):=by
    have e:BB * (BB * R)=T * (BB * (a * R)):=by
     rw[Nat.mul_left_comm T BB,← Nat.mul_assoc T a R,b]
    rw[Nat.mul_add,e,Nat.mul_comm BB y];omega
   rw[this,Nat.add_mul_div_left _ _ c]
  have a3:(y * BB+x) / T / BB=y / T:=by
   rw[Nat.div_div_eq_div_mul,Nat.mul_comm T BB,← Nat.div_div_eq_div_mul,Nat.mul_comm y BB,Nat.mul_add_div Jt,Nat.div_eq_of_lt f,Nat.add_zero]
  rw[i,a2,Nat.mul_add];have a4:=Nat.mod_add_div ((y * BB+x) / T) BB;rw[a3] at a4;omega
theorem J5h {s:Nat}(a:s≤32):2 ^ s * 2 ^ (32 - s)=BB:=by
 rw[← Nat.pow_add,show s+(32 - s)=32 from by omega,Jd]
theorem J2U {A V Q R:Nat}(h:R+V * Q=A)(a:R < V):A / V=Q∧A % V=R:=by
 have b:0 < V:=Nat.lt_of_le_of_lt (Nat.zero_le _) a;constructor
 ·rw[← h,Nat.add_mul_div_left _ _ b,Nat.div_eq_of_lt a,Nat.zero_add]
 ·rw[← h,Nat.add_mul_mod_self_left,Nat.mod_eq_of_lt a]
theorem Xq {n k:Nat}(d:BB ^ k≤n)(c:n < BB ^ (k+1)):(digs n).length=k+1:=by
 have a:=Kj c;have b:¬ (digs n).length≤k:=fun h=>by have:=Kt h;omega
 omega
theorem Qj (l:List Nat)(k:Nat)(h:l.length=k+1):nval l=nval (l.take k)+BB ^ k * gd l k:=by
 have:=Lo l k;rw[List.take_of_length_le (by omega)] at this;exact this
theorem J4z (l:List Nat)(k:Nat)(h:l.length=k+2):nval l=nval (l.take k)+BB ^ k * (gd l (k+1) * BB+gd l k):=by
 rw[Qj l (k+1) h,Lo,Nat.pow_succ,Nat.mul_add,Nat.mul_assoc,Nat.mul_comm (gd l (k+1)) BB];omega
theorem J4A {l:List Nat}(i:Dig l)(k:Nat)(h:nval l < BB ^ (k+3)):nval l=nval (l.take k)+BB ^ k * ((gd l (k+2) * BB+gd l (k+1)) * BB+gd l k):=by
 have d:nval (l.drop (k+3))=0:=by
  refine Nat.eq_zero_of_not_pos fun c=>?_;have f:=Nm l (k+3);have g:=Nat.mul_le_mul_left (BB ^ (k+3)) c;generalize BB ^ (k+3)=X at *;omega
 have e:=Nm l k;rw[K9 l k,K9 l (k+1),K9 l (k+1+1),d] at e;rw[e];congr 2;rw[show k+1+1=k+2 from rfl];simp only[Nat.mul_zero,Nat.add_zero];generalize gd l (k+2)=a;generalize gd l (k+1)=b;rw[Nat.mul_comm BB (b+_),Nat.mul_comm BB a,Nat.add_comm b,Nat.add_comm (gd l k)]
end Go.Proofs.YtcjgimlcefhhmaaGreatDoor
