/- Texts: LeafG LeafH LeafI LeafJ LeafK. -/
import Derived.Test.YtcjgimlcefhhmaaGreatDoorC3
import Derived.Test.YtcjgimlcefhhmaaGreatDoorC4
set_option linter.unusedVariables false
set_option linter.unusedSimpArgs false
set_option maxRecDepth 100000
set_option maxHeartbeats 12800000
namespace Go.Proofs.YtcjgimlcefhhmaaGreatDoor
open Go.RowKit
theorem NatL.two (w:World)(e f:Int)(x y:Nat)(a:e=x)(b:f=y)(d:x < BB)(g:y < BB)(t:TypeId):
  NatL (w.alloc (.cells #[.int .u32 e,.int .u32 f] t)) (.slice (some ⟨w.heap.size,0,none⟩) 2 2) [x,y]:=by
 subst a b;refine⟨Dig.cons d (Dig.cons g Dig.nil),_,2,rfl,by simp,by omega,.inr ⟨w.heap.size,0,rfl,fun i c=>?_⟩⟩
 have:i=0∨i=1:=by have:i < 2:=by simpa using c
                  omega
 rcases this with rfl|rfl<;>simp[go_sem,gd]
theorem J08 {n:Nat}(h:n < 18446744073709551616):nval [n % BB,n / BB % BB]=n:=by
 simp only[nval,Jd];omega
theorem Mn (w:World)(n:Nat)(h:n < 18446744073709551616):
  Calls Tryz.prog 175 #[.int .u64 n] w (Ret w fun r w'=>NatL w' r (digs n)):=by
 have i:n≤18446744073709551615:=by omega
 obtain⟨b,c,d⟩:=Z3 (show(n:Int) % 4294967296=((n % BB:Nat):Int) by rw[Jd];omega) (show(n:Int) / 4294967296=((n / BB % BB:Nat):Int) by rw[Jd];omega) (J08 h);clear h;go_enter Tryz.func175,Tryz.ntmps175;go_wp2_with fail;refine(Rl _ _ _ (NatL.two w _ _ _ _ b.o c.o (Nat.mod_lt _ Jt) (Nat.mod_lt _ Jt) _) (by simp)).mono ?_;rintro _ j ⟨r,rfl,g,a⟩;rw[d.o] at a;have f:=Z a;clear a;go_wp2_with fail;go_ret;exact⟨_,rfl,((Gr.refl w).alloc _).trans g,f.o⟩
theorem J0O (w:World)(n:Nat)(h:n < 18446744073709551616):
  Calls Tryz.prog 106 #[.int .u64 n] w (Ret w fun r w'=>NatL w' r (digs n)):=by
 have i:n≤18446744073709551615:=by omega
 obtain⟨b,c,d⟩:=Z3 (show(n:Int) % 4294967296=((n % BB:Nat):Int) by rw[Jd];omega) (show(n:Int) / 4294967296=((n / BB % BB:Nat):Int) by rw[Jd];omega) (J08 h);clear h;go_enter Tryz.func106,Tryz.ntmps106;go_wp2_with fail;refine(Lq _ _ _ (NatL.two w _ _ _ _ b.o c.o (Nat.mod_lt _ Jt) (Nat.mod_lt _ Jt) _) (by simp)).mono ?_;rintro _ j ⟨r,rfl,g,a⟩;rw[trimL,d.o] at a;have f:=Z a;clear a;go_wp2_with fail;go_ret;exact⟨_,rfl,((Gr.refl w).alloc _).trans g,f.o⟩
def bitsN (n:Nat):Nat:=if n=0 then 0 else 32 * ((digs n).length - 1)+Lib.bitLen (gd (digs n) ((digs n).length - 1))
theorem Xp {n:Nat}(h:n≠0):gd (digs n) ((digs n).length - 1)≠0:=by
 have a:digs n≠[]:=fun e=>h (Ka.1 e);have b:=J2P a;rw[List.getLast_eq_getElem] at b;rw[Nk (by have:=List.length_pos_iff.2 a;omega)];exact b
theorem J2e {x:Nat}(h:x≠0):0 < Lib.bitLen x:=by
 unfold Lib.bitLen;simp only[Lib.bitLenAux,if_neg h];omega
theorem V3 {x:Nat}(h:x < BB):Lib.bitLen x≤32:=Lib.bitLen_le x 32 (by omega) (by rw[Jd] at h;omega)
theorem V5:bitsN 0=0:=rfl
theorem Ss {n:Nat}(h:n≠0):0 < bitsN n:=by
 unfold bitsN;rw[if_neg h];have:=J2e (Xp h);omega
theorem Qh (w:World)(v:Value)(l:List Nat)(h:NatL w v l)(y:l.length≤17592186044416):
  Calls Tryz.prog 196 #[v] w fun e w'=>e = .returned (.int .i64 (bitsN (nval l)))∧w=w':=by
 obtain⟨r,s⟩:=Z2 h (L5 l h.dig);have f:∀ k,k=(digs (nval l)).length→k≤17592186044416:=fun k a=>by rw[a];exact Nat.le_trans s.o y
 clear h;go_enter Tryz.func196,Tryz.ntmps196;go_wp2_with fail;refine(L3 _ _ l r.o).mono ?_;rintro _ _ ⟨⟨p,k,rfl,d⟩,rfl⟩;have a:k=(digs (nval l)).length:=d.len.symm;have A:=f k a;obtain⟨i,z⟩:=Z2 d a;clear d f;by_cases m:k=0
 ·have q:nval l=0:=by
   rw[m] at a;exact Ka.1 (List.eq_nil_of_length_eq_zero a.symm)
  have t:=Z (show bitsN (nval l)=0 by rw[q];rfl);clear q a;obtain rfl:=m;go_wp2_with fail;go_ret;rw[t.o];exact⟨rfl,rfl⟩
 ·obtain⟨b,o,rfl,x⟩:=i.o.at (k - 1) (by rw[trimL,← a];omega)
  have c:=i.o.dig.gd (k - 1);have n:nval l≠0:=fun e=>by rw[e,Kr] at a;simp at a;omega
  have g:=Z (show 32 * ((k:Int) - 1)+Lib.bitLen (gd (trimL l) (k - 1))=bitsN (nval l) by
   unfold bitsN;rw[if_neg n,← a];show _=((32 * (k - 1)+Lib.bitLen (gd (trimL l) (k - 1)):Nat):Int)
   omega)
  have u:=V3 c;rw[Jd] at c;clear a n;obtain⟨j,rfl⟩:∃ j,k=j+1:=⟨k - 1,by omega⟩
  rw[Nat.add_sub_cancel] at x c u g;have B:(((j+1:Nat):Int) == 0)=false:=by simp;omega
  go_wp2_with fail;refine(Tryz.bits_Len32 _ _ (by omega) (by omega)).mono ?_;rintro _ _ ⟨rfl,rfl⟩;rw[Int.toNat_natCast];go_wp2_with fail;go_ret;rw[← g.o];exact⟨J0S (by omega),rfl⟩
theorem OwnN.row {w:World}{base:Nat}{v:Value}{l:List Nat}(h:OwnN w base v l)(k:l≠[]):
  ∃ g a n,v = .slice (some ⟨g,0,none⟩) l.length a∧base≤g∧w.heap[g]?=some (.cells (cellsN l ++ n).toArray 153 (0,0))∧l.length≤a∧a≤9223372036854775807:=by
 obtain⟨⟨o,b⟩,p⟩:=h;rcases b with⟨_,b⟩|⟨g,a,c,rfl,d,f,j,i,q,m⟩
 ·exact absurd (List.eq_nil_of_length_eq_zero b) k
 ·refine⟨g,a,c.toList.drop l.length,rfl,d,?_,j,by simpa[maxLen] using i⟩;rw[← m,Nat.mul_one,List.take_append_drop];exact f
def RowX (w:World)(g:Nat)(l:List Nat):Prop:=(∃ rest,w.heap[g]?=some (.cells (cellsN l ++ rest).toArray 153 (0,0)))∧Dig l
theorem RowX.dig {w:World}{g:Nat}{l:List Nat}(h:RowX w g l):Dig l:=h.2
theorem RowX.cell {w:World}{g:Nat}{l:List Nat}(h:RowX w g l){i:Nat}(a:i < l.length):w.cell? ⟨g,i,none⟩=some (.int .u32 (gd l i)):=by
 obtain⟨⟨r,b⟩,c⟩:=h;simp[World.cell?,b,List.getElem?_append_left (l₁:=cellsN l) (l₂:=r) (by rw[St];exact a),Q2 a]
theorem RowX.free {w:World}{g:Nat}{l:List Nat}(h:RowX w g l)(i:Nat):w.frozen? ⟨g,i,none⟩=false:=by
 obtain⟨⟨r,a⟩,b⟩:=h;simp[World.frozen?,a]
theorem RowX.lt {w:World}{g:Nat}{l:List Nat}(h:RowX w g l):g < w.heap.size:=by
 obtain⟨⟨r,b⟩,c⟩:=h;rcases Nat.lt_or_ge g w.heap.size with a|a
 ·exact a
 ·rw[Array.getElem?_eq_none a] at b;cases b
theorem RowX.grow {w w':World}{g:Nat}{l:List Nat}(h:RowX w g l)(a:Gr w w'):RowX w' g l:=
 ⟨by rw[Below.block a g h.lt];exact h.1,h.2⟩
theorem RowX.read {w:World}{g:Nat}{l:List Nat}(h:RowX w g l)(c:Nat)(a:l.length≤c)(d:c≤9223372036854775807):NatL w (.slice (some ⟨g,0,none⟩) l.length c) l:=
 ⟨h.2,_,c,rfl,a,d,.inr ⟨g,0,rfl,fun i b=>by rw[Nat.zero_add];exact h.cell b⟩⟩
theorem RowX.set {w:World}{g:Nat}{l:List Nat}(h:RowX w g l)(i x:Nat)(e:Int)(c:e=x)(f:x < BB)(d:i < l.length):RowX (w.setCell ⟨g,i,none⟩ (.int .u32 e)) g (l.set i x):=by
 subst c;obtain⟨⟨r,a⟩,b⟩:=h;refine⟨⟨r,?_⟩,b.set i x f⟩;simp only[World.setCell,Array.getElem?_modify,a,if_true,Option.map_some];simp[cellsN,List.map_set,List.set_append_left,d]
theorem RowX.other {w:World}{g a:Nat}{l:List Nat}(h:RowX w g l)(b:g≠a)(i:Nat)(v:Value):RowX (w.setCell ⟨a,i,none⟩ v) g l:=
 ⟨by rw[Below.heap_setCell _ _ _ _ b];exact h.1,h.2⟩
theorem RowN.x {w:World}{g:Nat}{l:List Nat}(h:RowN w g l):RowX w g l:=⟨⟨[],by rw[List.append_nil];exact h.1⟩,h.2⟩
theorem J4e (w:World)(v:Value)(l:List Nat)(h:NatL w v l)(q:l.length≤17592186044416)(g:l≠[]):
  Calls Tryz.prog 268 #[v] w (Ret w fun r w'=>OwnN w' w.heap.size r l):=by
 have f:=Z h;have u:=fun(w:World) (a:Option Addr) (n c:Nat)=>Lib.run_eql_slice_nil (P:=Tryz.prog) w 64 153 a n c 0 0 (by kernel_rfl);obtain⟨p,c,rfl,k,t,j⟩:=h.parts;obtain⟨b,o,rfl,-⟩:=h.at 0 (List.length_pos_iff.2 g);obtain⟨n,d⟩:∃ n,l.length=n:=⟨_,rfl⟩
 rw[d] at f k q ⊢;have i:=Z d;clear d j h g;go_enter Tryz.func268,Tryz.ntmps268;go_wp2_with (at_builtin;go_must (refine Mv rfl _ _ 64 rfl (by kernel_rfl) w.heap.size _ (.slice (some ⟨b,o,none⟩) n c) [] l rfl (OwnN.made0 w _ (Nat.le_refl _)) rfl (f.o.grow ((Gr.refl w).alloc _)) (by rw[i.o];simp;omega) (by simp) ?_;intro y w' s m x));go_ret;exact⟨_,rfl,((Gr.refl _).alloc _).own m,s⟩
theorem J4m {x y:Nat}(a:y < BB):(x * 4294967296 ||| y)=x * BB+y:=by
 rw[Jd] at *;have h:=Nat.shiftLeft_add_eq_or_of_lt (b:=y) (i:=32) a x;rw[Nat.shiftLeft_eq] at h;exact h.symm
theorem Pb {q d:Nat}(c:q < BB)(a:d < BB):bits .or .u64 ((q:Int) * 4294967296) (d:Int)=((q * BB+d:Nat):Int):=by
 have f:=c;have b:=a;rw[Jd] at f b;have:=u64_or_nat (q * 4294967296) d (by omega) (by omega);rw[J4m a] at this;rw[← this];congr 1
theorem J4v {l:List Nat}{k x:Nat}(a:k < l.length):nval ((l.set k x).drop k)=x+BB * nval (l.drop (k+1)):=by
 rw[K9,Yc a];congr 2;rw[List.drop_set_of_lt (by omega)]
theorem Zy (w:World)(v:Value)(l:List Nat)(a:Nat)(h:NatL w v l)(O:l.length≤17592186044416)(Q:l≠[])(o:0 < a)(p:a < BB):
  Calls Tryz.prog 235 #[v,.int .u64 a] w (Ret w fun r w'=>∃ g f,w.heap.size≤g∧r = .tuple #[.slice (some ⟨g,0,none⟩) f f,.int .u64 (nval l % a:Nat)]∧NatL w' (.slice (some ⟨g,0,none⟩) f f) (digs (nval l / a))):=by
 obtain⟨A,D,H1⟩:=Z3 h Q p;have a7:a < 4294967296:=by rw[Jd] at p;exact p
 clear h Q p;go_enter Tryz.func235,Tryz.ntmps235;go_wp2_with fail;refine(J4e _ v l A.o O D.o).mono ?_;rintro _ w1 ⟨r,rfl,g1,S⟩;obtain⟨g,c,a5,rfl,L,U,M,a2⟩:=S.row D.o;obtain⟨HX,G1,B⟩:=Z3 (show RowX w1 g l from⟨⟨a5,U⟩,A.o.dig⟩) g1 L;obtain⟨n,u⟩:∃ n,l.length=n:=⟨_,rfl⟩
 rw[u] at O M;simp only[u];have C:=Z u;clear u S U g1 L;go_wp2_with fail;go_loopw [7,8] (fun rs i w2=>∃ (k:Nat) (m:List Nat) (q:Nat),k≤n∧i = .int .i64 ((k:Int) - 1)∧rs = .int .u64 q∧q < a∧RowX w2 g m∧m.length=n∧
   (∀ j,j < k→gd m j=gd l j)∧nval (l.drop k)=a * nval (m.drop k)+q∧Own w.heap.size w1 w2) (fun _ i _=>((intOf i)+1).toNat)
 case atStart=>
  exact⟨n,l,0,Nat.le_refl _,rfl,rfl,o,HX.o,C.o,fun _ _=>rfl,by rw[List.drop_eq_nil_of_le (by rw[C.o];exact Nat.le_refl _)];simp[nval],Own.refl _ _⟩
 case round=>
  obtain⟨k,m,q,hk,rfl,rfl,x,hx,P,V,W,R⟩:=hrel;obtain⟨b,d,F,G,E⟩:=Z5 hx P V W R;clear hx P V W R;by_cases a3:k=0
  ·obtain rfl:=a3;go_wp2_with fail;have z:=b.o.read c (by rw[d.o];exact M) a2;rw[d.o] at z;refine(Uj _ _ _ _ m z).mono ?_;rintro _ _ ⟨⟨f,rfl,T⟩,rfl⟩;have Hr:=Z T;clear T z;go_wp2_with fail;go_ret2;have H:nval l=a * nval m+q:=by have:=G.o;simpa using this
   have y:nval l / a=nval m:=by rw[H,Nat.mul_add_div o,Nat.div_eq_of_lt x,Nat.add_zero]
   have e2:nval l % a=q:=by rw[H,Nat.mul_add_mod,Nat.mod_eq_of_lt x]
   rw[y,e2];exact⟨_,rfl,Below.trans G1.o E.o,_,_,B.o,rfl,Hr.o⟩
  ·obtain⟨j,rfl⟩:∃ j,k=j+1:=⟨k - 1,by omega⟩
   have y:=Z (show((j+1:Nat):Int) - 1=(j:Int) by omega);rw[y.o];have cR:=b.o.cell (i:=j) (by rw[d.o];omega);have fR:=b.o.free j;have I:=b.o.dig.gd j;obtain⟨X,s⟩:∃ X,q * BB+gd m j=X:=⟨_,rfl⟩
   have a4:=Pb (Nat.lt_trans x H1.o) I;rw[s] at a4;have J:X < a * 4294967296:=by rw[← s];rw[Jd] at *;have:=Nat.mul_le_mul_right 4294967296 (show q+1≤a from x);omega
   have K:X / a < 4294967296:=by rw[Nat.div_lt_iff_lt_mul o,Nat.mul_comm];exact J
   have a1:X % a < a:=Nat.mod_lt _ o;have a6:X≤18446744073709551615:=by omega
   have a0:=Z s;clear s J;rw[Jd] at I;go_wp2_with fail
   go_region
   go_wp2_with fail;have E1:IntKind.u64.wrap ((X:Int) / a) % 4294967296=((X / a:Nat):Int):=by
    rw[IntKind.wrap_u64,← Int.natCast_ediv];generalize X / a=Y at K ⊢;omega
   have N:j < m.length:=by rw[d.o];omega
   refine⟨⟨j,m.set j (X / a),X % a,by omega,rfl,by rw[Int.natCast_emod],a1,(b.o.set j (X / a) _ E1 (by rw[Jd];exact K) N).grow ((Gr.refl _).drew),by rw[List.length_set];exact d.o,?_,?_,?_⟩,by simp[intOf]⟩
   ·intro t ht;rw[Ma (by omega)];exact F.o t (by omega)
   ·rw[J4v N,K9,← F.o j (by omega),G.o];have h3:=Nat.div_add_mod X a;have h4:=a0.o;rw[Nat.mul_add,Nat.mul_add,Nat.mul_left_comm BB a,Nat.mul_comm BB q];omega
   ·exact E.o.trans ((Own.setCell _ B.o _ _).trans (Own.drewN _ _ 1))
theorem J4n (w:World)(v:Value)(l:List Nat)(a:Nat)(h:NatL w v l)(i:l.length≤17592186044416)(j:l≠[])(b:0 < a)(c:a < BB):
  Calls Tryz.prog 235 #[v,.int .u64 a] w (Ret w fun r w'=>∃ x,r = .tuple #[x,.int .u64 (nval l % a:Nat)]∧NatL w' x (digs (nval l / a))):=
 (Zy w v l a h i j b c).mono fun e w' ⟨r,d,f,g,o,n,k,m⟩=>⟨r,d,f,_,k,m⟩
theorem J2f {d s c:Nat}(h:d < BB)(j:s≤31)(g:c < 2 ^ s):bits .or .u64 (IntKind.u64.wrap ((d:Int) * 2 ^ s)) (c:Int)=((d * 2 ^ s+c:Nat):Int):=by
 have f:2 ^ s≤2147483648:=Nat.pow_le_pow_right (by omega) j;have k:d * 2 ^ s≤4294967295 * 2147483648:=Nat.mul_le_mul (by rw[Jd] at h;omega) f;have e:((d:Int) * 2 ^ s)=((d * 2 ^ s:Nat):Int):=by rw[Int.natCast_mul,Int.natCast_pow];rfl
 have a:=Nat.shiftLeft_add_eq_or_of_lt (b:=c) (i:=s) g d;rw[Nat.shiftLeft_eq] at a;rw[e,IntKind.wrap_u64];generalize d * 2 ^ s=X at *;rw[show((X:Int) % 18446744073709551616)=(X:Int) from by omega,u64_or_nat X c (by omega) (by omega),a]
theorem Zx (w:World)(v:Value)(l:List Nat)(s:Nat)(h:NatL w v l)(a6:l.length≤8796093022208)(Q:s≤31):
  Calls Tryz.prog 275 #[v,.int .i64 s] w fun e w'=>e = .returned (.slice (some ⟨w.heap.size,0,none⟩) (l.length+1) (l.length+1))∧Gr w w'∧
   ∃ m,RowN w' w.heap.size m∧m.length=l.length+1∧nval m=nval l * 2 ^ s:=by
 have E:=Z h;obtain⟨p,c,rfl,a1,a2,a3⟩:=h.parts;have A3:=Z a3;clear h a3;obtain⟨b,D⟩:∃ n,l.length=n:=⟨_,rfl⟩
 rw[D] at E a1 a6 ⊢;have G:=Z D;clear D;obtain⟨d,B⟩:∃ d,w.heap.size=d:=⟨_,rfl⟩
 rw[B];have r:=Z B;clear B;obtain⟨T,g⟩:∃ T,2 ^ s=T:=⟨_,rfl⟩
 have F:=Z g;have a8:1≤T:=by rw[← g];exact Nat.one_le_two_pow
 have a9:T≤2147483648:=by rw[← g];exact Nat.pow_le_pow_right (by omega) Q
 rw[g];clear g;go_enter Tryz.func275,Tryz.ntmps275;go_wp2_with (first|(go_at_call 999)|(at_make;go_must (refine Qs rfl _ _ 64 rfl (by kernel_rfl) (b+1) _ rfl rfl (by omega) (by omega) ?_;rw[r.o];intro w1 O L a7)));go_loopw [6,16] (fun a i X=>∃ (k:Nat) (m:List Nat) (c:Nat),k≤b∧i = .int .i64 k∧a = .int .u64 c∧c < T∧RowN X d m∧m.length=b+1∧
   nval m+BB ^ k * c=nval (l.take k) * T∧(∀ j,k≤j→gd m j=0)∧Own d w X) (fun _ i _=>b - (intOf i).toNat)
 case atStart=>
  have e0:∀ j,gd (List.replicate (b+1) 0) j=0:=fun j=>by
   unfold gd;rw[List.getD_eq_getElem?_getD,List.getElem?_replicate];split<;>rfl
  exact⟨0,_,0,by omega,rfl,rfl,by omega,O,by simp,by rw[Qi];simp[nval],fun j _=>e0 j,Own.of_gr L (by rw[r.o];exact Nat.le_refl _)⟩
 case round=>
  obtain⟨k,m,a,hk,rfl,rfl,a4,P,M,S,U,N⟩:=hrel;obtain⟨t,f,H,z,u⟩:=Z5 P M S U N;clear O P M S U N L a7;have cR:=t.o.cell (i:=k) (by rw[f.o];omega);have fR:=t.o.free k;by_cases a5:k < b
  ·obtain⟨bA,oA,rfl,cA⟩:=(E.o.own r.o.symm u.o).at k (by rw[G.o];exact a5);have A:=A3.o.gd k;have K:=J2f A Q (by rw[F.o];exact a4);rw[F.o] at K;have I:=A;rw[Jd] at A;obtain⟨Y,o⟩:∃ Y,Y=a+T * gd l k+gd m k:=⟨_,rfl⟩
   have C:gd l k * T+a=Y:=by rw[o,z.o k (Nat.le_refl _),Nat.mul_comm];omega
   rw[C] at K;have q:Y / BB < T:=by
    rw[Nat.div_lt_iff_lt_mul Jt,← C];have:=Nat.mul_le_mul_right T (show gd l k+1≤BB from I);rw[Nat.mul_comm BB T,Nat.add_mul] at this;omega
   have b0:Y≤18446744073709551615:=by rw[Nat.div_lt_iff_lt_mul Jt,Jd] at q;omega
   obtain⟨HY,a0⟩:=Z2 o q;clear o C q I;go_wp2_with fail;have o:=HY.o;have q:=a0.o;have R:=Ud (l:=m) (i:=0) (k:=k) (c:=a) (s:=Y) (x:=T) (y:=gd l k) (V:=0) (W:=nval (l.take k)) (by rw[f.o];omega) (by rw[Nat.zero_add,H.o];simp[Nat.mul_comm]) (by rw[Nat.zero_add];exact o);rw[Nat.zero_add] at R;refine⟨⟨k+1,m.set k (Y % BB),Y / BB,by omega,by go_num,by rw[Jd];rfl,q,t.o.set k (Y % BB) _ (by rw[Jd];rfl) (Nat.mod_lt _ Jt),by rw[List.length_set];exact f.o,?_,?_,?_⟩,by simp[intOf];omega⟩
   ·rw[R,Lo];simp[Nat.mul_comm]
   ·intro j hj;rw[Ma (by omega)];exact z.o j (by omega)
   ·exact u.o.trans (Own.setCell _ (Nat.le_refl _) _ _)
  ·obtain rfl:k=b:=by omega
   go_wp2_with fail;go_ret;refine⟨rfl,?_,m.set k a,t.o.set k a _ rfl (by rw[Jd];omega),by rw[List.length_set];exact f.o,?_⟩
   ·have:=u.o.trans (Own.setCell wr (Nat.le_refl d) k (.int .u32 a));rw[← r.o] at this ⊢;exact this.gr
   ·have J:=Ot (l:=m) (i:=k) a (by rw[f.o];omega);rw[z.o k (Nat.le_refl _),Nat.mul_zero,Nat.add_zero] at J;rw[J,H.o,List.take_of_length_le (by rw[G.o];exact Nat.le_refl _)]
theorem J4k (w:World)(x y z f s:Nat)(D:x < BB)(E:y < BB)(m:z < BB)(O:f < BB)(C:s < BB)(a9:2147483648≤f)(Q:x≤f):
  Calls Tryz.prog 276 #[.int .u64 x,.int .u64 y,.int .u64 z,.int .u64 f,.int .u64 s] w fun e w'=>e = .returned (.int .u64 (qhat x y z f s))∧∃ n,w'=w.drewN n:=by
 have l:=Pb D E;obtain⟨X,p⟩:∃ X,x * BB+y=X:=⟨_,rfl⟩
 rw[p] at l;obtain⟨G,J⟩:∃ G,qhat x y z f s=G:=⟨_,rfl⟩
 rw[J];obtain⟨i,S,Hx,Hy,Hz,V,a5,a3⟩:=Z8 J p D E m C Q (J37 (s:=s) E m a9 Q);have b3:X≤18446744073709551615:=by rw[← p];rw[Jd] at *;omega
 have A:0 < f:=by omega
 have b7:f < 4294967296:=by rw[Jd] at O;exact O
 have b8:s < 4294967296:=by rw[Jd] at C;exact C
 have b9:z < 4294967296:=by rw[Jd] at m;exact m
 have b0:X % f < f:=Nat.mod_lt _ A;have b1:IntKind.u64.wrap ((x:Int) * 4294967296)=(x:Int) * 4294967296:=by rw[IntKind.wrap_u64];rw[Jd] at D;omega
 have a4:=Z (show IntKind.u64.wrap ((X:Int) / f)=((X / f:Nat):Int) by
  have:=Nat.div_le_self X f;rw[IntKind.wrap_u64,← Int.natCast_ediv];generalize X / f=Zq at *;omega)
 have a8:=Z (show X=X / f * f+X % f by rw[Nat.mul_comm];exact(Nat.div_add_mod X f).symm);clear p J D E m C Q O;go_enter Tryz.func276,Tryz.ntmps276;go_wp2_with fail
 go_quiet (fail)
 go_wp2_with fail;go_loopw [11,12] (fun q r w1=>∃ (a b:Nat),q = .int .u64 a∧r = .int .u64 b∧X=a * f+b∧G≤a∧a≤BB+1∧b < BB∧∃ n,w1=w.drewN n) (fun q _ _=>(intOf q).toNat)
 case atStart=>
  have k:=a3.o;rw[S.o,i.o] at k;exact⟨X / f,X % f,by rw[a4.o],by rw[Int.natCast_emod],a8.o,k.1,k.2,by rw[Jd];omega,nq,rfl⟩
 case round=>
  obtain⟨a,b,rfl,rfl,M,a0,L,v,hg⟩:=hrel;clear l b1 b0;obtain⟨H,j,a2,F⟩:=Z4 (show x * BB+y=a * f+b by rw[S.o];exact M) hg (show qhat x y z f s≤a by rw[i.o];exact a0) L;have b5:a≤4294967297:=by rw[Jd] at L;omega
  have b6:b < 4294967296:=by rw[Jd] at v;exact v
  have l:=Pb v Hz.o;obtain⟨Y,t⟩:∃ Y,b * BB+z=Y:=⟨_,rfl⟩
  rw[t] at l;have T:=Z t;obtain⟨P,K⟩:∃ P,a * s=P:=⟨_,rfl⟩
  have a6:(a:Int) * s=(P:Int):=by rw[← K];exact(Int.natCast_mul _ _).symm
  have o:=Z K;have b4:Y≤18446744073709551615:=by rw[← t];rw[Jd] at *;omega
  have a1:∀ (u:1≤a) (B:G≤a - 1),b+f < BB→(a - 1) * f+(b+f)=X:=fun u B _=>by
   obtain⟨c,rfl⟩:∃ c,a=c+1:=⟨a - 1,by omega⟩
   rw[Nat.add_sub_cancel,M,Nat.add_mul];omega
  have W:=Z a1;have U:∀ (u:1≤a) (B:qhat x y z f s≤a - 1),BB≤b+f→a - 1=G:=fun u B hr=>by
   obtain⟨c,rfl⟩:∃ c,a=c+1:=⟨a - 1,by omega⟩
   rw[← i.o];exact J35 A Hy.o V.o a5.o H.o F.o hr B
  have R:=Z U;clear M hg a0 L v t K a1 U;by_cases h:BB≤a
  ·have k:=J5q (x:=x) (y:=y) (z:=z) (f:=f) (s:=s) h;have a7:4294967296≤a:=by rw[Jd] at h;exact h
   have d:=Z (show qhat x y z f s≤a - 1 by omega);clear k h a6 l;by_cases N:4294967296≤b+f
   ·go_wp2_with fail;go_ret;refine⟨?_,j.o⟩;have h2:=R.o (by omega) d.o (by rw[Jd];exact N);show Ending.returned (Value.int .u64 ((a:Int) - 1)) = .returned (.int .u64 G);rw[show((a:Int) - 1)=(G:Int) from by omega]
   ·go_wp2_with fail;have g:=d.o;rw[i.o] at g;exact⟨⟨a - 1,b+f,by rw[show(((a - 1:Nat):Int))=(a:Int) - 1 from by omega],by go_num,(W.o (by omega) g (by rw[Jd];omega)).symm,g,Nat.le_trans (Nat.sub_le _ _) F.o,by rw[Jd];omega,j.o⟩,by simp[intOf];omega⟩
  ·have a7:a < 4294967296:=by rw[Jd] at h;omega
   have b2:P≤18446744073709551615:=by
    rw[← o.o];have:=Rk (show a < BB by omega) V.o;omega
   by_cases ht:Y < P
   ·have d:=Z (show qhat x y z f s≤a - 1 by
     have:=J38 (z:=z) (s:=s) A H.o (by rw[T.o,o.o];exact ht);omega)
    have u:1≤a:=by
     rcases Nat.eq_zero_or_pos a with I|I
     ·have:=o.o;rw[I] at this;simp at this;omega
     ·exact I
    clear h;by_cases N:4294967296≤b+f
    ·go_wp2_with fail;go_ret;refine⟨?_,j.o⟩;have h2:=R.o (by omega) d.o (by rw[Jd];exact N);show Ending.returned (Value.int .u64 ((a:Int) - 1)) = .returned (.int .u64 G);rw[show((a:Int) - 1)=(G:Int) from by omega]
    ·go_wp2_with fail;have g:=d.o;rw[i.o] at g;exact⟨⟨a - 1,b+f,by rw[show(((a - 1:Nat):Int))=(a:Int) - 1 from by omega],by go_num,(W.o (by omega) g (by rw[Jd];omega)).symm,g,Nat.le_trans (Nat.sub_le _ _) F.o,by rw[Jd];omega,j.o⟩,by simp[intOf];omega⟩
   ·have d:=Z (show a=G by rw[← i.o];exact J36 A H.o (by omega) (by rw[T.o,o.o];omega) a2.o);clear h;go_wp2_with fail;go_ret;exact⟨by rw[← d.o];rfl,j.o⟩
theorem J5y {A S q V N:Nat}{m:Nat}(h:m+S * (q * V)=N+A * 0)(a:N < S * ((q+1) * V)):m+S * (q * V)=N∧m < S * V:=by
 rw[Nat.mul_zero,Nat.add_zero] at h;rw[Nat.add_mul,Nat.one_mul,Nat.mul_add] at a;omega
theorem J5A {A S q V N m:Nat}(h:m+S * (q * V)=N+A * 1)(b:m < A):1≤q:=by
 rcases Nat.eq_zero_or_pos q with a|a
 ·subst a;rw[Nat.zero_mul,Nat.mul_zero] at h;omega
 ·exact a
theorem J5z {A S q V N m b c:Nat}(h:m+S * (q * V)=N+A * 1)(d:b+A * c=m+S * V)(i:m < A)(j:b < A)(g:c≤1)(f:q=0∨S * ((q - 1) * V)≤N)(l:1≤q):
  b+S * ((q - 1) * V)=N∧b < S * V:=by
 obtain⟨p,rfl⟩:∃ p,q=p+1:=⟨q - 1,by omega⟩
 rw[Nat.add_sub_cancel] at *;have k:S * (p * V)≤N:=by rcases f with a|a;omega;exact a
 rw[Nat.add_mul,Nat.one_mul,Nat.mul_add,Nat.mul_one] at h;rcases Nat.eq_zero_or_pos c with a|a
 ·subst a;rw[Nat.mul_zero] at d;omega
 ·have:c=1:=by omega
  subst this;rw[Nat.mul_one] at d;omega
theorem J4l (w:World)(g L a q:Nat)(vb:Value)(l lb:List Nat)(M:RowN w g l)(hL:l.length=L)(hb:NatL w vb lb)(b8:Nt g vb)(W:q < BB)
  (e9:L≤17592186044416) (d4:a+lb.length+1≤L) (hN:nval l < BB ^ (a+(lb.length+1)))
  (X:q=0∨BB ^ a * ((q - 1) * nval lb)≤nval l) (c0:nval l < BB ^ a * ((q+1) * nval lb)):
  Calls Tryz.prog 277 #[.slice (some ⟨g,0,none⟩) L L,vb,.int .i64 a,.int .u64 q] w fun e w'=>∃ (q':Nat) (m:List Nat),e = .returned (.int .u64 q')∧Jp g w w'∧RowN w' g m∧m.length=L∧
   nval m+BB ^ a * (q' * nval lb)=nval l∧nval m < BB ^ a * nval lb∧q' < BB:=by
 obtain⟨Q,HR,HL,HN,c6,c7,D,Hq⟩:=Z8 hb M hL hN X c0 b8 W;obtain⟨p,c,rfl,b1,b2,b3⟩:=hb.parts;have B3:=Z b3;obtain⟨k,hk⟩:∃ n,lb.length=n:=⟨_,rfl⟩
 rw[hk] at Q b1 d4 HN D ⊢;have Hk:=Z hk;have f0:q < 4294967296:=by rw[Jd] at W;exact W
 clear hb b3 hk M hL hN X c0 b8 W;go_enter Tryz.func277,Tryz.ntmps277;go_wp2_with fail;go_loopw [9,10,19] (fun f u i O=>∃ (j:Nat) (m:List Nat) (c b:Nat),j≤k+1∧i = .int .i64 j∧u = .int .u64 c∧f = .int .u64 b∧c < BB∧b≤1∧RowN O g m∧m.length=L∧
   nval m+BB ^ a * (q * nval (lb.take j))=nval l+BB ^ (a+j) * (c+b)∧(∀ t,a+j≤t→gd m t=gd l t)∧(k < j→c=0)∧Jp g w O) (fun _ _ i _=>k+1 - (intOf i).toNat)
 case atStart=>
  exact⟨0,l,0,0,by omega,rfl,rfl,rfl,Jt,by omega,HR.o,HL.o,by simp[nval],fun _ _=>rfl,fun _=>rfl,Jp.refl _ _⟩
 case round=>
  obtain⟨j,m,u,f,hj,rfl,rfl,rfl,V,b4,M,hm,hv,c3,b5,ho⟩:=hrel;obtain⟨r,x,Hv,S,c8,y,Hc⟩:=Z7 M hm hv c3 b5 ho V;have e5:u < 4294967296:=by rw[Jd] at V;exact V
  clear M hm hv c3 b5 ho V;by_cases e7:j < k+1
  ·have cR:=r.o.cell (i:=a+j) (by rw[x.o];omega);have fR:=r.o.free (a+j);have T:=B3.o.gd j;have H:=r.o.dig.gd (a+j);have d5:=Rk Hq.o T;rw[Jd] at T H;obtain⟨P,J⟩:∃ P,q * gd lb j=P:=⟨_,rfl⟩
   rw[J] at d5;have d9:(q:Int) * gd lb j=(P:Int):=by rw[← J];exact(Int.natCast_mul _ _).symm
   obtain⟨Y,hY⟩:∃ Y,P+u=Y:=⟨_,rfl⟩
   have e3:(P:Int)+u=(Y:Int):=by omega
   obtain⟨d,U⟩:∃ d,Y % BB=d:=⟨_,rfl⟩
   obtain⟨C,I⟩:∃ C,Y / BB=C:=⟨_,rfl⟩
   have e4:(Y:Int) % 4294967296=(d:Int):=by rw[← U,Jd];omega
   have d8:(Y:Int) / 4294967296=(C:Int):=by rw[← I,Jd];omega
   have e0:Y≤18446744073709551615:=by omega
   have a9:d < 4294967296:=by rw[← U,Jd];omega
   have a8:C < 4294967296:=by rw[← I,Jd];omega
   have a4:=Z (show q * gd lb j+u=d+BB * C by rw[J,hY,← U,← I];exact(Nat.mod_add_div Y BB).symm);have a3:=Z (show k < j+1→C=0 by
    intro h;have:j=k:=by omega
    rw[← I,← hY,← J,this,Qc (by rw[Hk.o];exact Nat.le_refl _),Nat.mul_zero,Nat.zero_add];exact Nat.div_eq_of_lt Hc.o)
   clear J hY U I;by_cases b6:gd m (a+j) < d+f
   ·obtain⟨F,G⟩:=U5 H a9 b4 b6;obtain⟨hd,A,B⟩:=Z3 (show(BB+gd m (a+j) - d - f) % BB+d+f=gd m (a+j)+BB * 1 by rw[Jd];omega) F G;clear F G;go_wp2_with fail;refine(Mo _ _ lb j (Q.o.keep D.o y.o) (by omega)).mono ?_;rintro _ _ ⟨rfl,rfl⟩;go_wp2_with fail;have K:a+j < m.length:=by rw[x.o];omega
    refine⟨⟨j+1,m.set (a+j) ((BB+gd m (a+j) - d - f) % BB),C,1,by omega,by go_num,rfl,by rw[B.o],by rw[Jd];exact a8,by omega,r.o.set (a+j) _ _ A.o (Nat.mod_lt _ Jt),by rw[List.length_set];exact x.o,?_,?_,a3.o,?_⟩,by simp[intOf];omega⟩
    ·rw[Lo];exact J0A K Hv.o a4.o hd.o
    ·intro t v;rw[Ma (by omega)];exact S.o t (by omega)
    ·exact y.o.trans (Jp.set _ _ _ _)
   ·obtain⟨F,G⟩:=U4 H a9 b4 b6;obtain⟨hd,A,B⟩:=Z3 (show(BB+gd m (a+j) - d - f) % BB+d+f=gd m (a+j)+BB * 0 by rw[Jd];omega) F G;clear F G;go_wp2_with fail;refine(Mo _ _ lb j (Q.o.keep D.o y.o) (by omega)).mono ?_;rintro _ _ ⟨rfl,rfl⟩;go_wp2_with fail;have K:a+j < m.length:=by rw[x.o];omega
    refine⟨⟨j+1,m.set (a+j) ((BB+gd m (a+j) - d - f) % BB),C,0,by omega,by go_num,rfl,by rw[B.o],by rw[Jd];exact a8,by omega,r.o.set (a+j) _ _ A.o (Nat.mod_lt _ Jt),by rw[List.length_set];exact x.o,?_,?_,a3.o,?_⟩,by simp[intOf];omega⟩
    ·rw[Lo];exact J0A K Hv.o a4.o hd.o
    ·intro t v;rw[Ma (by omega)];exact S.o t (by omega)
    ·exact y.o.trans (Jp.set _ _ _ _)
  ·obtain rfl:j=k+1:=by omega
   have d2:u=0:=c8.o (by omega);have a1:=Z (show nval m+BB ^ a * (q * nval lb)=nval l+BB ^ (a+(k+1)) * f by
    have:=Hv.o;rw[d2,Nat.zero_add,List.take_of_length_le (by rw[Hk.o];omega)] at this;exact this)
   have a5:=Z (J06 (k:=a+(k+1)) r.o.dig (fun t v=>by rw[S.o t v];exact Yd HR.o.dig HN.o v));rcases Nat.eq_zero_or_pos f with b0|b0
   ·subst b0;have E:=Z (J5y a1.o c7.o);go_wp2_with fail;go_ret;exact⟨q,m,rfl,y.o,r.o,x.o,E.o.1,E.o.2,Hq.o⟩
   ·have d1:f=1:=by omega
    subst d1;have d6:=Z (J5A a1.o a5.o);have X:1≤q:=d6.o;go_wp2_with fail;obtain⟨wo,a2⟩:∃ wo:World,wo=wr:=⟨_,rfl⟩
    rw[← a2];rw[← a2] at r y;clear a2;go_loopw [10,60] (fun u i O=>∃ (j:Nat) (o:List Nat) (c:Nat),j≤k+1∧i = .int .i64 j∧u = .int .u64 c∧c≤1∧RowN O g o∧o.length=L∧
     nval o+BB ^ (a+j) * c=nval m+BB ^ a * nval (lb.take j)∧(∀ t,a+j≤t→gd o t=gd m t)∧Jp g w O) (fun _ i _=>k+1 - (intOf i).toNat)
    case atStart=>
     exact⟨0,m,0,by omega,rfl,rfl,by omega,r.o,x.o,by simp[nval],fun _ _=>rfl,y.o⟩
    case round=>
     obtain⟨j,o,c2,e6,rfl,rfl,d3,c1,b7,c5,c4,b9⟩:=hrel;obtain⟨z,R,a7,a6,a0⟩:=Z5 c1 b7 c5 c4 b9;clear c1 b7 c5 c4 b9;by_cases e8:j < k+1
     ·have cR:=z.o.cell (i:=a+j) (by rw[R.o];omega);have fR:=z.o.free (a+j);have T:=B3.o.gd j;have H:=z.o.dig.gd (a+j);rw[Jd] at T H;obtain⟨s,N⟩:∃ s,s=gd o (a+j)+gd lb j+c2:=⟨_,rfl⟩
      obtain⟨Hs,d7,A,B⟩:=Z4 N (show s / BB≤1 by rw[N,Jd];omega) (show((gd o (a+j):Int)+gd lb j+c2) % 4294967296=((s % BB:Nat):Int) by rw[N,Jd];omega) (show((gd o (a+j):Int)+gd lb j+c2) / 4294967296=((s / BB:Nat):Int) by rw[N,Jd];omega);clear N;go_wp2_with fail
      go_quiet ((go_at_call 225;exact Calls.quiet_of_same ((Mo _ _ lb j ((Q.o.keep D.o a0.o).keep D.o (Jp.drewN _ _ _)) (by omega)).mono fun _ _ h=>⟨h.1,h.2.symm⟩)))
      go_wp2_with fail;have K:a+j < o.length:=by rw[R.o];omega
      refine⟨⟨j+1,o.set (a+j) (s % BB),s / BB,by omega,by go_num,by rw[B.o],d7.o,(z.o.grow ((Gr.refl wr).drewN nq)).set (a+j) (s % BB) _ A.o (Nat.mod_lt _ Jt),by rw[List.length_set];exact R.o,?_,?_,?_⟩,by simp[intOf];omega⟩
      ·rw[Lo];exact J2c K a7.o Hs.o
      ·intro t v;rw[Ma (by omega)];exact a6.o t (by omega)
      ·exact(a0.o.trans (Jp.drewN _ _ _)).trans (Jp.set _ _ _ _)
     ·obtain rfl:j=k+1:=by omega
      have d0:=Z (show nval o+BB ^ (a+(k+1)) * c2=nval m+BB ^ a * nval lb by
       have:=a7.o;rw[List.take_of_length_le (by rw[Hk.o];omega)] at this;exact this)
      have c9:=Z (J06 (k:=a+(k+1)) z.o.dig (fun t v=>by rw[a6.o t v,S.o t v];exact Yd HR.o.dig HN.o v));have E:=Z (J5z a1.o d0.o a5.o c9.o d3 c6.o X);have f1:=Hq.o;go_wp2_with fail;go_ret;refine⟨q - 1,o,?_,a0.o,z.o,R.o,E.o.1,E.o.2,by omega⟩;exact J0S (by omega)
theorem J4f (w:World)(m n:Value)(a lb:List Nat)(d:NatL w m a)(f:NatL w n lb)(B:a.length≤8796093022208)(C:lb.length≤8796093022208)(k:nval a < nval lb):
  Calls Tryz.prog 233 #[m,n] w (Ret w fun r w'=>∃ x y,r = .tuple #[x,y,.int .i64 0]∧NatL w' x (digs (nval a / nval lb))∧NatL w' y (digs (nval a % nval lb))):=by
 obtain⟨s,t,c,i,u⟩:=Z5 d f k (L5 a d.dig) (L5 lb f.dig);clear d f k;go_enter Tryz.func233,Tryz.ntmps233;go_wp2_with fail;refine(L3 _ _ a s.o).mono ?_;rintro _ _ ⟨⟨p,D,rfl,b⟩,rfl⟩;have j:=Z b;clear b;go_wp2_with fail;refine(L3 _ _ lb t.o).mono ?_;rintro _ _ ⟨⟨q,l,rfl,g⟩,rfl⟩;have A:l≠0:=by
  intro h;have:=g.len;rw[h,trimL] at this;have:=Ka.1 (List.eq_nil_of_length_eq_zero this);have:=c.o;omega
 have E:((l:Int) == 0)=false:=by simp;omega
 have v:=Z g;clear g A;go_wp2_with fail;refine(Or _ _ _ _ _ j.o v.o (Nat.le_trans i.o (by omega)) (Nat.le_trans u.o (by omega))).mono ?_;rintro _ _ ⟨rfl,rfl⟩;rw[trimL,trimL,Jf,Jf,Pc c.o];go_wp2_with fail;refine(Zr _ _ _ j.o (Nat.le_trans i.o (by omega))).mono ?_;rintro _ F ⟨r,rfl,g1,b⟩;obtain⟨o,z⟩:=Z2 g1 b;clear b g1;go_wp2_with fail;go_ret3;refine⟨_,rfl,o.o,_,_,rfl,?_,?_⟩
 ·rw[Nat.div_eq_of_lt c.o,Kr];exact NatL.nil _
 ·rw[Nat.mod_eq_of_lt c.o];exact z.o
theorem J4h (w:World)(M N:Value)(a lb:List Nat)(m:NatL w M a)(s:NatL w N lb)(a4:a.length≤8796093022208)(a5:lb.length≤8796093022208)(G:nval lb≤nval a)(l:(digs (nval lb)).length=1):
  Calls Tryz.prog 233 #[M,N] w (Ret w fun r w'=>∃ x y,r = .tuple #[x,y,.int .i64 0]∧NatL w' x (digs (nval a / nval lb))∧NatL w' y (digs (nval a % nval lb))):=by
 obtain⟨P,Q,T,z,a1⟩:=Z5 m s G (L5 a m.dig) (L5 lb s.dig);obtain⟨f,t⟩:∃ f,cmpZ (nval a) (nval lb)=f:=⟨_,rfl⟩
 have a2:¬ f < 0:=by rw[← t,Nw];omega
 have R:=Z t;have c:nval lb < BB:=by have:=Kt (n:=nval lb) (k:=1) (by omega);rwa [Nat.pow_one] at this
 have g:0 < nval lb:=by
  rcases Nat.eq_zero_or_pos (nval lb) with h|h
  ·rw[h,Kr] at l;cases l
  ·exact h
 obtain⟨d,i⟩:∃ d,nval lb=d:=⟨_,rfl⟩
 have Hd:=Z i;have E:digs (nval lb)=[d]:=by
  rw[i] at c g ⊢;rw[show d=d+BB * 0 from by omega,Q6 c (.inl (by omega)),Kr];rfl
 have S:=Z E;rw[i] at c g ⊢;have v:=Z c;clear m s G l t i E c;go_enter Tryz.func233,Tryz.ntmps233;go_wp2_with fail;refine(L3 _ _ a P.o).mono ?_;rintro _ _ ⟨⟨p,na,rfl,J⟩,rfl⟩;have A:=Z J;clear J;go_wp2_with fail;refine(L3 _ _ lb Q.o).mono ?_;rintro _ _ ⟨⟨q,nb,rfl,j⟩,rfl⟩;rw[trimL,S.o] at j;have a0:nb=1:=j.len.symm;subst a0;have B:=Z j;clear j;go_wp2_with fail;refine(Or _ _ _ _ _ A.o B.o (Nat.le_trans z.o (by omega)) (by simp)).mono ?_;rintro _ _ ⟨rfl,rfl⟩;have C:cmpZ (nval (trimL a)) (nval [d])=f:=by rw[← R.o,trimL,Jf,Hd.o];simp[nval]
 rw[C];clear C;obtain⟨b,o,rfl,Y⟩:=B.o.at 0 (by simp);have F:gd [d] 0=d:=rfl;rw[F,Nat.add_zero] at Y;have a3:d < 4294967296:=by have:=v.o;rwa [Jd] at this
 clear F;go_wp2_with fail;have I:trimL a≠[]:=fun e=>by
  have:=Ka.1 e;have X:=T.o;rw[Hd.o] at X;omega
 refine(J4n _ _ (trimL a) d A.o (Nat.le_trans z.o (by omega)) I g v.o).mono ?_;rintro _ w1 ⟨_,rfl,g1,x,rfl,K⟩;obtain⟨O,V⟩:=Z2 g1 K;have H:nval (trimL a) % d < 18446744073709551616:=by have:=Nat.mod_lt (nval (trimL a)) g;omega
 have U:=Z H;clear K g1 I H;go_wp2_with fail;refine(Mn _ _ U.o).mono ?_;rintro _ w2 ⟨y,rfl,D,L⟩;obtain⟨u,W⟩:=Z2 D L;clear L D;go_wp2_with fail;go_ret3;have e:nval (trimL a)=nval a:=Jf _;refine⟨_,rfl,O.o.trans u.o,_,_,rfl,?_,?_⟩
 ·have:=V.o.grow u.o;rwa [e] at this
 ·have:=W.o;rwa [e] at this
end Go.Proofs.YtcjgimlcefhhmaaGreatDoor
