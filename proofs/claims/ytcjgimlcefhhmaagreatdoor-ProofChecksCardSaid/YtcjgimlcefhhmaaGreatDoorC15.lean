/- Texts: PoA. -/
import Derived.Lib.SmallJoins
import Derived.Test.YtcjgimlcefhhmaaGreatDoorC14
set_option linter.unusedVariables false
set_option linter.unusedSimpArgs false
set_option maxRecDepth 100000
set_option maxHeartbeats 12800000
namespace Go.Proofs.YtcjgimlcefhhmaaGreatDoor
namespace Prf
open Go.ChangeShapes Go.WideShapes Go.ChangeAt Go.RowKit Go.Joins
def Jx {H:Type}(t:TypeId)(d:DataW H):Prop:=(d.weights Tryz.prog t).all (·≤reachBytes)=true
theorem J45 {α:Type}{n:Nat}{Q:Nat→α→Prop}(h:∀ i,i < n→∃ y,Q i y):∃ l:List α,l.length=n∧∀ i y,l[i]?=some y→Q i y:=by
 induction n with
 | zero=>exact⟨[],rfl,by simp⟩
 | succ n ih=>
  obtain⟨l,c,d⟩:=ih (fun i b=>h i (by omega));obtain⟨y,f⟩:=h n (by omega);refine⟨l ++ [y],by simp[c],fun i z a=>?_⟩;rcases Nat.lt_or_ge i l.length with b|b
  ·rw[List.getElem?_append_left b] at a;exact d i z a
  ·rw[List.getElem?_append_right b] at a;have:i - l.length=0:=by
    rcases Nat.eq_zero_or_pos (i - l.length) with h|h
    ·exact h
    ·rw[List.getElem?_eq_none (by simp;omega)] at a;cases a
   rw[this] at a;simp at a;subst a;rw[show i=n by omega];exact f
theorem J1D {H:Type}{e:TypeId}{d:DataW H}:∀ {l:List (DataW H)},d ∈ l→(DataW.weightsAll Tryz.prog e l).all (·≤reachBytes)=true→Jx e d
 | [],h,_=>by cases h
 | x :: l,h,hw=>by
  unfold DataW.weightsAll at hw;rw[List.all_append,Bool.and_eq_true] at hw;rcases List.mem_cons.1 h with rfl|h
  ·exact hw.1
  ·exact J1D h hw.2
section
variable {H:Type}{enc:TypeId × Value→H}{w:World}{fuel:Nat}{cs:List Value}{x:DataW H × List MemPlace}
theorem Ox {α:Type}{v:α→List Value}{sz:Nat}{t e:TypeId}{R:α→Prop}(U:Tryz.prog.underlying t=some (.slice e))(hc:Tryz.prog.cellsOf e=sz)(G:0 < sz)(Y:4≤Tryz.prog.bytesOf e)(F:∀ x,(v x).length=sz)
  (a0:∀ fuel cs (x:DataW H × List MemPlace),DataW.trod enc Tryz.prog w 0 (fun _=>true) true fuel e cs=some x→Jx e x.1→∃ y,cs=v y∧R y)
  (h:DataW.trod enc Tryz.prog w 0 (fun _=>true) true fuel t cs=some x) (I:Jx t x.1):
  ∃ (p:Option Addr) (l:List α) (c:Nat),cs=[.slice p l.length c]∧SlL w sz v (.slice p l.length c) l∧l.length≤35184372088832∧∀ y ∈ l,R y:=by
 rcases DataW.trod_slice U h with⟨rfl,rfl⟩|⟨a,D,r,E,J,n,rfl,rfl,rfl,_,hl,hm,a6,N,a2,_⟩
 ·exact⟨none,[],0,rfl,SlL.nil w,by simp,by simp⟩
 ·obtain⟨a7,T⟩:=a2 rfl;unfold Jx at I;simp only[DataW.weights,U,List.all_cons,List.all_append,Bool.and_eq_true,List.length_map,decide_eq_true_eq] at I;obtain⟨a4,a5,_⟩:=I;rw[hc] at N T;have K:∀ i,i < D→∃ y,w.cells? 0 (a.add (i * sz)) sz=some (v y)∧R y:=fun i m=>by
   have f:=N i m;have P:i < E.length:=by omega
   rw[List.getElem?_eq_getElem P,Option.bind_eq_some_iff] at f;obtain⟨k,A,q⟩:=f;obtain⟨y,rfl,X⟩:=a0 _ _ _ q (J1D (List.mem_map.2 ⟨_,List.getElem_mem P,rfl⟩) a5);exact⟨y,A,X⟩
  obtain⟨l,B,S⟩:=J45 K;have a3:0 < r→a.spot=none:=fun z=>by
   have f:∃ k,w.cells? 0 a sz=some k:=by
    by_cases L:0 < D
    ·obtain⟨y,q,_⟩:=K 0 L;exact⟨_,by simpa[Addr.add] using q⟩
    ·have g:=T 0 (by omega);have d:0 < J.length:=by omega
     rw[List.getElem?_eq_getElem d,Option.bind_eq_some_iff] at g;obtain⟨k,A,_⟩:=g;have e:(D+0) * sz=0:=by(have z:D=0:=(by omega));subst z;simp
     rw[e] at A;exact⟨k,by simpa[Addr.add] using A⟩
   obtain⟨k,f⟩:=f;obtain⟨_,L,g⟩:=World.cells?_some f;have d:=g 0 G;rw[List.getElem?_eq_getElem (by omega)] at d;unfold World.cell? at d;simp only[Addr.add,if_true] at d
   cases C:a.spot with
   | none=>rfl
   | some s=>
    rw[C] at d
    split at d<;>simp at d
  refine⟨some a,l,r,by rw[B],?_,?_,fun y q=>?_⟩
  ·rw[B];unfold SlL;rw[B];refine⟨by rw[K4 F,B],some a,r,rfl,hl,by simp only[maxLen] at hm;omega,?_⟩;by_cases z:r=0
   ·exact .inl z
   ·obtain⟨b,o,s⟩:=a;have C:=a3 (by omega);simp only at C;subst C;refine .inr ⟨b,o,rfl,fun j u V=>?_⟩;have hj:j < l.length * sz:=by
     have:=(List.getElem?_eq_some_iff.1 V).1
     rwa [K4 F] at this
    have m:j / sz < l.length:=by rw[Nat.div_lt_iff_lt_mul G];exact hj
    have Q:j % sz < sz:=Nat.mod_lt _ G;have W:l[j / sz]?=some l[j / sz]:=List.getElem?_eq_getElem m;have O:=Om F l (j / sz) _ (j % sz) W Q;have M:j / sz * sz+j % sz=j:=Nat.div_add_mod' j sz;rw[M,V] at O;obtain⟨a1,_⟩:=S _ _ W;obtain⟨_,_,g⟩:=World.cells?_some a1;have d:=g (j % sz) Q;rw[Nv,Nv,Nat.add_assoc,M,← O] at d;exact d
  ·have:(E.length+J.length) * 4≤(E.length+J.length) * Tryz.prog.bytesOf e:=Nat.mul_le_mul_left _ Y;unfold reachBytes at a4;omega
  ·obtain⟨i,m,e⟩:=List.getElem_of_mem q;exact(S i y (by rw[List.getElem?_eq_getElem m,e])).2
theorem one2 {α:Type}{l:List α}(h:l.length=2):∃ a0 a,l=[a0,a]:=by
 match l,h with
 | [a0,a],_=>exact⟨a0,a,rfl⟩
theorem one3 {α:Type}{l:List α}(h:l.length=3):∃ a0 a a2,l=[a0,a,a2]:=by
 match l,h with
 | [a0,a,a2],_=>exact⟨a0,a,a2,rfl⟩
theorem one4 {α:Type}{l:List α}(h:l.length=4):∃ a0 a a2 a3,l=[a0,a,a2,a3]:=by
 match l,h with
 | [a0,a,a2,a3],_=>exact⟨a0,a,a2,a3,rfl⟩
theorem one5 {α:Type}{l:List α}(h:l.length=5):∃ a0 a a2 a3 a4,l=[a0,a,a2,a3,a4]:=by
 match l,h with
 | [a0,a,a2,a3,a4],_=>exact⟨a0,a,a2,a3,a4,rfl⟩
theorem one8 {α:Type}{l:List α}(h:l.length=8):∃ a0 a a2 a3 a4 a5 b c,l=[a0,a,a2,a3,a4,a5,b,c]:=by
 match l,h with
 | [a0,a,a2,a3,a4,a5,b,c],_=>exact⟨a0,a,a2,a3,a4,a5,b,c,rfl⟩
theorem cS:Tryz.prog.cellsOf 9=1:=by kernel_rfl
theorem cI:Tryz.prog.cellsOf 3=1:=by kernel_rfl
theorem cJ:Tryz.prog.cellsOf 2=1:=by kernel_rfl
theorem cBo:Tryz.prog.cellsOf 4=1:=by kernel_rfl
theorem cN:Tryz.prog.cellsOf 64=1:=by kernel_rfl
theorem cZ:Tryz.prog.cellsOf 66=2:=by kernel_rfl
theorem cC:Tryz.prog.cellsOf 45=4:=by kernel_rfl
theorem cR:Tryz.prog.cellsOf 33=1:=by kernel_rfl
theorem cT:Tryz.prog.cellsOf 40=1:=by kernel_rfl
theorem cL:Tryz.prog.cellsOf 34=1:=by kernel_rfl
theorem cV:Tryz.prog.cellsOf 22=1:=by kernel_rfl
theorem cW:Tryz.prog.cellsOf 23=1:=by kernel_rfl
theorem J4G (h:DataW.trod enc Tryz.prog w 0 (fun _=>true) true fuel 9 cs=some x):∃ s:List UInt8,cs=[.string ⟨s.toArray⟩]∧s.length≤9223372036854775807:=by
 obtain⟨s,rfl,_,a⟩:=DataW.trod_string Tryz.underlying9 h;exact⟨s.data.toList,by rw[Array.toArray_toList],by simpa[maxLen] using a⟩
theorem N2 (h:DataW.trod enc Tryz.prog w 0 (fun _=>true) true fuel 3 cs=some x):∃ n:Int,cs=[.int .i64 n]∧I64 n:=by
 obtain⟨n,rfl,_,a⟩:=DataW.trod_int Tryz.underlying3 h;exact⟨n,rfl,by have:=bounds_i64 a;exact this⟩
theorem Pl (h:DataW.trod enc Tryz.prog w 0 (fun _=>true) true fuel 2 cs=some x):∃ n:Int,cs=[.int .i64 n]∧I64 n:=by
 obtain⟨n,rfl,_,a⟩:=DataW.trod_int Tryz.underlying2 h;exact⟨n,rfl,by have:=bounds_i64 a;exact this⟩
def encU (n:Nat):List Value:=[.int .u32 (n:Int)]
theorem Xz (x:Nat):(encU x).length=1:=rfl
theorem J4H (h:DataW.trod enc Tryz.prog w 0 (fun _=>true) true fuel 153 cs=some x):∃ n:Nat,cs=encU n∧n < BB:=by
 obtain⟨n,rfl,_,a⟩:=DataW.trod_int Tryz.underlying153 h;have a:0≤n∧n < 4294967296:=by
  simp[Lit.wf,IntKind.min,IntKind.max,IntKind.signed,IntKind.bits] at a;omega
 exact⟨n.toNat,by unfold encU;rw[Int.toNat_of_nonneg a.1],by rw[Jd];omega⟩
theorem J0c (h:DataW.trod enc Tryz.prog w 0 (fun _=>true) true fuel 64 cs=some x)(u:Jx 64 x.1):
  ∃ (p:Option Addr) (l:List Nat) (c:Nat),cs=[.slice p l.length c]∧NatL w (.slice p l.length c) l∧l.length≤35184372088832:=by
 obtain⟨p,l,c,g,j,k,m⟩:=Ox (R:=fun n:Nat=>n < BB) Tryz.underlying64 (show Tryz.prog.cellsOf 153=1 by kernel_rfl) (by decide) (of_decide_eq_true (by kernel_rfl)) Xz (fun fuel cs x h _=>J4H h) h u;refine⟨p,l,c,g,?_,k⟩;obtain⟨_,p',c',t,v,y,a⟩:=j;injection t with e1 e2 e3;subst e1 e3;refine⟨m,p,c,rfl,v,y,?_⟩;rcases a with a|⟨b,o,s,q⟩
 ·exact .inl a
 ·refine .inr ⟨b,o,s,fun i r=>?_⟩;have f:l[i]?=some l[i]:=List.getElem?_eq_getElem r;have d:=Om Xz l i _ 0 f (by decide);rw[Nat.mul_one,Nat.add_zero] at d;have:=q i (.int .u32 (l[i]:Int)) (by rw[d];rfl);rw[show gd l i=l[i] by unfold gd;simp[List.getD_eq_getElem?_getD,f]];exact this
def RatR (w:World)(x:RatM):Prop:=∃ l d,NatL w (.slice x.p x.k x.c) l∧NatL w (.slice x.q x.m x.e) d∧x.k=l.length∧x.m=d.length∧l.length≤35184372088832∧d.length≤35184372088832
theorem open_int (h:DataW.trod enc Tryz.prog w 0 (fun _=>true) true fuel 66 cs=some x)(a:Jx 66 x.1):∃ (b:Bool) (p:Option Addr) (l:List Nat) (c:Nat),cs=[.bool b,.slice p l.length c]∧NatL w (.slice p l.length c) l∧l.length≤35184372088832:=by
 obtain⟨xs,n,rfl,rfl,o,q,g⟩:=DataW.trod_struct Tryz.underlying66 h;obtain⟨v0,r,rfl⟩:=one2 (o.trans (show Tryz.prog.cellsOf 66=2 by kernel_rfl));obtain⟨s,t,rfl⟩:=one2 q;have i:DataW.trod enc Tryz.prog w 0 (fun _=>true) true n 4 [v0]=some s:=by simpa[cS,cI,cJ,cBo,cN,cZ,cC,cR,cT,cL,cV,cW] using g 0 _ rfl
 have j:DataW.trod enc Tryz.prog w 0 (fun _=>true) true n 64 [r]=some t:=by simpa[cS,cI,cJ,cBo,cN,cZ,cC,cR,cT,cL,cV,cW] using g 1 _ rfl
 unfold Jx at a;simp only[DataW.weights,Tryz.underlying66,List.map_cons,List.map_nil,DataW.weightsEach,List.all_append,Bool.and_eq_true] at a;obtain⟨b,d,_⟩:=DataW.trod_bool Tryz.underlying4 i;obtain⟨p,l,c,f,k,m⟩:=J0c j (by unfold Jx;exact a.2.1);simp only[List.cons.injEq,and_true] at d f;subst d f;exact⟨b,p,l,c,rfl,k,m⟩
theorem J4P (h:DataW.trod enc Tryz.prog w 0 (fun _=>true) true fuel 68 cs=some x)(a:Jx 68 x.1):∃ y:RatM,cs=encRat y∧RatR w y:=by
 obtain⟨xs,n,rfl,rfl,t,u,i⟩:=DataW.trod_struct Tryz.underlying68 h;obtain⟨v0,v,v2,rfl⟩:=one3 (t.trans (show Tryz.prog.cellsOf 68=3 by kernel_rfl));obtain⟨z,A,rfl⟩:=one2 u;have j:DataW.trod enc Tryz.prog w 0 (fun _=>true) true n 66 [v0,v]=some z:=by simpa[cS,cI,cJ,cBo,cN,cZ,cC,cR,cT,cL,cV,cW] using i 0 _ rfl
 have k:DataW.trod enc Tryz.prog w 0 (fun _=>true) true n 64 [v2]=some A:=by simpa[cS,cI,cJ,cBo,cN,cZ,cC,cR,cT,cL,cV,cW] using i 1 _ rfl
 unfold Jx at a;simp only[DataW.weights,Tryz.underlying68,List.map_cons,List.map_nil,DataW.weightsEach,List.all_append,Bool.and_eq_true] at a;obtain⟨b,p,l,c,f,m,o⟩:=open_int j (by unfold Jx;exact a.1);obtain⟨q,d,e,g,r,s⟩:=J0c k (by unfold Jx;exact a.2.1);simp only[List.cons.injEq,and_true] at f g;obtain⟨rfl,rfl⟩:=f;subst g;exact⟨⟨b,p,l.length,c,q,d.length,e⟩,rfl,l,d,m,r,rfl,rfl,o,s⟩
theorem J0d (h:DataW.trod enc Tryz.prog w 0 (fun _=>true) true fuel 33 cs=some x)(a:Jx 33 x.1):
  ∃ (p:Option Addr) (l:List RatM) (c:Nat),cs=[.slice p l.length c]∧SlL w 3 encRat (.slice p l.length c) l∧l.length≤35184372088832∧∀ y ∈ l,RatR w y:=
 Ox Tryz.underlying33 (show Tryz.prog.cellsOf 68=3 by kernel_rfl) (by decide) (of_decide_eq_true (by kernel_rfl)) L9 (fun fuel cs x h a=>J4P h a) h a
theorem J4S (h:DataW.trod enc Tryz.prog w 0 (fun _=>true) true fuel 75 cs=some x)(g:Jx 75 x.1):∃ y:Ji,cs=encTerm y∧Qy y:=by
 obtain⟨xs,n,rfl,rfl,m,o,f⟩:=DataW.trod_struct Tryz.underlying75 h;obtain⟨v0,p,rfl⟩:=one2 (m.trans (show Tryz.prog.cellsOf 75=2 by kernel_rfl));obtain⟨q,r,rfl⟩:=one2 o;have i:DataW.trod enc Tryz.prog w 0 (fun _=>true) true n 3 [v0]=some q:=by simpa[cS,cI,cJ,cBo,cN,cZ,cC,cR,cT,cL,cV,cW] using f 0 _ rfl
 have j:DataW.trod enc Tryz.prog w 0 (fun _=>true) true n 2 [p]=some r:=by simpa[cS,cI,cJ,cBo,cN,cZ,cC,cR,cT,cL,cV,cW] using f 1 _ rfl
 unfold Jx at g;simp only[DataW.weights,Tryz.underlying75,List.map_cons,List.map_nil,DataW.weightsEach,List.all_append,Bool.and_eq_true] at g;obtain⟨a,c,k⟩:=N2 i;obtain⟨b,d,l⟩:=Pl j;simp only[List.cons.injEq,and_true] at c d;subst c d;exact⟨⟨a,b⟩,rfl,k,l⟩
theorem J4T (h:DataW.trod enc Tryz.prog w 0 (fun _=>true) true fuel 40 cs=some x)(a:Jx 40 x.1):
  ∃ (p:Option Addr) (l:List Ji) (c:Nat),cs=[.slice p l.length c]∧Lg w (.slice p l.length c) l∧l.length≤35184372088832∧∀ y ∈ l,Qy y:=
 Ox Tryz.underlying40 (show Tryz.prog.cellsOf 75=2 by kernel_rfl) (by decide) (of_decide_eq_true (by kernel_rfl)) Mm (fun fuel cs x h a=>J4S h a) h a
def RowR (w:World)(x:RowM):Prop:=L2 w x∧RowI x.s∧x.terms.length≤35184372088832
theorem J4Q (h:DataW.trod enc Tryz.prog w 0 (fun _=>true) true fuel 42 cs=some x)(d:Jx 42 x.1):∃ y:RowM,cs=encRow y∧RowR w y∧y.name.length≤9223372036854775807:=by
 obtain⟨xs,n,rfl,rfl,F,I,a⟩:=DataW.trod_struct Tryz.underlying42 h;obtain⟨v0,J,v2,v3,v4,rfl⟩:=one5 (F.trans (show Tryz.prog.cellsOf 42=5 by kernel_rfl));obtain⟨K,L,M,N,O,rfl⟩:=one5 I;have q:DataW.trod enc Tryz.prog w 0 (fun _=>true) true n 9 [v0]=some K:=by simpa[cS,cI,cJ,cBo,cN,cZ,cC,cR,cT,cL,cV,cW] using a 0 _ rfl
 have r:DataW.trod enc Tryz.prog w 0 (fun _=>true) true n 3 [J]=some L:=by simpa[cS,cI,cJ,cBo,cN,cZ,cC,cR,cT,cL,cV,cW] using a 1 _ rfl
 have t:DataW.trod enc Tryz.prog w 0 (fun _=>true) true n 3 [v2]=some M:=by simpa[cS,cI,cJ,cBo,cN,cZ,cC,cR,cT,cL,cV,cW] using a 2 _ rfl
 have u:DataW.trod enc Tryz.prog w 0 (fun _=>true) true n 40 [v3]=some N:=by simpa[cS,cI,cJ,cBo,cN,cZ,cC,cR,cT,cL,cV,cW] using a 3 _ rfl
 have v:DataW.trod enc Tryz.prog w 0 (fun _=>true) true n 2 [v4]=some O:=by simpa[cS,cI,cJ,cBo,cN,cZ,cC,cR,cT,cL,cV,cW] using a 4 _ rfl
 unfold Jx at d;simp only[DataW.weights,Tryz.underlying42,List.map_cons,List.map_nil,DataW.weightsEach,List.all_append,Bool.and_eq_true] at d;obtain⟨s,f,G⟩:=J4G q;obtain⟨g,i,z⟩:=N2 r;obtain⟨k,j,A⟩:=N2 t;obtain⟨p,l,c,m,B,C,D⟩:=J4T u (by unfold Jx;exact d.2.2.2.1);obtain⟨b,o,E⟩:=Pl v;simp only[List.cons.injEq,and_true] at f i j m o;subst f i j m o;exact⟨⟨s,g,k,p,c,l,b⟩,rfl,⟨B,⟨z,A,E,D⟩,C⟩,G⟩
theorem J4U (h:DataW.trod enc Tryz.prog w 0 (fun _=>true) true fuel 62 cs=some x)(m:Jx 62 x.1):∃ y:VarM,cs=encVar y∧VarI y:=by
 obtain⟨xs,n,rfl,rfl,z,A,f⟩:=DataW.trod_struct Tryz.underlying62 h;obtain⟨v0,B,v2,v3,v4,rfl⟩:=one5 (z.trans (show Tryz.prog.cellsOf 62=5 by kernel_rfl));obtain⟨C,D,E,F,G,rfl⟩:=one5 A;have o:DataW.trod enc Tryz.prog w 0 (fun _=>true) true n 2 [v0]=some C:=by simpa[cS,cI,cJ,cBo,cN,cZ,cC,cR,cT,cL,cV,cW] using f 0 _ rfl
 have p:DataW.trod enc Tryz.prog w 0 (fun _=>true) true n 2 [B]=some D:=by simpa[cS,cI,cJ,cBo,cN,cZ,cC,cR,cT,cL,cV,cW] using f 1 _ rfl
 have q:DataW.trod enc Tryz.prog w 0 (fun _=>true) true n 4 [v2]=some E:=by simpa[cS,cI,cJ,cBo,cN,cZ,cC,cR,cT,cL,cV,cW] using f 2 _ rfl
 have r:DataW.trod enc Tryz.prog w 0 (fun _=>true) true n 4 [v3]=some F:=by simpa[cS,cI,cJ,cBo,cN,cZ,cC,cR,cT,cL,cV,cW] using f 3 _ rfl
 have s:DataW.trod enc Tryz.prog w 0 (fun _=>true) true n 2 [v4]=some G:=by simpa[cS,cI,cJ,cBo,cN,cZ,cC,cR,cT,cL,cV,cW] using f 4 _ rfl
 unfold Jx at m;simp only[DataW.weights,Tryz.underlying62,List.map_cons,List.map_nil,DataW.weightsEach,List.all_append,Bool.and_eq_true] at m;obtain⟨a,g,t⟩:=Pl o;obtain⟨b,i,u⟩:=Pl p;obtain⟨c,j,_⟩:=DataW.trod_bool Tryz.underlying4 q;obtain⟨d,k,_⟩:=DataW.trod_bool Tryz.underlying4 r;obtain⟨e,l,v⟩:=Pl s;simp only[List.cons.injEq,and_true] at g i j k l;subst g i j k l;exact⟨⟨a,b,c,d,e⟩,rfl,t,u,v⟩
theorem J4V (h:DataW.trod enc Tryz.prog w 0 (fun _=>true) true fuel 22 cs=some x)(a:Jx 22 x.1):
  ∃ (p:Option Addr) (l:List VarM) (c:Nat),cs=[.slice p l.length c]∧K8 w (.slice p l.length c) l∧l.length≤35184372088832∧∀ y ∈ l,VarI y:=
 Ox Tryz.underlying22 (show Tryz.prog.cellsOf 62=5 by kernel_rfl) (by decide) (of_decide_eq_true (by kernel_rfl)) K0 (fun fuel cs x h a=>J4U h a) h a
theorem J4R (h:DataW.trod enc Tryz.prog w 0 (fun _=>true) true fuel 23 cs=some x)(a:Jx 23 x.1):
  ∃ (p:Option Addr) (l:List RowM) (c:Nat),cs=[.slice p l.length c]∧SlL w 5 encRow (.slice p l.length c) l∧l.length≤35184372088832∧∀ y ∈ l,RowR w y∧y.name.length≤9223372036854775807:=
 Ox Tryz.underlying23 (show Tryz.prog.cellsOf 42=5 by kernel_rfl) (by decide) (of_decide_eq_true (by kernel_rfl)) Lk (fun fuel cs x h a=>J4Q h a) h a
theorem J4J (h:DataW.trod enc Tryz.prog w 0 (fun _=>true) true fuel 34 cs=some x)(a:Jx 34 x.1):
  ∃ (p:Option Addr) (l:List Int) (c:Nat),cs=[.slice p l.length c]∧Mi w (.slice p l.length c) l∧l.length≤35184372088832∧∀ y ∈ l,I64 y:=
 Ox Tryz.underlying34 (show Tryz.prog.cellsOf 3=1 by kernel_rfl) (by decide) (of_decide_eq_true (by kernel_rfl)) Xw (fun fuel cs x h a=>N2 h) h a
def Og (w:World)(p:Option Addr)(n c:Nat):Prop:=∃ T:List RatM,T.length=n∧SlL w 3 encRat (.slice p n c) T∧n≤35184372088832∧∀ y ∈ T,RatR w y
def Vt (w:World)(p:Option Addr)(n c:Nat):Prop:=∃ T:List Int,T.length=n∧Mi w (.slice p n c) T∧n≤35184372088832∧∀ y ∈ T,I64 y
structure Ns (w:World)(x:Jr):Prop where
 mult:Og w x.mp x.mn x.mc
 cmul:Og w x.cp x.cn x.cc
 vars:Vt w x.vp x.vn x.vc
 kind:I64 x.kind
 var:I64 x.var
 pos:I64 x.pos
 ck:I64 x.ck
 row:I64 x.row
theorem J4I (h:DataW.trod enc Tryz.prog w 0 (fun _=>true) true fuel 45 cs=some x)(g:Jx 45 x.1):∃ j o k i row z y v,cs=[.int .i64 j,.slice o k i,.int .i64 row,.slice z y v]∧I64 j∧Og w o k i∧I64 row∧Vt w z y v:=by
 obtain⟨xs,n,rfl,rfl,N,O,f⟩:=DataW.trod_struct Tryz.underlying45 h;obtain⟨v0,P,v2,v3,rfl⟩:=one4 (N.trans (show Tryz.prog.cellsOf 45=4 by kernel_rfl));obtain⟨Q,R,S,T,rfl⟩:=one4 O;have A:DataW.trod enc Tryz.prog w 0 (fun _=>true) true n 3 [v0]=some Q:=by simpa[cS,cI,cJ,cBo,cN,cZ,cC,cR,cT,cL,cV,cW] using f 0 _ rfl
 have B:DataW.trod enc Tryz.prog w 0 (fun _=>true) true n 33 [P]=some R:=by simpa[cS,cI,cJ,cBo,cN,cZ,cC,cR,cT,cL,cV,cW] using f 1 _ rfl
 have C:DataW.trod enc Tryz.prog w 0 (fun _=>true) true n 3 [v2]=some S:=by simpa[cS,cI,cJ,cBo,cN,cZ,cC,cR,cT,cL,cV,cW] using f 2 _ rfl
 have D:DataW.trod enc Tryz.prog w 0 (fun _=>true) true n 34 [v3]=some T:=by simpa[cS,cI,cJ,cBo,cN,cZ,cC,cR,cT,cL,cV,cW] using f 3 _ rfl
 unfold Jx at g;simp only[DataW.weights,Tryz.underlying45,List.map_cons,List.map_nil,DataW.weightsEach,List.all_append,Bool.and_eq_true] at g;obtain⟨a,r,E⟩:=N2 A;obtain⟨p,l,c,s,F,G,I⟩:=J0d B (by unfold Jx;exact g.2.1);obtain⟨b,t,J⟩:=N2 C;obtain⟨q,m,d,u,K,L,M⟩:=J4J D (by unfold Jx;exact g.2.2.2.1);simp only[List.cons.injEq,and_true] at r s t u;subst r s t u;exact⟨a,p,_,c,b,q,_,d,rfl,E,⟨l,rfl,F,G,I⟩,J,⟨m,rfl,K,L,M⟩⟩
theorem J4K (h:DataW.trod enc Tryz.prog w 0 (fun _=>true) true fuel 47 cs=some x)(g:Jx 47 x.1):∃ y:Jr,cs=encNode y∧Ns w y:=by
 obtain⟨xs,n,rfl,rfl,J,K,f⟩:=DataW.trod_struct Tryz.underlying47 h;obtain⟨v0,P,v2,v3,v4,v5,Q,R,rfl⟩:=one8 (J.trans (show Tryz.prog.cellsOf 47=8 by kernel_rfl));obtain⟨V,W,X,Y,x4,rfl⟩:=one5 K;have u:DataW.trod enc Tryz.prog w 0 (fun _=>true) true n 3 [v0]=some V:=by simpa[cS,cI,cJ,cBo,cN,cZ,cC,cR,cT,cL,cV,cW] using f 0 _ rfl
 have v:DataW.trod enc Tryz.prog w 0 (fun _=>true) true n 33 [P]=some W:=by simpa[cS,cI,cJ,cBo,cN,cZ,cC,cR,cT,cL,cV,cW] using f 1 _ rfl
 have z:DataW.trod enc Tryz.prog w 0 (fun _=>true) true n 3 [v2]=some X:=by simpa[cS,cI,cJ,cBo,cN,cZ,cC,cR,cT,cL,cV,cW] using f 2 _ rfl
 have A:DataW.trod enc Tryz.prog w 0 (fun _=>true) true n 2 [v3]=some Y:=by simpa[cS,cI,cJ,cBo,cN,cZ,cC,cR,cT,cL,cV,cW] using f 3 _ rfl
 have B:DataW.trod enc Tryz.prog w 0 (fun _=>true) true n 45 [v4,v5,Q,R]=some x4:=by simpa[cS,cI,cJ,cBo,cN,cZ,cC,cR,cT,cL,cV,cW] using f 4 _ rfl
 unfold Jx at g;simp only[DataW.weights,Tryz.underlying47,List.map_cons,List.map_nil,DataW.weightsEach,List.all_append,Bool.and_eq_true] at g;obtain⟨a,i,C⟩:=N2 u;obtain⟨p,l,c,j,D,E,F⟩:=J0d v (by unfold Jx;exact g.2.1);obtain⟨b,k,G⟩:=N2 z;obtain⟨d,m,I⟩:=Pl A;obtain⟨r,t,s,q,row,U,T,S,o,L,M,N,O⟩:=J4I B (by unfold Jx;exact g.2.2.2.2.1);simp only[List.cons.injEq,and_true] at i j k m o;subst i j k m;obtain⟨rfl,rfl,rfl,rfl⟩:=o;exact⟨⟨a,p,_,c,b,d,r,t,s,q,row,U,T,S⟩,rfl,⟨l,rfl,D,E,F⟩,M,O,C,G,I,L,N⟩
theorem J4L (h:DataW.trod enc Tryz.prog w 0 (fun _=>true) true fuel 26 cs=some x)(a:Jx 26 x.1):
  ∃ (p:Option Addr) (l:List Jr) (c:Nat),cs=[.slice p l.length c]∧SlL w 8 encNode (.slice p l.length c) l∧l.length≤35184372088832∧∀ y ∈ l,Ns w y:=
 Ox Tryz.underlying26 (show Tryz.prog.cellsOf 47=8 by kernel_rfl) (by decide) (of_decide_eq_true (by kernel_rfl)) N0 (fun fuel cs x h a=>J4K h a) h a
theorem J4N (h:DataW.trod enc Tryz.prog w 0 (fun _=>true) true fuel 25 cs=some x)(f:Jx 25 x.1):∃ (a:Option Addr) (V:List VarM) (c:Nat) (b:Option Addr) (T:List RowM) (d:Nat),cs=[.slice a V.length c,.slice b T.length d]∧K8 w (.slice a V.length c) V∧SlL w 5 encRow (.slice b T.length d) T∧(∀ y ∈ V,VarI y)∧(∀ y ∈ T,RowR w y∧y.name.length≤9223372036854775807)∧V.length≤35184372088832∧T.length≤35184372088832:=by
 obtain⟨xs,n,rfl,rfl,t,u,j⟩:=DataW.trod_struct Tryz.underlying25 h;obtain⟨v0,v,rfl⟩:=one2 (t.trans (show Tryz.prog.cellsOf 25=2 by kernel_rfl));obtain⟨z,A,rfl⟩:=one2 u;have k:DataW.trod enc Tryz.prog w 0 (fun _=>true) true n 22 [v0]=some z:=by simpa[cS,cI,cJ,cBo,cN,cZ,cC,cR,cT,cL,cV,cW] using j 0 _ rfl
 have l:DataW.trod enc Tryz.prog w 0 (fun _=>true) true n 23 [v]=some A:=by simpa[cS,cI,cJ,cBo,cN,cZ,cC,cR,cT,cL,cV,cW] using j 1 _ rfl
 unfold Jx at f;simp only[DataW.weights,Tryz.underlying25,List.map_cons,List.map_nil,DataW.weightsEach,List.all_append,Bool.and_eq_true] at f;obtain⟨a,V,c,g,m,o,p⟩:=J4V k (by unfold Jx;exact f.1);obtain⟨b,T,d,i,q,r,s⟩:=J4R l (by unfold Jx;exact f.2.1);simp only[List.cons.injEq,and_true] at g i;subst g i;exact⟨a,V,c,b,T,d,rfl,m,q,p,s,o,r⟩
end
end Prf
end Go.Proofs.YtcjgimlcefhhmaaGreatDoor
