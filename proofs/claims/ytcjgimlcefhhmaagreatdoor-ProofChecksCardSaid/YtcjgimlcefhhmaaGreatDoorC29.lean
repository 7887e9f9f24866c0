/- Texts: CuE CuF CuG CuI PvB PvC PvD PvE PvF PvG PvH PxA. -/
import Derived.Test.YtcjgimlcefhhmaaGreatDoorC27
import Derived.Test.YtcjgimlcefhhmaaGreatDoorC28
set_option linter.unusedVariables false
set_option linter.unusedSimpArgs false
set_option maxRecDepth 100000
set_option maxHeartbeats 12800000
namespace Go.Proofs.YtcjgimlcefhhmaaGreatDoor
namespace Prf
open Go.RowKit Go.Lib
theorem Yh:∀ (l:List Int) (a v:Int),IncI a (l ++ [v])↔IncI a l∧(l.getLast?.getD a) < v
 | [],a,v=>by simp[IncI]
 | x :: l,a,v=>by
  have:=Yh l x v;rw[List.cons_append];unfold IncI;rw[this,List.getLast?_cons,Option.getD_some,and_assoc]
def Of (p:Prg)(c:CutS):Prop:=c.row=0∧c.vars.length=0∧c.mult.length≤p.rows.length
def Nr (p:Prg)(c:CutS):Prop:=(c.mult.length=0∧0≤c.row∧c.row < (p.rows.length:Int)∧0 < c.vars.length)∧IncI (-1) c.vars∧∀ z ∈ c.vars,Kb p z
theorem J3l {p:Prg}{c:CutS}(h:c.kind=0):Kf p c↔Of p c:=by
 unfold Kf Of;simp only[List.length_eq_zero_iff];constructor
 ·rintro(⟨_,a,b,d⟩|⟨f,_⟩)
  ·exact⟨a,b,d⟩
  ·omega
 ·rintro⟨a,b,d⟩;exact .inl ⟨h,a,b,d⟩
theorem J3m {p:Prg}{c:CutS}(h:c.kind=1):Kf p c↔Nr p c:=by
 unfold Kf Nr;simp only[List.length_eq_zero_iff,List.length_pos_iff];constructor
 ·rintro(⟨j,_⟩|⟨_,a,b,d,e,f,g⟩)
  ·omega
  ·exact⟨⟨a,b,d,e⟩,f,g⟩
 ·rintro⟨⟨a,b,d,e⟩,f,g⟩;exact .inr ⟨h,a,b,d,e,f,g⟩
theorem J3n {p:Prg}{c:CutS}(h:c.kind≠0)(b:c.kind≠1):¬ Kf p c:=by
 rintro(⟨a,_⟩|⟨a,_⟩)
 ·exact h a
 ·exact b a
theorem J2m (w:World)(b u v cv G I:Nat)(C pv E F:Option Addr)(p:Prg)(c:CutS)(d:Ja w b #[.int .i64 c.kind,.slice C c.mult.length v,.int .i64 c.row,.slice pv c.vars.length cv])(y:Ja w u #[.slice E p.vars.length G,.slice F p.rows.length I]):
  Calls Tryz.prog 257 #[.pointer (some ⟨b,0,none⟩),.pointer (some ⟨u,0,none⟩)] w (Ret w fun r _=>Jb (Of p c) r):=by
 have N:=y.at 1 rfl;obtain⟨m,k⟩:∃ z,c.row=z:=⟨_,rfl⟩
 have L:w.cell? ⟨b,2,none⟩=some (.int .i64 m):=by rw[← k];exact d.at 2 rfl
 have s:=Z k;obtain⟨l,j⟩:∃ z,c.vars.length=z:=⟨_,rfl⟩
 have q:=Z j;obtain⟨A,g⟩:∃ z,c.mult.length=z:=⟨_,rfl⟩
 have n:=Z g;have M:w.cell? ⟨b,3,none⟩=some (.slice pv l cv):=by rw[← j];exact d.at 3 rfl
 have K:w.cell? ⟨b,1,none⟩=some (.slice C A v):=by rw[← g];exact d.at 1 rfl
 clear d y k j g;by_cases f:m=0
 ·subst f;by_cases x:l=0
  ·subst x;by_cases J:(A:Int)≤(p.rows.length:Int)
   ·have H:=Z (show Of p c from⟨s.o,q.o,by rw[n.o];omega⟩);go_enter Tryz.func257,Tryz.ntmps257;go_wp2_with fail;go_ret;exact⟨_,rfl,Gr.refl _,Jb.yes H.o⟩
   ·have H:=Z (show ¬ Of p c from fun h=>by(have:=h.2.2;rw[n.o] at this;omega));go_enter Tryz.func257,Tryz.ntmps257;go_wp2_with fail;go_ret;exact⟨_,rfl,Gr.refl _,Jb.no H.o⟩
  ·have D:((l:Int) == 0)=false:=by simpa using x
   have H:=Z (show ¬ Of p c from fun h=>by(have:=h.2.1;rw[q.o] at this;omega));go_enter Tryz.func257,Tryz.ntmps257;go_wp2_with fail;go_ret;exact⟨_,rfl,Gr.refl _,Jb.no H.o⟩
 ·have D:(m == 0)=false:=by simpa using f
  have H:=Z (show ¬ Of p c from fun h=>f (by rw[← s.o];exact h.1));go_enter Tryz.func257,Tryz.ntmps257;go_wp2_with fail;go_ret;exact⟨_,rfl,Gr.refl _,Jb.no H.o⟩
def BIs (b:Bool)(P:Prop):Prop:=b=true↔P
def FmG (p:Prg)(c:CutS):Prop:=c.mult.length=0∧0≤c.row∧c.row < (p.rows.length:Int)∧0 < c.vars.length
def FmK (p:Prg)(c:CutS)(k:Nat):Prop:=FmG p c∧IncI (-1) (c.vars.take k)∧∀ z ∈ c.vars.take k,Kb p z
def FmL (c:CutS)(k:Nat):Int:=(c.vars.take k).getLast?.getD (-1)
def FmN (p:Prg)(c:CutS)(k:Nat)(z:Int):Prop:=FmL c k < z∧Kb p z
def Jv (p:Prg)(c:CutS)(k:Nat)(vl vg:Value):Prop:=∃ g:Bool,vl = .int .i64 (FmL c k)∧vg = .bool g∧BIs g (FmK p c k)
theorem Jv.start {p:Prg}{c:CutS}{g:Bool}(h:BIs g (FmG p c)):Jv p c 0 (.int .i64 (-1)) (.bool g):=
 ⟨g,by simp[FmL],rfl,Iff.trans h ⟨fun h=>⟨h,by simp[IncI],by simp⟩,fun h=>h.1⟩⟩
theorem Jv.next {p:Prg}{c:CutS}{k:Nat}{g:Bool}{z:Int}(q:c.vars[k]?=some z)(h:BIs g (FmK p c k))(j:Bool)(m:j=true↔g=true∧FmN p c k z):Jv p c (k+1) (.int .i64 z) (.bool j):=by
 have n:c.vars.take (k+1)=c.vars.take k ++ [z]:=by rw[List.take_add_one,q];rfl
 refine⟨j,by unfold FmL;rw[n];simp,rfl,?_⟩;unfold BIs at h ⊢;unfold FmK at h ⊢;unfold FmN FmL at m;rw[m,h,n,Yh];simp only[List.mem_append,List.mem_singleton];constructor
 ·rintro⟨⟨a,b,d⟩,e,f⟩;exact⟨a,⟨b,e⟩,fun y l=>l.elim (d y) fun e=>by rw[e];exact f⟩
 ·rintro⟨a,⟨b,e⟩,d⟩;exact⟨⟨a,b,fun y l=>d y (.inl l)⟩,e,d z (.inr rfl)⟩
theorem Jv.nextF {p:Prg}{c:CutS}{k:Nat}{z:Int}(hz:c.vars[k]?=some z)(h:BIs false (FmK p c k)):Jv p c (k+1) (.int .i64 z) (.bool false):=Jv.next hz h false (by simp)
theorem Jv.nextT {p:Prg}{c:CutS}{k:Nat}{z:Int}(hz:c.vars[k]?=some z)(h:BIs true (FmK p c k))(b:FmN p c k z):Jv p c (k+1) (.int .i64 z) (.bool true):=Jv.next hz h true (by simp[b])
theorem Jv.nextN {p:Prg}{c:CutS}{k:Nat}{z:Int}(hz:c.vars[k]?=some z)(h:BIs true (FmK p c k))(b:¬ FmN p c k z):Jv p c (k+1) (.int .i64 z) (.bool false):=Jv.next hz h false (by simp[b])
theorem J2n (w:World)(bc bp cm cv vc vd:Nat)(pm pv va vb:Option Addr)(p:Prg)(c:CutS)(hc:Ja w bc #[.int .i64 c.kind,.slice pm c.mult.length cm,.int .i64 c.row,.slice pv c.vars.length cv])(hb:Ja w bp #[.slice va p.vars.length vc,.slice vb p.rows.length vd])
  (hp:Js w (.agg #[.slice va p.vars.length vc,.slice vb p.rows.length vd]) p) (hv:Mi w (.slice pv c.vars.length cv) c.vars) (a7:c.vars.length≤1000):
  Calls Tryz.prog 258 #[.pointer (some ⟨bc,0,none⟩),.pointer (some ⟨bp,0,none⟩)] w (Ret w fun r _=>Jb (Nr p c) r):=by
 obtain⟨H,X⟩:=Z2 hb hp;obtain⟨a1,a6⟩:∃ z,c.row=z:=⟨_,rfl⟩
 have Y:=Z a6;obtain⟨d,a0⟩:∃ z,c.vars.length=z:=⟨_,rfl⟩
 have v:=Z a0;obtain⟨nm,a5⟩:∃ z,c.mult.length=z:=⟨_,rfl⟩
 obtain⟨V,HV⟩:=Z2 a5 (show Mi w (.slice pv d cv) c.vars from by rw[← a0];exact hv);have x1:∀ w',Gr w w'→w'.cell? ⟨bc,1,none⟩=some (.slice pm nm cm):=by rw[← a5];exact hc.c 1 rfl
 have x2:∀ w',Gr w w'→w'.cell? ⟨bc,2,none⟩=some (.int .i64 a1):=by rw[← a6];exact hc.c 2 rfl
 have I:∀ w',Gr w w'→w'.cell? ⟨bc,3,none⟩=some (.slice pv d cv):=by rw[← a0];exact hc.c 3 rfl
 have y1:=hb.c 1 rfl;rw[a0] at a7;clear hc hb hp hv a6 a0 a5;go_enter Tryz.func258,Tryz.ntmps258;go_wp2_with fail;have m:Gr w w.drew:=(Gr.refl _).drew;by_cases h0:nm=0
 ·subst h0;by_cases q:0≤a1
  ·by_cases s:a1 < (p.rows.length:Int)
   ·by_cases h3:(0:Int) < (d:Int)
    ·have e2:decide (0 < d)=true:=decide_eq_true (by omega);have J:=Z (show BIs true (FmG p c) from by unfold BIs FmG;exact(by rw[V.o,Y.o,v.o];simp;omega));refine Jl [(0,true),(1,true),(2,true),(3,true),(4,true),(5,true),(6,true),(7,true),(8,true),(9,true),(10,true),(11,true),(12,true),(13,true),(14,true),(15,true),(16,true),(17,true),(18,true),(19,true),(20,true),(21,true),(22,true),(23,true),(24,true)] ?_;generalize w.drew=W at m ⊢;repeat(first|(refine Jw (h:=?_))|(refine Jc m (h:=?_)))
     refine Jg ?_;have G:=Z m;have T:=I W m;clear x1 x2 I y1 m;go_wp2_with fail;clear T;go_loopw [3,4,33] (fun R O i S=>∃ k:Nat,i = .int .i64 (k:Int)∧k≤d∧Jv p c k R O∧Gr w S) (fun _ _ i _=>d - (RowKit.intOf i).toNat)
     case atStart=>exact⟨0,rfl,Nat.zero_le _,Jv.start J.o,G.o⟩
     case round=>
      clear G;obtain⟨k,rfl,hk,⟨g,rfl,rfl,C⟩,D⟩:=hrel;obtain⟨f,G⟩:=Z2 C D;clear C D;by_cases L:k < d
      ·have a4:(k:Int) < (d:Int):=by omega
       have a3:IntKind.i64.wrap ((k:Int)+1)=(k:Int)+1:=by rw[IntKind.wrap_i64];omega
       obtain⟨b,o,z,rfl,E,A⟩:=Lm HV.o v.o (show k < d from L);have n:=Z E;have z0:=A wr G.o;obtain⟨F,u⟩:∃ z,FmL c k=z:=⟨_,rfl⟩
       have x:=Z u;rw[u];clear E A u
       cases g
       ·go_wp2_with fail;exact⟨⟨k+1,by go_num,by omega,Jv.nextF n.o f.o,G.o⟩,by simp[RowKit.intOf];omega⟩
       ·by_cases q:F < z
        ·have M:=(H.o.grow G.o).at 0 rfl;have N:=(H.o.grow G.o).at 1 rfl;have K:=Z q;go_wp2_with fail;clear M N;refine(P3 wr _ p z (X.o.grow G.o)).mono ?_;rintro _ w2 ⟨r2,rfl,y,s⟩;have G:=Z (G.o.trans y);clear y;rcases s.cases with⟨rfl,l⟩|⟨rfl,l⟩
         ·have j:=Z (show FmN p c k z from⟨by rw[x.o];exact K.o,l⟩);clear s l;go_wp2_with fail;exact⟨⟨k+1,by go_num,by omega,Jv.nextT n.o f.o j.o,G.o⟩,by simp[RowKit.intOf];omega⟩
         ·have j:=Z (show ¬ FmN p c k z from fun h=>l h.2);clear s l;go_wp2_with fail;exact⟨⟨k+1,by go_num,by omega,Jv.nextN n.o f.o j.o,G.o⟩,by simp[RowKit.intOf];omega⟩
        ·have a2:z≤F:=by omega
         have j:=Z (show ¬ FmN p c k z from fun h=>q (by rw[← x.o];exact h.1));clear q;go_wp2_with fail;exact⟨⟨k+1,by go_num,by omega,Jv.nextN n.o f.o j.o,G.o⟩,by simp[RowKit.intOf];omega⟩
      ·obtain rfl:k=d:=by omega
       go_wp2_with fail;go_ret;refine⟨_,rfl,G.o,g,rfl,?_⟩;have h:=f.o;unfold BIs FmK FmG at h;unfold Nr;rw[h,← v.o,List.take_length]
    ·have e2:decide (0 < d)=false:=decide_eq_false (by omega);have U:=Z h3;clear h3;have J:=Z (show BIs false (FmG p c) from by unfold BIs FmG;exact(by have hx:=U.o;rw[V.o,Y.o,v.o];simp;omega));refine Jl [(0,true),(1,true),(2,true),(3,true),(4,true),(5,true),(6,true),(7,true),(8,true),(9,true),(10,true),(11,true),(12,true),(13,true),(14,true),(15,true),(16,true),(17,true),(18,true),(19,true),(20,true),(21,true),(22,true),(23,true),(24,true)] ?_;generalize w.drew=W at m ⊢;repeat(first|(refine Jw (h:=?_))|(refine Jc m (h:=?_)))
     refine Jg ?_;have G:=Z m;have T:=I W m;clear x1 x2 I y1 m;go_wp2_with fail;clear T;go_loopw [3,4,33] (fun R O i S=>∃ k:Nat,i = .int .i64 (k:Int)∧k≤d∧Jv p c k R O∧Gr w S) (fun _ _ i _=>d - (RowKit.intOf i).toNat)
     case atStart=>exact⟨0,rfl,Nat.zero_le _,Jv.start J.o,G.o⟩
     case round=>
      clear G;obtain⟨k,rfl,hk,⟨g,rfl,rfl,C⟩,D⟩:=hrel;obtain⟨f,G⟩:=Z2 C D;clear C D;by_cases L:k < d
      ·have a4:(k:Int) < (d:Int):=by omega
       have a3:IntKind.i64.wrap ((k:Int)+1)=(k:Int)+1:=by rw[IntKind.wrap_i64];omega
       obtain⟨b,o,z,rfl,E,A⟩:=Lm HV.o v.o (show k < d from L);have n:=Z E;have z0:=A wr G.o;obtain⟨F,u⟩:∃ z,FmL c k=z:=⟨_,rfl⟩
       have x:=Z u;rw[u];clear E A u
       cases g
       ·go_wp2_with fail;exact⟨⟨k+1,by go_num,by omega,Jv.nextF n.o f.o,G.o⟩,by simp[RowKit.intOf];omega⟩
       ·by_cases q:F < z
        ·have M:=(H.o.grow G.o).at 0 rfl;have N:=(H.o.grow G.o).at 1 rfl;have K:=Z q;go_wp2_with fail;clear M N;refine(P3 wr _ p z (X.o.grow G.o)).mono ?_;rintro _ w2 ⟨r2,rfl,y,s⟩;have G:=Z (G.o.trans y);clear y;rcases s.cases with⟨rfl,l⟩|⟨rfl,l⟩
         ·have j:=Z (show FmN p c k z from⟨by rw[x.o];exact K.o,l⟩);clear s l;go_wp2_with fail;exact⟨⟨k+1,by go_num,by omega,Jv.nextT n.o f.o j.o,G.o⟩,by simp[RowKit.intOf];omega⟩
         ·have j:=Z (show ¬ FmN p c k z from fun h=>l h.2);clear s l;go_wp2_with fail;exact⟨⟨k+1,by go_num,by omega,Jv.nextN n.o f.o j.o,G.o⟩,by simp[RowKit.intOf];omega⟩
        ·have a2:z≤F:=by omega
         have j:=Z (show ¬ FmN p c k z from fun h=>q (by rw[← x.o];exact h.1));clear q;go_wp2_with fail;exact⟨⟨k+1,by go_num,by omega,Jv.nextN n.o f.o j.o,G.o⟩,by simp[RowKit.intOf];omega⟩
      ·obtain rfl:k=d:=by omega
       go_wp2_with fail;go_ret;refine⟨_,rfl,G.o,g,rfl,?_⟩;have h:=f.o;unfold BIs FmK FmG at h;unfold Nr;rw[h,← v.o,List.take_length]
   ·have e2:decide (a1 < (p.rows.length:Int))=false:=decide_eq_false s;have U:=Z s;have J:=Z (show BIs false (FmG p c) from by unfold BIs FmG;exact(by have hx:=U.o;rw[V.o,Y.o,v.o];simp;omega));refine Jl [(0,true),(1,true),(2,true),(3,true),(4,true),(5,true),(6,true),(7,true),(8,true),(9,true),(10,true),(11,true),(12,true),(13,true),(14,true),(15,true),(16,true),(17,true),(18,true),(19,true),(20,true),(21,true),(22,true),(23,true),(24,true)] ?_;generalize w.drew=W at m ⊢;repeat(first|(refine Jw (h:=?_))|(refine Jc m (h:=?_)))
    refine Jg ?_;have G:=Z m;have T:=I W m;clear x1 x2 I y1 m;go_wp2_with fail;clear T;go_loopw [3,4,33] (fun R O i S=>∃ k:Nat,i = .int .i64 (k:Int)∧k≤d∧Jv p c k R O∧Gr w S) (fun _ _ i _=>d - (RowKit.intOf i).toNat)
    case atStart=>exact⟨0,rfl,Nat.zero_le _,Jv.start J.o,G.o⟩
    case round=>
     clear G;obtain⟨k,rfl,hk,⟨g,rfl,rfl,C⟩,D⟩:=hrel;obtain⟨f,G⟩:=Z2 C D;clear C D;by_cases L:k < d
     ·have a4:(k:Int) < (d:Int):=by omega
      have a3:IntKind.i64.wrap ((k:Int)+1)=(k:Int)+1:=by rw[IntKind.wrap_i64];omega
      obtain⟨b,o,z,rfl,E,A⟩:=Lm HV.o v.o (show k < d from L);have n:=Z E;have z0:=A wr G.o;obtain⟨F,u⟩:∃ z,FmL c k=z:=⟨_,rfl⟩
      have x:=Z u;rw[u];clear E A u
      cases g
      ·go_wp2_with fail;exact⟨⟨k+1,by go_num,by omega,Jv.nextF n.o f.o,G.o⟩,by simp[RowKit.intOf];omega⟩
      ·by_cases q:F < z
       ·have M:=(H.o.grow G.o).at 0 rfl;have N:=(H.o.grow G.o).at 1 rfl;have K:=Z q;go_wp2_with fail;clear M N;refine(P3 wr _ p z (X.o.grow G.o)).mono ?_;rintro _ w2 ⟨r2,rfl,y,s⟩;have G:=Z (G.o.trans y);clear y;rcases s.cases with⟨rfl,l⟩|⟨rfl,l⟩
        ·have j:=Z (show FmN p c k z from⟨by rw[x.o];exact K.o,l⟩);clear s l;go_wp2_with fail;exact⟨⟨k+1,by go_num,by omega,Jv.nextT n.o f.o j.o,G.o⟩,by simp[RowKit.intOf];omega⟩
        ·have j:=Z (show ¬ FmN p c k z from fun h=>l h.2);clear s l;go_wp2_with fail;exact⟨⟨k+1,by go_num,by omega,Jv.nextN n.o f.o j.o,G.o⟩,by simp[RowKit.intOf];omega⟩
       ·have a2:z≤F:=by omega
        have j:=Z (show ¬ FmN p c k z from fun h=>q (by rw[← x.o];exact h.1));clear q;go_wp2_with fail;exact⟨⟨k+1,by go_num,by omega,Jv.nextN n.o f.o j.o,G.o⟩,by simp[RowKit.intOf];omega⟩
     ·obtain rfl:k=d:=by omega
      go_wp2_with fail;go_ret;refine⟨_,rfl,G.o,g,rfl,?_⟩;have h:=f.o;unfold BIs FmK FmG at h;unfold Nr;rw[h,← v.o,List.take_length]
  ·have e2:decide (0≤a1)=false:=decide_eq_false q;have U:=Z q;have J:=Z (show BIs false (FmG p c) from by unfold BIs FmG;exact(by have hx:=U.o;rw[V.o,Y.o,v.o];simp;omega));refine Jl [(0,true),(1,true),(2,true),(3,true),(4,true),(5,true),(6,true),(7,true),(8,true),(9,true),(10,true),(11,true),(12,true),(13,true),(14,true),(15,true),(16,true),(17,true),(18,true),(19,true),(20,true),(21,true),(22,true),(23,true),(24,true)] ?_;generalize w.drew=W at m ⊢;repeat(first|(refine Jw (h:=?_))|(refine Jc m (h:=?_)))
   refine Jg ?_;have G:=Z m;have T:=I W m;clear x1 x2 I y1 m;go_wp2_with fail;clear T;go_loopw [3,4,33] (fun R O i S=>∃ k:Nat,i = .int .i64 (k:Int)∧k≤d∧Jv p c k R O∧Gr w S) (fun _ _ i _=>d - (RowKit.intOf i).toNat)
   case atStart=>exact⟨0,rfl,Nat.zero_le _,Jv.start J.o,G.o⟩
   case round=>
    clear G;obtain⟨k,rfl,hk,⟨g,rfl,rfl,C⟩,D⟩:=hrel;obtain⟨f,G⟩:=Z2 C D;clear C D;by_cases L:k < d
    ·have a4:(k:Int) < (d:Int):=by omega
     have a3:IntKind.i64.wrap ((k:Int)+1)=(k:Int)+1:=by rw[IntKind.wrap_i64];omega
     obtain⟨b,o,z,rfl,E,A⟩:=Lm HV.o v.o (show k < d from L);have n:=Z E;have z0:=A wr G.o;obtain⟨F,u⟩:∃ z,FmL c k=z:=⟨_,rfl⟩
     have x:=Z u;rw[u];clear E A u
     cases g
     ·go_wp2_with fail;exact⟨⟨k+1,by go_num,by omega,Jv.nextF n.o f.o,G.o⟩,by simp[RowKit.intOf];omega⟩
     ·by_cases q:F < z
      ·have M:=(H.o.grow G.o).at 0 rfl;have N:=(H.o.grow G.o).at 1 rfl;have K:=Z q;go_wp2_with fail;clear M N;refine(P3 wr _ p z (X.o.grow G.o)).mono ?_;rintro _ w2 ⟨r2,rfl,y,s⟩;have G:=Z (G.o.trans y);clear y;rcases s.cases with⟨rfl,l⟩|⟨rfl,l⟩
       ·have j:=Z (show FmN p c k z from⟨by rw[x.o];exact K.o,l⟩);clear s l;go_wp2_with fail;exact⟨⟨k+1,by go_num,by omega,Jv.nextT n.o f.o j.o,G.o⟩,by simp[RowKit.intOf];omega⟩
       ·have j:=Z (show ¬ FmN p c k z from fun h=>l h.2);clear s l;go_wp2_with fail;exact⟨⟨k+1,by go_num,by omega,Jv.nextN n.o f.o j.o,G.o⟩,by simp[RowKit.intOf];omega⟩
      ·have a2:z≤F:=by omega
       have j:=Z (show ¬ FmN p c k z from fun h=>q (by rw[← x.o];exact h.1));clear q;go_wp2_with fail;exact⟨⟨k+1,by go_num,by omega,Jv.nextN n.o f.o j.o,G.o⟩,by simp[RowKit.intOf];omega⟩
    ·obtain rfl:k=d:=by omega
     go_wp2_with fail;go_ret;refine⟨_,rfl,G.o,g,rfl,?_⟩;have h:=f.o;unfold BIs FmK FmG at h;unfold Nr;rw[h,← v.o,List.take_length]
 ·have e1:((nm:Int) == 0)=false:=by simpa using h0
  have U:=Z h0;clear h0;have J:=Z (show BIs false (FmG p c) from by unfold BIs FmG;exact(by have hx:=U.o;rw[V.o,Y.o,v.o];simp;omega));refine Jl [(0,true),(1,true),(2,true),(3,true),(4,true),(5,true),(6,true),(7,true),(8,true),(9,true),(10,true),(11,true),(12,true),(13,true),(14,true),(15,true),(16,true),(17,true),(18,true),(19,true),(20,true),(21,true),(22,true),(23,true),(24,true)] ?_;generalize w.drew=W at m ⊢;repeat(first|(refine Jw (h:=?_))|(refine Jc m (h:=?_)))
  refine Jg ?_;have G:=Z m;have T:=I W m;clear x1 x2 I y1 m;go_wp2_with fail;clear T;go_loopw [3,4,33] (fun R O i S=>∃ k:Nat,i = .int .i64 (k:Int)∧k≤d∧Jv p c k R O∧Gr w S) (fun _ _ i _=>d - (RowKit.intOf i).toNat)
  case atStart=>exact⟨0,rfl,Nat.zero_le _,Jv.start J.o,G.o⟩
  case round=>
   clear G;obtain⟨k,rfl,hk,⟨g,rfl,rfl,C⟩,D⟩:=hrel;obtain⟨f,G⟩:=Z2 C D;clear C D;by_cases L:k < d
   ·have a4:(k:Int) < (d:Int):=by omega
    have a3:IntKind.i64.wrap ((k:Int)+1)=(k:Int)+1:=by rw[IntKind.wrap_i64];omega
    obtain⟨b,o,z,rfl,E,A⟩:=Lm HV.o v.o (show k < d from L);have n:=Z E;have z0:=A wr G.o;obtain⟨F,u⟩:∃ z,FmL c k=z:=⟨_,rfl⟩
    have x:=Z u;rw[u];clear E A u
    cases g
    ·go_wp2_with fail;exact⟨⟨k+1,by go_num,by omega,Jv.nextF n.o f.o,G.o⟩,by simp[RowKit.intOf];omega⟩
    ·by_cases q:F < z
     ·have M:=(H.o.grow G.o).at 0 rfl;have N:=(H.o.grow G.o).at 1 rfl;have K:=Z q;go_wp2_with fail;clear M N;refine(P3 wr _ p z (X.o.grow G.o)).mono ?_;rintro _ w2 ⟨r2,rfl,y,s⟩;have G:=Z (G.o.trans y);clear y;rcases s.cases with⟨rfl,l⟩|⟨rfl,l⟩
      ·have j:=Z (show FmN p c k z from⟨by rw[x.o];exact K.o,l⟩);clear s l;go_wp2_with fail;exact⟨⟨k+1,by go_num,by omega,Jv.nextT n.o f.o j.o,G.o⟩,by simp[RowKit.intOf];omega⟩
      ·have j:=Z (show ¬ FmN p c k z from fun h=>l h.2);clear s l;go_wp2_with fail;exact⟨⟨k+1,by go_num,by omega,Jv.nextN n.o f.o j.o,G.o⟩,by simp[RowKit.intOf];omega⟩
     ·have a2:z≤F:=by omega
      have j:=Z (show ¬ FmN p c k z from fun h=>q (by rw[← x.o];exact h.1));clear q;go_wp2_with fail;exact⟨⟨k+1,by go_num,by omega,Jv.nextN n.o f.o j.o,G.o⟩,by simp[RowKit.intOf];omega⟩
   ·obtain rfl:k=d:=by omega
    go_wp2_with fail;go_ret;refine⟨_,rfl,G.o,g,rfl,?_⟩;have h:=f.o;unfold BIs FmK FmG at h;unfold Nr;rw[h,← v.o,List.take_length]
theorem Zz {w:World}(f:FuncId)(b:Array Value):(binOp .neq 27 (.func (.func f) #[] b) .nilFunc).run Tryz.prog w = .ok (.bool true) w:=by
 have h:=Tryz.underlying27;have c:(Op.equal 27 (.func (.func f) #[] b) .nilFunc).run Tryz.prog w = .ok false w:=by
  have g:∀ d:Nat,(Op.equalIn (d+1) 27 (.func (.func f) #[] b) .nilFunc).run Tryz.prog w = .ok false w:=fun d=>by simp[Op.equalIn,run_underlying h]
  exact g 9999
 simp only[binOp];simp[c]
theorem J4p {w:World}:(binOp .neq 27 .nilFunc .nilFunc).run Tryz.prog w = .ok (.bool false) w:=by
 have h:=Tryz.underlying27;have b:(Op.equal 27 .nilFunc .nilFunc).run Tryz.prog w = .ok true w:=by
  have c:∀ d:Nat,(Op.equalIn (d+1) 27 .nilFunc .nilFunc).run Tryz.prog w = .ok true w:=fun d=>by simp[Op.equalIn,run_underlying h]
  exact c 9999
 simp only[binOp];simp[b]
theorem N1 {w:World}(f:FuncId)(b:Array Value):(binOp .neq 91 (.func (.func f) #[] b) .nilFunc).run Tryz.prog w = .ok (.bool true) w:=by
 have h:=Tryz.underlying91;have c:(Op.equal 91 (.func (.func f) #[] b) .nilFunc).run Tryz.prog w = .ok false w:=by
  have g:∀ d:Nat,(Op.equalIn (d+1) 91 (.func (.func f) #[] b) .nilFunc).run Tryz.prog w = .ok false w:=fun d=>by simp[Op.equalIn,run_underlying h]
  exact g 9999
 simp only[binOp];simp[c]
theorem Z0 {w:World}:(binOp .neq 91 .nilFunc .nilFunc).run Tryz.prog w = .ok (.bool false) w:=by
 have h:=Tryz.underlying91;have b:(Op.equal 91 .nilFunc .nilFunc).run Tryz.prog w = .ok true w:=by
  have c:∀ d:Nat,(Op.equalIn (d+1) 91 .nilFunc .nilFunc).run Tryz.prog w = .ok true w:=fun d=>by simp[Op.equalIn,run_underlying h]
  exact c 9999
 simp only[binOp];simp[b]
theorem Ki {n:Int}:MapKept.IsKey (.int .i64) (.int .i64 n):=by unfold MapKept.IsKey;trivial
def two01 (f g:Value):List (Value × Value):=[(.int .i64 0,f),(.int .i64 1,g)]
theorem J1p (f g:Value):fkv (.int .i64) (.int .i64 0) (two01 f g)=some (some f):=rfl
theorem J1q (f g:Value):fkv (.int .i64) (.int .i64 1) (two01 f g)=some (some g):=rfl
theorem Pr {a b:Int}(h:a≠b):Instr.sameNow (.int .i64) (.int .i64 a) (.int .i64 b)=some false:=by
 have:(a == b)=false:=by simpa using h
 simp[Instr.sameNow,this]
theorem J6t (f g:Value){n:Int}(b:n≠0)(c:n≠1):fkv (.int .i64) (.int .i64 n) (two01 f g)=some none:=by
 unfold two01 fkv;rw[Pr b];simp only[];unfold fkv;rw[Pr c];rfl
theorem X6 (f:Value):Instr.findNow (.int .i64) (.int .i64 1) [{ key:=.int .i64 0,val:=f,born:=0 }] 0=some none:=rfl
theorem J2l (w:World)(v u:Value)(p:Prg)(c:CutS)(hp:Js w v p)(Y:Lc w u c 4)(a4:c.vars.length≤1000):
  Calls Tryz.prog 207 #[v,u] w (Ret w fun r _=>Jb (Kf p c) r):=by
 have X:=Z hp;obtain⟨M,nm,F,pv,nv,cv,rfl,a5,a0,rfl,rfl⟩:=Y.parts;have a1:=Z a0;clear Y a5 a0;obtain⟨s,y,x,A,rfl,hv,hr⟩:=hp;have N:=Ja.new w #[.slice s p.vars.length y,.slice x p.rows.length A] 25;have h:=Ja.new (w.alloc (.cells #[.slice s p.vars.length y,.slice x p.rows.length A] 25)) #[.int .i64 c.kind,.slice M c.mult.length F,.int .i64 c.row,.slice pv c.vars.length cv] 45;simp only[World.size_alloc] at h;have g:=Z (show _∧Ja _ _ #[.slice s p.vars.length y,.slice x p.rows.length A]∧Ja _ _ #[.int .i64 c.kind,.slice M c.mult.length F,.int .i64 c.row,.slice pv c.vars.length cv] from⟨N.1.trans h.1,N.2.grow h.1,h.2⟩);clear hv hr N h;unfold prgV at X ⊢;go_enter Tryz.func207,Tryz.ntmps207;go_wp2_with fail;generalize a2:w.heap.size+1=b at g ⊢;generalize a3:w.heap.size=d at g ⊢;generalize (w.alloc _).alloc _=W at g ⊢;clear a2 a3;have q:=run_makeMap (P:=Tryz.prog) 267 W;have T:=K2 (P:=Tryz.prog) (w:=W) (es:=#[]) (c:=0) (t:=267) (key:=.int .i64 0) (.func (.func 257) #[] #[.pointer (some ⟨b,0,none⟩),.pointer (some ⟨d,0,none⟩)]) Tryz.underlying267 Tryz.underlying3 Ki rfl rfl;have U:=K2 (P:=Tryz.prog) (w:=W) (es:=#[{ key:=.int .i64 0,val:=.func (.func 257) #[] #[.pointer (some ⟨b,0,none⟩),.pointer (some ⟨d,0,none⟩)],born:=0 }]) (c:=1) (t:=267) (key:=.int .i64 1) (.func (.func 258) #[] #[.pointer (some ⟨b,0,none⟩),.pointer (some ⟨d,0,none⟩)]) Tryz.underlying267 Tryz.underlying3 Ki (X6 _) rfl;simp only[List.push_toArray,List.nil_append,List.cons_append,Array.push_empty,Nat.zero_add,Nat.reduceAdd] at T U;have k:Gr W (W.alloc (.map #[{ key:=.int .i64 0,val:=.func (.func 257) #[] #[.pointer (some ⟨b,0,none⟩),.pointer (some ⟨d,0,none⟩)],born:=0 },{ key:=.int .i64 1,val:=.func (.func 258) #[] #[.pointer (some ⟨b,0,none⟩),.pointer (some ⟨d,0,none⟩)],born:=1 }] 2)):=(Gr.refl _).alloc _;have O:=Z (show Ld (W.alloc (.map #[{ key:=.int .i64 0,val:=.func (.func 257) #[] #[.pointer (some ⟨b,0,none⟩),.pointer (some ⟨d,0,none⟩)],born:=0 },{ key:=.int .i64 1,val:=.func (.func 258) #[] #[.pointer (some ⟨b,0,none⟩),.pointer (some ⟨d,0,none⟩)],born:=1 }] 2)) W.heap.size (two01 (.func (.func 257) #[] #[.pointer (some ⟨b,0,none⟩),.pointer (some ⟨d,0,none⟩)]) (.func (.func 258) #[] #[.pointer (some ⟨b,0,none⟩),.pointer (some ⟨d,0,none⟩)])) from⟨_,_,(MapKept.heap_alloc W _).1,rfl⟩);obtain⟨L,S⟩:∃ z,c.kind=z:=⟨_,rfl⟩
 have E:=Z S;have x0:(W.alloc (.map #[{ key:=.int .i64 0,val:=.func (.func 257) #[] #[.pointer (some ⟨b,0,none⟩),.pointer (some ⟨d,0,none⟩)],born:=0 },{ key:=.int .i64 1,val:=.func (.func 258) #[] #[.pointer (some ⟨b,0,none⟩),.pointer (some ⟨d,0,none⟩)],born:=1 }] 2)).cell? ⟨b,0,none⟩=some (.int .i64 L):=by rw[← S];exact(g.o.2.2.grow k).at 0 rfl
 obtain⟨C,D,f⟩:=Z3 (g.o.2.2.grow k) (g.o.2.1.grow k) (g.o.1.trans k);clear S k;by_cases l:L=0
 ·subst l;have J:=(Lr O.o Tryz.underlying267 Tryz.underlying3 Ki (J1p _ _)).1;have K:=fun w=>Zz (w:=w);rw[q];go_wp2_with fail;clear J x0 q T U K;generalize W.alloc _=R at C D f ⊢;refine(J2m R b d F cv y A M pv s x p c C.o D.o).mono ?_;rintro _ w2 ⟨V,rfl,j,m⟩;obtain⟨G,H⟩:=Z2 (f.o.trans j) (show Jb (Kf p c) V from m.iff (J3l E.o).symm);clear m j;obtain⟨t,rfl,ht⟩:=H.o;go_wp2_with fail;go_ret;exact⟨_,rfl,G.o,H.o⟩
 by_cases I:L=1
 ·subst I;have J:=(Lr O.o Tryz.underlying267 Tryz.underlying3 Ki (J1q _ _)).1;clear l;have K:=fun w=>Zz (w:=w);rw[q];go_wp2_with fail;clear J x0 q T U K;generalize W.alloc _=R at C D f ⊢;refine(J2n R b d F cv y A M pv s x p c C.o D.o (X.o.grow f.o) (a1.o.grow f.o) a4).mono ?_;rintro _ w2 ⟨V,rfl,j,m⟩;obtain⟨G,H⟩:=Z2 (f.o.trans j) (show Jb (Kf p c) V from m.iff (J3m E.o).symm);clear m j;obtain⟨t,rfl,ht⟩:=H.o;go_wp2_with fail;go_ret;exact⟨_,rfl,G.o,H.o⟩
 ·have J:=(Uy (P:=Tryz.prog) (z:=.nilFunc) O.o Tryz.underlying267 Tryz.underlying3 (Ki (n:=L)) (by kernel_rfl) (J6t _ _ l I)).1;have H:=Z (show ¬ Kf p c from J3n (by rw[E.o];exact l) (by rw[E.o];exact I));have K:=fun w=>J4p (w:=w);clear l I;rw[q];go_wp2_with fail;go_ret;exact⟨_,rfl,f.o,Jb.no H.o⟩
theorem Qx.derive {p:Prg}{c:CutS}{base:Nat}{r:Value}{w:World}(k:Kf p c)(f:c.kind=0)(h:Qx p c.mult base r w):P0 p c base r w:=by
 rcases h with⟨d,x,rfl,b,g⟩|⟨d,e,j,rfl⟩
 ·exact .inl ⟨_,x,⟨k,.inl ⟨f,d,rfl⟩⟩,rfl,b,g⟩
 ·refine .inr ⟨fun l h=>?_,e,j,rfl⟩;rcases h.2 with⟨_,b,_⟩|⟨b,_⟩
  ·exact d b
  ·omega
theorem J2k (w:World)(v u:Value)(p:Prg)(c:CutS)(hp:Js w v p)(hc:Lc w u c 4)(c5:c.mult.length≤16)(b0:∀ x ∈ c.mult,Sz 4 x)(b1:c.vars.length≤1000)(hk:Jo p)(hw:Whole p)(hn:p.vars.length≤10)(hm:p.rows.length≤40):
  Calls Tryz.prog 148 #[v,u] w (Ret w (P0 p c w.heap.size)):=by
 obtain⟨HK,HW,HP,X,b6⟩:=Z5 hk hw hp hc (P4 b0 c5 hk.2.2.2 hk.2.2.1 hm hn);clear hk hw b0;obtain⟨pm,nm,cm,pv,nv,cv,rfl,c6,c7,rfl,rfl⟩:=hc.parts;clear hc c6 c7;obtain⟨va,vc,vb,vd,rfl,hv,hr⟩:=hp;obtain⟨U,a1⟩:∃ z,c.kind=z:=⟨_,rfl⟩
 have a0:=Z a1;rw[a1] at X ⊢;have B0:=Ja.new w #[.slice va p.vars.length vc,.slice vb p.rows.length vd] 25;have F:=Ja.new (w.alloc (.cells #[.slice va p.vars.length vc,.slice vb p.rows.length vd] 25)) #[.int .i64 U,.slice pm c.mult.length cm,.int .i64 c.row,.slice pv c.vars.length cv] 45;have D:=Ja.new ((w.alloc (.cells #[.slice va p.vars.length vc,.slice vb p.rows.length vd] 25)).alloc (.cells #[.int .i64 U,.slice pm c.mult.length cm,.int .i64 c.row,.slice pv c.vars.length cv] 45)) rowZ 42;simp only[World.size_alloc] at F D;unfold rowZ at D;have g:=Z (show _∧Ja _ _ #[.slice va p.vars.length vc,.slice vb p.rows.length vd]∧Ja _ _ #[.int .i64 U,.slice pm c.mult.length cm,.int .i64 c.row,.slice pv c.vars.length cv]∧Ja _ _ #[.string ⟨#[]⟩,.int .i64 0,.int .i64 0,.slice none 0 0,.int .i64 0] from⟨B0.1.trans (F.1.trans D.1),B0.2.grow (F.1.trans D.1),F.2.grow D.1,D.2⟩);clear hv hr B0 F D a1;unfold prgV at HP ⊢;go_enter Tryz.func148,Tryz.ntmps148;go_wp2_with fail;generalize b7:w.heap.size+1+1=b4 at g ⊢;generalize b8:w.heap.size+1=bc at g ⊢;generalize b9:w.heap.size=bp at g ⊢;generalize ((w.alloc _).alloc _).alloc _=W at g ⊢;have I:=Z (show w.heap.size≤b4 from by omega);clear b7 b8 b9;have b2:=run_makeMap (P:=Tryz.prog) 222 W;have b3:=K2 (P:=Tryz.prog) (w:=W) (es:=#[]) (c:=0) (t:=222) (key:=.int .i64 0) (.func (.func 205) #[] #[]) Tryz.underlying222 Tryz.underlying3 Ki rfl rfl;have b5:=K2 (P:=Tryz.prog) (w:=W) (es:=#[{ key:=.int .i64 0,val:=.func (.func 205) #[] #[],born:=0 }]) (c:=1) (t:=222) (key:=.int .i64 1) (.func (.func 206) #[] #[]) Tryz.underlying222 Tryz.underlying3 Ki (X6 _) rfl;simp only[List.push_toArray,List.nil_append,List.cons_append,Array.push_empty,Nat.zero_add,Nat.reduceAdd] at b3 b5;have K:Gr W (W.alloc (.map #[{ key:=.int .i64 0,val:=.func (.func 205) #[] #[],born:=0 },{ key:=.int .i64 1,val:=.func (.func 206) #[] #[],born:=1 }] 2)):=(Gr.refl _).alloc _;obtain⟨HM,f,k,b,G⟩:=Z5 (show Ld (W.alloc (.map #[{ key:=.int .i64 0,val:=.func (.func 205) #[] #[],born:=0 },{ key:=.int .i64 1,val:=.func (.func 206) #[] #[],born:=1 }] 2)) W.heap.size (two01 (.func (.func 205) #[] #[]) (.func (.func 206) #[] #[])) from⟨_,_,(MapKept.heap_alloc W _).1,rfl⟩) (g.o.2.2.1.grow K) (g.o.2.1.grow K) (g.o.2.2.2.grow K) (g.o.1.trans K);have x0:=f.o.at 0 rfl;have x1:=f.o.at 1 rfl;have x2:=f.o.at 2 rfl;have x3:=f.o.at 3 rfl;have y0:=k.o.at 0 rfl;have y1:=k.o.at 1 rfl;clear K g;rw[b2];go_wp2_with fail;clear b2 b3 b5 x0 x1 x2 x3 y0 y1;generalize W.heap.size=bm at HM ⊢;generalize W.alloc _=W1 at HM f k b G ⊢;refine(J2l W1 _ _ p c (HP.o.grow G.o) (by have h:=X.o.grow G.o;exact h) b1).mono ?_;rintro _ A ⟨r3,rfl,g3,h3⟩;obtain⟨f,k,b,G⟩:=Z4 (f.o.grow g3) (k.o.grow g3) (b.o.grow g3) (G.o.trans g3);rcases h3.cases with⟨rfl,T⟩|⟨rfl,T⟩;rotate_left
 ·have H:=Z (show ∀ E,¬ Kn p c E from fun E h=>T h.1);clear h3 T g3;have c0:=b.o.at 0 rfl;have l:=b.o.at 1 rfl;have c2:=b.o.at 2 rfl;have c3:=b.o.at 3 rfl;have c4:=b.o.at 4 rfl;have m:=Ja.f (b.o) 0;have n:=Ja.f (b.o) 1;have q:=Ja.f (b.o) 2;have r:=Ja.f (b.o) 3;have s:=Ja.f (b.o) 4;have d:=Z (fill5 (.string ⟨#[]⟩) (.int .i64 0) (.int .i64 0) (.slice none 0 0) (.int .i64 0) (b.o) (G.o) I.o);go_wp2_with fail;try rw[Exit.noGoto_ret]
  generalize ((((A.setCell _ _).setCell _ _).setCell _ _).setCell _ _).setCell _ _=W5 at d ⊢;clear c0 l c2 c3 c4 m n q r s;have z0:=d.o.2.1.at 0 rfl;have C:=d.o.2.1.at 1 rfl;have z2:=d.o.2.1.at 2 rfl;have z3:=d.o.2.1.at 3 rfl;have z4:=d.o.2.1.at 4 rfl;refine bodyPost_ret (by simp[results,Tryz.results148,go_sem,z0,C,z2,z3,z4];rfl) rfl ?_;exact⟨_,rfl,d.o.1,.inr ⟨H.o,1,by first|decide|exact Y.o,rfl⟩⟩
 have HF:=Z T;clear h3 T;by_cases h0:U=0
 ·subst h0;have hl:=(Lr (HM.o.grow g3) Tryz.underlying222 Tryz.underlying3 Ki (J1p _ _)).1;have a4:=f.o.at 0 rfl;have a5:=f.o.at 1 rfl;have a6:=f.o.at 2 rfl;have a7:=f.o.at 3 rfl;have a8:=k.o.at 0 rfl;have a9:=k.o.at 1 rfl;go_wp2_with fail;clear hl a4 a5 a6 a7 a8 a9;refine(J2o A _ _ p c (HP.o.grow G.o) (by have h:=X.o.grow G.o;exact h) b6.o HK.o HW.o hn).mono ?_;rintro _ V ⟨r4,rfl,g4,L⟩;have L:=L.derive HF.o a0.o;have a2:=b.o.lt;have a3:=G.o.size;obtain⟨b,G⟩:=Z2 (b.o.grow g4) (G.o.trans g4);clear g4 g3;rcases L with⟨E,x,M,rfl,R,S⟩|⟨O,e,N,rfl⟩
  ·obtain⟨j,J⟩:=Z2 (And.intro M (And.intro R S)) (show b4 < A.heap.size∧w.heap.size≤A.heap.size from⟨a2,a3⟩);have c0:=b.o.at 0 rfl;have l:=b.o.at 1 rfl;have c2:=b.o.at 2 rfl;have c3:=b.o.at 3 rfl;have c4:=b.o.at 4 rfl;have m:=Ja.f b.o 0;have n:=Ja.f b.o 1;have q:=Ja.f b.o 2;have r:=Ja.f b.o 3;have s:=Ja.f b.o 4;have y:=fill5 (.string ⟨x.name.toArray⟩) (.int .i64 x.group) (.int .i64 x.kind) (.slice x.tp x.terms.length x.tc) (.int .i64 x.bound) b.o G.o I.o;have d:=Z (show _∧_∧Ju _ A.heap.size (.slice x.tp x.terms.length x.tc) x.terms from⟨y.1,y.2.1,j.o.2.2.same y.2.2 (by simp[World.setCell]) (fun e=>by
    have h1:=(World.ownsRow.lt j.o.2.2.1 _ e).1;have h2:=J.o;omega) rfl rfl rfl⟩)
   clear y M R S;unfold rowV;go_wp2_with fail;try rw[Exit.noGoto_ret]
   generalize ((((V.setCell _ _).setCell _ _).setCell _ _).setCell _ _).setCell _ _=W5 at d ⊢;clear c0 l c2 c3 c4 m n q r s;have z0:=d.o.2.1.at 0 rfl;have C:=d.o.2.1.at 1 rfl;have z2:=d.o.2.1.at 2 rfl;have z3:=d.o.2.1.at 3 rfl;have z4:=d.o.2.1.at 4 rfl;refine bodyPost_ret (by simp[results,Tryz.results148,go_sem,z0,C,z2,z3,z4];rfl) rfl ?_;exact⟨_,rfl,d.o.1,.inl ⟨E,x,j.o.1,rfl,j.o.2.1,d.o.2.2.lower J.o.2⟩⟩
  ·obtain⟨H,Y⟩:=Z2 O N;clear O N;unfold rowZ;have c0:=b.o.at 0 rfl;have l:=b.o.at 1 rfl;have c2:=b.o.at 2 rfl;have c3:=b.o.at 3 rfl;have c4:=b.o.at 4 rfl;have m:=Ja.f (b.o) 0;have n:=Ja.f (b.o) 1;have q:=Ja.f (b.o) 2;have r:=Ja.f (b.o) 3;have s:=Ja.f (b.o) 4;have d:=Z (fill5 (.string ⟨#[]⟩) (.int .i64 0) (.int .i64 0) (.slice none 0 0) (.int .i64 0) (b.o) (G.o) I.o);go_wp2_with fail;try rw[Exit.noGoto_ret]
   generalize ((((V.setCell _ _).setCell _ _).setCell _ _).setCell _ _).setCell _ _=W5 at d ⊢;clear c0 l c2 c3 c4 m n q r s;have z0:=d.o.2.1.at 0 rfl;have C:=d.o.2.1.at 1 rfl;have z2:=d.o.2.1.at 2 rfl;have z3:=d.o.2.1.at 3 rfl;have z4:=d.o.2.1.at 4 rfl;refine bodyPost_ret (by simp[results,Tryz.results148,go_sem,z0,C,z2,z3,z4];rfl) rfl ?_;exact⟨_,rfl,d.o.1,.inr ⟨H.o,e,by first|decide|exact Y.o,rfl⟩⟩
 ·have h1:U=1:=by
   rcases HF.o with h|h
   ·exact absurd (by rw[← a0.o];exact h.1) h0
   ·rw[← a0.o];exact h.1
  subst h1;clear h0;have hl:=(Lr (HM.o.grow g3) Tryz.underlying222 Tryz.underlying3 Ki (J1q _ _)).1;have a4:=f.o.at 0 rfl;have a5:=f.o.at 1 rfl;have a6:=f.o.at 2 rfl;have a7:=f.o.at 3 rfl;have a8:=k.o.at 0 rfl;have a9:=k.o.at 1 rfl;go_wp2_with fail;clear hl a4 a5 a6 a7 a8 a9;refine(J2i A _ _ p c (HP.o.grow G.o) (by have h:=X.o.grow G.o;exact h) HF.o a0.o b1 HK.o HW.o hn).mono ?_;rintro _ V ⟨r4,rfl,g4,L⟩;have a2:=b.o.lt;have a3:=G.o.size;obtain⟨b,G⟩:=Z2 (b.o.grow g4) (G.o.trans g4);clear g4 g3;rcases L with⟨E,x,M,rfl,R,S⟩|⟨O,e,N,rfl⟩
  ·obtain⟨j,J⟩:=Z2 (And.intro M (And.intro R S)) (show b4 < A.heap.size∧w.heap.size≤A.heap.size from⟨a2,a3⟩);have c0:=b.o.at 0 rfl;have l:=b.o.at 1 rfl;have c2:=b.o.at 2 rfl;have c3:=b.o.at 3 rfl;have c4:=b.o.at 4 rfl;have m:=Ja.f b.o 0;have n:=Ja.f b.o 1;have q:=Ja.f b.o 2;have r:=Ja.f b.o 3;have s:=Ja.f b.o 4;have y:=fill5 (.string ⟨x.name.toArray⟩) (.int .i64 x.group) (.int .i64 x.kind) (.slice x.tp x.terms.length x.tc) (.int .i64 x.bound) b.o G.o I.o;have d:=Z (show _∧_∧Ju _ A.heap.size (.slice x.tp x.terms.length x.tc) x.terms from⟨y.1,y.2.1,j.o.2.2.same y.2.2 (by simp[World.setCell]) (fun e=>by
    have h1:=(World.ownsRow.lt j.o.2.2.1 _ e).1;have h2:=J.o;omega) rfl rfl rfl⟩)
   clear y M R S;unfold rowV;go_wp2_with fail;try rw[Exit.noGoto_ret]
   generalize ((((V.setCell _ _).setCell _ _).setCell _ _).setCell _ _).setCell _ _=W5 at d ⊢;clear c0 l c2 c3 c4 m n q r s;have z0:=d.o.2.1.at 0 rfl;have C:=d.o.2.1.at 1 rfl;have z2:=d.o.2.1.at 2 rfl;have z3:=d.o.2.1.at 3 rfl;have z4:=d.o.2.1.at 4 rfl;refine bodyPost_ret (by simp[results,Tryz.results148,go_sem,z0,C,z2,z3,z4];rfl) rfl ?_;exact⟨_,rfl,d.o.1,.inl ⟨E,x,j.o.1,rfl,j.o.2.1,d.o.2.2.lower J.o.2⟩⟩
  ·obtain⟨H,Y⟩:=Z2 O N;clear O N;unfold rowZ;have c0:=b.o.at 0 rfl;have l:=b.o.at 1 rfl;have c2:=b.o.at 2 rfl;have c3:=b.o.at 3 rfl;have c4:=b.o.at 4 rfl;have m:=Ja.f (b.o) 0;have n:=Ja.f (b.o) 1;have q:=Ja.f (b.o) 2;have r:=Ja.f (b.o) 3;have s:=Ja.f (b.o) 4;have d:=Z (fill5 (.string ⟨#[]⟩) (.int .i64 0) (.int .i64 0) (.slice none 0 0) (.int .i64 0) (b.o) (G.o) I.o);go_wp2_with fail;try rw[Exit.noGoto_ret]
   generalize ((((V.setCell _ _).setCell _ _).setCell _ _).setCell _ _).setCell _ _=W5 at d ⊢;clear c0 l c2 c3 c4 m n q r s;have z0:=d.o.2.1.at 0 rfl;have C:=d.o.2.1.at 1 rfl;have z2:=d.o.2.1.at 2 rfl;have z3:=d.o.2.1.at 3 rfl;have z4:=d.o.2.1.at 4 rfl;refine bodyPost_ret (by simp[results,Tryz.results148,go_sem,z0,C,z2,z3,z4];rfl) rfl ?_;exact⟨_,rfl,d.o.1,.inr ⟨H.o,e,by first|decide|exact Y.o,rfl⟩⟩
theorem J2h (w:World)(v u:Value)(p:Prg)(c:CutS)(hp:Js w v p)(N:Lc w u c 4)(a9:c.mult.length≤16)(X:∀ x ∈ c.mult,Sz 4 x)(b0:c.vars.length≤1000)(hk:Jo p)(hw:Whole p)(hn:p.vars.length≤10)(hm:p.rows.length≤40):
  Calls Tryz.prog 96 #[v,u] w (Ret w (P0 p c w.heap.size)):=by
 obtain⟨k,HW,C,a3,a4⟩:=Z5 hk hw hp N X;clear hk hw X;obtain⟨R,nm,E,pv,nv,cv,rfl,b2,b5,rfl,rfl⟩:=N.parts;clear N b2 b5;obtain⟨q,s,r,y,rfl,hv,hr⟩:=hp;have A:=Ja.new w #[.slice q p.vars.length s,.slice r p.rows.length y] 25;have j:=Ja.new (w.alloc (.cells #[.slice q p.vars.length s,.slice r p.rows.length y] 25)) #[.int .i64 c.kind,.slice R c.mult.length E,.int .i64 c.row,.slice pv c.vars.length cv] 45;have g:=Ja.new ((w.alloc (.cells #[.slice q p.vars.length s,.slice r p.rows.length y] 25)).alloc (.cells #[.int .i64 c.kind,.slice R c.mult.length E,.int .i64 c.row,.slice pv c.vars.length cv] 45)) rowZ 42;simp only[World.size_alloc] at j g;unfold rowZ at g;have f:=Z (show _∧Ja _ _ #[.slice q p.vars.length s,.slice r p.rows.length y]∧Ja _ _ #[.int .i64 c.kind,.slice R c.mult.length E,.int .i64 c.row,.slice pv c.vars.length cv]∧Ja _ _ #[.string ⟨#[]⟩,.int .i64 0,.int .i64 0,.slice none 0 0,.int .i64 0] from⟨A.1.trans (j.1.trans g.1),A.2.grow (j.1.trans g.1),j.2.grow g.1,g.2⟩);clear hv hr A j g;unfold prgV at C ⊢;go_enter Tryz.func96,Tryz.ntmps96;go_wp2_with fail;generalize a6:w.heap.size+1+1=V at f ⊢;generalize a7:w.heap.size+1=bc at f ⊢;generalize a8:w.heap.size=bp at f ⊢;generalize ((w.alloc _).alloc _).alloc _=W at f ⊢;obtain⟨T,h,m,b,G⟩:=Z5 (show w.heap.size≤V from by omega) f.o.2.2.1 f.o.2.1 f.o.2.2.2 f.o.1;clear a6 a7 a8 f;refine(Tu W _ p (C.o.grow G.o) (Jo.i k.o) (Jo.nl k.o) (by omega) (by omega)).mono ?_;rintro _ z ⟨r1,rfl,g1,M⟩;rcases M.cases with⟨rfl,O⟩|⟨rfl,O⟩;rotate_left
 ·exact absurd k.o O
 obtain⟨h,m,b,G⟩:=Z4 (h.o.grow g1) (m.o.grow g1) (b.o.grow g1) (G.o.trans g1);have x0:=h.o.at 0 rfl;have x1:=h.o.at 1 rfl;have x2:=h.o.at 2 rfl;have x3:=h.o.at 3 rfl;have y0:=m.o.at 0 rfl;have y1:=m.o.at 1 rfl;clear M O g1;go_wp2_with fail;clear x0 x1 x2 x3 y0 y1;refine(J2k z _ _ p c (C.o.grow G.o) (a3.o.grow G.o) a9 a4.o b0 k.o HW.o hn hm).mono ?_;rintro _ w4 ⟨r4,rfl,g4,h4⟩;have b1:=b.o.lt;have b3:=G.o.size;obtain⟨b,G⟩:=Z2 (b.o.grow g4) (G.o.trans g4);clear g4;rcases h4 with⟨rs,x,Y,rfl,a1,a2⟩|⟨a0,e,he,rfl⟩
 ·obtain⟨l,U⟩:=Z2 (And.intro Y (And.intro a1 a2)) (show V < z.heap.size∧w.heap.size≤z.heap.size from⟨b1,b3⟩);have c0:=b.o.at 0 rfl;have D:=b.o.at 1 rfl;have c2:=b.o.at 2 rfl;have c3:=b.o.at 3 rfl;have c4:=b.o.at 4 rfl;have F:=Ja.f b.o 0;have I:=Ja.f b.o 1;have J:=Ja.f b.o 2;have K:=Ja.f b.o 3;have L:=Ja.f b.o 4;have n:=fill5 (.string ⟨x.name.toArray⟩) (.int .i64 x.group) (.int .i64 x.kind) (.slice x.tp x.terms.length x.tc) (.int .i64 x.bound) b.o G.o T.o;have d:=Z (show _∧_∧Ju _ z.heap.size (.slice x.tp x.terms.length x.tc) x.terms from⟨n.1,n.2.1,l.o.2.2.same n.2.2 (by simp[World.setCell]) (fun e=>by
   have M:=(World.ownsRow.lt l.o.2.2.1 _ e).1;have h2:=U.o;omega) rfl rfl rfl⟩)
  clear n Y a1 a2;unfold rowV;go_wp2_with fail;try rw[Exit.noGoto_ret]
  generalize ((((w4.setCell _ _).setCell _ _).setCell _ _).setCell _ _).setCell _ _=W5 at d ⊢;clear c0 D c2 c3 c4 F I J K L;have z0:=d.o.2.1.at 0 rfl;have S:=d.o.2.1.at 1 rfl;have z2:=d.o.2.1.at 2 rfl;have z3:=d.o.2.1.at 3 rfl;have z4:=d.o.2.1.at 4 rfl;refine bodyPost_ret (by simp[results,Tryz.results96,go_sem,z0,S,z2,z3,z4];rfl) rfl ?_;exact⟨_,rfl,d.o.1,.inl ⟨rs,x,l.o.1,rfl,l.o.2.1,d.o.2.2.lower U.o.2⟩⟩
 ·obtain⟨H,a5⟩:=Z2 a0 he;clear a0 he;unfold rowZ;have c0:=b.o.at 0 rfl;have D:=b.o.at 1 rfl;have c2:=b.o.at 2 rfl;have c3:=b.o.at 3 rfl;have c4:=b.o.at 4 rfl;have F:=Ja.f (b.o) 0;have I:=Ja.f (b.o) 1;have J:=Ja.f (b.o) 2;have K:=Ja.f (b.o) 3;have L:=Ja.f (b.o) 4;have d:=Z (fill5 (.string ⟨#[]⟩) (.int .i64 0) (.int .i64 0) (.slice none 0 0) (.int .i64 0) (b.o) (G.o) T.o);go_wp2_with fail;try rw[Exit.noGoto_ret]
  generalize ((((w4.setCell _ _).setCell _ _).setCell _ _).setCell _ _).setCell _ _=W5 at d ⊢;clear c0 D c2 c3 c4 F I J K L;have z0:=d.o.2.1.at 0 rfl;have S:=d.o.2.1.at 1 rfl;have z2:=d.o.2.1.at 2 rfl;have z3:=d.o.2.1.at 3 rfl;have z4:=d.o.2.1.at 4 rfl;refine bodyPost_ret (by simp[results,Tryz.results96,go_sem,z0,S,z2,z3,z4];rfl) rfl ?_;exact⟨_,rfl,d.o.1,.inr ⟨H.o,e,by first|decide|exact a5.o,rfl⟩⟩
def AddN (p:Prg)(c:CutS)(w0:World)(r:Value)(w:World):Prop:=
 (∃ (rs:RowS) (pv:Value),Kn p c rs∧r = .tuple #[pv,.int .i64 0]∧Lx w w0.heap.size pv (addRow p rs))∨((∀ rs,¬ Kn p c rs)∧∃ e:Int,e≠0∧r = .tuple #[.agg #[.slice none 0 0,.slice none 0 0],.int .i64 e])
theorem J2g (w:World)(v u:Value)(p:Prg)(c:CutS)(hp:Js w v p)(hc:Lc w u c 4)(f8:c.mult.length≤16)(c9:∀ x ∈ c.mult,Sz 4 x)(f9:c.vars.length≤1000)(hk:Jo p)(hw:Whole p)(hn:p.vars.length≤10)(hm:p.rows.length≤40)(d6:∀ r ∈ p.rows,r.terms.length≤1000000):
  Calls Tryz.prog 49 #[v,u] w (Ret w (AddN p c w)):=by
 obtain⟨HK,HW,HP,HC,e5,e8⟩:=Z6 hk hw hp hc c9 d6;clear hk hw c9 d6;obtain⟨pm,nm,cm,pv,nv,cv,rfl,-,-,rfl,rfl⟩:=hc.parts;clear hc;obtain⟨va,vc,vb,vd,rfl,hv,hr⟩:=hp;have B0:=Ja.new w #[.slice va p.vars.length vc,.slice vb p.rows.length vd] 25;have B1:=Ja.new (w.alloc (.cells #[.slice va p.vars.length vc,.slice vb p.rows.length vd] 25)) #[.int .i64 c.kind,.slice pm c.mult.length cm,.int .i64 c.row,.slice pv c.vars.length cv] 45;have X:=Ja.new ((w.alloc (.cells #[.slice va p.vars.length vc,.slice vb p.rows.length vd] 25)).alloc (.cells #[.int .i64 c.kind,.slice pm c.mult.length cm,.int .i64 c.row,.slice pv c.vars.length cv] 45)) #[.slice none 0 0,.slice none 0 0] 25;simp only[World.size_alloc] at B1 X;have J:=Z (show _∧Ja _ _ #[.slice va p.vars.length vc,.slice vb p.rows.length vd]∧Ja _ _ #[.int .i64 c.kind,.slice pm c.mult.length cm,.int .i64 c.row,.slice pv c.vars.length cv]∧Ja _ _ #[.slice none 0 0,.slice none 0 0] from⟨B0.1.trans (B1.1.trans X.1),B0.2.grow (B1.1.trans X.1),B1.2.grow X.1,X.2⟩);clear hv hr B0 B1 X;unfold prgV at HP ⊢;go_enter Tryz.func49,Tryz.ntmps49;go_wp2_with fail;generalize f4:w.heap.size+1+1=C at J ⊢;generalize f6:w.heap.size+1=bc at J ⊢;generalize f7:w.heap.size=bp at J ⊢;generalize ((w.alloc _).alloc _).alloc _=W at J ⊢;have c5:=Z (show w.heap.size≤C from by omega);clear f4 f6 f7;obtain⟨G,E,TC,f⟩:=Z4 J.o.1 J.o.2.1 J.o.2.2.1 J.o.2.2.2;clear J;have x0:=TC.o.at 0 rfl;have x1:=TC.o.at 1 rfl;have x2:=TC.o.at 2 rfl;have x3:=TC.o.at 3 rfl;have y0:=E.o.at 0 rfl;have y1:=E.o.at 1 rfl;try go_wp2_with fail
 clear x0 x1 x2 x3 y0 y1;refine(J2h W _ _ p c (HP.o.grow G.o) (HC.o.grow G.o) f8 e5.o f9 HK.o HW.o hn hm).mono ?_;rintro _ A ⟨r1,rfl,g1,h1⟩;obtain⟨D,G,E,f⟩:=Z4 (show C < W.heap.size∧w.heap.size≤W.heap.size∧W.heap.size≤A.heap.size from⟨f.o.lt,G.o.size,g1.size⟩) (G.o.trans g1) (E.o.grow g1) (f.o.grow g1);clear g1 TC;rcases h1 with⟨rs,x,hd,rfl,d7,b9⟩|⟨d3,e,he,rfl⟩;rotate_left
 ·obtain⟨H,HE⟩:=Z2 d3 he;have g5:(e != 0)=true:=by simpa using he
  have g7:(e == 0)=false:=by simpa using he
  have g6:Gr A (A.alloc (.cells rowZ 42)):=(Gr.refl _).alloc _;obtain⟨G,f⟩:=Z2 (G.o.trans g6) (f.o.grow g6);have c0:=f.o.at 0 rfl;have c1:=f.o.at 1 rfl;have f0:=Ja.f f.o 0;have f1:=Ja.f f.o 1;have a3:=Z (fill2 (.slice none 0 0) (.slice none 0 0) f.o G.o c5.o);clear d3 he g6;unfold rowZ at c0 c1 f0 f1 a3 ⊢;go_wp2_with fail;try rw[Exit.noGoto_ret]
  generalize ((A.alloc _).setCell _ _).setCell _ _=W5 at a3 ⊢;clear c0 c1 f0 f1;have z0:=a3.o.2.1.at 0 rfl;have z1:=a3.o.2.1.at 1 rfl;refine bodyPost_ret (by simp[results,Tryz.results49,go_sem,z0,z1];rfl) rfl ?_;exact⟨_,rfl,a3.o.1,.inr ⟨H.o,e,HE.o,rfl⟩⟩
 ·have HD:=Z (And.intro hd d7);have Y:=Ja.new A #[.string ⟨x.name.toArray⟩,.int .i64 x.group,.int .i64 x.kind,.slice x.tp x.terms.length x.tc,.int .i64 x.bound] 42;obtain⟨R,a4,G,E,f,N,e6,e7⟩:=Z8 (b9.1.grow Y.1) (World.ownsRow.lt b9.1) (G.o.trans Y.1) (E.o.grow Y.1) (f.o.grow Y.1) Y.2 (show A.heap.size≤A.heap.size from Nat.le_refl _) (show C≠A.heap.size from by have:=D.o;omega);have y0:=E.o.at 0 rfl;have y1:=E.o.at 1 rfl;have f2:¬ (4000:Int)≤(p.rows.length:Int):=by omega
  have f3:¬ 4000≤p.rows.length:=by omega
  clear hd d7 b9 Y;unfold rowV;go_wp2_with fail;clear y0 y1 f2 f3;have M:=Z (show A.heap.size < (A.alloc (.cells #[.string ⟨x.name.toArray⟩,.int .i64 x.group,.int .i64 x.kind,.slice x.tp x.terms.length x.tc,.int .i64 x.bound] 42)).heap.size from by rw[World.size_alloc];omega);generalize f5:A.heap.size=b6 at N e7 M D a4 ⊢;generalize A.alloc _=m at N G E f R M ⊢;clear f5;refine(J3V m _ p (HP.o.grow G.o) (by omega) (by omega) e8.o).mono ?_;rintro _ V ⟨r3,rfl,g3,s,z,c2,c3,T,rfl,ho,b3,hT,b7,d5⟩;have F:=Ja.new V #[.slice s p.vars.length z,.slice c2 p.rows.length c3] 25;obtain⟨b1,e9,a1,a8,a7,c6,HO,a0,a2⟩:=Z9 (show T.length=p.rows.length from by have:=congrArg List.length hT;simpa using this) hT (World.ownsRow.lt b3) (World.ownsRow.lt ho) (show ∀ y ∈ T,∀ k,(tv y).ownBlock=some k→m.heap.size≤k∧k < V.heap.size from fun y d=>World.ownsRow.lt (b7 y d)) d5 (ho.grow F.1) (b3.grow F.1) (show ∀ y ∈ T,Lj _ m.heap.size y from fun y d=>(b7 y d).grow F.1);obtain⟨R,L,G,f,N,S⟩:=Z6 (R.o.grow (g3.trans F.1)) (show m.heap.size≤V.heap.size∧w.heap.size≤m.heap.size from⟨g3.size,G.o.size⟩) (G.o.trans (g3.trans F.1)) (f.o.grow (g3.trans F.1)) (N.o.grow (g3.trans F.1)) F.2;have t0:=N.o.at 0 rfl;have t1:=N.o.at 1 rfl;have t2:=N.o.at 2 rfl;have t3:=N.o.at 3 rfl;have t4:=N.o.at 4 rfl;have q1:=S.o.at 1 rfl;clear ho b3 hT b7 d5 g3 F E;unfold prgV;go_wp2_with (at_builtin;refine Hold.hold ?_);clear t0 t1 t2 t3 t4 q1;have b5:(V.alloc (.cells #[.slice s p.vars.length z,.slice c2 p.rows.length c3] 25)).heap.size=V.heap.size+1:=World.size_alloc ..;have a9:=Z b5;rw[← b5];clear b5;generalize V.heap.size=l at S a1 a8 a7 L a9 ⊢;generalize V.alloc _=w4 at S HO a0 a2 R G f a9 ⊢;have I:=SlL.new (enc:=encRow) (sz:=5) w4 42 Lk [x] #[.string ⟨x.name.toArray⟩,.int .i64 x.group,.int .i64 x.kind,.slice x.tp x.terms.length x.tc,.int .i64 x.bound] 1 rfl rfl (by decide);obtain⟨a6,S,f,HO,a0,a2,R,G,b0⟩:=Z9 I.2 (S.o.grow I.1) (f.o.grow I.1) (HO.o.grow I.1) (a0.o.grow I.1) (show ∀ y ∈ T,Lj _ m.heap.size y from fun y d=>(a2.o y d).grow I.1) (R.o.grow I.1) (G.o.trans I.1) (show l < (w4.alloc (.cells #[.string ⟨x.name.toArray⟩,.int .i64 x.group,.int .i64 x.kind,.slice x.tp x.terms.length x.tc,.int .i64 x.bound] 42)).heap.size from by have:=a9.o;rw[World.size_alloc];omega);clear I;generalize w4.heap.size=bs at a6 ⊢;generalize w4.alloc _=w5 at S HO a0 a2 R G f a6 b0 ⊢;refine Hold.go ?_;refine wpList_plain rfl (fun K hK=>?_);refine Py _ _ 23 42 _ 64 rfl Tryz.underlying23 Pp rfl (by decide) Lk Ph m.heap.size (.slice c2 p.rows.length c3) _ T [x] rfl a0.o rfl a6.o (by have:=b1.o;simp;omega) (by have:=b1.o;simp;omega) (by have:=L.o;have:=b0.o;omega) (by simp) ?_;intro g4 n h1 U h3;have c7:Gr w n:=OwnL.gr (OwnL.low a0.o L.o.2) G.o U;have c8:=K3 S.o (U.block l S.o.lt (fun e=>by have:=(a1.o _ e.symm).2;omega));have c4:=K3 f.o (U.block C f.o.lt (fun e=>by have:=(a1.o _ e.symm).1;have:=D.o;have:=M.o;omega));have k0:OwnL n m.heap.size 62 5 encVar (.slice s p.vars.length z) p.vars:=OwnL.keptR HO.o U fun b hb=>(c6.o b hb).1;have k1:∀ y ∈ T,Lj n m.heap.size y:=fun y d=>OwnL.keptR (a2.o y d) U fun b hb=>(c6.o b hb).2 y d;have k2:OwnL n W.heap.size 75 2 encTerm (.slice x.tp x.terms.length x.tc) x.terms:=OwnL.keptR R.o U fun b hb e=>by have:=(a1.o _ hb).1;have:=(a4.o _ e).2;have:=M.o;omega
  have b2:∀ k,g4.ownBlock=some k→m.heap.size≤k∧k≠l:=fun k a5=>by
   rcases h3 with h3|h3
   ·rw[h3] at a5;have:=a1.o _ a5;exact⟨this.1,by omega⟩
   ·rw[h3] at a5;obtain rfl:=Option.some.inj a5;have:=b0.o;have:=L.o;exact⟨by omega,by omega⟩
  obtain⟨j,g,d4,-,-⟩:=h1.read.parts;rw[show(T ++ [x]).length=p.rows.length+1 from by have:=b1.o;simp;omega] at d4;subst d4;have q1:=c8.at 1 rfl;have q2:=Ja.f c8 1;have hu:=J5 n l 1 (.slice j (p.rows.length+1) g);have q:=Z (show Gr w (n.setCell ⟨l,1,none⟩ (.slice j (p.rows.length+1) g))∧Ja (n.setCell ⟨l,1,none⟩ (.slice j (p.rows.length+1) g)) l #[.slice s p.vars.length z,.slice j (p.rows.length+1) g]∧Ja (n.setCell ⟨l,1,none⟩ (.slice j (p.rows.length+1) g)) C #[.slice none 0 0,.slice none 0 0]∧
    OwnL (n.setCell ⟨l,1,none⟩ (.slice j (p.rows.length+1) g)) m.heap.size 62 5 encVar (.slice s p.vars.length z) p.vars∧OwnL (n.setCell ⟨l,1,none⟩ (.slice j (p.rows.length+1) g)) m.heap.size 42 5 encRow (.slice j (p.rows.length+1) g) (T ++ [x])∧
    (∀ y ∈ T,Lj (n.setCell ⟨l,1,none⟩ (.slice j (p.rows.length+1) g)) m.heap.size y)∧OwnL (n.setCell ⟨l,1,none⟩ (.slice j (p.rows.length+1) g)) W.heap.size 75 2 encTerm (.slice x.tp x.terms.length x.tc) x.terms from by
   have n8:=L.o;have nl:=D.o;have n1:=M.o;have g2:(Value.slice x.tp x.terms.length x.tc).ownBlock≠some l:=fun e=>by have h:=a4.o _ e;have n0:=e6.o;omega
   refine⟨Gr.set c7 (by omega) _,?_,c4.upd hu (by omega),k0.other (fun e=>by have:=(a8.o _ e).2;omega),h1.other (fun e=>(b2 _ e).2 rfl),fun y d=>OwnL.other (k1 y d) (fun e=>by have:=(a7.o y d _ e).2;omega),k2.other g2⟩;have:=c8.set 1 (.slice j (p.rows.length+1) g);simpa using this)
  clear h1 U h3 c7 c8 c4 k0 k1 k2 hu;have e4:=Z b2;clear b2;refine hK _ _ ?_;clear hK K;have d2:¬ C=l:=by have:=L.o;have:=D.o;have:=M.o;omega
  have g0:¬ l=C:=fun e=>d2 e.symm;have d0:=q.o.2.1.at 0 rfl;have d1:=q.o.2.1.at 1 rfl;have e0:=q.o.2.2.1.at 0 rfl;have e1:=q.o.2.2.1.at 1 rfl;have f0:=Ja.f q.o.2.2.1 0;have f1:=Ja.f q.o.2.2.1 1;have hf:=fill2 (.slice s p.vars.length z) (.slice j (p.rows.length+1) g) q.o.2.2.1 q.o.1 c5.o;have e2:(Value.slice s p.vars.length z).ownBlock≠some C:=fun e=>by have:=(a8.o _ e).1;have:=D.o;have:=M.o;omega
  have d8:(Value.slice j (p.rows.length+1) g).ownBlock≠some C:=fun e=>by have:=(e4.o _ e).1;have:=D.o;have:=M.o;omega
  have e3:(Value.slice x.tp x.terms.length x.tc).ownBlock≠some C:=fun e=>by have:=(a4.o _ e).1;have:=D.o;omega
  have d9:∀ y ∈ T,(tv y).ownBlock≠some C:=fun y d e=>by have h0:=(a7.o y d _ e).1;have h1:=D.o;have U:=M.o;omega
  have O:=Z (And.intro hf.1 (And.intro hf.2.1 (And.intro (OwnL.fill q.o.2.2.2.1 e2 (.slice s p.vars.length z) (.slice j (p.rows.length+1) g)) (And.intro (OwnL.fill q.o.2.2.2.2.1 d8 (.slice s p.vars.length z) (.slice j (p.rows.length+1) g)) (And.intro (show ∀ y ∈ T,Lj _ m.heap.size y from fun y d=>OwnL.fill (q.o.2.2.2.2.2.1 y d) (d9 y d) (.slice s p.vars.length z) (.slice j (p.rows.length+1) g)) (OwnL.fill q.o.2.2.2.2.2.2 e3 (.slice s p.vars.length z) (.slice j (p.rows.length+1) g)))))));clear hf e2 d8 e3 d9;go_wp2_with fail;clear d0 d1 e0 e1 f0 f1 q1 q2 d2 g0;try rw[Exit.noGoto_ret]
  generalize ((n.setCell _ _).setCell _ _).setCell _ _=W9 at O ⊢;have z0:=O.o.2.1.at 0 rfl;have z1:=O.o.2.1.at 1 rfl;refine bodyPost_ret (by simp[results,Tryz.results49,go_sem,z0,z1];rfl) rfl ?_;have el:(addRow p rs).rows.length=p.rows.length+1:=by simp[addRow]
  refine⟨_,rfl,O.o.1,.inl ⟨rs,_,HD.o.1,rfl,s,z,j,g,T ++ [x],?_,OwnL.low O.o.2.2.1 L.o.2,?_,?_,fun y d=>?_⟩⟩
  ·unfold prgV;rw[el];rfl
  ·rw[el];exact OwnL.low O.o.2.2.2.1 L.o.2
  ·rw[List.map_append,e9.o,List.map_cons,List.map_nil,HD.o.2];rfl
  ·rcases List.mem_append.1 d with d|d
   ·exact OwnL.low (O.o.2.2.2.2.1 y d) L.o.2
   ·obtain rfl:=List.mem_singleton.1 d;exact OwnL.low O.o.2.2.2.2.2 D.o.2.1
end Prf
end Go.Proofs.YtcjgimlcefhhmaaGreatDoor
namespace Go.Proofs.YtcjgimlcefhhmaaGreatDoor
namespace Inv
open Go.RowKit
section steps
variable {P:Program}{ops:Array Oper}{Q:Exit→Act→World→Prop}{B:World→Prop}{i:Nat}{t:Tr}{a:Act}{w:World}{o:Oper}
end steps
end Inv
namespace Prf
open Go.RowKit Go.Lib
theorem Yk {n:Nat}:∀ (l:List Ji) (b:Int),-1≤b→b < (n:Int)→Inc n b l→(l.length:Int)≤(n:Int) - 1 - b
 | [],b,h1,h2,_=>by simp;omega
 | t :: l,b,h1,h2,h=>by
  have c:=h.1;have:=Yk l t.v (by omega) (by omega) h.2;rw[List.length_cons];omega
theorem Jo.tl {p:Prg}(h:Jo p):∀ r ∈ p.rows,r.terms.length≤1000000:=fun r c=>by
 have b:=(h.2.2.2 r c).2.2.2.2.2;have f:=h.1;by_cases d:p.vars.length=0
 ·cases ht:r.terms with
  | nil=>simp
  | cons t l=>
   rw[ht,d] at b;have:=b.1;omega
 ·have:=Yk r.terms (-1) (by decide) (by omega) b;omega
theorem J1s (w:World)(D p:Option Addr)(E q k:Nat)(j:List VarM)(n g:Nat)(m:Int)(a0:Bool)(hv:K8 w (.slice D n E) j)(hn:j.length=n)(hj:g < n)(hm : -1099511627776≤m∧m < 1099511627776)(a5:n≤1000000):
  Calls Tryz.prog 47 #[.agg #[.slice D n E,.slice p k q],.int .i64 (g:Int),.int .i64 m,.bool a0] w (Ret w fun r w'=>∃ pv cv,r = .agg #[.slice pv n cv,.slice p k q]∧OwnL w' w.heap.size 62 5 encVar (.slice pv n cv) (if a0=true then setUp j (g:Int) m else setLo j (g:Int) (m+1))):=by
 obtain⟨HV,J⟩:=Z2 hv hn;have T:=Ja.new w #[.slice D n E,.slice p k q] 25;have H:=Ja.new (w.alloc (.cells #[.slice D n E,.slice p k q] 25)) #[.slice none 0 0,.slice none 0 0] 25;simp only[World.size_alloc] at H;have d:=Z (show Gr w _∧Ja _ w.heap.size #[.slice D n E,.slice p k q]∧Ja _ (w.heap.size+1) #[.slice none 0 0,.slice none 0 0] from⟨T.1.trans H.1,T.2.grow H.1,H.2⟩);have b0:(g:Int) < (n:Int):=by omega
 have b1:IntKind.i64.wrap (m+1)=m+1:=by rw[IntKind.wrap_i64];omega
 clear hv hn T H;go_enter Tryz.func47,Tryz.ntmps47;go_wp2_with fail;generalize a1:w.heap.size+1=s at d ⊢;generalize a4:w.heap.size=N at d ⊢;generalize (w.alloc _).alloc _=W at d ⊢;have U:=Z (show w.heap.size≤s∧N≠s from by omega);clear a1 a4;refine(Su W D n E j (SlL.grow HV.o d.o.1) J.o a5).mono ?_;rintro _ F ⟨_,rfl,O,pg,y,rfl,X⟩;obtain⟨c,a7,a6,a2,a3,a8,a9⟩:=OwnL.made X (by rw[J.o];omega);injection a6 with e1 e2 e3;subst e1 e3;have L:=Z (show N≠c∧s≠c∧w.heap.size≤c from by
  have h1:=d.o.2.1.lt;have h2:=d.o.2.2.lt;have h3:=d.o.1.size;exact⟨by omega,by omega,by omega⟩)
 obtain⟨G,TP,v,HO⟩:=Z4 (d.o.1.trans O) (d.o.2.1.grow O) (d.o.2.2.grow O) (OwnL.low X d.o.1.size);clear X O d a2 a3;obtain⟨x,hx⟩:∃ x,j[g]?=some x:=⟨_,List.getElem?_eq_getElem (by rw[J.o];exact hj)⟩
 have M:=Z hx;clear hx;have b2:¬ N=c:=L.o.1;have R:¬ s=c:=L.o.2.1;have b3:¬ N=s:=U.o.2;have y1:=TP.o.at 1 rfl;have d0:=v.o.at 0 rfl;have d1:=v.o.at 1 rfl;have f0:=Ja.f v.o 0;have f1:=Ja.f v.o 1
 cases a0
 ·obtain⟨l,K⟩:∃ z,max x.lo (m+1)=z:=⟨_,rfl⟩
  have I:=Z K;obtain⟨-,-,A,S,C⟩:=OwnL.putS K0 HO.o { x with lo:=l } 0 (.int .i64 l) M.o (by decide) rfl;rw[Nat.add_zero] at A S C;have q0:F.cell? ⟨c,g * 5,none⟩=some (.int .i64 x.lo):=A;have V:=Z C;have u:=fill2 (.slice (some ⟨c,0,none⟩) j.length y) (.slice p k q) (v.o.upd (J5 F c (g * 5) (.int .i64 l)) R) (Gr.set G.o (by have:=L.o.2.2;omega) (.int .i64 l)) U.o.1;have f:=Z (And.intro u.1 (And.intro u.2.1 (OwnL.fill V.o (b:=s) (fun e=>R (Option.some.inj e).symm) (.slice (some ⟨c,0,none⟩) j.length y) (.slice p k q))));clear A C u K;have Y:=I.o;go_wp2_with fail;clear q0 S y1 d0 d1 f0 f1 Y;try rw[Exit.noGoto_ret]
  generalize ((F.setCell _ _).setCell _ _).setCell _ _=W5 at f ⊢;have z0:=f.o.2.1.at 0 rfl;have z1:=f.o.2.1.at 1 rfl;refine bodyPost_ret (by simp[results,Tryz.results47,go_sem,z0,z1];rfl) rfl ?_;refine⟨_,rfl,f.o.1,some ⟨c,0,none⟩,y,rfl,?_⟩;rw[J12 M.o,I.o];have h:=f.o.2.2;rw[← J.o] at h;exact h
 ·obtain⟨l,K⟩:∃ z,min x.up m=z:=⟨_,rfl⟩
  have I:=Z K;obtain⟨-,-,A,S,C⟩:=OwnL.putS K0 HO.o { x with up:=l } 1 (.int .i64 l) M.o (by decide) rfl
  skip
  have q0:F.cell? ⟨c,g * 5+1,none⟩=some (.int .i64 x.up):=A;have V:=Z C;have u:=fill2 (.slice (some ⟨c,0,none⟩) j.length y) (.slice p k q) (v.o.upd (J5 F c (g * 5+1) (.int .i64 l)) R) (Gr.set G.o (by have:=L.o.2.2;omega) (.int .i64 l)) U.o.1;have f:=Z (And.intro u.1 (And.intro u.2.1 (OwnL.fill V.o (b:=s) (fun e=>R (Option.some.inj e).symm) (.slice (some ⟨c,0,none⟩) j.length y) (.slice p k q))));clear A C u K;have Y:=I.o;go_wp2_with fail;clear q0 S y1 d0 d1 f0 f1 Y;try rw[Exit.noGoto_ret]
  generalize ((F.setCell _ _).setCell _ _).setCell _ _=W5 at f ⊢;have z0:=f.o.2.1.at 0 rfl;have z1:=f.o.2.1.at 1 rfl;refine bodyPost_ret (by simp[results,Tryz.results47,go_sem,z0,z1];rfl) rfl ?_;refine⟨_,rfl,f.o.1,some ⟨c,0,none⟩,y,rfl,?_⟩;rw[J16 M.o,I.o];have h:=f.o.2.2;rw[← J.o] at h;exact h
end Prf
end Go.Proofs.YtcjgimlcefhhmaaGreatDoor
namespace Go.Proofs.YtcjgimlcefhhmaaGreatDoor
namespace Prf
open Go.RowKit Go.Lib
def OKV (x:VarM):Prop:=x.ig=true∧x.op=false
theorem J6E (w:World)(x:VarM):Calls Tryz.prog 42 (#[mkVar x] ++ #[]) w (Ret w fun r _=>Jb (¬ OKV x) r):=by
 show Calls _ _ #[.agg #[.int .i64 x.lo,.int .i64 x.up,.bool x.op,.bool x.ig,.int .i64 x.cost]] _ _;obtain⟨l,j⟩:∃ b,x.op=b:=⟨_,rfl⟩
 obtain⟨k,g⟩:∃ b,x.ig=b:=⟨_,rfl⟩
 have d:=Z (And.intro j g);rw[j,g];have f:=Z (show Gr w (w.alloc (.cells #[.int .i64 x.lo,.int .i64 x.up,.bool l,.bool k,.int .i64 x.cost] 62)) from(Gr.refl _).alloc _);clear j g
 cases k
 ·have H:=Z (show ¬ OKV x from fun h=>by have c:=h.1;rw[d.o.2] at c;cases c);go_enter Tryz.func42,Tryz.ntmps42;go_wp2_with fail;go_ret;exact⟨_,rfl,f.o,Jb.yes H.o⟩
 ·cases l
  ·have H:=Z (show ¬ ¬ OKV x from fun h=>h ⟨d.o.2,d.o.1⟩);go_enter Tryz.func42,Tryz.ntmps42;go_wp2_with fail;go_ret;exact⟨_,rfl,f.o,Jb.no H.o⟩
  ·have H:=Z (show ¬ OKV x from fun h=>by have c:=h.2;rw[d.o.1] at c;cases c);go_enter Tryz.func42,Tryz.ntmps42;go_wp2_with fail;go_ret;exact⟨_,rfl,f.o,Jb.yes H.o⟩
theorem J1y (w:World)(v:Value)(p:Prg)(z:Js w v p)(u:PrgI p)(y:∀ r ∈ p.rows,r.name.length≤1000000)(L:p.vars.length≤1000000)(K:p.rows.length≤1000000):
  Calls Tryz.prog 23 #[v] w (Ret w fun r _=>Jb (Jo p∧Whole p) r):=by
 obtain⟨E,F,s⟩:=Z3 u y z;clear u y;obtain⟨A,C,M,N,rfl,m,l⟩:=z;obtain⟨I,S⟩:=Z2 m l;obtain⟨_,_,_,X,Y⟩:=SlL.parts m;obtain⟨_,_,_,U,V⟩:=l.parts;clear m l;have q:=Ja.new w #[.slice A p.vars.length C,.slice M p.rows.length N] 25;have b:=Z q;unfold prgV;clear q;unfold prgV at s;go_enter Tryz.func23,Tryz.ntmps23;go_wp2_with fail;generalize w.heap.size=T at b ⊢;generalize w.alloc _=W at b ⊢;obtain⟨G,f⟩:=Z2 b.o.1 b.o.2;clear b;refine(Tu W _ p (s.o.grow G.o) E.o F.o L K).mono ?_;rintro _ O ⟨r1,rfl,g1,j⟩;obtain⟨G,f⟩:=Z2 (G.o.trans g1) (f.o.grow g1);rcases j.cases with⟨rfl,c⟩|⟨rfl,c⟩;rotate_left
 ·have H:=Z (show ¬ (Jo p∧Whole p) from fun h=>c h.1);clear j c g1;go_wp2_with fail;go_ret;exact⟨_,rfl,G.o,Jb.no H.o⟩
 have D:=Z c;have R:=f.o.at 0 rfl;clear j c g1;go_wp2_with fail;clear R;refine(J6H O A p.vars.length C p.vars (.func (.func 42) #[] #[]) (fun x=>¬ OKV x) (SlL.grow I.o G.o) rfl (by omega) ⟨_,_,rfl,enters_of Tryz.func42 (by kernel_rfl) rfl,fun w' _ x _=>J6E w' x⟩).mono ?_;rintro _ w2 ⟨r2,rfl,g,k⟩;have G:=Z (G.o.trans g);rcases k.cases with⟨rfl,d⟩|⟨rfl,d⟩
 ·have H:=Z (show ¬ (Jo p∧Whole p) from fun h=>by obtain⟨x,n,J⟩:=d;exact J (h.2 x n));clear k d g;go_wp2_with fail;go_ret;exact⟨_,rfl,G.o,Jb.no H.o⟩
 ·have H:=Z (show Jo p∧Whole p from⟨D.o,fun x n=>Classical.not_not.1 fun h=>d ⟨x,n,h⟩⟩);clear k d g;go_wp2_with fail;go_ret;exact⟨_,rfl,G.o,Jb.yes H.o⟩
structure Kx (n:Jk):Prop where
 m:n.mult.length≤16
 ms:∀ x ∈ n.mult,Sz 4 x
 c:n.cut.mult.length≤16
 cs:∀ x ∈ n.cut.mult,Sz 4 x
 v:n.cut.vars.length≤1000
theorem R7 (w:World)(b c:Option Addr)(d f n m:Nat)(x:Jr):
  Gr w ((w.alloc (.cells #[.slice b n d,.slice c m f] 25)).alloc (.cells (nodeA x) 47))∧Ja ((w.alloc (.cells #[.slice b n d,.slice c m f] 25)).alloc (.cells (nodeA x) 47)) w.heap.size #[.slice b n d,.slice c m f]∧
   Ja ((w.alloc (.cells #[.slice b n d,.slice c m f] 25)).alloc (.cells (nodeA x) 47)) (w.heap.size+1) (nodeA x):=by
 have h:=Ja.new w #[.slice b n d,.slice c m f] 25;have g:=Ja.new (w.alloc (.cells #[.slice b n d,.slice c m f] 25)) (nodeA x) 47;rw[World.size_alloc] at g;exact⟨h.1.trans g.1,h.2.grow g.1,g.2⟩
theorem J1u (w:World)(v:Value)(p:Prg)(x:Jr)(n:Jk)(u:Js w v p)(m:Kl w x n 4)(f:Jo p)(y:Whole p)(I:p.vars.length≤10)(F:p.rows.length≤40)(d:Kx n):
  Calls Tryz.prog 43 #[v,.agg (nodeA x)] w (Ret w fun r _=>Jb (n.mult.length≤p.rows.length∧Lw p n.mult) r):=by
 obtain⟨A,D,s,z,g,q⟩:=Z6 f y u (P4 d.ms d.m f.2.2.2 f.2.2.1 F I) m.mn m.mult;obtain⟨N,R,O,S,rfl,K,J⟩:=u;have b:=Z (R7 w N O R S p.vars.length p.rows.length x);obtain⟨kd,M,mn,L,a2,a1,X,cp,Y,V,row,vp,vn,a3⟩:=x;dsimp only at g q;unfold nodeA at b ⊢;dsimp only at b ⊢;have a0:n.mult.length≤16:=d.m;have e:=g.o;clear g;subst e;clear f y K J m d;unfold prgV at s ⊢;by_cases h:n.mult.length≤p.rows.length
 ·have C:=Z h;have E:(n.mult.length:Int)≤(p.rows.length:Int):=by omega
  go_enter Tryz.func43,Tryz.ntmps43;go_wp2_with fail;generalize w.heap.size+1=T at b ⊢;generalize w.heap.size=U at b ⊢;generalize (w.alloc _).alloc _=W at b ⊢;refine(J2E W _ p M L n.mult (s.o.grow b.o.1) (q.o.grow b.o.1) z.o A.o D.o).mono ?_;rintro _ w2 ⟨r2,rfl,j,l⟩;have G:=Z (b.o.1.trans j);rcases l.cases with⟨rfl,c⟩|⟨rfl,c⟩
  ·have H:=Z (And.intro C.o c);clear l c j;go_wp2_with fail;go_ret;exact⟨_,rfl,G.o,Jb.yes H.o⟩
  ·have H:=Z (show ¬ (n.mult.length≤p.rows.length∧Lw p n.mult) from fun h=>c h.2);clear l c j;go_wp2_with fail;go_ret;exact⟨_,rfl,G.o,Jb.no H.o⟩
 ·have H:=Z (show ¬ (n.mult.length≤p.rows.length∧Lw p n.mult) from fun k=>h k.1);have E:¬ (n.mult.length:Int)≤(p.rows.length:Int):=by omega
  go_enter Tryz.func43,Tryz.ntmps43;go_wp2_with fail;go_ret;exact⟨_,rfl,b.o.1,Jb.no (by first|exact H.o|simp)⟩
def Lv (p:Prg)(j:Int):Prop:=0≤j∧∃ v,p.vars[j.toNat]?=some v∧v.up < v.lo
theorem J1v (w:World)(v:Value)(p:Prg)(x:Jr)(n:Jk)(O:Js w v p)(L:Kl w x n 4)(hn:p.vars.length≤1000000):
  Calls Tryz.prog 45 #[v,.agg (nodeA x)] w (Ret w fun r _=>Jb (Lv p n.var) r):=by
 have f:=Z L.var;obtain⟨S,U,T,V,rfl,K,R⟩:=O;obtain⟨M,d⟩:=Z2 K (R7 w S T U V p.vars.length p.rows.length x);obtain⟨kd,mp,mn,mc,k,a0,ck,cp,cn,cc,row,vp,vn,a1⟩:=x;dsimp only at f;unfold nodeA at d ⊢;dsimp only at d ⊢;clear K R L;unfold prgV;go_enter Tryz.func45,Tryz.ntmps45;go_wp2_with fail;generalize w.heap.size+1=X at d ⊢;generalize w.heap.size=Y at d ⊢;generalize (w.alloc _).alloc _=W at d ⊢;have x2:=d.o.2.2.c 2 rfl;have y0:=d.o.2.1.c 0 rfl;have c:Gr W W.drew:=(Gr.refl _).drew;by_cases m:0≤k
 ·by_cases s:k < (p.vars.length:Int)
  ·obtain⟨D,rfl⟩:∃ j:Nat,k=(j:Int):=⟨k.toNat,by omega⟩
   have N:D < p.vars.length:=by omega
   obtain⟨b,o,u,rfl,J,C⟩:=K5 M.o rfl N;have E:=Z J;have c0:=fun w' g=>(C w' (d.o.1.trans g)).1;have c1:=fun w' g=>(C w' (d.o.1.trans g)).2.1;clear C J m s;have m:(0:Int)≤(D:Int):=by omega
   have s:(D:Int) < (p.vars.length:Int):=by omega
   by_cases A:u.up < u.lo
   ·have H:=Z (show Lv p n.var from⟨by rw[← f.o];omega,u,by rw[← f.o,Int.toNat_natCast];exact E.o,A⟩);refine Jl [(0,true),(1,true),(2,true),(3,true),(4,true),(5,true),(6,true),(7,true),(8,true),(9,true),(10,true),(11,true),(12,true),(13,true),(14,true),(15,true),(16,true),(17,true),(18,true),(19,true),(20,true),(21,true),(22,true),(23,true),(24,true),(25,true),(26,true),(27,true),(28,true)] ?_;generalize W.drew=y at c ⊢;repeat(first|(refine Jw (h:=?_))|(refine Jc c (h:=?_)))
    refine Jg ?_;have G:=Z (d.o.1.trans c);clear c;go_wp2_with fail;go_ret;exact⟨_,rfl,G.o,Jb.yes H.o⟩
   ·have F:decide (u.up < u.lo)=false:=decide_eq_false A;have l:=Z A;have H:=Z (show ¬ Lv p n.var from fun h=>by(obtain⟨-,z,q,I⟩:=h;rw[← f.o,Int.toNat_natCast,E.o] at q;cases q;exact l.o I));refine Jl [(0,true),(1,true),(2,true),(3,true),(4,true),(5,true),(6,true),(7,true),(8,true),(9,true),(10,true),(11,true),(12,true),(13,true),(14,true),(15,true),(16,true),(17,true),(18,true),(19,true),(20,true),(21,true),(22,true),(23,true),(24,true),(25,true),(26,true),(27,true),(28,true)] ?_;generalize W.drew=y at c ⊢;repeat(first|(refine Jw (h:=?_))|(refine Jc c (h:=?_)))
    refine Jg ?_;have G:=Z (d.o.1.trans c);clear c;go_wp2_with fail;go_ret;exact⟨_,rfl,G.o,Jb.no H.o⟩
  ·have F:decide (k < (p.vars.length:Int))=false:=decide_eq_false s;have l:=Z s;have H:=Z (show ¬ Lv p n.var from fun h=>by(obtain⟨m,z,q,I⟩:=h;rw[← f.o] at q;have:=(List.getElem?_eq_some_iff.1 q).1;have:=l.o;omega));refine Jl [(0,true),(1,true),(2,true),(3,true),(4,true),(5,true),(6,true),(7,true),(8,true),(9,true),(10,true),(11,true),(12,true),(13,true),(14,true),(15,true),(16,true),(17,true),(18,true),(19,true),(20,true),(21,true),(22,true),(23,true),(24,true),(25,true),(26,true),(27,true),(28,true)] ?_;generalize W.drew=y at c ⊢;repeat(first|(refine Jw (h:=?_))|(refine Jc c (h:=?_)))
   refine Jg ?_;have G:=Z (d.o.1.trans c);clear c;go_wp2_with fail;go_ret;exact⟨_,rfl,G.o,Jb.no H.o⟩
 ·have F:decide (0≤k)=false:=decide_eq_false m;have l:=Z m;have H:=Z (show ¬ Lv p n.var from fun h=>l.o (by rw[f.o];exact h.1));refine Jl [(0,true),(1,true),(2,true),(3,true),(4,true),(5,true),(6,true),(7,true),(8,true),(9,true),(10,true),(11,true),(12,true),(13,true),(14,true),(15,true),(16,true),(17,true),(18,true),(19,true),(20,true),(21,true),(22,true),(23,true),(24,true),(25,true),(26,true),(27,true),(28,true)] ?_;generalize W.drew=y at c ⊢;repeat(first|(refine Jw (h:=?_))|(refine Jc c (h:=?_)))
  refine Jg ?_;have G:=Z (d.o.1.trans c);clear c;go_wp2_with fail;go_ret;exact⟨_,rfl,G.o,Jb.no H.o⟩
end Prf
end Go.Proofs.YtcjgimlcefhhmaaGreatDoor
namespace Go.Proofs.YtcjgimlcefhhmaaGreatDoor
open Go.RowKit Go.Lib
theorem SlL.rest {α:Type}{enc:α→List Value}{sz:Nat}{w:World}{b o n c:Nat}{l:List α}(r:∀ x,(enc x).length=sz)(h:SlL w sz enc (.slice (some ⟨b,o,none⟩) n c) l){k:Nat}(A:k≤l.length)(q:Option Addr)(d:q=some ⟨b,o+k * sz,none⟩∨c=k):SlL w sz enc (.slice q (n - k) (c - k)) (l.drop k):=by
 have C:l.length=n:=by
  obtain⟨p',c',g,_⟩:=h.parts;injection g with _ m _;exact m.symm
 obtain⟨D,p',c',g,E,m,p⟩:=h;injection g with e1 e2 e3;subst e1 e3;have s:(l.drop k).length=n - k:=by rw[List.length_drop,C]
 unfold SlL;rw[s];refine⟨by rw[K4 r,s],q,c - k,rfl,by omega,by omega,?_⟩;rcases d with d|d
 ·rcases p with p|⟨b',F,f,y⟩
  ·left;omega
  ·injection f with f;injection f with e1 e2 _;subst e1 e2;refine .inr ⟨b,o+k * sz,d,fun j u z=>?_⟩;have:=y (k * sz+j) u (by
    have e:l.flatMap enc=(l.take k).flatMap enc ++ (l.drop k).flatMap enc:=by rw[← List.flatMap_append,List.take_append_drop]
    have v:(List.flatMap enc (l.take k)).length=k * sz:=by rw[K4 r,List.length_take,Nat.min_eq_left A]
    rw[e,List.getElem?_append_right (by rw[v];omega),v,show k * sz+j - k * sz=j by omega];exact z)
   rw[← Nat.add_assoc] at this;exact this
 ·left;omega
namespace Prf
theorem Rn {w:World}{p:Option Addr}{n c L:Nat}{x:Jk}{N:List Jk}(h:J1 w (.slice p n c) (x :: N) L):
  ∃ b o t,p=some ⟨b,o,none⟩∧Kl w t x L∧(∀ w',Gr w w'→∀ j u,(encNode t)[j]?=some u→w'.cell? ⟨b,o+j,none⟩=some u)∧∀ q,(q=some ⟨b,o+8,none⟩∨c=1)→J1 w (.slice q (n - 1) (c - 1)) N L:=by
 obtain⟨T,d,m,f⟩:=h;have z:T.length=n:=by
  obtain⟨p',c',e,_⟩:=d.parts
  cases e;rfl
 have F:T.length=N.length+1:=by simpa using m
 obtain⟨b,o,t,A,D,r⟩:=d.at N0 z (k:=0) (by omega);subst A;refine⟨b,o,t,rfl,f 0 t x D rfl,fun w' g j u v=>by have:=r j u v w' g;rw[Nat.zero_mul,Nat.add_zero] at this;exact this,fun q C=>?_⟩;refine⟨T.drop 1,SlL.rest N0 d (by omega) q (by rw[Nat.one_mul];exact C),by rw[List.length_drop];omega,fun i s y l E=>?_⟩;rw[List.getElem?_drop] at l;exact f (1+i) s y l (by rw[Nat.add_comm];simpa using E)
def J3 (w:World)(bt:Nat)(v:Value)(p:Prg):Prop:=∀ w',w.grownBy w' (some bt)→Js w' v p
theorem Yf (w:World)(b:Nat):w.grownBy w (some b):=Jp.refl b w
theorem J8 {w w':World}(b:Nat)(g:Gr w w'):w.grownBy w' (some b):=Jp.of_gr g
theorem Kc {w w' c:World}{b:Nat}(g:w.grownBy w' (some b))(h:w'.grownBy c (some b)):w.grownBy c (some b):=Jp.trans g h
theorem J3.at {w:World}{b:Nat}{v:Value}{p:Prg}(h:J3 w b v p):Js w v p:=h w (Yf w b)
theorem J3.go {w w':World}{b:Nat}{v:Value}{p:Prg}(h:J3 w b v p)(g:w.grownBy w' (some b)):J3 w' b v p:=fun c k=>h c (Kc g k)
theorem J3.new {w:World}{base b:Nat}{v:Value}{p:Prg}(h:Lx w base v p)(c:b < base):J3 w b v p:=fun w' g=>(h.kept c g).at
theorem J3.part {w j:World}{base f:Nat}{v l pv:Option Addr}{y m cv:Nat}{p q:Prg}(h:J3 w f (.agg #[.slice v p.vars.length y,.slice l p.rows.length m]) p)(g:w.grownBy j (some f))(A:Jp f w j)(s:q.rows=p.rows)
  (r:OwnL j base 62 5 encVar (.slice pv q.vars.length cv) q.vars) (z:f < base):J3 j f (.agg #[.slice pv q.vars.length cv,.slice l p.rows.length m]) q:=fun w' k=>by
 obtain⟨a,c,b,d,e,C,u⟩:=h w' (Kc g k);unfold prgV at e;injection e with e;have n:=congrArg (fun x=>x[1]?) e;simp at n;obtain⟨rfl,rfl⟩:=n;refine⟨pv,cv,l,m,by unfold prgV;rw[s],?_,by rw[s];exact u⟩;exact(show OwnL w' base 62 5 encVar (.slice pv q.vars.length cv) q.vars from World.ownsRow.kept r k (.inr fun e=>by have:=(World.ownsRow.lt r f e).1;omega)).read
def visitF (bt bs:Nat):Value:=.func (.func 50) #[] #[.pointer (some ⟨bt,0,none⟩),.pointer (some ⟨bs,0,none⟩)]
def stepsL (bv:Nat):List (Value × Value):=[(.int .i64 0,.func (.func 43) #[] #[]),(.int .i64 1,.func (.func 45) #[] #[]),
 (.int .i64 2,.func (.func 46) #[] #[.pointer (some ⟨bv,0,none⟩)]),(.int .i64 3,.func (.func 48) #[] #[.pointer (some ⟨bv,0,none⟩)])]
structure Le (W0 w:World)(bt bv bs bm:Nat)(tv:Value):Prop where
 g:Gr W0 w
 t:Ja w bt #[tv]
 v:Ja w bv #[visitF bt bs]
 s:Ja w bs #[.map (some bm)]
 m:Ld w bm (stepsL bv)
 n:bt≠bv∧bt≠bs∧bt≠bm∧W0.heap.size≤bt
theorem Le.grow {b w w':World}{f j d c:Nat}{tv:Value}(h:Le b w f j d c tv)(g:Gr w w'):Le b w' f j d c tv:=
 ⟨h.g.trans g,h.t.grow g,h.v.grow g,h.s.grow g,h.m.grow g,h.n⟩
theorem Le.set {g w:World}{b k j d:Nat}{tv:Value}(h:Le g w b k j d tv)(u:Value):Le g (w.setCell ⟨b,0,none⟩ u) b k j d u∧w.grownBy (w.setCell ⟨b,0,none⟩ u) (some b):=by
 have f:=J5 w b 0 u;refine⟨⟨Gr.set h.g (by have:=h.n.2.2.2;omega) _,?_,h.v.upd f h.n.1.symm,h.s.upd f h.n.2.1.symm,?_,h.n⟩,Jp.set b w 0 u⟩
 ·have:=h.t.set 0 u;simpa using this
 ·obtain⟨es,c,l,m⟩:=h.m;exact⟨es,c,by rw[f d h.n.2.2.1.symm];exact l,m⟩
def VisR (p:Prg)(N:List Jk)(W0 w:World)(bt bv bs bm:Nat)(r:Value)(w':World):Prop:=
 w.grownBy w' (some bt)∧((∃ S pt nt ct,Jm p N S∧r = .bool true∧Le W0 w' bt bv bs bm (.slice pt nt ct)∧J1 W0 (.slice pt nt ct) S 4∧nt=S.length)∨((¬ ∃ S,Jm p N S)∧r = .bool false∧∃ tv,Le W0 w' bt bv bs bm tv))
structure PvP (p:Prg)(k:Nat):Prop where
 ok:Jo p
 wh:Whole p
 n:p.vars.length≤10
 m:p.rows.length+k≤40
theorem PvP.low {p:Prg}{k:Nat}{j m:Int}(h:PvP p k)(c : -1099511627776≤m∧m < 1099511627776):PvP (lowPart p j m) k:=by
 obtain⟨a,b⟩:=J46 h.ok h.wh (v:=j) c.1 c.2;exact⟨a,b,by simp only[lowPart,Qn];exact h.n,h.m⟩
theorem PvP.high {p:Prg}{k:Nat}{j m:Int}(h:PvP p k)(c : -1099511627776≤m∧m < 1099511627776):PvP (highPart p j m) k:=by
 obtain⟨a,b⟩:=J3x h.ok h.wh (v:=j) c.1 c.2;exact⟨a,b,by simp only[highPart,Qm];exact h.n,h.m⟩
theorem PvP.less {p:Prg}{k k':Nat}(h:PvP p k)(b:k'≤k):PvP p k':=⟨h.ok,h.wh,h.n,by have:=h.m;omega⟩
theorem PvP.add {p:Prg}{k:Nat}{c:CutS}{r:RowS}(h:PvP p (k+1))(b:Kn p c r):PvP (addRow p r) k:=
 have d:=h.m
 ⟨J22 h.ok (J2O h.ok b) (by omega),h.wh,h.n,by simp only[addRow,List.length_append,List.length_singleton];omega⟩
theorem J5k {p:Prg}{S:List Jk}:¬ Jm p [] S:=fun h=>by cases h
theorem Uq {p:Prg}{N S:List Jk}(h:Jm p N S):S.length≤N.length∧∀ n ∈ S,n ∈ N:=by
 obtain⟨u,_,rfl,_⟩:=J0m h;exact⟨by rw[List.length_append];omega,fun n b=>List.mem_append.2 (.inr b)⟩
theorem J3.vars {w:World}{k:Nat}{g m:Option Addr}{j n:Nat}{p:Prg}(h:J3 w k (.agg #[.slice g p.vars.length j,.slice m p.rows.length n]) p):K8 w (.slice g p.vars.length j) p.vars:=by
 obtain⟨a,c,b,d,e,l,q⟩:=h.at
 unfold prgV at e;injection e with e;have f:=congrArg (fun x=>x[0]?) e;simp at f;obtain⟨rfl,rfl⟩:=f;exact l
theorem J3.low {w c:World}{base b:Nat}{v d pv:Option Addr}{x f cv n k:Nat}{p:Prg}{j m:Int}(u:p.vars.length=n)(s:p.rows.length=k)(h:J3 w b (.agg #[.slice v n x,.slice d k f]) p)(g:w.grownBy c (some b))
  (l:OwnL c base 62 5 encVar (.slice pv n cv) (setUp p.vars j m)) (r:b < base):J3 c b (.agg #[.slice pv n cv,.slice d k f]) (lowPart p j m):=by
 subst u s;have e:(lowPart p j m).vars.length=p.vars.length:=Qn ..;have:=J3.part (q:=lowPart p j m) (pv:=pv) (cv:=cv) h g g rfl (by rw[e];exact l) r;rw[e] at this;exact this
theorem J3.high {w c:World}{base b:Nat}{v d pv:Option Addr}{x f cv n k:Nat}{p:Prg}{j m:Int}(u:p.vars.length=n)(s:p.rows.length=k)(h:J3 w b (.agg #[.slice v n x,.slice d k f]) p)(g:w.grownBy c (some b))
  (l:OwnL c base 62 5 encVar (.slice pv n cv) (setLo p.vars j (m+1))) (r:b < base):J3 c b (.agg #[.slice pv n cv,.slice d k f]) (highPart p j m):=by
 subst u s;have e:(highPart p j m).vars.length=p.vars.length:=Qm ..;have:=J3.part (q:=highPart p j m) (pv:=pv) (cv:=cv) h g g rfl (by rw[e];exact l) r;rw[e] at this;exact this
def VisC (k:Nat)(W0:World)(bt bv bs bm:Nat):Prop:=∀ (w:World) (v:Value) (p:Prg) (N:List Jk) (pt:Option Addr) (ct nt:Nat),N.length < k→nt=N.length→Le W0 w bt bv bs bm (.slice pt nt ct)→J1 W0 (.slice pt nt ct) N 4→J3 w bt v p→
 PvP p N.length→(∀ n ∈ N,Kx n)→Calls Tryz.prog 50 #[v,.pointer (some ⟨bt,0,none⟩),.pointer (some ⟨bs,0,none⟩)] w (fun e w'=>∃ r,e = .returned r∧VisR p N W0 w bt bv bs bm r w')
theorem VisR.leaf {p:Prg}{l N:List Jk}{c w w':World}{d q n m:Nat}{r:Value}{P:Prop}{j:Option Addr}{f b:Nat}(h:∀ S,Jm p l S↔P∧S=N)(y:Jb P r)(g:Gr w w')(s:Le c w d q n m (.slice j b f))(x:J1 c (.slice j b f) N 4)(v:b=N.length):VisR p l c w d q n m r w':=by
 refine⟨J8 d g,?_⟩;rcases y.cases with⟨rfl,k⟩|⟨rfl,k⟩
 ·exact .inl ⟨N,j,b,f,(h N).2 ⟨k,rfl⟩,rfl,s.grow g,x,v⟩
 ·exact .inr ⟨fun⟨S,u⟩=>k ((h S).1 u).1,rfl,_,s.grow g⟩
end Prf
namespace Inv
section steps
variable {P:Program}{ops:Array Oper}{Q:Exit→Act→World→Prop}{B:World→Prop}{i:Nat}{t:Tr}{a:Act}{w:World}{o:Oper}
theorem Oc (b:ops[i]?=some o)(c:Region.wanted o (yielded ops a.tmps)=false)(h:∀ K:Act→World→Prop,(∀ a w,wpL P ops Q B t a w→K a w)→K (a.put o.dst undef) w):wpL P ops Q B (.read i t) a w:=⟨o,b,by rw[if_neg (by simp[c])];exact h _ (fun _ _ h=>h)⟩
theorem Ob (b:ops[i]?=some o)(c:Region.wanted o (yielded ops a.tmps)=false)(h:∀ K:Act→World→Prop,(∀ a w,wpL P ops Q B t a w→K a w)→K (a.put o.dst undef) w):wpL P ops Q B (.one i t) a w:=⟨o,b,by rw[if_neg (by simp[c])];exact h _ (fun _ _ h=>h)⟩
end steps
end Inv
end Go.Proofs.YtcjgimlcefhhmaaGreatDoor
namespace Go.Proofs.YtcjgimlcefhhmaaGreatDoor
namespace Prf
open Go.RowKit Go.Lib
theorem J1z {w:World}{d:Nat}{b j:Option Addr}{c l n k:Nat}{p:Prg}(g:p.vars.length=n)(f:p.rows.length=k)(h:J3 w d (.agg #[.slice b n c,.slice j k l]) p):K8 w (.slice b n c) p.vars:=by
 subst g f;exact h.vars
theorem J1w (W0 w:World)(c k m bm:Nat)(pt:Option Addr)(ct:Nat)(v:Value)(p:Prg)(x:Jr)(n:Jk)(N:List Jk)(nt:Nat)(c6:nt=N.length)(IH:VisC (N.length+1) W0 c k m bm)(he:Le W0 w c k m bm (.slice pt nt ct))(c3:J1 W0 (.slice pt nt ct) N 4)
  (hs:J3 w c v p) (hx:Kl w x n 4) (hp:PvP p (N.length+1)) (hf:∀ n ∈ N,Kx n) (h2:n.kind=2) (h3:Kg n):
  Calls Tryz.prog 46 #[v,.agg (nodeA x),.pointer (some ⟨k,0,none⟩)] w (fun e w'=>∃ r,e = .returned r∧VisR p (n :: N) W0 w c k m bm r w'):=by
 obtain⟨b7,HE,b8,b1,HF,HK,a1⟩:=Z7 IH he (And.intro c3 c6) hp hf (fun s=>Uo (p:=p) (n:=n) (t:=N) (s:=s) h3 h2) (And.intro hx.var hx.pos);obtain⟨y,C,A,D,rfl,hv,hr⟩:=hs.at
 have HS:=Z hs;unfold prgV at HS ⊢;obtain⟨g,b4⟩:∃ z,p.vars.length=z:=⟨_,rfl⟩
 obtain⟨u,b3⟩:∃ z,p.rows.length=z:=⟨_,rfl⟩
 have a2:=Z (And.intro b4 b3);rw[b4,b3] at HS ⊢;have I:=Z (R7 w y A C D g u x);clear IH he c3 c6 hs hp hf h2 h3 hv hr hx b4 b3;obtain⟨R,V,U,T,G,f,L,O,M,J,row,vp,Y,X⟩:=x;dsimp only at a1;unfold nodeA at I ⊢;dsimp only at I ⊢;go_enter Tryz.func46,Tryz.ntmps46;go_wp2_with fail;have c1:=Z (show c < w.heap.size∧k < w.heap.size from⟨HE.o.t.lt,HE.o.v.lt⟩);generalize d6:w.heap.size+1=q at I ⊢;generalize d7:w.heap.size=l at I c1 ⊢;generalize (w.alloc _).alloc _=W at I ⊢;have a3:=Z (show c < l∧k < l∧c < q∧l < W.heap.size∧q < W.heap.size from by
  have:=c1.o;have h1:=I.o.2.1.lt;have h2:=I.o.2.2.lt;omega)
 clear d6 d7;have E:Ja W.drew k #[visitF c m]∧Ja W.drew l #[.slice y g C,.slice A u D]∧Ja W.drew q (nodeA ⟨R,V,U,T,G,f,L,O,M,J,row,vp,Y,X⟩):=
  have g0:Gr W W.drew:=(Gr.refl _).drew
  ⟨HE.o.v.grow (I.o.1.trans g0),I.o.2.1.grow g0,I.o.2.2.grow g0⟩
 have x2:∀ w',(Ja w' k #[visitF c m]∧Ja w' l #[.slice y g C,.slice A u D]∧Ja w' q (nodeA ⟨R,V,U,T,G,f,L,O,M,J,row,vp,Y,X⟩))→w'.cell? ⟨q,2,none⟩=some (.int .i64 G):=fun w' h=>h.2.2.at 2 rfl;have x3:∀ w',(Ja w' k #[visitF c m]∧Ja w' l #[.slice y g C,.slice A u D]∧Ja w' q (nodeA ⟨R,V,U,T,G,f,L,O,M,J,row,vp,Y,X⟩))→w'.cell? ⟨q,3,none⟩=some (.int .i64 f):=fun w' h=>h.2.2.at 3 rfl;have y0:∀ w',(Ja w' k #[visitF c m]∧Ja w' l #[.slice y g C,.slice A u D]∧Ja w' q (nodeA ⟨R,V,U,T,G,f,L,O,M,J,row,vp,Y,X⟩))→w'.cell? ⟨l,0,none⟩=some (.slice y g C):=fun w' h=>h.2.1.at 0 rfl;have y1:∀ w',(Ja w' k #[visitF c m]∧Ja w' l #[.slice y g C,.slice A u D]∧Ja w' q (nodeA ⟨R,V,U,T,G,f,L,O,M,J,row,vp,Y,X⟩))→w'.cell? ⟨l,1,none⟩=some (.slice A u D):=fun w' h=>h.2.1.at 1 rfl;have z0:∀ w',(Ja w' k #[visitF c m]∧Ja w' l #[.slice y g C,.slice A u D]∧Ja w' q (nodeA ⟨R,V,U,T,G,f,L,O,M,J,row,vp,Y,X⟩))→w'.cell? ⟨k,0,none⟩=some (.func (.func 50) #[] #[.pointer (some ⟨c,0,none⟩),.pointer (some ⟨m,0,none⟩)]):=fun w' h=>h.1.at 0 rfl;by_cases h0:0≤G;rotate_left
 ·have e2:decide (0≤G)=false:=decide_eq_false h0;have HX:=Z h0;clear h0;have H:=Z (show ¬ ∃ S,Jm p (n :: N) S from fun⟨S,h⟩=>HX.o (by rw[a1.o.1];exact((HK.o S).1 h).1.1));refine Inv.Mw (fun w'=>Ja w' k #[visitF c m]∧Ja w' l #[.slice y g C,.slice A u D]∧Ja w' q (nodeA ⟨R,V,U,T,G,f,L,O,M,J,row,vp,Y,X⟩)) (.read 0 (.read 1 (.read 2 (.read 3 (.read 4 (.read 5 (.read 6 (.read 7 (.read 8 (.read 9 (.read 10 (.read 11 (.read 12 (.read 13 (.read 14 (.read 15 (.read 16 (.read 17 (.read 18 (.read 19 (.read 20 (.read 21 (.read 22 (.read 23 (.read 24 (.read 25 (.read 26 (.read 27 (.one 28 (.one 29 (.read 30 (.read 31 (.read 32 (.read 33 (.read 34 (.read 35 (.read 36 (.read 37 (.one 38 (.one 39 (.read 40 (.read 41 .stop)))))))))))))))))))))))))))))))))))))))))) E (by kernel_rfl) (by kernel_rfl) rfl (by kernel_rfl) (fun _ _ d _ _ h=>by cases d<;>exact h) ?_;generalize a0:W.drew=Wd at E ⊢;have F:=Z (show Gr w Wd from by rw[← a0];exact I.o.1.trans (Gr.refl W).drew);clear a0 E;repeat(first|(refine Inv.Kv (v:=?_) rfl rfl (fun w' hg=>?_) (fun K b=>?_);rotate_left;(go_simp;rfl);go_simp;refine b _ _ ?_;clear b K)|(refine Inv.Oc rfl rfl (fun K b=>?_);go_simp;refine b _ _ ?_;clear b K)|(refine Inv.Ob rfl rfl (fun K b=>?_);go_simp;refine b _ _ ?_;clear b K))
  refine Inv.Mh ?_;clear x2 x3 y0 y1 z0;go_wp2_with fail;go_ret;exact⟨_,rfl,J8 c F.o,.inr ⟨H.o,rfl,_,HE.o.grow F.o⟩⟩
 by_cases h1:G < (g:Int);rotate_left
 ·have e2:decide (G < (g:Int))=false:=decide_eq_false h1;have HX:=Z h1;clear h1;have H:=Z (show ¬ ∃ S,Jm p (n :: N) S from fun⟨S,h⟩=>HX.o (by rw[a1.o.1,← a2.o.1];exact((HK.o S).1 h).1.2));refine Inv.Mw (fun w'=>Ja w' k #[visitF c m]∧Ja w' l #[.slice y g C,.slice A u D]∧Ja w' q (nodeA ⟨R,V,U,T,G,f,L,O,M,J,row,vp,Y,X⟩)) (.read 0 (.read 1 (.read 2 (.read 3 (.read 4 (.read 5 (.read 6 (.read 7 (.read 8 (.read 9 (.read 10 (.read 11 (.read 12 (.read 13 (.read 14 (.read 15 (.read 16 (.read 17 (.read 18 (.read 19 (.read 20 (.read 21 (.read 22 (.read 23 (.read 24 (.read 25 (.read 26 (.read 27 (.one 28 (.one 29 (.read 30 (.read 31 (.read 32 (.read 33 (.read 34 (.read 35 (.read 36 (.read 37 (.one 38 (.one 39 (.read 40 (.read 41 .stop)))))))))))))))))))))))))))))))))))))))))) E (by kernel_rfl) (by kernel_rfl) rfl (by kernel_rfl) (fun _ _ d _ _ h=>by cases d<;>exact h) ?_;generalize a0:W.drew=Wd at E ⊢;have F:=Z (show Gr w Wd from by rw[← a0];exact I.o.1.trans (Gr.refl W).drew);clear a0 E;repeat(first|(refine Inv.Kv (v:=?_) rfl rfl (fun w' hg=>?_) (fun K b=>?_);rotate_left;(go_simp;rfl);go_simp;refine b _ _ ?_;clear b K)|(refine Inv.Oc rfl rfl (fun K b=>?_);go_simp;refine b _ _ ?_;clear b K)|(refine Inv.Ob rfl rfl (fun K b=>?_);go_simp;refine b _ _ ?_;clear b K))
  refine Inv.Mh ?_;clear x2 x3 y0 y1 z0;go_wp2_with fail;go_ret;exact⟨_,rfl,J8 c F.o,.inr ⟨H.o,rfl,_,HE.o.grow F.o⟩⟩
 by_cases h4 : -1099511627776≤f;rotate_left
 ·have e2:decide (-1099511627776≤f)=false:=decide_eq_false h4;have HX:=Z h4;clear h4;have H:=Z (show ¬ ∃ S,Jm p (n :: N) S from fun⟨S,h⟩=>HX.o (by rw[a1.o.2];exact((HK.o S).1 h).2.1.1));refine Inv.Mw (fun w'=>Ja w' k #[visitF c m]∧Ja w' l #[.slice y g C,.slice A u D]∧Ja w' q (nodeA ⟨R,V,U,T,G,f,L,O,M,J,row,vp,Y,X⟩)) (.read 0 (.read 1 (.read 2 (.read 3 (.read 4 (.read 5 (.read 6 (.read 7 (.read 8 (.read 9 (.read 10 (.read 11 (.read 12 (.read 13 (.read 14 (.read 15 (.read 16 (.read 17 (.read 18 (.read 19 (.read 20 (.read 21 (.read 22 (.read 23 (.read 24 (.read 25 (.read 26 (.read 27 (.one 28 (.one 29 (.read 30 (.read 31 (.read 32 (.read 33 (.read 34 (.read 35 (.read 36 (.read 37 (.one 38 (.one 39 (.read 40 (.read 41 .stop)))))))))))))))))))))))))))))))))))))))))) E (by kernel_rfl) (by kernel_rfl) rfl (by kernel_rfl) (fun _ _ d _ _ h=>by cases d<;>exact h) ?_;generalize a0:W.drew=Wd at E ⊢;have F:=Z (show Gr w Wd from by rw[← a0];exact I.o.1.trans (Gr.refl W).drew);clear a0 E;repeat(first|(refine Inv.Kv (v:=?_) rfl rfl (fun w' hg=>?_) (fun K b=>?_);rotate_left;(go_simp;rfl);go_simp;refine b _ _ ?_;clear b K)|(refine Inv.Oc rfl rfl (fun K b=>?_);go_simp;refine b _ _ ?_;clear b K)|(refine Inv.Ob rfl rfl (fun K b=>?_);go_simp;refine b _ _ ?_;clear b K))
  refine Inv.Mh ?_;clear x2 x3 y0 y1 z0;go_wp2_with fail;go_ret;exact⟨_,rfl,J8 c F.o,.inr ⟨H.o,rfl,_,HE.o.grow F.o⟩⟩
 by_cases h5:f < 1099511627776;rotate_left
 ·have e2:decide (f < 1099511627776)=false:=decide_eq_false h5;have HX:=Z h5;clear h5;have H:=Z (show ¬ ∃ S,Jm p (n :: N) S from fun⟨S,h⟩=>HX.o (by rw[a1.o.2];exact((HK.o S).1 h).2.1.2));refine Inv.Mw (fun w'=>Ja w' k #[visitF c m]∧Ja w' l #[.slice y g C,.slice A u D]∧Ja w' q (nodeA ⟨R,V,U,T,G,f,L,O,M,J,row,vp,Y,X⟩)) (.read 0 (.read 1 (.read 2 (.read 3 (.read 4 (.read 5 (.read 6 (.read 7 (.read 8 (.read 9 (.read 10 (.read 11 (.read 12 (.read 13 (.read 14 (.read 15 (.read 16 (.read 17 (.read 18 (.read 19 (.read 20 (.read 21 (.read 22 (.read 23 (.read 24 (.read 25 (.read 26 (.read 27 (.one 28 (.one 29 (.read 30 (.read 31 (.read 32 (.read 33 (.read 34 (.read 35 (.read 36 (.read 37 (.one 38 (.one 39 (.read 40 (.read 41 .stop)))))))))))))))))))))))))))))))))))))))))) E (by kernel_rfl) (by kernel_rfl) rfl (by kernel_rfl) (fun _ _ d _ _ h=>by cases d<;>exact h) ?_;generalize a0:W.drew=Wd at E ⊢;have F:=Z (show Gr w Wd from by rw[← a0];exact I.o.1.trans (Gr.refl W).drew);clear a0 E;repeat(first|(refine Inv.Kv (v:=?_) rfl rfl (fun w' hg=>?_) (fun K b=>?_);rotate_left;(go_simp;rfl);go_simp;refine b _ _ ?_;clear b K)|(refine Inv.Oc rfl rfl (fun K b=>?_);go_simp;refine b _ _ ?_;clear b K)|(refine Inv.Ob rfl rfl (fun K b=>?_);go_simp;refine b _ _ ?_;clear b K))
  refine Inv.Mh ?_;clear x2 x3 y0 y1 z0;go_wp2_with fail;go_ret;exact⟨_,rfl,J8 c F.o,.inr ⟨H.o,rfl,_,HE.o.grow F.o⟩⟩
 obtain⟨jn,rfl⟩:∃ j:Nat,G=(j:Int):=⟨G.toNat,by omega⟩
 have hj:jn < g:=by omega
 obtain⟨HM,a9⟩:=Z2 (show -1099511627776≤f∧f < 1099511627776 from⟨h4,h5⟩) (show p.vars.length=g∧g≤1000000 from⟨a2.o.1,by have:=b1.o.n;have:=a2.o.1;omega⟩);refine Inv.Mw (fun w'=>Ja w' k #[visitF c m]∧Ja w' l #[.slice y g C,.slice A u D]∧Ja w' q (nodeA ⟨R,V,U,T,(jn:Int),f,L,O,M,J,row,vp,Y,X⟩)) (.read 0 (.read 1 (.read 2 (.read 3 (.read 4 (.read 5 (.read 6 (.read 7 (.read 8 (.read 9 (.read 10 (.read 11 (.read 12 (.read 13 (.read 14 (.read 15 (.read 16 (.read 17 (.read 18 (.read 19 (.read 20 (.read 21 (.read 22 (.read 23 (.read 24 (.read 25 (.read 26 (.read 27 (.one 28 (.one 29 (.read 30 (.read 31 (.read 32 (.read 33 (.read 34 (.read 35 (.read 36 (.read 37 (.one 38 (.one 39 (.read 40 (.read 41 .stop)))))))))))))))))))))))))))))))))))))))))) E (by kernel_rfl) (by kernel_rfl) rfl (by kernel_rfl) (fun _ _ d _ _ h=>by cases d<;>exact h) ?_;generalize a0:W.drew=Wd at E ⊢;obtain⟨F,HJ⟩:=Z2 (show Gr w Wd∧W.heap.size≤Wd.heap.size from by rw[← a0];exact⟨I.o.1.trans (Gr.refl W).drew,((Gr.refl W).drew).size⟩) hj;clear a0;repeat(first|(refine Inv.Kv (v:=?_) rfl rfl (fun w' hg=>?_) (fun K b=>?_);rotate_left;(go_simp;rfl);go_simp;refine b _ _ ?_;clear b K)|(refine Inv.Oc rfl rfl (fun K b=>?_);go_simp;refine b _ _ ?_;clear b K)|(refine Inv.Ob rfl rfl (fun K b=>?_);go_simp;refine b _ _ ?_;clear b K))
 clear h0 h1 h4 h5 hj;refine Inv.J1G (args:=?_) rfl rfl rfl rfl rfl rfl (by kernel_rfl) (by kernel_rfl) ?_ (fun K b=>?_);rotate_left
 ·go_simp;rfl
 refine(J1s Wd y A C D u p.vars g jn f true (J1z a2.o.1 a2.o.2 (HS.o.go (J8 c F.o.1))) a9.o.1 HJ.o HM.o a9.o.2).mono ?_;rintro _ w1 ⟨_,rfl,g1,e9,e7,rfl,b5⟩;rw[if_pos rfl] at b5;have d1:=Z (J3.low a2.o.1 a2.o.2 HS.o (J8 c (F.o.1.trans g1)) b5 (by have:=a3.o;have:=F.o.2;omega));have a5:Ja w1 k #[visitF c m]∧Ja w1 l #[.slice y g C,.slice A u D]∧Ja w1 q (nodeA ⟨R,V,U,T,(jn:Int),f,L,O,M,J,row,vp,Y,X⟩):=⟨E.1.grow g1,E.2.1.grow g1,E.2.2.grow g1⟩
 obtain⟨c9,GG⟩:=Z2 (HE.o.grow (F.o.1.trans g1)) (J8 c (F.o.1.trans g1));clear b5 E g1;refine⟨_,rfl,a5,?_⟩;go_simp;refine b _ _ ?_;clear b K;refine Inv.J1H (args:=?_) rfl rfl rfl rfl rfl (enters_of Tryz.func50 (by kernel_rfl) rfl) ?_ (fun K b=>?_);rotate_left
 ·go_simp;rfl
 refine(b7.o w1 _ (lowPart p (jn:Int) f) N pt ct nt (by omega) b8.o.2 c9.o b8.o.1 d1.o ((b1.o.low HM.o).less (by omega)) HF.o).mono ?_;rintro _ w2 ⟨r2,rfl,g2,e0⟩;have a4:Ja w2 k #[visitF c m]∧Ja w2 l #[.slice y g C,.slice A u D]∧Ja w2 q (nodeA ⟨R,V,U,T,(jn:Int),f,L,O,M,J,row,vp,Y,X⟩):=
  ⟨a5.1.grown g2 (by have:=a3.o;have:=HE.o.n;exact fun e=>this.1 (Option.some.inj e).symm),a5.2.1.grown g2 (fun e=>by have:=a3.o;have:=Option.some.inj e;omega),a5.2.2.grown g2 (fun e=>by have:=a3.o;have:=Option.some.inj e;omega)⟩
 have GG:=Z (Kc GG.o g2);clear a5 g2;rcases e0 with⟨S,e4,e1,d3,c7,rfl,a7,c4,c2⟩|⟨c5,rfl,f1,a7⟩;rotate_left
 ·have H:=Z (show ¬ ∃ S,Jm p (n :: N) S from fun⟨S,h⟩=>by
   obtain⟨-,-,r,k1,-⟩:=(HK.o S).1 h;rw[← a1.o.1,← a1.o.2] at k1;exact c5 ⟨r,k1⟩)
  have a8:=Z a7;clear c5 a7;refine⟨_,rfl,a4,?_⟩;go_simp;refine b _ _ ?_;clear b K;repeat(first|(refine Inv.Kv (v:=?_) rfl rfl (fun w' hg=>?_) (fun K b=>?_);rotate_left;(go_simp;rfl);go_simp;refine b _ _ ?_;clear b K)|(refine Inv.Oc rfl rfl (fun K b=>?_);go_simp;refine b _ _ ?_;clear b K)|(refine Inv.Ob rfl rfl (fun K b=>?_);go_simp;refine b _ _ ?_;clear b K))
  refine Inv.Mh ?_;clear x2 x3 y0 y1 z0;go_wp2_with fail;go_ret;exact⟨_,rfl,GG.o,.inr ⟨H.o,rfl,_,a8.o⟩⟩
 obtain⟨b0,a8,b9⟩:=Z3 c7 a7 (And.intro c4 c2);clear c7 a7 c4 c2;refine⟨_,rfl,a4,?_⟩;go_simp;refine b _ _ ?_;clear b K;repeat(first|(refine Inv.Kv (v:=?_) rfl rfl (fun w' hg=>?_) (fun K b=>?_);rotate_left;(go_simp;rfl);go_simp;refine b _ _ ?_;clear b K)|(refine Inv.Oc rfl rfl (fun K b=>?_);go_simp;refine b _ _ ?_;clear b K)|(refine Inv.Ob rfl rfl (fun K b=>?_);go_simp;refine b _ _ ?_;clear b K))
 refine Inv.J1G (args:=?_) rfl rfl rfl rfl rfl rfl (by kernel_rfl) (by kernel_rfl) ?_ (fun K b=>?_);rotate_left
 ·go_simp;rfl
 refine(J1s w2 y A C D u p.vars g jn f false (J1z a2.o.1 a2.o.2 (HS.o.go GG.o)) a9.o.1 HJ.o HM.o a9.o.2).mono ?_;rintro _ w3 ⟨_,rfl,g3,f0,e8,rfl,b6⟩;rw[if_neg (by decide)] at b6;have d2:=Z (J3.high a2.o.1 a2.o.2 HS.o (Kc GG.o (J8 c g3)) b6 (by have:=a8.o.t.lt;omega));have a6:Ja w3 k #[visitF c m]∧Ja w3 l #[.slice y g C,.slice A u D]∧Ja w3 q (nodeA ⟨R,V,U,T,(jn:Int),f,L,O,M,J,row,vp,Y,X⟩):=⟨a4.1.grow g3,a4.2.1.grow g3,a4.2.2.grow g3⟩
 obtain⟨d0,GG⟩:=Z2 (a8.o.grow g3) (Kc GG.o (J8 c g3));clear b6 a4 g3;refine⟨_,rfl,a6,?_⟩;go_simp;refine b _ _ ?_;clear b K;refine Inv.J1H (args:=?_) rfl rfl rfl rfl rfl (enters_of Tryz.func50 (by kernel_rfl) rfl) ?_ (fun K b=>?_);rotate_left
 ·go_simp;rfl
 have b2:=Z (Uq b0.o);refine(b7.o w3 _ (highPart p (jn:Int) f) S e4 d3 e1 (by have:=b2.o.1;omega) b9.o.2 d0.o b9.o.1 d2.o ((b1.o.high HM.o).less (by have:=b2.o.1;omega)) (fun n hn=>HF.o n (b2.o.2 n hn))).mono ?_;rintro _ w4 ⟨r4,rfl,g4,c8⟩;have d5:Ja w4 k #[visitF c m]∧Ja w4 l #[.slice y g C,.slice A u D]∧Ja w4 q (nodeA ⟨R,V,U,T,(jn:Int),f,L,O,M,J,row,vp,Y,X⟩):=
  ⟨a6.1.grown g4 (by have:=a3.o;have:=HE.o.n;exact fun e=>this.1 (Option.some.inj e).symm),a6.2.1.grown g4 (fun e=>by have:=a3.o;have:=Option.some.inj e;omega),a6.2.2.grown g4 (fun e=>by have:=a3.o;have:=Option.some.inj e;omega)⟩
 have GG:=Z (Kc GG.o g4);clear a6 g4;have c0:=Z (show(∃ t,r4 = .bool t)∧VisR p (n :: N) W0 w c k m bm r4 w4 from by
  rcases c8 with⟨S',e5,e3,d4,d9,rfl,k1,k2,k3⟩|⟨d8,rfl,e6,k1⟩
  ·exact⟨⟨_,rfl⟩,GG.o,.inl ⟨S',e5,e3,d4,(HK.o S').2 ⟨by rw[← a1.o.1];exact⟨by omega,by have:=HJ.o;have:=a2.o.1;omega⟩,by rw[← a1.o.2];exact HM.o,S,by rw[← a1.o.1,← a1.o.2];exact⟨b0.o,d9⟩⟩,rfl,k1,k2,k3⟩⟩
  ·refine⟨⟨_,rfl⟩,GG.o,.inr ⟨fun⟨S',h⟩=>?_,rfl,e6,k1⟩⟩;obtain⟨-,-,r,q1,q2⟩:=(HK.o S').1 h;rw[← a1.o.1,← a1.o.2] at q1 q2;exact d8 ⟨S',by rw[Pm b0.o q1];exact q2⟩)
 clear c8;obtain⟨t4,rfl⟩:=c0.o.1;refine⟨_,rfl,d5,?_⟩;go_simp;refine b _ _ ?_;clear b K;repeat(first|(refine Inv.Kv (v:=?_) rfl rfl (fun w' hg=>?_) (fun K b=>?_);rotate_left;(go_simp;rfl);go_simp;refine b _ _ ?_;clear b K)|(refine Inv.Oc rfl rfl (fun K b=>?_);go_simp;refine b _ _ ?_;clear b K)|(refine Inv.Ob rfl rfl (fun K b=>?_);go_simp;refine b _ _ ?_;clear b K))
 refine Inv.Mh ?_;clear x2 x3 y0 y1 z0;go_wp2_with fail;go_ret;exact⟨_,rfl,c0.o.2⟩
theorem J1x (k w:World)(b f l z:Nat)(R:Option Addr)(M:Nat)(v:Value)(p:Prg)(x:Jr)(n:Jk)(N:List Jk)(D:Nat)(a4:D=N.length)(IH:VisC (N.length+1) k b f l z)(he:Le k w b f l z (.slice R D M))(m:J1 k (.slice R D M) N 4)
  (O:J3 w b v p) (hx:Kl w x n 4) (hp:PvP p (N.length+1)) (hf:∀ n ∈ N,Kx n) (a3:Kx n) (C:n.kind=3) (h3:Kg n):
  Calls Tryz.prog 48 #[v,.agg (nodeA x),.pointer (some ⟨f,0,none⟩)] w (fun e w'=>∃ r,e = .returned r∧VisR p (n :: N) k w b f l z r w'):=by
 obtain⟨a6,g,X,d,HF,K,L,I,Y⟩:=Z9 IH he (And.intro m a4) hp hf a3 (fun s=>Up (p:=p) (n:=n) (t:=N) (s:=s) h3 C) hx.cut O.at
 obtain⟨va,vc,vb,vd,rfl,hv,hr⟩:=O.at
 unfold prgV at Y ⊢;have c:=Z (R7 w va vb vc vd p.vars.length p.rows.length x);clear IH he m a4 O hp hf a3 C h3 hv hr hx;obtain⟨kd,mp,mn,mc,b7,b3,ck,cp,cn,cc,row,vp,vn,b9⟩:=x;unfold Jr.cutV at I;dsimp only at I;unfold nodeA at c ⊢;dsimp only at c ⊢;have z0:((w.alloc (.cells #[.slice va p.vars.length vc,.slice vb p.rows.length vd] 25)).alloc (.cells (nodeA ⟨kd,mp,mn,mc,b7,b3,ck,cp,cn,cc,row,vp,vn,b9⟩) 47)).cell? ⟨f,0,none⟩=some (.func (.func 50) #[] #[.pointer (some ⟨b,0,none⟩),.pointer (some ⟨l,0,none⟩)]):=(g.o.v.grow c.o.1).at 0 rfl;have HZ:=Z z0;clear z0;go_enter Tryz.func48,Tryz.ntmps48;go_wp2_with fail;have a1:=Z (show b < w.heap.size from g.o.t.lt);generalize a8:w.heap.size+1=bn at c ⊢;generalize a9:w.heap.size=bp at c a1 ⊢;generalize (w.alloc _).alloc _=W at c HZ ⊢;have V:=Z (show b < W.heap.size from by have:=a1.o;have h1:=c.o.2.1.lt;omega);clear a8 a9;refine(J2g W _ _ p n.cut (Y.o.grow c.o.1) (I.o.grow c.o.1) K.o.c K.o.cs K.o.v d.o.ok d.o.wh d.o.n (by have:=d.o.m;omega) d.o.ok.tl).mono ?_;rintro _ F ⟨r2,rfl,A,C⟩;obtain⟨G,c2⟩:=Z2 (c.o.1.trans A) (show b < F.heap.size from by have:=A.size;have:=V.o;omega);rcases C with⟨E,q,hd,rfl,hq⟩|⟨m,e,a2,rfl⟩;rotate_left
 ·have c3:(e == 0)=false:=by simpa using a2
  have H:=Z (show ¬ ∃ S,Jm p (n :: N) S from fun⟨S,h⟩=>by
   obtain⟨r,u,-⟩:=(L.o S).1 h;exact m r u)
  clear m a2 A;go_wp2_with fail;go_ret;exact⟨_,rfl,J8 b (G.o.trans ((Gr.refl _).alloc _)),.inr ⟨H.o,rfl,_,g.o.grow (G.o.trans ((Gr.refl _).alloc _))⟩⟩
 obtain⟨J,HQ⟩:=Z2 hd hq;obtain⟨b6,c0,b8,c1,T,rfl,-⟩:=hq;unfold prgV at HQ ⊢;have g4:Gr F (F.alloc (.cells #[.slice b6 (addRow p E).vars.length c0,.slice b8 (addRow p E).rows.length c1] 25)):=(Gr.refl _).alloc _;have z0:=(g.o.v.grow (G.o.trans g4)).at 0 rfl;have y:=Z g4;clear hd A g4;unfold visitF at z0;go_wp2_with fail;generalize (F.alloc _)=w4 at y z0 ⊢;clear z0;refine(a6.o w4 _ (addRow p E) N R M D (by omega) X.o.2 (g.o.grow (G.o.trans y.o)) X.o.1 ((J3.new HQ.o V.o).go (J8 b y.o)) (d.o.add J.o) HF.o).mono ?_;rintro _ w5 ⟨r5,rfl,g5,a5⟩;have U:=Z (Kc (J8 b (G.o.trans y.o)) g5);have a0:=Z (show(∃ t,r5 = .bool t)∧VisR p (n :: N) k w b f l z r5 w5 from by
  rcases a5 with⟨j,b4,b2,a7,b1,rfl,u,k2,k3⟩|⟨b0,rfl,b5,u⟩
  ·exact⟨⟨_,rfl⟩,U.o,.inl ⟨j,b4,b2,a7,(L.o j).2 ⟨E,J.o,b1⟩,rfl,u,k2,k3⟩⟩
  ·refine⟨⟨_,rfl⟩,U.o,.inr ⟨fun⟨j,h⟩=>?_,rfl,b5,u⟩⟩;obtain⟨r,q1,q2⟩:=(L.o j).1 h;rw[← Q5 J.o q1] at q2;exact b0 ⟨j,q2⟩)
 clear a5 g5;obtain⟨t5,rfl⟩:=a0.o.1;go_wp2_with fail;go_ret;exact⟨_,rfl,a0.o.2⟩
theorem J1c (b:Nat):fkv (.int .i64) (.int .i64 0) (stepsL b)=some (some (.func (.func 43) #[] #[])):=rfl
theorem J1d (b:Nat):fkv (.int .i64) (.int .i64 1) (stepsL b)=some (some (.func (.func 45) #[] #[])):=rfl
theorem J1e (b:Nat):fkv (.int .i64) (.int .i64 2) (stepsL b)=some (some (.func (.func 46) #[] #[.pointer (some ⟨b,0,none⟩)])):=rfl
theorem J1f (b:Nat):fkv (.int .i64) (.int .i64 3) (stepsL b)=some (some (.func (.func 48) #[] #[.pointer (some ⟨b,0,none⟩)])):=rfl
theorem J1g (b:Nat){n:Int}(c:n≠0)(d:n≠1)(f:n≠2)(g:n≠3):fkv (.int .i64) (.int .i64 n) (stepsL b)=some none:=by
 unfold stepsL fkv;rw[Pr c];simp only[];unfold fkv;rw[Pr d];simp only[];unfold fkv;rw[Pr f];simp only[];unfold fkv;rw[Pr g];rfl
theorem VisC.less {k k':Nat}{b:World}{f g d c:Nat}(h:VisC k b f g d c)(n:k'≤k):VisC k' b f g d c:=fun w v p N m j l q=>h w v p N m j l (by omega)
theorem VisR.from {p:Prg}{N:List Jk}{c w k w':World}{b j f d:Nat}{r:Value}(g:w.grownBy k (some b))(h:VisR p N c k b j f d r w'):VisR p N c w b j f d r w':=⟨Kc g h.1,h.2⟩
theorem VisR.bool {p:Prg}{N:List Jk}{b w w':World}{f g d c:Nat}{r:Value}(h:VisR p N b w f g d c r w'):∃ t,r = .bool t:=by
 rcases h.2 with⟨S,l,k,j,_,rfl,_⟩|⟨_,rfl,_⟩
 ·exact⟨_,rfl⟩
 ·exact⟨_,rfl⟩
theorem J6D (W0:World)(l L bs bm:Nat):∀ k,VisC k W0 l L bs bm:=by
 intro k
 induction k with
 | zero=>intro w v p N pt ct O hk;omega
 | succ k IH=>
  intro w v p N pt ct O hk b9 he d1 hs hp hf;obtain⟨d0,HE,a6,HF,HS⟩:=Z5 IH he hp hf hs;obtain⟨va,vc,vb,vd,rfl,hv,hr⟩:=hs.at
  unfold prgV at HS ⊢;clear IH hs hp hf hv hr
  cases N with
  | nil=>
   obtain rfl:O=0:=b9;have T:=Ja.new w #[.slice va p.vars.length vc,.slice vb p.rows.length vd] 25;have HT:=Z T;have t0:=(he.grow T.1).t.at 0 rfl;clear he T d1;go_enter Tryz.func50,Tryz.ntmps50;go_wp2_with fail;go_ret;exact⟨_,rfl,J8 l HT.o.1,.inr ⟨fun⟨S,h⟩=>J5k h,rfl,_,HE.o.grow HT.o.1⟩⟩
  | cons n N=>
   obtain⟨b,o,x,rfl,hx,hc,d7⟩:=Rn d1;obtain⟨q,d5,c8,c9,d3⟩:=Z5 hx d7 (HF.o n (List.mem_cons_self ..)) (fun m hm=>HF.o m (List.mem_cons_of_mem n hm)) b9;have T:=Ja.new w #[.slice va p.vars.length vc,.slice vb p.rows.length vd] 25;have HT:=Z T;have t0:=(he.grow T.1).t.at 0 rfl;have b6:((O:Int) == 0)=false:=by simp;simp at b9;omega
   have b2:=fun j u hj=>hc _ ((he.g.trans T.1)) j u hj;obtain⟨kd,mp,Y,X,a1,a0,U,W,V,R,row,vp,vn,a2⟩:=x;have c0:=b2 0 _ rfl;have c1:=b2 1 _ rfl;have c2:=b2 2 _ rfl;have c3:=b2 3 _ rfl;have c4:=b2 4 _ rfl;have c5:=b2 5 _ rfl;have c6:=b2 6 _ rfl;have c7:=b2 7 _ rfl;have b3:0 < O:=by simp at b9;omega
   have b4:(0:Int) < (O:Int):=by omega
   have b5:(1:Int)≤(O:Int):=by omega
   obtain⟨W2,a8⟩:∃ z,(w.alloc (.cells #[.slice va p.vars.length vc,.slice vb p.rows.length vd] 25)).alloc (.cells (nodeA ⟨kd,mp,Y,X,a1,a0,U,W,V,R,row,vp,vn,a2⟩) 47)=z:=⟨_,rfl⟩
   have T2:=Ja.new (w.alloc (.cells #[.slice va p.vars.length vc,.slice vb p.rows.length vd] 25)) (nodeA ⟨kd,mp,Y,X,a1,a0,U,W,V,R,row,vp,vn,a2⟩) 47;rw[a8,World.size_alloc] at T2;have G2:=Z (T.1.trans T2.1);have t1:W2.cell? ⟨l,0,none⟩=some (.slice (some ⟨b,o,none⟩) O ct):=(he.grow G2.o).t.at 0 rfl;obtain⟨d4,d2⟩:=Z2 (T.2.grow T2.1) T2.2;have f1:=Ja.f (he.grow G2.o).t 0;unfold nodeA at a8;dsimp only at a8;clear he T d1 hx hc d7 b2 b9 T2;dsimp only at c0 c1 c2 c3 c4 c5 c6 c7;rw[Nat.add_zero] at c0;have HK:=Z hk;clear hk;by_cases d6:ct=1
   ·subst d6;obtain⟨W3,a7⟩:∃ z,W2.setCell ⟨l,0,none⟩ (.slice (some ⟨b,o,none⟩) (O - 1) 0)=z:=⟨_,rfl⟩
    have g:=Le.set (HE.o.grow G2.o) (.slice (some ⟨b,o,none⟩) (O - 1) 0);rw[a7] at g;obtain⟨g,b7,b8⟩:=Z3 g (show l < w.heap.size from HE.o.t.lt) (show Upd l W2 W3 from by rw[← a7];exact J5 W2 l 0 _);obtain⟨c,b0,b1,f,a9⟩:=Z5 (d2.o.upd b8.o (by have:=b7.o;omega)) (d4.o.upd b8.o (by have:=b7.o;omega)) (show J1 W0 (.slice (some ⟨b,o,none⟩) (O - 1) 0) N 4 from(by have:=d5.o (some ⟨b,o,none⟩) (.inr rfl);exact this)) (Kc (J8 l G2.o) g.o.2) (show O - 1=N.length from by have:=d3.o;simp at this;omega);have s0:W3.cell? ⟨bs,0,none⟩=some (.map (some bm)):=g.o.1.s.at 0 rfl;unfold nodeA at c;dsimp only at c;have y:=c.o.at 0 rfl;have A:=c.o.at 1 rfl;have C:=c.o.at 2 rfl;have D:=c.o.at 3 rfl;have E:=c.o.at 4 rfl;have F:=c.o.at 5 rfl;have G:=c.o.at 6 rfl;have I:=c.o.at 7 rfl;by_cases k0:kd=0
    ·subst k0;have hl:=(Lr g.o.1.m Tryz.underlying95 Tryz.underlying3 Ki (J1c L)).1;have hq:=fun w=>N1 (w:=w);go_enter Tryz.func50,Tryz.ntmps50;go_wp2_with fail;clear hl hq s0 a8 a7 t0 t1 f1 c0 c1 c2 c3 c4 c5 c6 c7 b6 b3 b4 b5;clear y A C D E F G I;refine(Nc W3 ⟨0,mp,Y,X,a1,a0,U,W,V,R,row,vp,vn,a2⟩ n 4 (q.o.grow g.o.1.g)).mono ?_;rintro _ w4 ⟨r4,rfl,g4,s⟩;obtain⟨a4,J,r,f⟩:=Z4 (c.o.grow g4) (b0.o.grow g4) (g.o.1.grow g4) (Kc f.o (J8 l g4));clear g4;rcases s.cases with⟨rfl,d⟩|⟨rfl,d⟩;rotate_left
     ·have H:=Z (show ¬ ∃ S,Jm p (n :: N) S from fun⟨S,h⟩=>d (Mp h));clear s d;go_wp2_with fail;go_ret;exact⟨_,rfl,f.o,.inr ⟨H.o,rfl,_,r.o⟩⟩
     obtain⟨a5,a3⟩:=Z2 d (show n.kind=0 from q.o.kind.symm);clear s d;have c:=a4;have y:=c.o.at 0 rfl;have A:=c.o.at 1 rfl;have C:=c.o.at 2 rfl;have D:=c.o.at 3 rfl;have E:=c.o.at 4 rfl;have F:=c.o.at 5 rfl;have G:=c.o.at 6 rfl;have I:=c.o.at 7 rfl;have p0:=J.o.at 0 rfl;have p1:=J.o.at 1 rfl;go_wp2_with fail;clear y A C D E F G I;clear p0 p1 c;refine(J1u w4 _ p ⟨0,mp,Y,X,a1,a0,U,W,V,R,row,vp,vn,a2⟩ n (HS.o.go f.o).at (q.o.grow r.o.g) a6.o.ok a6.o.wh a6.o.n (by have:=a6.o.m;omega) c8.o).mono ?_;rintro _ w5 ⟨r5,rfl,g5,M⟩;have K:=Z (show VisR p (n :: N) W0 w l L bs bm r5 w5 from VisR.from f.o (VisR.leaf (fun S=>Rq a5.o a3.o) M g5 r.o b1.o a9.o));clear M g5;obtain⟨t5,rfl⟩:=K.o.bool;go_wp2_with fail;go_ret;exact⟨_,rfl,K.o⟩
    by_cases k1:kd=1
    ·subst k1;have hl:=(Lr g.o.1.m Tryz.underlying95 Tryz.underlying3 Ki (J1d L)).1;clear k0;have hq:=fun w=>N1 (w:=w);go_enter Tryz.func50,Tryz.ntmps50;go_wp2_with fail;clear hl hq s0 a8 a7 t0 t1 f1 c0 c1 c2 c3 c4 c5 c6 c7 b6 b3 b4 b5;clear y A C D E F G I;refine(Nc W3 ⟨1,mp,Y,X,a1,a0,U,W,V,R,row,vp,vn,a2⟩ n 4 (q.o.grow g.o.1.g)).mono ?_;rintro _ w4 ⟨r4,rfl,g4,s⟩;obtain⟨a4,J,r,f⟩:=Z4 (c.o.grow g4) (b0.o.grow g4) (g.o.1.grow g4) (Kc f.o (J8 l g4));clear g4;rcases s.cases with⟨rfl,d⟩|⟨rfl,d⟩;rotate_left
     ·have H:=Z (show ¬ ∃ S,Jm p (n :: N) S from fun⟨S,h⟩=>d (Mp h));clear s d;go_wp2_with fail;go_ret;exact⟨_,rfl,f.o,.inr ⟨H.o,rfl,_,r.o⟩⟩
     obtain⟨a5,a3⟩:=Z2 d (show n.kind=1 from q.o.kind.symm);clear s d;have c:=a4;have y:=c.o.at 0 rfl;have A:=c.o.at 1 rfl;have C:=c.o.at 2 rfl;have D:=c.o.at 3 rfl;have E:=c.o.at 4 rfl;have F:=c.o.at 5 rfl;have G:=c.o.at 6 rfl;have I:=c.o.at 7 rfl;have p0:=J.o.at 0 rfl;have p1:=J.o.at 1 rfl;go_wp2_with fail;clear y A C D E F G I;clear p0 p1 c;refine(J1v w4 _ p ⟨1,mp,Y,X,a1,a0,U,W,V,R,row,vp,vn,a2⟩ n (HS.o.go f.o).at (q.o.grow r.o.g) (by have:=a6.o.n;omega)).mono ?_;rintro _ w5 ⟨r5,rfl,g5,M⟩;have K:=Z (show VisR p (n :: N) W0 w l L bs bm r5 w5 from VisR.from f.o (VisR.leaf (fun S=>Rr a5.o a3.o) M g5 r.o b1.o a9.o));clear M g5;obtain⟨t5,rfl⟩:=K.o.bool;go_wp2_with fail;go_ret;exact⟨_,rfl,K.o⟩
    by_cases k2:kd=2
    ·subst k2;have hl:=(Lr g.o.1.m Tryz.underlying95 Tryz.underlying3 Ki (J1e L)).1;clear k0 k1;have hq:=fun w=>N1 (w:=w);go_enter Tryz.func50,Tryz.ntmps50;go_wp2_with fail;clear hl hq s0 a8 a7 t0 t1 f1 c0 c1 c2 c3 c4 c5 c6 c7 b6 b3 b4 b5;clear y A C D E F G I;refine(Nc W3 ⟨2,mp,Y,X,a1,a0,U,W,V,R,row,vp,vn,a2⟩ n 4 (q.o.grow g.o.1.g)).mono ?_;rintro _ w4 ⟨r4,rfl,g4,s⟩;obtain⟨a4,J,r,f⟩:=Z4 (c.o.grow g4) (b0.o.grow g4) (g.o.1.grow g4) (Kc f.o (J8 l g4));clear g4;rcases s.cases with⟨rfl,d⟩|⟨rfl,d⟩;rotate_left
     ·have H:=Z (show ¬ ∃ S,Jm p (n :: N) S from fun⟨S,h⟩=>d (Mp h));clear s d;go_wp2_with fail;go_ret;exact⟨_,rfl,f.o,.inr ⟨H.o,rfl,_,r.o⟩⟩
     obtain⟨a5,a3⟩:=Z2 d (show n.kind=2 from q.o.kind.symm);clear s d;have c:=a4;have y:=c.o.at 0 rfl;have A:=c.o.at 1 rfl;have C:=c.o.at 2 rfl;have D:=c.o.at 3 rfl;have E:=c.o.at 4 rfl;have F:=c.o.at 5 rfl;have G:=c.o.at 6 rfl;have I:=c.o.at 7 rfl;have p0:=J.o.at 0 rfl;have p1:=J.o.at 1 rfl;go_wp2_with fail;clear y A C D E F G I;clear p0 p1 c;refine(J1w W0 w4 l L bs bm (some ⟨b,o,none⟩) 0 _ p ⟨2,mp,Y,X,a1,a0,U,W,V,R,row,vp,vn,a2⟩ n N (O - 1) a9.o (d0.o.less (by have:=HK.o;simp at this;omega)) r.o b1.o (HS.o.go f.o) (q.o.grow r.o.g) a6.o c9.o a3.o a5.o).mono ?_;rintro _ w5 ⟨r5,rfl,M⟩;have K:=Z (show VisR p (n :: N) W0 w l L bs bm r5 w5 from VisR.from f.o M);clear M;obtain⟨t5,rfl⟩:=K.o.bool;go_wp2_with fail;go_ret;exact⟨_,rfl,K.o⟩
    by_cases k3:kd=3
    ·subst k3;have hl:=(Lr g.o.1.m Tryz.underlying95 Tryz.underlying3 Ki (J1f L)).1;clear k0 k1 k2;have hq:=fun w=>N1 (w:=w);go_enter Tryz.func50,Tryz.ntmps50;go_wp2_with fail;clear hl hq s0 a8 a7 t0 t1 f1 c0 c1 c2 c3 c4 c5 c6 c7 b6 b3 b4 b5;clear y A C D E F G I;refine(Nc W3 ⟨3,mp,Y,X,a1,a0,U,W,V,R,row,vp,vn,a2⟩ n 4 (q.o.grow g.o.1.g)).mono ?_;rintro _ w4 ⟨r4,rfl,g4,s⟩;obtain⟨a4,J,r,f⟩:=Z4 (c.o.grow g4) (b0.o.grow g4) (g.o.1.grow g4) (Kc f.o (J8 l g4));clear g4;rcases s.cases with⟨rfl,d⟩|⟨rfl,d⟩;rotate_left
     ·have H:=Z (show ¬ ∃ S,Jm p (n :: N) S from fun⟨S,h⟩=>d (Mp h));clear s d;go_wp2_with fail;go_ret;exact⟨_,rfl,f.o,.inr ⟨H.o,rfl,_,r.o⟩⟩
     obtain⟨a5,a3⟩:=Z2 d (show n.kind=3 from q.o.kind.symm);clear s d;have c:=a4;have y:=c.o.at 0 rfl;have A:=c.o.at 1 rfl;have C:=c.o.at 2 rfl;have D:=c.o.at 3 rfl;have E:=c.o.at 4 rfl;have F:=c.o.at 5 rfl;have G:=c.o.at 6 rfl;have I:=c.o.at 7 rfl;have p0:=J.o.at 0 rfl;have p1:=J.o.at 1 rfl;go_wp2_with fail;clear y A C D E F G I;clear p0 p1 c;refine(J1x W0 w4 l L bs bm (some ⟨b,o,none⟩) 0 _ p ⟨3,mp,Y,X,a1,a0,U,W,V,R,row,vp,vn,a2⟩ n N (O - 1) a9.o (d0.o.less (by have:=HK.o;simp at this;omega)) r.o b1.o (HS.o.go f.o) (q.o.grow r.o.g) a6.o c9.o c8.o a3.o a5.o).mono ?_;rintro _ w5 ⟨r5,rfl,M⟩;have K:=Z (show VisR p (n :: N) W0 w l L bs bm r5 w5 from VisR.from f.o M);clear M;obtain⟨t5,rfl⟩:=K.o.bool;go_wp2_with fail;go_ret;exact⟨_,rfl,K.o⟩
    have hl:=(Uy (P:=Tryz.prog) (z:=.nilFunc) g.o.1.m Tryz.underlying95 Tryz.underlying3 (Ki (n:=kd)) (by kernel_rfl) (J1g L k0 k1 k2 k3)).1;have H:=Z (show ¬ ∃ S,Jm p (n :: N) S from fun⟨S,h⟩=>Um (by rw[← q.o.kind];exact k0) (by rw[← q.o.kind];exact k1) (by rw[← q.o.kind];exact k2) (by rw[← q.o.kind];exact k3) (Mp h));have hq:=fun w=>Z0 (w:=w);clear k0 k1 k2 k3;go_enter Tryz.func50,Tryz.ntmps50;go_wp2_with fail;go_ret;exact⟨_,rfl,f.o,.inr ⟨H.o,rfl,_,g.o.1⟩⟩
   ·have d8:(ct == 1)=false:=by simpa using d6
    obtain⟨W3,a7⟩:∃ z,W2.setCell ⟨l,0,none⟩ (.slice (some ⟨b,o+8,none⟩) (O - 1) (ct - 1))=z:=⟨_,rfl⟩
    have g:=Le.set (HE.o.grow G2.o) (.slice (some ⟨b,o+8,none⟩) (O - 1) (ct - 1));rw[a7] at g;obtain⟨g,b7,b8⟩:=Z3 g (show l < w.heap.size from HE.o.t.lt) (show Upd l W2 W3 from by rw[← a7];exact J5 W2 l 0 _);obtain⟨c,b0,b1,f,a9⟩:=Z5 (d2.o.upd b8.o (by have:=b7.o;omega)) (d4.o.upd b8.o (by have:=b7.o;omega)) (show J1 W0 (.slice (some ⟨b,o+8,none⟩) (O - 1) (ct - 1)) N 4 from(d5.o _ (.inl rfl))) (Kc (J8 l G2.o) g.o.2) (show O - 1=N.length from by have:=d3.o;simp at this;omega);have s0:W3.cell? ⟨bs,0,none⟩=some (.map (some bm)):=g.o.1.s.at 0 rfl;unfold nodeA at c;dsimp only at c;have y:=c.o.at 0 rfl;have A:=c.o.at 1 rfl;have C:=c.o.at 2 rfl;have D:=c.o.at 3 rfl;have E:=c.o.at 4 rfl;have F:=c.o.at 5 rfl;have G:=c.o.at 6 rfl;have I:=c.o.at 7 rfl;by_cases k0:kd=0
    ·subst k0;have hl:=(Lr g.o.1.m Tryz.underlying95 Tryz.underlying3 Ki (J1c L)).1;have hq:=fun w=>N1 (w:=w);go_enter Tryz.func50,Tryz.ntmps50;go_wp2_with fail;clear hl hq s0 a8 a7 t0 t1 f1 c0 c1 c2 c3 c4 c5 c6 c7 b6 b3 b4 b5;clear y A C D E F G I;refine(Nc W3 ⟨0,mp,Y,X,a1,a0,U,W,V,R,row,vp,vn,a2⟩ n 4 (q.o.grow g.o.1.g)).mono ?_;rintro _ w4 ⟨r4,rfl,g4,s⟩;obtain⟨a4,J,r,f⟩:=Z4 (c.o.grow g4) (b0.o.grow g4) (g.o.1.grow g4) (Kc f.o (J8 l g4));clear g4;rcases s.cases with⟨rfl,d⟩|⟨rfl,d⟩;rotate_left
     ·have H:=Z (show ¬ ∃ S,Jm p (n :: N) S from fun⟨S,h⟩=>d (Mp h));clear s d;go_wp2_with fail;go_ret;exact⟨_,rfl,f.o,.inr ⟨H.o,rfl,_,r.o⟩⟩
     obtain⟨a5,a3⟩:=Z2 d (show n.kind=0 from q.o.kind.symm);clear s d;have c:=a4;have y:=c.o.at 0 rfl;have A:=c.o.at 1 rfl;have C:=c.o.at 2 rfl;have D:=c.o.at 3 rfl;have E:=c.o.at 4 rfl;have F:=c.o.at 5 rfl;have G:=c.o.at 6 rfl;have I:=c.o.at 7 rfl;have p0:=J.o.at 0 rfl;have p1:=J.o.at 1 rfl;go_wp2_with fail;clear y A C D E F G I;clear p0 p1 c;refine(J1u w4 _ p ⟨0,mp,Y,X,a1,a0,U,W,V,R,row,vp,vn,a2⟩ n (HS.o.go f.o).at (q.o.grow r.o.g) a6.o.ok a6.o.wh a6.o.n (by have:=a6.o.m;omega) c8.o).mono ?_;rintro _ w5 ⟨r5,rfl,g5,M⟩;have K:=Z (show VisR p (n :: N) W0 w l L bs bm r5 w5 from VisR.from f.o (VisR.leaf (fun S=>Rq a5.o a3.o) M g5 r.o b1.o a9.o));clear M g5;obtain⟨t5,rfl⟩:=K.o.bool;go_wp2_with fail;go_ret;exact⟨_,rfl,K.o⟩
    by_cases k1:kd=1
    ·subst k1;have hl:=(Lr g.o.1.m Tryz.underlying95 Tryz.underlying3 Ki (J1d L)).1;clear k0;have hq:=fun w=>N1 (w:=w);go_enter Tryz.func50,Tryz.ntmps50;go_wp2_with fail;clear hl hq s0 a8 a7 t0 t1 f1 c0 c1 c2 c3 c4 c5 c6 c7 b6 b3 b4 b5;clear y A C D E F G I;refine(Nc W3 ⟨1,mp,Y,X,a1,a0,U,W,V,R,row,vp,vn,a2⟩ n 4 (q.o.grow g.o.1.g)).mono ?_;rintro _ w4 ⟨r4,rfl,g4,s⟩;obtain⟨a4,J,r,f⟩:=Z4 (c.o.grow g4) (b0.o.grow g4) (g.o.1.grow g4) (Kc f.o (J8 l g4));clear g4;rcases s.cases with⟨rfl,d⟩|⟨rfl,d⟩;rotate_left
     ·have H:=Z (show ¬ ∃ S,Jm p (n :: N) S from fun⟨S,h⟩=>d (Mp h));clear s d;go_wp2_with fail;go_ret;exact⟨_,rfl,f.o,.inr ⟨H.o,rfl,_,r.o⟩⟩
     obtain⟨a5,a3⟩:=Z2 d (show n.kind=1 from q.o.kind.symm);clear s d;have c:=a4;have y:=c.o.at 0 rfl;have A:=c.o.at 1 rfl;have C:=c.o.at 2 rfl;have D:=c.o.at 3 rfl;have E:=c.o.at 4 rfl;have F:=c.o.at 5 rfl;have G:=c.o.at 6 rfl;have I:=c.o.at 7 rfl;have p0:=J.o.at 0 rfl;have p1:=J.o.at 1 rfl;go_wp2_with fail;clear y A C D E F G I;clear p0 p1 c;refine(J1v w4 _ p ⟨1,mp,Y,X,a1,a0,U,W,V,R,row,vp,vn,a2⟩ n (HS.o.go f.o).at (q.o.grow r.o.g) (by have:=a6.o.n;omega)).mono ?_;rintro _ w5 ⟨r5,rfl,g5,M⟩;have K:=Z (show VisR p (n :: N) W0 w l L bs bm r5 w5 from VisR.from f.o (VisR.leaf (fun S=>Rr a5.o a3.o) M g5 r.o b1.o a9.o));clear M g5;obtain⟨t5,rfl⟩:=K.o.bool;go_wp2_with fail;go_ret;exact⟨_,rfl,K.o⟩
    by_cases k2:kd=2
    ·subst k2;have hl:=(Lr g.o.1.m Tryz.underlying95 Tryz.underlying3 Ki (J1e L)).1;clear k0 k1;have hq:=fun w=>N1 (w:=w);go_enter Tryz.func50,Tryz.ntmps50;go_wp2_with fail;clear hl hq s0 a8 a7 t0 t1 f1 c0 c1 c2 c3 c4 c5 c6 c7 b6 b3 b4 b5;clear y A C D E F G I;refine(Nc W3 ⟨2,mp,Y,X,a1,a0,U,W,V,R,row,vp,vn,a2⟩ n 4 (q.o.grow g.o.1.g)).mono ?_;rintro _ w4 ⟨r4,rfl,g4,s⟩;obtain⟨a4,J,r,f⟩:=Z4 (c.o.grow g4) (b0.o.grow g4) (g.o.1.grow g4) (Kc f.o (J8 l g4));clear g4;rcases s.cases with⟨rfl,d⟩|⟨rfl,d⟩;rotate_left
     ·have H:=Z (show ¬ ∃ S,Jm p (n :: N) S from fun⟨S,h⟩=>d (Mp h));clear s d;go_wp2_with fail;go_ret;exact⟨_,rfl,f.o,.inr ⟨H.o,rfl,_,r.o⟩⟩
     obtain⟨a5,a3⟩:=Z2 d (show n.kind=2 from q.o.kind.symm);clear s d;have c:=a4;have y:=c.o.at 0 rfl;have A:=c.o.at 1 rfl;have C:=c.o.at 2 rfl;have D:=c.o.at 3 rfl;have E:=c.o.at 4 rfl;have F:=c.o.at 5 rfl;have G:=c.o.at 6 rfl;have I:=c.o.at 7 rfl;have p0:=J.o.at 0 rfl;have p1:=J.o.at 1 rfl;go_wp2_with fail;clear y A C D E F G I;clear p0 p1 c;refine(J1w W0 w4 l L bs bm (some ⟨b,o+8,none⟩) (ct - 1) _ p ⟨2,mp,Y,X,a1,a0,U,W,V,R,row,vp,vn,a2⟩ n N (O - 1) a9.o (d0.o.less (by have:=HK.o;simp at this;omega)) r.o b1.o (HS.o.go f.o) (q.o.grow r.o.g) a6.o c9.o a3.o a5.o).mono ?_;rintro _ w5 ⟨r5,rfl,M⟩;have K:=Z (show VisR p (n :: N) W0 w l L bs bm r5 w5 from VisR.from f.o M);clear M;obtain⟨t5,rfl⟩:=K.o.bool;go_wp2_with fail;go_ret;exact⟨_,rfl,K.o⟩
    by_cases k3:kd=3
    ·subst k3;have hl:=(Lr g.o.1.m Tryz.underlying95 Tryz.underlying3 Ki (J1f L)).1;clear k0 k1 k2;have hq:=fun w=>N1 (w:=w);go_enter Tryz.func50,Tryz.ntmps50;go_wp2_with fail;clear hl hq s0 a8 a7 t0 t1 f1 c0 c1 c2 c3 c4 c5 c6 c7 b6 b3 b4 b5;clear y A C D E F G I;refine(Nc W3 ⟨3,mp,Y,X,a1,a0,U,W,V,R,row,vp,vn,a2⟩ n 4 (q.o.grow g.o.1.g)).mono ?_;rintro _ w4 ⟨r4,rfl,g4,s⟩;obtain⟨a4,J,r,f⟩:=Z4 (c.o.grow g4) (b0.o.grow g4) (g.o.1.grow g4) (Kc f.o (J8 l g4));clear g4;rcases s.cases with⟨rfl,d⟩|⟨rfl,d⟩;rotate_left
     ·have H:=Z (show ¬ ∃ S,Jm p (n :: N) S from fun⟨S,h⟩=>d (Mp h));clear s d;go_wp2_with fail;go_ret;exact⟨_,rfl,f.o,.inr ⟨H.o,rfl,_,r.o⟩⟩
     obtain⟨a5,a3⟩:=Z2 d (show n.kind=3 from q.o.kind.symm);clear s d;have c:=a4;have y:=c.o.at 0 rfl;have A:=c.o.at 1 rfl;have C:=c.o.at 2 rfl;have D:=c.o.at 3 rfl;have E:=c.o.at 4 rfl;have F:=c.o.at 5 rfl;have G:=c.o.at 6 rfl;have I:=c.o.at 7 rfl;have p0:=J.o.at 0 rfl;have p1:=J.o.at 1 rfl;go_wp2_with fail;clear y A C D E F G I;clear p0 p1 c;refine(J1x W0 w4 l L bs bm (some ⟨b,o+8,none⟩) (ct - 1) _ p ⟨3,mp,Y,X,a1,a0,U,W,V,R,row,vp,vn,a2⟩ n N (O - 1) a9.o (d0.o.less (by have:=HK.o;simp at this;omega)) r.o b1.o (HS.o.go f.o) (q.o.grow r.o.g) a6.o c9.o c8.o a3.o a5.o).mono ?_;rintro _ w5 ⟨r5,rfl,M⟩;have K:=Z (show VisR p (n :: N) W0 w l L bs bm r5 w5 from VisR.from f.o M);clear M;obtain⟨t5,rfl⟩:=K.o.bool;go_wp2_with fail;go_ret;exact⟨_,rfl,K.o⟩
    have hl:=(Uy (P:=Tryz.prog) (z:=.nilFunc) g.o.1.m Tryz.underlying95 Tryz.underlying3 (Ki (n:=kd)) (by kernel_rfl) (J1g L k0 k1 k2 k3)).1;have H:=Z (show ¬ ∃ S,Jm p (n :: N) S from fun⟨S,h⟩=>Um (by rw[← q.o.kind];exact k0) (by rw[← q.o.kind];exact k1) (by rw[← q.o.kind];exact k2) (by rw[← q.o.kind];exact k3) (Mp h));have hq:=fun w=>Z0 (w:=w);clear k0 k1 k2 k3;go_enter Tryz.func50,Tryz.ntmps50;go_wp2_with fail;go_ret;exact⟨_,rfl,f.o,.inr ⟨H.o,rfl,_,g.o.1⟩⟩
theorem J3.arg {b w:World}{c:Nat}{v:Value}{p:Prg}(h:Js b v p)(g:Gr b w)(d:b.heap.size≤c):J3 w c v p:=fun w' k=>
 h.grow (show Gr b w' from Below.grown g k g.size (fun k e=>by cases e;exact d))
def stepsE (bv:Nat):Array MapEntry:=#[{ key:=.int .i64 0,val:=.func (.func 43) #[] #[],born:=0 },{ key:=.int .i64 1,val:=.func (.func 45) #[] #[],born:=1 },
 { key:=.int .i64 2,val:=.func (.func 46) #[] #[.pointer (some ⟨bv,0,none⟩)],born:=2 },{ key:=.int .i64 3,val:=.func (.func 48) #[] #[.pointer (some ⟨bv,0,none⟩)],born:=3 }]
theorem J1t (w:World)(v:Value)(p:Prg)(N:List Jk)(q:Option Addr)(g k:Nat)(a7:g=N.length)(hv:Js w v p)(a4:J1 w (.slice q g k) N 4)(hp:PvP p N.length)(hf:∀ n ∈ N,Kx n):
  Calls Tryz.prog 24 #[v,.slice q g k] w (Ret w fun r _=>Jb (Jm p N []) r):=by
 obtain⟨HV,a0,b3,HF⟩:=Z4 hv (And.intro a4 a7) hp hf;obtain⟨J,L,K,M,rfl,b4,hr⟩:=hv;unfold prgV at HV ⊢;clear b4 hr a4 hp hf a7;have O:=Ja.new w #[.slice J p.vars.length L,.slice K p.rows.length M] 25;have y:=Ja.new (w.alloc (.cells #[.slice J p.vars.length L,.slice K p.rows.length M] 25)) #[.slice q g k] 26;have s:=Ja.new ((w.alloc (.cells #[.slice J p.vars.length L,.slice K p.rows.length M] 25)).alloc (.cells #[.slice q g k] 26)) #[.nilFunc] 60;simp only[World.size_alloc] at y s;have d:=Z (show _∧Ja _ _ #[.slice J p.vars.length L,.slice K p.rows.length M]∧Ja _ _ #[.slice q g k]∧Ja _ _ #[.nilFunc] from⟨O.1.trans (y.1.trans s.1),O.2.grow (y.1.trans s.1),y.2.grow s.1,s.2⟩);clear O y s;go_enter Tryz.func24,Tryz.ntmps24;go_wp2_with fail;generalize X:w.heap.size+1+1=b at d ⊢;generalize V:w.heap.size+1=f at d ⊢;generalize U:w.heap.size=bp at d ⊢;generalize ((w.alloc _).alloc _).alloc _=W at d ⊢;have x:=Z (show w.heap.size≤f∧f≠b∧bp≠b∧w.heap.size≤b∧bp≠f from by omega);clear X V U;have a3:=run_makeMap (P:=Tryz.prog) 95 W;have a8:=K2 (P:=Tryz.prog) (w:=W) (es:=((stepsE b).extract 0 0)) (c:=0) (t:=95) (key:=.int .i64 0) (.func (.func 43) #[] #[]) Tryz.underlying95 Tryz.underlying3 Ki rfl rfl;have a9:=K2 (P:=Tryz.prog) (w:=W) (es:=((stepsE b).extract 0 1)) (c:=1) (t:=95) (key:=.int .i64 1) (.func (.func 45) #[] #[]) Tryz.underlying95 Tryz.underlying3 Ki rfl rfl;have b0:=K2 (P:=Tryz.prog) (w:=W) (es:=((stepsE b).extract 0 2)) (c:=2) (t:=95) (key:=.int .i64 2) (.func (.func 46) #[] #[.pointer (some ⟨b,0,none⟩)]) Tryz.underlying95 Tryz.underlying3 Ki rfl rfl;have b1:=K2 (P:=Tryz.prog) (w:=W) (es:=((stepsE b).extract 0 3)) (c:=3) (t:=95) (key:=.int .i64 3) (.func (.func 48) #[] #[.pointer (some ⟨b,0,none⟩)]) Tryz.underlying95 Tryz.underlying3 Ki rfl rfl;simp only[stepsE,List.push_toArray,List.nil_append,List.cons_append,Array.push_empty,Nat.zero_add,Nat.reduceAdd,List.extract_toArray,List.extract_eq_take_drop,List.take,List.drop,Nat.sub_zero] at a8 a9 b0 b1;have M1:=World.size_alloc W (.map (stepsE b) 4);have gm:Gr W (W.alloc (.map (stepsE b) 4)):=(Gr.refl _).alloc _;have a2:Ld (W.alloc (.map (stepsE b) 4)) W.heap.size (stepsL b):=⟨_,_,(MapKept.heap_alloc W _).1,rfl⟩
 have u:=Ja.new (W.alloc (.map (stepsE b) 4)) #[.map (some W.heap.size)] 95;rw[M1] at u;obtain⟨E,T⟩:∃ z,(W.alloc (.map (stepsE b) 4)).alloc (.cells #[.map (some W.heap.size)] 95)=z:=⟨_,rfl⟩
 rw[T] at u;have j:=gm.trans u.1;obtain⟨F,G⟩:∃ z,E.setCell ⟨b,0,none⟩ (.func (.func 50) #[] #[.pointer (some ⟨f,0,none⟩),.pointer (some ⟨W.heap.size+1,0,none⟩)])=z:=⟨_,rfl⟩
 have A:Upd b E F:=by rw[← G];exact J5 E b 0 _
 have X:=d.o.2.2.2.lt;have U:=d.o.2.1.lt;have V:=d.o.2.2.1.lt;have C:=Z (show Le w F f b (W.heap.size+1) W.heap.size (.slice q g k) from by
  refine⟨by rw[← G];exact Gr.set (d.o.1.trans j) (by have:=x.o;omega) _,(d.o.2.2.1.grow j).upd A x.o.2.1,?_,u.2.upd A (by omega),?_,x.o.2.1,by omega,by omega,x.o.1⟩
  ·have h:=(d.o.2.2.2.grow j).set 0 (visitF f (W.heap.size+1));unfold visitF at h ⊢;rw[G] at h;simpa using h
  ·obtain⟨es,c,h1,h2⟩:=a2.grow u.1;exact⟨es,c,by rw[A W.heap.size (by omega)];exact h1,h2⟩)
 have a1:=Z ((d.o.2.1.grow j).upd A x.o.2.2.1);have f0:=Ja.f (d.o.2.2.2.grow j) 0;have p0:=a1.o.at 0 rfl;have p1:=a1.o.at 1 rfl;have v0:F.cell? ⟨b,0,none⟩=some (.func (.func 50) #[] #[.pointer (some ⟨f,0,none⟩),.pointer (some ⟨W.heap.size+1,0,none⟩)]):=C.o.v.at 0 rfl;have z0:E.cell? ⟨b,0,none⟩=some .nilFunc:=(d.o.2.2.2.grow j).at 0 rfl;unfold stepsE at T;clear M1 gm a2 u A X U V j;rw[a3];go_wp2_with fail;clear a3 a8 a9 b0 b1 T G f0 p0 p1 v0 z0;generalize W.heap.size=bm at C ⊢;refine(J6D w f b (bm+1) bm (N.length+1) F _ p N q k g (by omega) a0.o.2 C.o a0.o.1 (J3.arg HV.o C.o.g x.o.1) b3.o HF.o).mono ?_;rintro _ w8 ⟨r8,rfl,R,h8⟩;rcases h8 with⟨S,b7,b2,b5,I,rfl,l,a5,Y⟩|⟨a6,rfl,b8,l⟩;rotate_left
 ·obtain⟨H,D⟩:=Z2 (show ¬ Jm p N [] from fun h=>a6 ⟨[],h⟩) l;clear R a6 l;go_wp2_with fail;go_ret;exact⟨_,rfl,D.o.g,Jb.no H.o⟩
 have t0:=l.t.at 0 rfl;have D:=Z l
 cases S with
 | nil=>
  obtain rfl:b2=0:=Y;have H:=Z I;clear R I l a5;go_wp2_with fail;go_ret;exact⟨_,rfl,D.o.g,Jb.yes H.o⟩
 | cons m S=>
  have H:=Z (show ¬ Jm p N [] from fun h=>by have:=Pm I h;cases this);have b6:((b2:Int) == 0)=false:=by simp;simp at Y;omega
  clear R I l a5 Y;go_wp2_with fail;go_ret;exact⟨_,rfl,D.o.g,Jb.no H.o⟩
def ChkP (p:Prg)(N:List Jk)(r:Value):Prop:=(¬ (Jo p∧Whole p)∧r = .int .i64 1)∨((Jo p∧Whole p)∧Jm p N []∧r = .int .i64 0)∨((Jo p∧Whole p)∧¬ Jm p N []∧r = .int .i64 13)
theorem Vh (w:World)(v:Value)(p:Prg)(N:List Jk)(s:Option Addr)(h k:Nat)(F:h=N.length)(I:Js w v p)(E:J1 w (.slice s h k) N 4)(z:PrgI p)(A:∀ r ∈ p.rows,r.name.length≤1000000)(D:p.vars.length≤10)(C:p.rows.length+N.length≤40)(y:∀ n ∈ N,Kx n):
  Calls Tryz.prog 9 #[v,.slice s h k] w (Ret w fun r _=>ChkP p N r):=by
 obtain⟨j,u,K,L,g,J⟩:=Z6 I (And.intro E F) z A (And.intro D C) y;obtain⟨T,V,U,X,rfl,O,M⟩:=I;unfold prgV at j ⊢;have B:=Ja.new w #[.slice T p.vars.length V,.slice U p.rows.length X] 25;have b:=Z B;clear O M E z A D C y F B;go_enter Tryz.func9,Tryz.ntmps9;go_wp2_with fail;generalize w.heap.size=bp at b ⊢;generalize w.alloc _=W at b ⊢;refine(J1y W _ p (j.o.grow b.o.1) K.o L.o (by have:=g.o;omega) (by have:=g.o;omega)).mono ?_;rintro _ Y ⟨r1,rfl,g1,m⟩;obtain⟨G,x⟩:=Z2 (b.o.1.trans g1) (b.o.2.grow g1);rcases m.cases with⟨rfl,c⟩|⟨rfl,c⟩;rotate_left
 ·have H:=Z c;clear m c g1;go_wp2_with fail;go_ret;exact⟨_,rfl,G.o,.inl ⟨H.o,rfl⟩⟩
 have f:=Z c;have R:=x.o.at 0 rfl;have S:=x.o.at 1 rfl;clear m c g1;go_wp2_with fail;clear R S;refine(J1t Y _ p N s h k u.o.2 (j.o.grow G.o) (u.o.1.grow G.o) ⟨f.o.1,f.o.2,g.o.1,g.o.2⟩ J.o).mono ?_;rintro _ w2 ⟨r2,rfl,l,q⟩;have G:=Z (G.o.trans l);rcases q.cases with⟨rfl,d⟩|⟨rfl,d⟩
 ·have H:=Z d;clear q d l;go_wp2_with fail;go_ret;exact⟨_,rfl,G.o,.inr (.inl ⟨f.o,H.o,rfl⟩)⟩
 ·have H:=Z d;clear q d l;go_wp2_with fail;go_ret;exact⟨_,rfl,G.o,.inr (.inr ⟨f.o,H.o,rfl⟩)⟩
inductive Dep:List Jk→Nat→List Jk→Prop
 | leaf {n:Jk} {t:List Jk} (h0:n.kind=0):Dep (n :: t) 0 t
 | split {n:Jk} {t r s:List Jk} {d e:Nat} (h0:n.kind=2) (h1:Dep t d r) (h2:Dep r e s):Dep (n :: t) (1+max d e) s
theorem Dep.le {N S:List Jk}{d:Nat}(h:Dep N d S):d+S.length≤N.length:=by
 induction h with
 | leaf=>simp
 | split _ _ _ i1 i2=>simp only[List.length_cons];omega
def depF (bt bf:Nat):Value:=.func (.func 35) #[] #[.pointer (some ⟨bt,0,none⟩),.pointer (some ⟨bf,0,none⟩)]
structure My (W0 w:World)(bt bf:Nat)(tv:Value):Prop where
 g:Gr W0 w
 t:Ja w bt #[tv]
 f:Ja w bf #[depF bt bf]
 n:bt≠bf∧W0.heap.size≤bt
theorem My.set {c w:World}{b d:Nat}{tv:Value}(h:My c w b d tv)(u:Value):My c (w.setCell ⟨b,0,none⟩ u) b d u∧w.grownBy (w.setCell ⟨b,0,none⟩ u) (some b):=by
 have f:=J5 w b 0 u;refine⟨⟨Gr.set h.g (by have:=h.n.2;omega) _,?_,h.f.upd f h.n.1.symm,h.n⟩,Jp.set b w 0 u⟩;have:=h.t.set 0 u;simpa using this
def DepR (d:Nat)(S:List Jk)(W0 w:World)(bt bf:Nat)(r:Value)(w':World):Prop:=
 r = .tuple #[.int .i64 (d:Int),.bool true]∧w.grownBy w' (some bt)∧∃ pt nt ct,My W0 w' bt bf (.slice pt nt ct)∧J1 W0 (.slice pt nt ct) S 4∧nt=S.length
theorem J6y {N S:List Jk}{d:Nat}(y:World)(l bf:Nat)(h:Dep N d S):∀ (w:World) (pt:Option Addr) (g c:Nat),c=N.length→My y w l bf (.slice pt c g)→J1 y (.slice pt c g) N 4→N.length≤1000→
  Calls Tryz.prog 35 #[.pointer (some ⟨l,0,none⟩),.pointer (some ⟨bf,0,none⟩)] w (fun e w'=>∃ r,e = .returned r∧DepR d S y w l bf r w'):=by
 induction h with
 | @leaf n t h0=>
  intro w pt g c p k a1 a7;clear a7;have E:=Z k;obtain⟨b,o,x,rfl,hx,R,a5⟩:=Rn a1;obtain⟨I,H⟩:=Z2 a5 p;have t0:w.cell? ⟨l,0,none⟩=some (.slice (some ⟨b,o,none⟩) c g):=k.t.at 0 rfl;have a4:((c:Int) == 0)=false:=by simp;simp at p;omega
  have c0:=R w k.g 0 _ rfl;obtain⟨kd,mp,mn,mc,b9,b8,ck,cp,cn,cc,row,vp,vn,c1⟩:=x;have b0:kd=0:=hx.kind.trans h0;subst b0;rw[Nat.add_zero] at c0;have X:0 < c:=by simp at p;omega
  have Y:(0:Int) < (c:Int):=by omega
  have a0:(1:Int)≤(c:Int):=by omega
  have K:=Ja.f k.t 0;clear k a1 hx R a5 p;dsimp only at c0;by_cases T:g=1
  ·subst T;obtain⟨J,j⟩:∃ z,w.setCell ⟨l,0,none⟩ (.slice (some ⟨b,o,none⟩) (c - 1) 0)=z:=⟨_,rfl⟩
   have f:=My.set E.o (.slice (some ⟨b,o,none⟩) (c - 1) 0);rw[j] at f;obtain⟨f,v,u⟩:=Z3 f (show J1 y (.slice (some ⟨b,o,none⟩) (c - 1) 0) t 4 from(by have:=I.o (some ⟨b,o,none⟩) (.inr rfl);exact this)) (show c - 1=t.length from by have:=H.o;simp at this;omega);go_enter Tryz.func35,Tryz.ntmps35;go_wp2_with fail;clear t0 a4 c0 X Y a0 K j;try rw[Exit.noGoto_ret]
   refine bodyPost_ret (by simp[results,Tryz.results35,go_sem];rfl) rfl ?_;exact⟨_,rfl,rfl,f.o.2,_,_,_,f.o.1,v.o,u.o⟩
  ·have b5:(g == 1)=false:=by simpa using T
   obtain⟨J,j⟩:∃ z,w.setCell ⟨l,0,none⟩ (.slice (some ⟨b,o+8,none⟩) (c - 1) (g - 1))=z:=⟨_,rfl⟩
   have f:=My.set E.o (.slice (some ⟨b,o+8,none⟩) (c - 1) (g - 1));rw[j] at f;obtain⟨f,v,u⟩:=Z3 f (show J1 y (.slice (some ⟨b,o+8,none⟩) (c - 1) (g - 1)) t 4 from(I.o _ (.inl rfl))) (show c - 1=t.length from by have:=H.o;simp at this;omega);go_enter Tryz.func35,Tryz.ntmps35;go_wp2_with fail;clear t0 a4 c0 X Y a0 K j;try rw[Exit.noGoto_ret]
   refine bodyPost_ret (by simp[results,Tryz.results35,go_sem];rfl) rfl ?_;exact⟨_,rfl,rfl,f.o.2,_,_,_,f.o.1,v.o,u.o⟩
 | @split n t r s d e h0 h1 h2 i1 i2=>
  intro w pt g c p k a1 a7;obtain⟨b3,b4,a6,b2,D⟩:=Z5 i1 i2 h1.le h2.le a7;clear i1 i2 h1 h2 a7;have E:=Z k;obtain⟨b,o,x,rfl,hx,R,a5⟩:=Rn a1;obtain⟨I,H⟩:=Z2 a5 p;have t0:w.cell? ⟨l,0,none⟩=some (.slice (some ⟨b,o,none⟩) c g):=k.t.at 0 rfl;have a4:((c:Int) == 0)=false:=by simp;simp at p;omega
  have c0:=R w k.g 0 _ rfl;obtain⟨kd,mp,mn,mc,b9,b8,ck,cp,cn,cc,row,vp,vn,c1⟩:=x;have b0:kd=2:=hx.kind.trans h0;subst b0;rw[Nat.add_zero] at c0;have X:0 < c:=by simp at p;omega
  have Y:(0:Int) < (c:Int):=by omega
  have a0:(1:Int)≤(c:Int):=by omega
  have K:=Ja.f k.t 0;clear k a1 hx R a5 p;dsimp only at c0;by_cases T:g=1
  ·subst T;obtain⟨J,j⟩:∃ z,w.setCell ⟨l,0,none⟩ (.slice (some ⟨b,o,none⟩) (c - 1) 0)=z:=⟨_,rfl⟩
   have f:=My.set E.o (.slice (some ⟨b,o,none⟩) (c - 1) 0);rw[j] at f;obtain⟨f,v,u⟩:=Z3 f (show J1 y (.slice (some ⟨b,o,none⟩) (c - 1) 0) t 4 from(by have:=I.o (some ⟨b,o,none⟩) (.inr rfl);exact this)) (show c - 1=t.length from by have:=H.o;simp at this;omega);have L:=f.o.1.f.at 0 rfl;unfold depF at L;go_enter Tryz.func35,Tryz.ntmps35;go_wp2_with fail;clear t0 a4 c0 X Y a0 K j L;refine(b3.o J (some ⟨b,o,none⟩) 0 (c - 1) u.o f.o.1 v.o (by have:=D.o;simp at this;omega)).mono ?_;rintro _ w4 ⟨r4,rfl,rfl,g4,p4,n4,c4,A,a2,V⟩;obtain⟨a8,F,q⟩:=Z3 A (And.intro a2 V) (Kc f.o.2 g4);have M:=A.f.at 0 rfl;unfold depF at M;clear A a2 V g4;go_wp2_with fail;clear M;refine(b4.o w4 p4 c4 n4 F.o.2 a8.o F.o.1 (by have:=a6.o;have:=D.o;simp at this;omega)).mono ?_;rintro _ w5 ⟨r5,rfl,rfl,O,p5,n5,c5,U,a3,W⟩;obtain⟨a9,G,q⟩:=Z3 U (And.intro a3 W) (Kc q.o O);clear U a3 W O;have b1:max (d:Int) (e:Int)=((max d e:Nat):Int):=by omega
   obtain⟨m,C⟩:∃ m,max d e=m:=⟨_,rfl⟩
   rw[C] at b1;have b6:m≤1000:=by have:=a6.o;have:=b2.o;have:=D.o;simp at this;omega
   have b7:IntKind.i64.wrap (1+(m:Int))=1+(m:Int):=by rw[IntKind.wrap_i64];omega
   have HM:=Z C;clear C;go_wp2_with fail;try rw[Exit.noGoto_ret]
   refine bodyPost_ret (by simp[results,Tryz.results35,go_sem];rfl) rfl ?_;exact⟨_,rfl,by rw[HM.o];simp,q.o,_,_,_,a9.o,G.o.1,G.o.2⟩
  ·have b5:(g == 1)=false:=by simpa using T
   obtain⟨J,j⟩:∃ z,w.setCell ⟨l,0,none⟩ (.slice (some ⟨b,o+8,none⟩) (c - 1) (g - 1))=z:=⟨_,rfl⟩
   have f:=My.set E.o (.slice (some ⟨b,o+8,none⟩) (c - 1) (g - 1));rw[j] at f;obtain⟨f,v,u⟩:=Z3 f (show J1 y (.slice (some ⟨b,o+8,none⟩) (c - 1) (g - 1)) t 4 from(I.o _ (.inl rfl))) (show c - 1=t.length from by have:=H.o;simp at this;omega);have L:=f.o.1.f.at 0 rfl;unfold depF at L;go_enter Tryz.func35,Tryz.ntmps35;go_wp2_with fail;clear t0 a4 c0 X Y a0 K j L;refine(b3.o J (some ⟨b,o+8,none⟩) (g - 1) (c - 1) u.o f.o.1 v.o (by have:=D.o;simp at this;omega)).mono ?_;rintro _ w4 ⟨r4,rfl,rfl,g4,p4,n4,c4,A,a2,V⟩;obtain⟨a8,F,q⟩:=Z3 A (And.intro a2 V) (Kc f.o.2 g4);have M:=A.f.at 0 rfl;unfold depF at M;clear A a2 V g4;go_wp2_with fail;clear M;refine(b4.o w4 p4 c4 n4 F.o.2 a8.o F.o.1 (by have:=a6.o;have:=D.o;simp at this;omega)).mono ?_;rintro _ w5 ⟨r5,rfl,rfl,O,p5,n5,c5,U,a3,W⟩;obtain⟨a9,G,q⟩:=Z3 U (And.intro a3 W) (Kc q.o O);clear U a3 W O;have b1:max (d:Int) (e:Int)=((max d e:Nat):Int):=by omega
   obtain⟨m,C⟩:∃ m,max d e=m:=⟨_,rfl⟩
   rw[C] at b1;have b6:m≤1000:=by have:=a6.o;have:=b2.o;have:=D.o;simp at this;omega
   have b7:IntKind.i64.wrap (1+(m:Int))=1+(m:Int):=by rw[IntKind.wrap_i64];omega
   have HM:=Z C;clear C;go_wp2_with fail;try rw[Exit.noGoto_ret]
   refine bodyPost_ret (by simp[results,Tryz.results35,go_sem];rfl) rfl ?_;exact⟨_,rfl,by rw[HM.o];simp,q.o,_,_,_,a9.o,G.o.1,G.o.2⟩
theorem J1r {N:List Jk}{d:Nat}(w:World)(f:Option Addr)(b c:Nat)(v:b=N.length)(u:J1 w (.slice f b c) N 4)(h:Dep N d [])(E:N.length≤1000):
  Calls Tryz.prog 18 #[.slice f b c] w (Ret w fun r _=>r = .tuple #[.int .i64 (d:Int),.bool true]):=by
 obtain⟨q,A⟩:=Z2 (And.intro u v) h;have m:=Ja.new w #[.slice f b c] 26;have g:=Ja.new (w.alloc (.cells #[.slice f b c] 26)) #[.nilFunc] 82;simp only[World.size_alloc] at g;obtain⟨W,s⟩:∃ z,(w.alloc (.cells #[.slice f b c] 26)).alloc (.cells #[.nilFunc] 82)=z:=⟨_,rfl⟩
 rw[s] at g;have j:=Z (show _∧Ja _ _ #[.slice f b c]∧Ja _ _ #[.nilFunc] from⟨m.1.trans g.1,m.2.grow g.1,g.2⟩);obtain⟨k,l⟩:∃ z,W.setCell ⟨w.heap.size+1,0,none⟩ (.func (.func 35) #[] #[.pointer (some ⟨w.heap.size,0,none⟩),.pointer (some ⟨w.heap.size+1,0,none⟩)])=z:=⟨_,rfl⟩
 have x:Upd (w.heap.size+1) W k:=by rw[← l];exact J5 W _ 0 _
 have p:=Z (show My w k w.heap.size (w.heap.size+1) (.slice f b c) from by
  refine⟨by rw[← l];exact Gr.set j.o.1 (by omega) _,j.o.2.1.upd x (by omega),?_,by omega,Nat.le_refl _⟩;have h:=j.o.2.2.set 0 (depF w.heap.size (w.heap.size+1));unfold depF at h ⊢;rw[l] at h;simpa using h)
 have C:=Ja.f j.o.2.2 0;have z0:W.cell? ⟨w.heap.size+1,0,none⟩=some .nilFunc:=j.o.2.2.at 0 rfl;have v0:k.cell? ⟨w.heap.size+1,0,none⟩=some (.func (.func 35) #[] #[.pointer (some ⟨w.heap.size,0,none⟩),.pointer (some ⟨w.heap.size+1,0,none⟩)]):=p.o.f.at 0 rfl;clear u v h m g x;go_enter Tryz.func18,Tryz.ntmps18;go_wp2_with fail;clear s l C z0 v0;refine(J6y w _ _ A.o k f c b q.o.2 p.o q.o.1 E).mono ?_;rintro _ J ⟨I,rfl,rfl,g3,H,G,c3,n,F,D⟩;obtain rfl:G=0:=D;have y:=Z n.g;have t0:=n.t.at 0 rfl;clear g3 n F;go_wp2_with fail;try rw[Exit.noGoto_ret]
 refine bodyPost_ret (by simp[results,Tryz.results18,go_sem];rfl) rfl ?_;exact⟨_,rfl,y.o,rfl⟩
end Prf
end Go.Proofs.YtcjgimlcefhhmaaGreatDoor
