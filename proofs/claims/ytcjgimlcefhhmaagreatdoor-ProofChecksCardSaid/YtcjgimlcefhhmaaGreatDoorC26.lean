/- Texts: LnA LnB LnC LnD LnE LnF. -/
import Derived.Test.YtcjgimlcefhhmaaGreatDoorC20
set_option linter.unusedVariables false
set_option linter.unusedSimpArgs false
set_option maxRecDepth 100000
set_option maxHeartbeats 12800000
namespace Go.Proofs.YtcjgimlcefhhmaaGreatDoor
namespace Prf
open Go.RowKit Go.Lib
def PrdV {α:Type}(w:World)(v:Value)(mk:α→Value)(l:List α)(ok:α→Prop):Prop:=∃ (f:Nat) (caps:Array Value),v = .func (.func f) #[] caps∧(∀ args w,(callFunc f args).run Tryz.prog w = .ok (.enter f args) w)∧
 ∀ w',Gr w w'→∀ x ∈ l,Calls Tryz.prog f (#[mk x] ++ caps) w' (Ret w' fun r _=>Jb (ok x) r)
def mkI (n:Int):Value:=.int .i64 n
theorem J0V {w:World}{p:Option Addr}{n c:Nat}{l:List RowM}(h:SlL w 5 encRow (.slice p n c) l)(f:l.length=n){k:Nat}(d:k < n):
  ∃ b o x,p=some ⟨b,o,none⟩∧l[k]?=some x∧∀ w',Gr w w'→Vw w' b (o+k * 5) x:=by
 obtain⟨b,o,x,i,j,a⟩:=h.at Lk f d;exact⟨b,o,x,i,j,fun w' g=>⟨a 0 _ rfl w' g,a 1 _ rfl w' g,a 2 _ rfl w' g,a 3 _ rfl w' g,a 4 _ rfl w' g⟩⟩
def mkVar (x:VarM):Value:=.agg (encVar x).toArray
theorem J3C (w:World)(p:Option Addr)(n c:Nat)(l:List Int)(v:Value)(q:Int→Prop)(F:SlL w 1 encI (.slice p n c) l)(H:l.length=n)(R:n≤100000000000000)(O:PrdV w v mkI l q):
  Calls Tryz.prog 197 #[.slice p n c,v] w (Ret w fun r _=>∃ z:Int,r = .int .i64 z∧(0≤z↔∃ x ∈ l,q x)):=by
 obtain⟨f,Q,rfl,S,C⟩:=O;obtain⟨K,L,s⟩:=Z3 C F H;clear C F H;go_enter Tryz.func197,Tryz.ntmps197;go_wp2_with fail;go_loopw [8] (fun i P=>∃ k:Nat,i = .int .i64 k∧k≤n∧(∀ j x,j < k→l[j]?=some x→¬ q x)∧Gr w P) (fun i _=>n - (RowKit.intOf i).toNat)
 case atStart=>exact⟨0,rfl,Nat.zero_le _,fun j x a=>by omega,Gr.refl _⟩
 case round=>
  obtain⟨k,rfl,T,I,E⟩:=hrel;obtain⟨u,G⟩:=Z2 I E;clear I E;by_cases N:k < n
  ·have U:(k:Int) < (n:Int):=by omega
   obtain⟨b,o,x,rfl,d,D⟩:=Lm L.o s.o N;have g:=Z d;obtain c0:=D wr G.o;clear D d;go_wp2_with fail;refine(K.o wr G.o x (List.mem_of_getElem? g.o)).mono ?_;rintro _ W ⟨V,rfl,B,M⟩;have G:=Z (G.o.trans B);obtain⟨t,rfl,J⟩:=M;have A:=Z J;clear B J
   cases t
   ·go_wp2_with fail;refine⟨⟨k+1,by go_num,by omega,fun j y a m=>?_,G.o⟩,by simp[RowKit.intOf];omega⟩;by_cases e:j=k
    ·subst e;rw[g.o] at m
     cases m
     exact fun h=>absurd (A.o.2 h) (by decide)
    ·exact u.o j y (by omega) m
   ·go_wp2_with fail;go_ret;exact⟨_,rfl,G.o,(k:Int),rfl,⟨fun _=>⟨x,List.mem_of_getElem? g.o,(by have:=A.o;simpa using this)⟩,fun _=>by omega⟩⟩
  ·obtain rfl:n=k:=by omega
   go_wp2_with fail;go_ret;refine⟨_,rfl,G.o,-1,rfl,⟨fun h=>absurd h (by decide),fun⟨x,d,h⟩=>?_⟩⟩;obtain⟨j,a,e⟩:=List.mem_iff_getElem.1 d;exact absurd h (u.o j x (by rw[s.o] at a;exact a) (by rw[List.getElem?_eq_getElem a,e]))
theorem J3B (w:World)(p:Option Addr)(n c:Nat)(l:List Int)(v:Value)(a:Int→Prop)(d:SlL w 1 encI (.slice p n c) l)(g:l.length=n)(m:n≤100000000000000)(h:PrdV w v mkI l a):
  Calls Tryz.prog 136 #[.slice p n c,v] w (Ret w fun r _=>Jb (∃ x ∈ l,a x) r):=by
 have H:=Z (J3C w p n c l v a d g m h);obtain⟨f,o,rfl,q,k⟩:=h;clear d g k;go_enter Tryz.func136,Tryz.ntmps136;go_wp2_with fail;refine H.o.mono ?_;rintro _ s ⟨_,rfl,b,z,rfl,i⟩;obtain⟨G,j⟩:=Z2 b i;clear b i;go_wp2_with fail;go_ret;exact⟨_,rfl,G.o,decide (0≤z),rfl,by rw[← j.o];simp⟩
theorem J3O (w:World)(p:Option Addr)(n c:Nat)(l:List Int)(v:Value)(q:Int→Prop)(F:SlL w 1 encI (.slice p n c) l)(H:l.length=n)(R:n≤100000000000000)(O:PrdV w v mkI l q):
  Calls Tryz.prog 184 #[.slice p n c,v] w (Ret w fun r _=>∃ z:Int,r = .int .i64 z∧(0≤z↔∃ x ∈ l,q x)):=by
 obtain⟨f,Q,rfl,S,C⟩:=O;obtain⟨K,L,s⟩:=Z3 C F H;clear C F H;go_enter Tryz.func184,Tryz.ntmps184;go_wp2_with fail;go_loopw [8] (fun i P=>∃ k:Nat,i = .int .i64 k∧k≤n∧(∀ j x,j < k→l[j]?=some x→¬ q x)∧Gr w P) (fun i _=>n - (RowKit.intOf i).toNat)
 case atStart=>exact⟨0,rfl,Nat.zero_le _,fun j x a=>by omega,Gr.refl _⟩
 case round=>
  obtain⟨k,rfl,T,I,E⟩:=hrel;obtain⟨u,G⟩:=Z2 I E;clear I E;by_cases N:k < n
  ·have U:(k:Int) < (n:Int):=by omega
   obtain⟨b,o,x,rfl,d,D⟩:=Lm L.o s.o N;have g:=Z d;obtain c0:=D wr G.o;clear D d;go_wp2_with fail;refine(K.o wr G.o x (List.mem_of_getElem? g.o)).mono ?_;rintro _ W ⟨V,rfl,B,M⟩;have G:=Z (G.o.trans B);obtain⟨t,rfl,J⟩:=M;have A:=Z J;clear B J
   cases t
   ·go_wp2_with fail;refine⟨⟨k+1,by go_num,by omega,fun j y a m=>?_,G.o⟩,by simp[RowKit.intOf];omega⟩;by_cases e:j=k
    ·subst e;rw[g.o] at m
     cases m
     exact fun h=>absurd (A.o.2 h) (by decide)
    ·exact u.o j y (by omega) m
   ·go_wp2_with fail;go_ret;exact⟨_,rfl,G.o,(k:Int),rfl,⟨fun _=>⟨x,List.mem_of_getElem? g.o,(by have:=A.o;simpa using this)⟩,fun _=>by omega⟩⟩
  ·obtain rfl:n=k:=by omega
   go_wp2_with fail;go_ret;refine⟨_,rfl,G.o,-1,rfl,⟨fun h=>absurd h (by decide),fun⟨x,d,h⟩=>?_⟩⟩;obtain⟨j,a,e⟩:=List.mem_iff_getElem.1 d;exact absurd h (u.o j x (by rw[s.o] at a;exact a) (by rw[List.getElem?_eq_getElem a,e]))
theorem J3N (w:World)(p:Option Addr)(n c:Nat)(l:List Int)(v:Value)(a:Int→Prop)(d:SlL w 1 encI (.slice p n c) l)(g:l.length=n)(m:n≤100000000000000)(h:PrdV w v mkI l a):
  Calls Tryz.prog 121 #[.slice p n c,v] w (Ret w fun r _=>Jb (∃ x ∈ l,a x) r):=by
 have H:=Z (J3O w p n c l v a d g m h);obtain⟨f,o,rfl,q,k⟩:=h;clear d g k;go_enter Tryz.func121,Tryz.ntmps121;go_wp2_with fail;refine H.o.mono ?_;rintro _ s ⟨_,rfl,b,z,rfl,i⟩;obtain⟨G,j⟩:=Z2 b i;clear b i;go_wp2_with fail;go_ret;exact⟨_,rfl,G.o,decide (0≤z),rfl,by rw[← j.o];simp⟩
theorem J61 (w:World)(p:Option Addr)(n c:Nat)(l:List RowM)(v:Value)(q:RowM→Prop)(F:SlL w 5 encRow (.slice p n c) l)(H:l.length=n)(S:n≤100000000000000)(O:PrdV w v rowV l q):
  Calls Tryz.prog 138 #[.slice p n c,v] w (Ret w fun r _=>∃ z:Int,r = .int .i64 z∧(0≤z↔∃ x ∈ l,q x)):=by
 obtain⟨f,R,rfl,T,C⟩:=O;obtain⟨K,L,s⟩:=Z3 C F H;clear C F H;go_enter Tryz.func138,Tryz.ntmps138;go_wp2_with fail;go_loopw [8] (fun i P=>∃ k:Nat,i = .int .i64 k∧k≤n∧(∀ j x,j < k→l[j]?=some x→¬ q x)∧Gr w P) (fun i _=>n - (RowKit.intOf i).toNat)
 case atStart=>exact⟨0,rfl,Nat.zero_le _,fun j x a=>by omega,Gr.refl _⟩
 case round=>
  obtain⟨k,rfl,U,I,E⟩:=hrel;obtain⟨u,G⟩:=Z2 I E;clear I E;by_cases N:k < n
  ·have V:(k:Int) < (n:Int):=by omega
   obtain⟨b,o,x,rfl,d,D⟩:=J0V L.o s.o N;have g:=Z d;obtain⟨c0,Q,c2,c3,c4⟩:=D wr G.o;clear D d;go_wp2_with fail;refine(K.o wr G.o x (List.mem_of_getElem? g.o)).mono ?_;rintro _ X ⟨W,rfl,B,M⟩;have G:=Z (G.o.trans B);obtain⟨t,rfl,J⟩:=M;have A:=Z J;clear B J
   cases t
   ·go_wp2_with fail;refine⟨⟨k+1,by go_num,by omega,fun j y a m=>?_,G.o⟩,by simp[RowKit.intOf];omega⟩;by_cases e:j=k
    ·subst e;rw[g.o] at m
     cases m
     exact fun h=>absurd (A.o.2 h) (by decide)
    ·exact u.o j y (by omega) m
   ·go_wp2_with fail;go_ret;exact⟨_,rfl,G.o,(k:Int),rfl,⟨fun _=>⟨x,List.mem_of_getElem? g.o,(by have:=A.o;simpa using this)⟩,fun _=>by omega⟩⟩
  ·obtain rfl:n=k:=by omega
   go_wp2_with fail;go_ret;refine⟨_,rfl,G.o,-1,rfl,⟨fun h=>absurd h (by decide),fun⟨x,d,h⟩=>?_⟩⟩;obtain⟨j,a,e⟩:=List.mem_iff_getElem.1 d;exact absurd h (u.o j x (by rw[s.o] at a;exact a) (by rw[List.getElem?_eq_getElem a,e]))
theorem J60 (w:World)(p:Option Addr)(n c:Nat)(l:List RowM)(v:Value)(a:RowM→Prop)(d:SlL w 5 encRow (.slice p n c) l)(g:l.length=n)(m:n≤100000000000000)(h:PrdV w v rowV l a):
  Calls Tryz.prog 85 #[.slice p n c,v] w (Ret w fun r _=>Jb (∃ x ∈ l,a x) r):=by
 have H:=Z (J61 w p n c l v a d g m h);obtain⟨f,o,rfl,q,k⟩:=h;clear d g k;go_enter Tryz.func85,Tryz.ntmps85;go_wp2_with fail;refine H.o.mono ?_;rintro _ s ⟨_,rfl,b,z,rfl,i⟩;obtain⟨G,j⟩:=Z2 b i;clear b i;go_wp2_with fail;go_ret;exact⟨_,rfl,G.o,decide (0≤z),rfl,by rw[← j.o];simp⟩
theorem J6J (w:World)(p:Option Addr)(n c:Nat)(l:List VarM)(v:Value)(q:VarM→Prop)(F:SlL w 5 encVar (.slice p n c) l)(H:l.length=n)(S:n≤100000000000000)(O:PrdV w v mkVar l q):
  Calls Tryz.prog 88 #[.slice p n c,v] w (Ret w fun r _=>∃ z:Int,r = .int .i64 z∧(0≤z↔∃ x ∈ l,q x)):=by
 obtain⟨f,R,rfl,T,C⟩:=O;obtain⟨K,L,s⟩:=Z3 C F H;clear C F H;go_enter Tryz.func88,Tryz.ntmps88;go_wp2_with fail;go_loopw [8] (fun i P=>∃ k:Nat,i = .int .i64 k∧k≤n∧(∀ j x,j < k→l[j]?=some x→¬ q x)∧Gr w P) (fun i _=>n - (RowKit.intOf i).toNat)
 case atStart=>exact⟨0,rfl,Nat.zero_le _,fun j x a=>by omega,Gr.refl _⟩
 case round=>
  obtain⟨k,rfl,U,I,E⟩:=hrel;obtain⟨u,G⟩:=Z2 I E;clear I E;by_cases N:k < n
  ·have V:(k:Int) < (n:Int):=by omega
   obtain⟨b,o,x,rfl,d,D⟩:=K5 L.o s.o N;have g:=Z d;obtain⟨c0,Q,c2,c3,c4⟩:=D wr G.o;clear D d;go_wp2_with fail;refine(K.o wr G.o x (List.mem_of_getElem? g.o)).mono ?_;rintro _ X ⟨W,rfl,B,M⟩;have G:=Z (G.o.trans B);obtain⟨t,rfl,J⟩:=M;have A:=Z J;clear B J
   cases t
   ·go_wp2_with fail;refine⟨⟨k+1,by go_num,by omega,fun j y a m=>?_,G.o⟩,by simp[RowKit.intOf];omega⟩;by_cases e:j=k
    ·subst e;rw[g.o] at m
     cases m
     exact fun h=>absurd (A.o.2 h) (by decide)
    ·exact u.o j y (by omega) m
   ·go_wp2_with fail;go_ret;exact⟨_,rfl,G.o,(k:Int),rfl,⟨fun _=>⟨x,List.mem_of_getElem? g.o,(by have:=A.o;simpa using this)⟩,fun _=>by omega⟩⟩
  ·obtain rfl:n=k:=by omega
   go_wp2_with fail;go_ret;refine⟨_,rfl,G.o,-1,rfl,⟨fun h=>absurd h (by decide),fun⟨x,d,h⟩=>?_⟩⟩;obtain⟨j,a,e⟩:=List.mem_iff_getElem.1 d;exact absurd h (u.o j x (by rw[s.o] at a;exact a) (by rw[List.getElem?_eq_getElem a,e]))
theorem J6H (w:World)(p:Option Addr)(n c:Nat)(l:List VarM)(v:Value)(a:VarM→Prop)(d:SlL w 5 encVar (.slice p n c) l)(g:l.length=n)(m:n≤100000000000000)(h:PrdV w v mkVar l a):
  Calls Tryz.prog 41 #[.slice p n c,v] w (Ret w fun r _=>Jb (∃ x ∈ l,a x) r):=by
 have H:=Z (J6J w p n c l v a d g m h);obtain⟨f,o,rfl,q,k⟩:=h;clear d g k;go_enter Tryz.func41,Tryz.ntmps41;go_wp2_with fail;refine H.o.mono ?_;rintro _ s ⟨_,rfl,b,z,rfl,i⟩;obtain⟨G,j⟩:=Z2 b i;clear b i;go_wp2_with fail;go_ret;exact⟨_,rfl,G.o,decide (0≤z),rfl,by rw[← j.o];simp⟩
theorem J3Y (w:World)(n:Int):Calls Tryz.prog 137 (#[mkI n] ++ #[]) w (Ret w fun r _=>Jb (¬ In n) r):=by
 show Calls _ _ #[.int .i64 n] _ _;by_cases a:n < -1099511627776
 ·have H:=Z (show ¬ In n from fun h=>by have:=h.1;omega);go_enter Tryz.func137,Tryz.ntmps137;go_wp2_with fail;go_ret;exact⟨_,rfl,Gr.refl _,Jb.yes H.o⟩
 ·by_cases b:1099511627776 < n
  ·have H:=Z (show ¬ In n from fun h=>by have:=h.2;omega);go_enter Tryz.func137,Tryz.ntmps137;go_wp2_with fail;go_ret;exact⟨_,rfl,Gr.refl _,Jb.yes H.o⟩
  ·have H:=Z (show ¬ ¬ In n from fun h=>h ⟨by omega,by omega⟩);go_enter Tryz.func137,Tryz.ntmps137;go_wp2_with fail;go_ret;exact⟨_,rfl,Gr.refl _,Jb.no H.o⟩
theorem Tw (w:World)(p:Option Addr)(n c:Nat)(l:List Int)(g:Mi w (.slice p n c) l)(i:l.length=n)(j:n≤1000000):
  Calls Tryz.prog 84 #[.slice p n c] w (Ret w fun r _=>Jb (∀ x ∈ l,In x) r):=by
 have H:=Z (J3B w p n c l (.func (.func 137) #[] #[]) (fun x=>¬ In x) g i (by omega) ⟨_,_,rfl,enters_of Tryz.func137 (by kernel_rfl) rfl,fun w' _ x _=>J3Y w' x⟩);clear g i;go_enter Tryz.func84,Tryz.ntmps84;go_wp2_with fail;refine H.o.mono ?_;rintro _ k ⟨r,rfl,f,h⟩;have G:=Z f;clear f;rcases h.cases with⟨rfl,a⟩|⟨rfl,a⟩
 ·have b:=Z (show ¬ ∀ x ∈ l,In x from fun q=>by obtain⟨x,d,h⟩:=a;exact h (q x d));clear h a;go_wp2_with fail;go_ret;exact⟨_,rfl,G.o,Jb.no b.o⟩
 ·have b:=Z (show ∀ x ∈ l,In x from fun x d=>Classical.not_not.1 fun h=>a ⟨x,d,h⟩);clear h a;go_wp2_with fail;go_ret;exact⟨_,rfl,G.o,Jb.yes b.o⟩
theorem X7:∀ l:List Int,l.flatMap encI=l.map fun n=>Value.int .i64 n
 | []=>rfl
 | a :: l=>by rw[List.flatMap_cons,List.map_cons,X7 l];rfl
theorem Ri {w:World}{b:Nat}{l:List Int}{c:Array Value}(h:Ja w b c)(d:c=(l.map fun n=>Value.int .i64 n).toArray)(f:l.length≤1000000):Mi w (.slice (some ⟨b,0,none⟩) l.length l.length) l:=by
 subst d;have e:=X7 l;refine⟨by rw[e];simp,_,l.length,rfl,Nat.le_refl _,by omega,.inr ⟨b,0,rfl,fun j u a=>?_⟩⟩;rw[e] at a;rw[Nat.zero_add];exact h.at j (by simpa using a)
def offText (r:Nat):Bool:=decide (r < 32) || decide (126 < r)
def inText (c:UInt8):Bool:=decide (32≤c) && decide (c≤126)
theorem J0a (c:UInt8):offText c.toNat = !inText c:=by
 unfold offText inText;have d:(32≤c)↔32≤c.toNat:=by rw[UInt8.le_iff_toNat_le];rfl
 have f:(c≤126)↔c.toNat≤126:=by rw[UInt8.le_iff_toNat_le];rfl
 by_cases a:32≤c.toNat<;>by_cases b:c.toNat≤126<;>simp[d,f,a,b]<;>omega
theorem J09 {r:Nat}(h:128≤r):offText r=true:=by
 unfold offText;have a:126 < r:=by omega
 simp[a]
theorem J1l (b:List UInt8):∀ (f a:Nat),a≤b.length→b.length - a≤f→(0≤idxFuncFrom offText true ⟨b.toArray⟩ f a↔(b.drop a).all inText=false)
 | 0,a,h,hf=>by
  have:b.drop a=[]:=List.drop_eq_nil_of_le (by omega);rw[this];simp[idxFuncFrom]
 | f+1,a,h,hf=>by
  have j:(⟨b.toArray⟩:ByteArray).size=b.length:=by simp[ByteArray.size]
  rcases Nat.lt_or_ge a b.length with i|m
  ·have d:a < (⟨b.toArray⟩:ByteArray).size:=by rw[j];exact i
   have g:(⟨b.toArray⟩:ByteArray)[a]'d=b[a]:=by show b.toArray[a]=_;simp
   have k:b.drop a=b[a] :: b.drop (a+1):=List.drop_eq_getElem_cons i;unfold idxFuncFrom;rw[if_pos d,k,List.all_cons];rcases Nat.lt_or_ge (b[a]).toNat 128 with c|c
   ·rw[decode_ascii _ a d (by rw[g];exact c),g];show(0≤if offText (b[a]).toNat=true then (a:Int) else idxFuncFrom offText true ⟨b.toArray⟩ f (a+1))↔_;rw[J0a]
    cases hw:inText b[a]
    ·simp
    ·simp only[Bool.not_true,Bool.false_eq_true,if_false,Bool.true_and];exact J1l b f (a+1) (by omega) (by omega)
   ·have l:=decode_high _ a d (by rw[g];exact c);rw[if_pos (J09 l.1)];have:inText b[a]=false:=by
     have:=J0a b[a];rw[J09 c] at this;simpa using this.symm
    rw[this];simp
  ·have:b.drop a=[]:=List.drop_eq_nil_of_le (by omega);rw[this];unfold idxFuncFrom;rw[if_neg (by rw[j];omega)];simp
theorem J1k (a:List UInt8):0≤idxFunc offText true ⟨a.toArray⟩↔¬ ∀ b ∈ a,32≤b∧b≤126:=by
 have h:=J1l a a.length 0 (Nat.zero_le _) (by omega);have g:(⟨a.toArray⟩:ByteArray).size=a.length:=by simp[ByteArray.size]
 unfold idxFunc;rw[g];rw[List.drop_zero] at h;rw[h];constructor
 ·intro c f;have:a.all inText=true:=List.all_eq_true.2 fun b d=>by
   have:=f b d;simp[inText,this.1,this.2]
  rw[c] at this;cases this
 ·intro c
  cases hw:a.all inText
  ·rfl
  ·exact absurd (fun b d=>by
    have:=List.all_eq_true.1 hw b d;simpa[inText] using this) c
theorem J3Z (w:World)(x:Nat)(c:x≤1114111):Calls Tryz.prog 140 (#[encR x] ++ #[]) w fun e w'=>e = .returned (.bool (offText x))∧Below w.heap.size w w':=by
 by_cases a:(x:Int) < 32
 ·have H:=Z (show offText x=true by unfold offText;simp;omega);go_enter Tryz.func140,Tryz.ntmps140;go_wp2_with fail;go_ret;exact⟨by rw[H.o];first|rfl|simp[a]|(simp;omega),Below.refl _ _⟩
 ·by_cases b:126 < (x:Int)
  ·have H:=Z (show offText x=true by unfold offText;simp;omega);go_enter Tryz.func140,Tryz.ntmps140;go_wp2_with fail;go_ret;exact⟨by rw[H.o];first|rfl|simp[a]|(simp;omega),Below.refl _ _⟩
  ·have H:=Z (show offText x=false by unfold offText;simp;omega);go_enter Tryz.func140,Tryz.ntmps140;go_wp2_with fail;go_ret;exact⟨by rw[H.o];first|rfl|simp[a]|(simp;omega),Below.refl _ _⟩
theorem J40 (w:World)(n:Nat)(x:RowM)(hn:n≤1000000)(p:L2 w x)(Q:RowI x.s)(hl:x.name.length≤1000000):
  Calls Tryz.prog 87 #[.int .i64 (n:Int),rowV x] w (Ret w fun r _=>Jb (J2 n x.s) r):=by
 have B:=Ja.new w #[.string ⟨x.name.toArray⟩,.int .i64 x.group,.int .i64 x.kind,.slice x.tp x.terms.length x.tc,.int .i64 x.bound] 42;obtain⟨f,u⟩:=Z2 B (SlL.grow p B.1);have hb:=Lg.big p;have U:=Z Q;clear B p Q;unfold rowV;have a1:=Z U.o.2.2.1;go_enter Tryz.func87,Tryz.ntmps87;go_wp2_with fail;any_goals(go_ret;exact⟨_,rfl,f.o.1,Jb.no fun k=>by
  obtain⟨⟨q1,q2⟩,⟨q3,q4⟩,q5,-⟩:=k;simp only[RowM.s] at q1 q2 q3 q4 q5;omega⟩)
 have D:=Z (show(0≤x.s.kind∧x.s.kind≤2)∧(0≤x.s.group∧x.s.group≤60)∧x.s.name.length≤80 by simp only[RowM.s];omega);have m:(w.alloc (.cells #[.string ⟨x.name.toArray⟩,.int .i64 x.group,.int .i64 x.kind,.slice x.tp x.terms.length x.tc,.int .i64 x.bound] 42)).heap.size=w.heap.size+1:=World.size_alloc ..;rw[← m];clear m;generalize w.heap.size=bp at f ⊢;generalize w.alloc _=W at f u ⊢;obtain⟨G,y⟩:=Z2 f.o.1 f.o.2;clear f;have a:=Ja.new W #[.int .i64 x.bound] 2;refine(Tw _ _ 1 1 [x.bound] (Ri a.2 rfl (by simp)) rfl (by decide)).mono ?_;rintro _ X ⟨r,rfl,A,h⟩;obtain⟨y,u,G⟩:=Z3 (y.o.grow (a.1.trans A)) (SlL.grow u.o (a.1.trans A)) (G.o.trans (a.1.trans A));clear a A;rcases h.cases with⟨rfl,c⟩|⟨rfl,c⟩;rotate_left
 ·have H:=Z (show ¬ J2 n x.s from fun h=>c (fun z J=>by obtain rfl:=List.mem_singleton.1 J;exact h.2.2.2.1));clear h c;go_wp2_with fail;try rw[Exit.noGoto_ret]
  go_ret;exact⟨_,rfl,G.o,Jb.no H.o⟩
 have T:=Z (show In x.s.bound from c x.bound (List.mem_singleton.2 rfl));clear h c;have x3:=y.o.at 3 rfl;go_wp2_with fail;clear x3;go_loopw [5,42] (fun i v w9=>∃ k:Nat,i = .int .i64 (lastV x.terms k)∧v = .int .i64 (k:Int)∧k≤x.terms.length∧Inc n (-1) (x.terms.take k)∧Gr X w9) (fun i v _=>x.terms.length - (RowKit.intOf v).toNat)
 case atStart=>exact⟨0,rfl,rfl,Nat.zero_le _,trivial,Gr.refl _⟩
 case round=>
  obtain⟨k,rfl,rfl,hk,S,P⟩:=hrel;obtain⟨N,j⟩:=Z2 S P;clear S P;by_cases a0:k < x.terms.length
  ·have a3:(k:Int) < (x.terms.length:Int):=by omega
   obtain⟨b,o,t,R,g,O⟩:=O0 (SlL.grow u.o j.o) rfl a0;rw[R];obtain⟨c0,c1⟩:=O _ (Gr.refl _);have d:=Z g;obtain⟨lv,I⟩:∃ l,lastV x.terms k=l:=⟨_,rfl⟩
   rw[I];have M:=Z I;clear O g R I;go_wp2_with fail;any_goals(go_ret;refine⟨_,rfl,(G.o.trans j.o).alloc _,Jb.no fun h=>Rf d.o (fun q=>?_) h.2.2.2.2.2⟩;rw[M.o] at q;omega)
   obtain⟨F,a⟩:=Z2 (show lastV x.terms k < t.v∧t.v < (n:Int)∧t.c≠0 from⟨by rw[M.o];omega,by omega,by assumption⟩) (Ja.new wr #[.int .i64 t.v,.int .i64 t.c] 75);have m:(wr.alloc (.cells #[.int .i64 t.v,.int .i64 t.c] 75)).heap.size=wr.heap.size+1:=World.size_alloc ..;rw[← m];clear m;generalize wr.heap.size=bt at a ⊢;generalize wr.alloc _=Y at a ⊢;have s:=Ja.new Y #[.int .i64 t.c] 2;refine(Tw _ _ 1 1 [t.c] (Ri s.2 rfl (by simp)) rfl (by decide)).mono ?_;rintro _ W4 ⟨r,rfl,g4,h⟩;have K:=Z (j.o.trans (a.o.1.trans (s.1.trans g4)));have y4:=(a.o.2.grow (s.1.trans g4)).at 0 rfl;clear a s g4 c0 c1;rcases h.cases with⟨rfl,c⟩|⟨rfl,c⟩
   ·have V:=Z (show In t.c from c t.c (List.mem_singleton.2 rfl));clear h c;have a2:IntKind.i64.wrap ((k:Int)+1)=(k:Int)+1:=by rw[IntKind.wrap_i64];omega
    go_wp2_with fail;any_goals(rename_i hh;exfalso;simp only[beq_iff_eq] at hh;omega)
    exact⟨⟨k+1,by rw[Y6 d.o],by go_num,by omega,Yl d.o N.o F.o.1 F.o.2.1 F.o.2.2 V.o,K.o⟩,by simp[RowKit.intOf];omega⟩
   ·have H:=Z (show ¬ J2 n x.s from fun h=>Rf d.o (fun q=>c (fun z J=>by obtain rfl:=List.mem_singleton.1 J;exact q.2.2.2)) h.2.2.2.2.2);clear h c;go_wp2_with fail;try rw[Exit.noGoto_ret]
    go_ret;exact⟨_,rfl,G.o.trans K.o,Jb.no H.o⟩
  ·obtain rfl:k=x.terms.length:=by omega
   have x0:=(y.o.grow j.o).at 0 rfl;go_wp2_with fail;clear x0;refine(Tryz.strings_ContainsFunc_grows 140 #[] (enters_of Tryz.func140 (by kernel_rfl) rfl) offText ⟨x.name.toArray⟩ wr (fun W x p _=>J3Z W x p)).mono ?_;rintro _ W5 ⟨rfl,C⟩;have C:Gr wr W5:=C;have L:=Z (G.o.trans (j.o.trans C));obtain⟨t,g⟩:∃ t,decide (0≤idxFunc offText true ⟨x.name.toArray⟩)=t:=⟨_,rfl⟩
   rw[g];have d:=Z g;clear g C
   cases t
   ·have E:=Z (show ∀ b ∈ x.s.name,32≤b∧b≤126 from Classical.not_not.1 fun h=>of_decide_eq_false d.o ((J1k x.name).2 h));go_wp2_with fail;go_ret;exact⟨_,rfl,L.o,Jb.yes ⟨D.o.1,D.o.2.1,D.o.2.2,T.o,E.o,by have:=N.o;rwa [List.take_length] at this⟩⟩
   ·have E:=Z (show ¬ J2 n x.s from fun h=>(J1k x.name).1 (of_decide_eq_true d.o) h.2.2.2.2.1);go_wp2_with fail;go_ret;exact⟨_,rfl,L.o,Jb.no E.o⟩
theorem J3U (w:World)(d n m u v:Nat)(s t:Option Addr)(x:RowM)(q:n≤1000000)(g:Ja w d #[.slice s n u,.slice t m v])(j:L2 w x)(i:RowI x.s)(p:x.name.length≤1000000):
  Calls Tryz.prog 86 (#[rowV x] ++ #[.pointer (some ⟨d,0,none⟩)]) w (Ret w fun r _=>Jb (¬ J2 n x.s) r):=by
 show Calls _ _ #[rowV x,.pointer (some ⟨d,0,none⟩)] _ _;have B:=Ja.new w #[.string ⟨x.name.toArray⟩,.int .i64 x.group,.int .i64 x.kind,.slice x.tp x.terms.length x.tc,.int .i64 x.bound] 42;obtain⟨a,l,o,k⟩:=Z4 B (g.grow B.1) (show L2 _ x from SlL.grow j B.1) i;have y:=l.o.at 0 rfl;have z0:=a.o.2.at 0 rfl;have z:=a.o.2.at 1 rfl;have z2:=a.o.2.at 2 rfl;have z3:=a.o.2.at 3 rfl;have z4:=a.o.2.at 4 rfl;clear B j i g;unfold rowV;go_enter Tryz.func86,Tryz.ntmps86;go_wp2_with fail;clear y z0 z z2 z3 z4;refine(J40 _ n x q o.o k.o p).mono ?_;rintro _ A ⟨r,rfl,f,h⟩;have G:=Z (a.o.1.trans f);clear f;rcases h.cases with⟨rfl,b⟩|⟨rfl,b⟩
 ·have c:=Z (show ¬ ¬ J2 n x.s from fun h=>h b);clear h b;go_wp2_with fail;go_ret;exact⟨_,rfl,G.o,Jb.no c.o⟩
 ·have c:=Z b;clear h b;go_wp2_with fail;go_ret;exact⟨_,rfl,G.o,Jb.yes c.o⟩
theorem Tu (w:World)(v:Value)(p:Prg)(hp:Js w v p)(u:PrgI p)(hl:∀ r ∈ p.rows,r.name.length≤1000000)(hn:p.vars.length≤1000000)(hm:p.rows.length≤1000000):
  Calls Tryz.prog 40 #[v] w (Ret w fun r _=>Jb (Jo p) r):=by
 obtain⟨V,HL⟩:=Z2 u hl;clear u hl;obtain⟨va,vc,O,P,rfl,A,s⟩:=hp;obtain⟨HV,HR⟩:=Z2 A s;obtain⟨_,_,_,b3,b4⟩:=SlL.parts A;obtain⟨_,_,_,b1,b2⟩:=s.parts;clear A s;have Q:=Ja.new w #[.slice va p.vars.length vc,.slice O p.rows.length P] 25;have m:=Z Q;unfold prgV;clear Q;go_enter Tryz.func40,Tryz.ntmps40;go_wp2_with fail;any_goals(go_ret;exact⟨_,rfl,m.o.1,Jb.no fun k=>by have:=k.1;have:=k.2.1;omega⟩)
 have U:=Z (show p.vars.length≤400∧p.rows.length≤4000 by omega);generalize w.heap.size=bp at m ⊢;generalize w.alloc _=W at m ⊢;obtain⟨G,Y⟩:=Z2 m.o.1 m.o.2;clear m;go_loopw [18] (fun i w9=>∃ k:Nat,i = .int .i64 (k:Int)∧k≤p.vars.length∧(∀ (j:Nat) (x:VarM),j < k→p.vars[j]?=some x→Ky x)∧Gr W w9) (fun i _=>p.vars.length - (RowKit.intOf i).toNat)
 case atStart=>exact⟨0,rfl,Nat.zero_le _,fun j x hj=>by omega,Gr.refl _⟩
 case round=>
  obtain⟨k,rfl,hk,hq,hg⟩:=hrel;obtain⟨X,l⟩:=Z2 hq hg;clear hq hg;by_cases a7:k < p.vars.length
  ·have b0:(k:Int) < (p.vars.length:Int):=by omega
   obtain⟨b,o,t,rfl,F,hc⟩:=K5 (SlL.grow HV.o (G.o.trans l.o)) rfl a7;obtain⟨c0,c1,c2,c3,c4⟩:=hc _ (Gr.refl _);obtain⟨C,a8,a3⟩:=Z3 F (V.o.1 t (List.mem_of_getElem? F)) (show ¬ Ky t→¬ Jo p from fun h q=>h (q.2.2.1 t (List.mem_of_getElem? F)));have R:=Ja.new wr #[.int .i64 t.lo,.int .i64 t.up,.bool t.op,.bool t.ig,.int .i64 t.cost] 62;have J:=Z R;clear hc F R;go_wp2_with fail;clear c0 c1 c2 c3 c4;obtain⟨f,n⟩:=Z2 (l.o.trans J.o.1) J.o.2;clear J;have a4:(wr.alloc (.cells #[.int .i64 t.lo,.int .i64 t.up,.bool t.op,.bool t.ig,.int .i64 t.cost] 62)).heap.size=wr.heap.size+1:=World.size_alloc ..;rw[← a4];clear a4;generalize wr.heap.size=bt at n ⊢;generalize wr.alloc _=W2 at f n ⊢;have B:=Ja.new W2 #[.int .i64 t.lo,.int .i64 t.up,.int .i64 t.cost] 2;refine(Tw _ _ 3 3 [t.lo,t.up,t.cost] (Ri B.2 rfl (by simp)) rfl (by decide)).mono ?_;rintro _ W4 ⟨r,rfl,g4,h⟩;obtain⟨f,n⟩:=Z2 (f.o.trans (B.1.trans g4)) (n.o.grow (B.1.trans g4));clear B g4;have y1:=n.o.at 1 rfl;have y2:=n.o.at 2 rfl;rcases h.cases with⟨rfl,a⟩|⟨rfl,a⟩;rotate_left
   ·have H:=Z (a3.o (fun h=>a (fun z hz=>by
     simp only[List.mem_cons,List.not_mem_nil,or_false] at hz;rcases hz with rfl|rfl|rfl
     ·exact h.1
     ·exact h.2.1
     ·exact h.2.2.1)))
    clear h a;go_wp2_with fail;try rw[Exit.noGoto_ret]
    go_ret;exact⟨_,rfl,G.o.trans f.o,Jb.no H.o⟩
   have I:=Z (show In t.lo∧In t.up∧In t.cost from⟨a _ (by simp),a _ (by simp),a _ (by simp)⟩);clear h a;have a9:IntKind.i64.wrap ((k:Int)+1)=(k:Int)+1:=by rw[IntKind.wrap_i64];omega
   by_cases d:t.op=true∧t.up≠0
   ·have e1:t.op=true:=d.1;have e2:(t.up != 0)=true:=by simpa using d.2
    have H:=Z (a3.o (fun h=>h.2.2.2 d));rw[e1] at y2;clear d;go_wp2_with fail;try rw[Exit.noGoto_ret]
    go_ret;exact⟨_,rfl,G.o.trans f.o,Jb.no H.o⟩
   ·have a5:=Z (show Ky t from⟨I.o.1,I.o.2.1,I.o.2.2,d⟩);have a2:Hd (∀ (j:Nat) (x:VarM),j < k+1→p.vars[j]?=some x→Ky x):=Z fun j x hj N=>by
     by_cases e:j=k
     ·subst e;rw[C.o] at N
      cases N
      exact a5.o
     ·exact X.o j x (by omega) N
    obtain⟨op,E⟩:∃ b,t.op=b:=⟨_,rfl⟩
    rw[E] at y2
    cases op
    ·clear d E;go_wp2_with fail;exact⟨⟨k+1,by go_num,by omega,a2.o,f.o⟩,by simp[RowKit.intOf];omega⟩
    ·have e2:(t.up != 0)=false:=by
      have:t.up=0:=Classical.not_not.1 fun h=>d ⟨E,h⟩;simpa using this
     clear d E;go_wp2_with fail;exact⟨⟨k+1,by go_num,by omega,a2.o,f.o⟩,by simp[RowKit.intOf];omega⟩
  ·obtain rfl:k=p.vars.length:=by omega
   have a6:=Z (show ∀ v ∈ p.vars,Ky v from fun v A=>by
    obtain⟨i,u,rfl⟩:=List.getElem_of_mem A;exact X.o i _ u (List.getElem?_eq_getElem u))
   have y1:=(Y.o.grow l.o).at 1 rfl;go_wp2_with fail;clear y1;obtain⟨T,a0,D,L⟩:=HR.o;have a1:T.length=p.rows.length:=by rw[← D,List.length_map]
   have C:=Z (And.intro D L);have M:∀ y ∈ T,y.s ∈ p.rows:=fun y c=>by rw[← D];exact List.mem_map.2 ⟨y,c,rfl⟩
   refine(J60 wr O p.rows.length P T (.func (.func 86) #[] #[.pointer (some ⟨bp,0,none⟩)]) (fun y=>¬ J2 p.vars.length y.s) (SlL.grow a0 (G.o.trans l.o)) a1 (by omega)
    ⟨_,_,rfl,enters_of Tryz.func86 (by kernel_rfl) rfl,fun w' g y c=>J3U w' bp p.vars.length p.rows.length vc P va O y hn (Y.o.grow (l.o.trans g)) (SlL.grow (L y c) ((G.o.trans l.o).trans g)) (V.o.2 _ (M y c)) (HL.o _ (M y c))⟩).mono ?_
   rintro _ w5 ⟨r,rfl,g5,h⟩;have S:=Z (G.o.trans (l.o.trans g5));clear g5 a0 D L a1 M;rcases h.cases with⟨rfl,a⟩|⟨rfl,a⟩
   ·have K:=Z (show ¬ Jo p from fun q=>by
     obtain⟨y,c,k⟩:=a;exact k (q.2.2.2 _ (by rw[← C.o.1];exact List.mem_map.2 ⟨y,c,rfl⟩)))
    clear h a;go_wp2_with fail;go_ret;exact⟨_,rfl,S.o,Jb.no K.o⟩
   ·have K:=Z (show Jo p from⟨U.o.1,U.o.2,a6.o,fun r s=>by
     rw[← C.o.1] at s;obtain⟨y,c,rfl⟩:=List.mem_map.1 s;exact Classical.not_not.1 fun h=>a ⟨y,c,h⟩⟩)
    clear h a;go_wp2_with fail;go_ret;exact⟨_,rfl,S.o,Jb.yes K.o⟩
theorem l_at (w:World)(p:Option Addr)(n c:Nat)(a:Nat→Rat)(L:Nat)(i:Int)(z:Rat)(h:Kq w (.slice p n c) n a L)(q:0≤i→i < (n:Int)→a i.toNat=z)(l:¬ (0≤i∧i < (n:Int))→z=0):
  Calls Tryz.prog 127 #[.slice p n c,.int .i64 i] w (Ret w fun r w'=>RatV w' r z L):=by
 have H:=Z h;by_cases K:i < 0
 ·obtain rfl:=l (by omega);clear h q l;have B:=box3 w (.bool false) (.slice none 0 0) (.slice none 0 0) 68;go_enter Tryz.func127,Tryz.ntmps127;go_wp2_with fail;generalize w.alloc _=W at B ⊢;obtain⟨G,d⟩:=hidC2 B;clear B;generalize v:w.heap.size=m at d  ⊢;have C:=Z (show ¬ m < w.heap.size by omega);clear v;have f:=d.o.load.1;have g:=d.o.load.2.1;have j:=d.o.load.2.2;refine bodyPost_ret (by simp[results,Tryz.results127,go_sem,f,g,j];rfl) rfl ?_;exact⟨_,rfl,G.o,Qu W L⟩
 ·have D:0≤i:=by omega
  by_cases E:i < (n:Int)
  ·have A:=q D E;obtain⟨k,rfl⟩:∃ k:Nat,i=k:=⟨i.toNat,by omega⟩
   have F:k < n:=by omega
   obtain⟨b,o,t,rfl,s,y⟩:=h.at F;rw[show a k=z from A] at s;have x:=Z s;have B:=box3 w (.bool false) (.slice none 0 0) (.slice none 0 0) 68;obtain⟨c0,J,c2⟩:=y _ B.1;have x:=Z s;clear h q l A s y B;go_enter Tryz.func127,Tryz.ntmps127;go_wp2_with fail;obtain⟨u,d⟩:=box3 w (.bool t.n) (.slice t.p t.k t.c) (.slice t.q t.m t.e) 68;generalize w.heap.size=m at d ⊢;generalize w.alloc _=I at u d ⊢;have f:=d.load.1;have g:=d.load.2.1;have j:=d.load.2.2;refine bodyPost_ret (by simp[results,Tryz.results127,go_sem,f,g,j];rfl) rfl ?_;exact⟨_,rfl,u,x.o.grow u⟩
  ·obtain rfl:=l (by omega);have M:(n:Int)≤i:=by omega
   clear h q l;have B:=box3 w (.bool false) (.slice none 0 0) (.slice none 0 0) 68;go_enter Tryz.func127,Tryz.ntmps127;go_wp2_with fail;generalize w.alloc _=W at B ⊢;obtain⟨G,d⟩:=hidC2 B;clear B;generalize v:w.heap.size=m at d  ⊢;have C:=Z (show ¬ m < w.heap.size by omega);clear v;have f:=d.o.load.1;have g:=d.o.load.2.1;have j:=d.o.load.2.2;refine bodyPost_ret (by simp[results,Tryz.results127,go_sem,f,g,j];rfl) rfl ?_;exact⟨_,rfl,G.o,Qu W L⟩
theorem Tv (w:World)(p:Option Addr)(c:Nat)(xs:List Rat)(L k:Nat)(h:L1 w (.slice p xs.length c) xs L):
  Calls Tryz.prog 127 #[.slice p xs.length c,.int .i64 (k:Int)] w (Ret w fun r w'=>RatV w' r (atQ xs k) L):=
 l_at w p xs.length c (atQ xs) L k _ h (fun _ _=>by simp) (fun h=>Sq (by omega))
theorem Y4 (w:World)(v:Value)(p:Prg)(q:Option Addr)(c:Nat)(y:List Rat)(L:Nat)(hp:Js w v p)(X:L1 w (.slice q y.length c) y L)(hL:L≤1000)(hm:p.rows.length≤1000000):
  Calls Tryz.prog 89 #[v,.slice q y.length c] w (Ret w fun r _=>Jb (Nh p y) r):=by
 have HY:=Z X;clear X;obtain⟨va,vc,vb,vd,rfl,F,d⟩:=hp;obtain⟨HV,Y⟩:=Z2 F d;obtain⟨_,_,_,a8,a9⟩:=SlL.parts F;obtain⟨_,_,_,a6,a7⟩:=d.parts;clear F d;have J:=Ja.new w #[.slice va p.vars.length vc,.slice vb p.rows.length vd] 25;have n:=Z J;unfold prgV;clear J;go_enter Tryz.func89,Tryz.ntmps89;go_wp2_with fail;generalize w.heap.size=bp at n ⊢;generalize w.alloc _=W at n ⊢;obtain⟨G,TP⟩:=Z2 n.o.1 n.o.2;clear n;go_loopw [11] (fun i w9=>∃ k:Nat,i = .int .i64 (k:Int)∧k≤p.rows.length∧(∀ (j:Nat) (x:RowS),j < k→p.rows[j]?=some x→Ng x.kind (atQ y j))∧Gr W w9) (fun i _=>p.rows.length - (RowKit.intOf i).toNat)
 case atStart=>exact⟨0,rfl,Nat.zero_le _,fun j x hj=>by omega,Gr.refl _⟩
 case round=>
  obtain⟨k,rfl,hk,S,Q⟩:=hrel;obtain⟨M,a⟩:=Z2 S Q;clear S Q;by_cases a2:k < p.rows.length
  ·have a5:(k:Int) < (p.rows.length:Int):=by omega
   obtain⟨b,o,x,rfl,V,a1,P⟩:=(Y.o.grow G.o).at a2;have N:=Z V;obtain⟨c0,c1,c2,c3,c4⟩:=P wr a.o;have A:=Ja.new wr #[.string ⟨x.name.toArray⟩,.int .i64 x.group,.int .i64 x.kind,.slice x.tp x.terms.length x.tc,.int .i64 x.bound] 42;obtain⟨m,a⟩:=Z2 A.2 (a.o.trans A.1);clear A;have a4:IntKind.i64.wrap ((k:Int)+1)=(k:Int)+1:=by rw[IntKind.wrap_i64];omega
   clear P V a1;go_wp2_with fail;clear c0 c1 c2 c3 c4;generalize wr.heap.size=b6 at m ⊢;generalize wr.alloc _=W6 at m a ⊢;refine(Tv W6 q c y L k (HY.o.grow (G.o.trans a.o))).mono ?_;rintro _ w2 ⟨r,rfl,B,d⟩;obtain⟨a,m,a0⟩:=Z3 (a.o.trans B) (m.o.grow B) d;clear B d;go_wp2_with fail;obtain⟨s,C⟩:∃ c,sgn (atQ y k).num=c:=⟨_,rfl⟩
   refine(Qk w2 r (atQ y k) s L a0.o C (by omega)).mono ?_;rintro _ w3 ⟨_,rfl,g3,rfl⟩;have a:=Z (a.o.trans g3);obtain⟨T,U⟩:=Pa C;have t:=Z (And.intro T U);clear C T U;have c2:=(m.o.grow g3).at 2 rfl;obtain⟨g,D⟩:∃ c,x.kind=c:=⟨_,rfl⟩
   rw[D] at c2;have K:=Z (show x.s.kind=g from D);have R:=Z (show ¬ Ng g (atQ y k)→¬ Nh p y from fun h q=>h (by have:=q k _ N.o;rwa [K.o] at this));have E:=Z (show Ng g (atQ y k)→∀ (j:Nat) (z:RowS),j < k+1→p.rows[j]?=some z→Ng z.kind (atQ y j) from fun h j z hj I=>by
    by_cases e:j=k
    ·subst e;rw[N.o] at I
     cases I
     rw[K.o];exact h
    ·exact M.o j z (by omega) I)
   clear D;by_cases l:g=1
   ·subst l;by_cases f:s < 0
    ·have H:=Z (R.o fun h=>h.1 ⟨rfl,t.o.1.1 f⟩);go_wp2_with fail;try rw[Exit.noGoto_ret]
     go_ret;exact⟨_,rfl,G.o.trans a.o,Jb.no H.o⟩
    ·have a3:0≤s:=by omega
     have H:=Z (E.o ⟨fun h=>f (t.o.1.2 h.2),fun h=>absurd h.1 (by decide)⟩);clear f;go_wp2_with fail;exact⟨⟨k+1,by go_num,by omega,H.o,a.o⟩,by simp[RowKit.intOf];omega⟩
   ·have O:(g == 1)=false:=by simpa using l
    by_cases u:g=0
    ·subst u;by_cases f:0 < s
     ·have H:=Z (R.o fun h=>h.2 ⟨rfl,t.o.2.1 f⟩);clear O l;go_wp2_with fail;try rw[Exit.noGoto_ret]
      go_ret;exact⟨_,rfl,G.o.trans a.o,Jb.no H.o⟩
     ·have a3:s≤0:=by omega
      have H:=Z (E.o ⟨fun h=>absurd h.1 (by decide),fun h=>f (t.o.2.2 h.2)⟩);clear f O l;go_wp2_with fail;exact⟨⟨k+1,by go_num,by omega,H.o,a.o⟩,by simp[RowKit.intOf];omega⟩
    ·have e0:(g == 0)=false:=by simpa using u
     have H:=Z (E.o ⟨fun h=>absurd h.1 l,fun h=>absurd h.1 u⟩);clear l u;go_wp2_with fail;exact⟨⟨k+1,by go_num,by omega,H.o,a.o⟩,by simp[RowKit.intOf];omega⟩
  ·obtain rfl:k=p.rows.length:=by omega
   have H:=Z (show Nh p y from fun i r d=>M.o i r (List.getElem?_eq_some_iff.1 d).1 d);go_wp2_with fail;go_ret;exact⟨_,rfl,G.o.trans a.o,Jb.yes H.o⟩
def Sp (w:World)(v:Value)(n:Nat)(k:Nat→Int)(x:Nat→Rat)(L:Nat):Prop:=∃ (f:Nat) (caps:Array Value),v = .func (.func f) #[] caps∧(∀ args w,(callFunc f args).run Tryz.prog w = .ok (.enter f args) w)∧
 ∀ w',Gr w w'→∀ i,i < n→Calls Tryz.prog f (#[.int .i64 (i:Int)] ++ caps) w' (Ret w' fun r w''=>∃ u,r = .tuple #[.int .i64 (k i),u]∧RatV w'' u (x i) L)
structure Ni (w W:World)(b4 b5:Nat)(s:Rat):Prop where
 g:Gr w W
 t4:Jn W b4 (.bool false) (.slice none 0 0) (.slice none 0 0)
 t5:J9 W b5 s
theorem Ni.grow {w W a:World}{b c:Nat}{s:Rat}(h:Ni w W b c s)(g:Gr W a):Ni w a b c s:=⟨h.g.trans g,h.t4.grow g,h.t5.grow g⟩
theorem Ni.putB {w W:World}{b a:Nat}{s s':Rat}(h:Ni w W b a s)(c:w.heap.size≤b∧w.heap.size≤a∧b≠a){t:RatM}(d:RatC W t.v s'):
  Ni w (set3 W a (.bool t.n) (.slice t.p t.k t.c) (.slice t.q t.m t.e)) b a s':=
 have f:=upd3 W a (.bool t.n) (.slice t.p t.k t.c) (.slice t.q t.m t.e)
 ⟨Ks h.g c.2.1 _ _ _,h.t4.upd f c.2.2,h.t5.put d⟩
theorem J3z {n:Int}(h:I64 n):Sz 2 (n:Rat):=Oz (J3y n h.1 h.2) (by decide)
theorem U0 {x:Rat}{c:Int}(h:sgn x.num=c):c=0↔x=0:=by
 have:=Pa h;constructor
 ·intro e;subst e;have a:=this.1;have b:=this.2;simp at a b
  grind
 ·rintro rfl;have a:=this.1;have b:=this.2;simp at a b;omega
theorem Y5 (w:World)(v:Value)(n:Nat)(k:Nat→Int)(x:Nat→Rat)(L:Nat)(hf:Sp w v n k x L)(hk:∀ i,i < n→I64 (k i))(hz:∀ i,i≤n→Sz 900 (sumQ (fun j=>(k j:Rat) * x j) i))(a4:∀ i,i < n→Sz 900 ((k i:Rat) * x i))(hL:L≤900)(hn:n≤1000000):
  Calls Tryz.prog 133 #[.int .i64 (n:Int),v] w (Ret w fun r w'=>RatC w' r (sumQ (fun j=>(k j:Rat) * x j) n)):=by
 obtain⟨f,b0,rfl,he,h5⟩:=hf;obtain⟨H5,HK,HZ⟩:=Z3 h5 hk (And.intro hz a4);have B4:=box3 w (.bool false) (.slice none 0 0) (.slice none 0 0) 68;have s:=Z B4;clear h5 hk hz a4 B4;go_enter Tryz.func133,Tryz.ntmps133;go_wp2_with fail;generalize a9:w.heap.size=o at s ⊢;generalize w.alloc _=W at s ⊢;have a3:=Z (show w.heap.size≤o from by omega);clear a9;refine(Md W 0 (by decide) (by decide)).mono ?_;rintro _ z ⟨r1,rfl,g1,g⟩;obtain⟨s8,p8,k8,S,X,m8,n8,rfl⟩:=g.agg;have A:=box3 z (.bool s8) (.slice p8 k8 S) (.slice X m8 n8) 68;have I:=Z (show Ni w (z.alloc (.cells #[.bool s8,.slice p8 k8 S,.slice X m8 n8] 68)) o z.heap.size (sumQ (fun j=>(k j:Rat) * x j) 0) from
  ⟨s.o.1.trans (g1.trans A.1),s.o.2.grow (g1.trans A.1),⟨s8,p8,k8,S,X,m8,n8⟩,A.2,by have:=g.grow A.1;exact this⟩)
 have O:=Z (show w.heap.size≤o∧w.heap.size≤z.heap.size∧o≠z.heap.size from by
  have h2:=(s.o.2.grow g1).lt;exact⟨a3.o,(s.o.1.trans g1).size,by omega⟩)
 clear g g1 A s a3;go_wp2_with fail;generalize z.heap.size=R at I O ⊢;generalize z.alloc _=W1 at I ⊢;go_loopw [11] (fun i w9=>∃ m:Nat,i = .int .i64 (m:Int)∧m≤n∧Ni w w9 o R (sumQ (fun j=>(k j:Rat) * x j) m)) (fun i _=>n - (RowKit.intOf i).toNat)
 case atStart=>exact⟨0,rfl,Nat.zero_le _,I.o⟩
 case round=>
  clear I;obtain⟨m,rfl,hm,hq⟩:=hrel;have d:=Z hq;clear hq;by_cases a2:m < n
  ·have b2:(m:Int) < (n:Int):=by omega
   have b1:IntKind.i64.wrap ((m:Int)+1)=(m:Int)+1:=by rw[IntKind.wrap_i64];omega
   go_wp2_with fail;refine(H5.o wr d.o.g m a2).mono ?_;rintro _ w2 ⟨_,rfl,C,u,rfl,hu⟩;obtain⟨s9,p9,k9,c9,e9,m9,n9,rfl⟩:=hu.agg;have G:=box3 w2 (.bool s9) (.slice p9 k9 c9) (.slice e9 m9 n9) 68;obtain⟨d,B,l,H⟩:=Z4 (d.o.grow (C.trans G.1)) (hu.grow G.1) G.2 (HK.o m a2);obtain⟨F,a1⟩:∃ c,k m=c:=⟨_,rfl⟩
   rw[a1] at H ⊢;have N:=Z a1;clear hu C G a1;by_cases D:F=0
   ·have e0:(F != 0)=false:=by simpa using D
    have M:=Z (show(k m:Rat) * x m=0 from by rw[N.o,D];simp);clear D;go_wp2_with fail;exact⟨⟨m+1,by go_num,by omega,by rw[Ls,M.o,Rat.add_zero];exact d.o⟩,by simp[RowKit.intOf];omega⟩
   ·have e0:(F != 0)=true:=by simpa using D
    clear D;have t0:=l.o.load.1;have t1:=l.o.load.2.1;have t2:=l.o.load.2.2;go_wp2_with fail;clear t0 t1 t2;generalize w2.heap.size=b8 at l ⊢;generalize w2.alloc _=W2 at d B l ⊢;obtain⟨J,a0⟩:∃ c,sgn (x m).num=c:=⟨_,rfl⟩
    refine(Qk W2 _ (x m) J L B.o a0 (by omega)).mono ?_;rintro _ w3 ⟨_,rfl,g3,rfl⟩;obtain⟨d,B,l,a5⟩:=Z4 (d.o.grow g3) (B.o.grow g3) (l.o.grow g3) (U0 a0);clear g3 a0;by_cases g:J=0
    ·have e1:(J != 0)=false:=by simpa using g
     have M:=Z (show(k m:Rat) * x m=0 from by rw[a5.o.1 g];simp);clear g;go_wp2_with fail;exact⟨⟨m+1,by go_num,by omega,by rw[Ls,M.o,Rat.add_zero];exact d.o⟩,by simp[RowKit.intOf];omega⟩
    ·have e1:(J != 0)=true:=by simpa using g
     clear g;go_wp2_with fail;clear e0 e1;obtain⟨a,b,E⟩:=d.o.t5;have Q:=Z E;have T:=b.c0;have U:=b.c1;have V:=b.c2;have d3:=l.o.c0;have d4:=l.o.c1;have d5:=l.o.c2;have g0:Gr w3 w3.drew:=(Gr.refl _).drew;have p:=Z g0;clear b E;refine Jl [(0,true),(1,true),(3,true),(2,false),(4,false),(5,false),(6,false)] ?_;repeat(refine Jc g0 (h:=?_))
     refine Je (k:=Md _ F H.o.1 H.o.2) (h:=?_);rintro r1 w4 g1 g;have p:=Z (p.o.trans g1);refine Je (k:=N3 _ _ _ (F:Rat) (x m) _ 2 L (g.v (J3z H.o)) (B.o.grow p.o) rfl (by decide) (by omega)) (h:=?_);rintro r2 w5 C h2;have p:=Z (p.o.trans C);clear g;refine Je (k:=Rs _ _ _ _ _ (sumQ (fun j=>(k j:Rat) * x j) (m+1)) 900 900 (RatC.v (Q.o.grow p.o) (HZ.o.1 m (by omega))) (h2.v (by have:=HZ.o.2 m a2;rw[N.o] at this;exact this)) (by rw[Ls,N.o]) (by decide) (by decide)) (h:=?_);rintro r3 w6 g3 h3;have p:=Z (p.o.trans g3);clear h2;have d:=Z (d.o.grow p.o);obtain⟨s7,p7,k7,c7,e7,m7,n7,rfl⟩:=h3.agg;obtain⟨t1,b,-⟩:=d.o.t5;have Y:=b.load.1;have f1:=b.load.2.1;have f2:=b.load.2.2;have f3:=b.f0 0;have f4:=b.f0 1;have f5:=b.f0 2;have P:=Z (show Ni w (set3 w6 R (.bool s7) (.slice p7 k7 c7) (.slice e7 m7 n7)) o R (sumQ (fun j=>(k j:Rat) * x j) (m+1)) from d.o.putB O.o (t:=⟨s7,p7,k7,c7,e7,m7,n7⟩) h3);clear h3 b T U V d3 d4 d5;refine Jj rfl rfl (fun K hK=>?_);go_simp;refine⟨fun h=>Bool.noConfusion h,hK _ _ ?_⟩;clear hK K;unfold set3 at P;generalize ((w6.setCell _ _).setCell _ _).setCell _ _=W5 at P ⊢;refine Jg ?_;clear Y f1 f2 f3 f4 f5 g0 g1 C g3;go_wp2_with fail;exact⟨⟨m+1,by go_num,by omega,P.o⟩,by simp[RowKit.intOf];omega⟩
  ·obtain rfl:m=n:=by omega
   obtain⟨a,b,E⟩:=d.o.t5;have Q:=Z E;have T:=b.load.1;have U:=b.load.2.1;have V:=b.load.2.2;have q:=d.o.t4;have Y:=q.load.1;have f1:=q.load.2.1;have f2:=q.load.2.2;have f3:=q.f0 0;have f4:=q.f0 1;have f5:=q.f0 2;have y:=Z (show Gr w (set3 wr o (.bool a.n) (.slice a.p a.k a.c) (.slice a.q a.m a.e))∧Jn (set3 wr o (.bool a.n) (.slice a.p a.k a.c) (.slice a.q a.m a.e)) o (.bool a.n) (.slice a.p a.k a.c) (.slice a.q a.m a.e)∧RatC (set3 wr o (.bool a.n) (.slice a.p a.k a.c) (.slice a.q a.m a.e)) a.v _ from
    ⟨Ks d.o.g O.o.1 _ _ _,q.set _ _ _,Q.o.upd q.noInt (upd3 _ _ _ _ _)⟩)
   clear q b E;go_wp2_with fail;clear T U V Y f1 f2 f3 f4 f5;unfold set3 at y;generalize ((wr.setCell _ _).setCell _ _).setCell _ _=W5 at y ⊢;have a6:=y.o.2.1.load.1;have a7:=y.o.2.1.load.2.1;have a8:=y.o.2.1.load.2.2;refine bodyPost_ret (by simp[results,Tryz.results133,go_sem,a6,a7,a8];rfl) rfl ?_;exact⟨_,rfl,y.o.1,y.o.2.2⟩
def kB (p:Prg)(i:Nat):Int:=match p.rows[i]? with
 | some r=>r.bound
 | none=>0
theorem cB_k (p:Prg)(y:List Rat)(i:Nat):cB p y i=(kB p i:Rat) * atQ y i:=by
 unfold cB kB
 cases p.rows[i]? with
 | some r=>rfl
 | none=>simp
open Classical in
noncomputable def kL (vs:List VarM) (a:Nat→Rat) (i:Nat):Int:=match vs[i]? with
 | some v=>if a i < 0 then v.up else v.lo
 | none=>0
theorem lT_k (b:List VarM)(a:Nat→Rat)(i:Nat):lTerm b a i=(kL b a i:Rat) * a i:=by
 unfold lTerm kL
 cases b[i]? with
 | some v=>
  show(if a i < 0 then v.up else v.lo:Int) * a i=((if a i < 0 then v.up else v.lo:Int):Rat) * a i;by_cases h:a i < 0
  ·simp only[if_pos h]
  ·simp only[if_neg h]
 | none=>simp
theorem J3S (w:World)(E F n vc S c:Nat)(va R q:Option Addr)(p:Prg)(y:List Rat)(L i:Nat)(J:Ja w E #[.slice va n vc,.slice R p.rows.length S])(N:Ja w F #[.slice q y.length c])(O:M0 w (.slice R p.rows.length S) p.rows)(Q:L1 w (.slice q y.length c) y L)(hi:i < p.rows.length)(hm:p.rows.length≤1000000):
  Calls Tryz.prog 144 (#[.int .i64 (i:Int)] ++ #[.pointer (some ⟨E,0,none⟩),.pointer (some ⟨F,0,none⟩)]) w (Ret w fun r w'=>∃ u,r = .tuple #[.int .i64 (kB p i),u]∧RatV w' u (atQ y i) L):=by
 show Calls _ _ #[.int .i64 (i:Int),.pointer (some ⟨E,0,none⟩),.pointer (some ⟨F,0,none⟩)] _ _;obtain⟨b,o,x,rfl,P,a3,M⟩:=O.at hi;obtain⟨V,X⟩:=Z2 (show kB p i=x.bound from by unfold kB;rw[P];rfl) Q;have j:=box3 w (.bool false) (.slice none 0 0) (.slice none 0 0) 68;have l:=Z j;have T:=(J.grow j.1).c 1 rfl;have z0:=(N.grow j.1).c 0 rfl;have c4:=fun w' g=>(M w' (j.1.trans g)).2.2.2.2;have a4:(i:Int) < (p.rows.length:Int):=by omega
 clear J N O Q P a3 M j;go_enter Tryz.func144,Tryz.ntmps144;go_wp2_with fail;generalize a2:w.heap.size=m at l ⊢;generalize w.alloc _=W at l T z0 c4 ⊢;have U:=Z (show w.heap.size≤m from by omega);clear a2;have G:Gr W W.drew:=(Gr.refl _).drew;have f:=Z G;refine Jl [(0,true),(1,true),(2,true),(3,true),(4,true),(5,true),(6,true),(7,true),(8,false),(9,true),(10,false)] ?_;repeat(refine Jc G (h:=?_))
 refine Je (k:=Tv _ q c y L i (X.o.grow (l.o.1.trans f.o))) (h:=?_);rintro r1 D g1 H;have f:=Z (f.o.trans g1);have g4:=f.o;repeat(refine Jc g4 (h:=?_))
 obtain⟨C,B,v,s,t,z,A,rfl⟩:=H.agg;have a:=l.o.2.grow f.o;have f0:=a.load.1;have f1:=a.load.2.1;have f2:=a.load.2.2;have f3:=a.f0 0;have f4:=a.f0 1;have f5:=a.f0 2;have d:=Z (show Gr w (set3 D m (.bool C) (.slice B v s) (.slice t z A))∧Jn (set3 D m (.bool C) (.slice B v s) (.slice t z A)) m (.bool C) (.slice B v s) (.slice t z A)∧RatV (set3 D m (.bool C) (.slice B v s) (.slice t z A)) (.agg #[.bool C,.slice B v s,.slice t z A]) (atQ y i) L from
  ⟨Ks (l.o.1.trans f.o) U.o _ _ _,a.set _ _ _,H.upd a.noInt (upd3 _ _ _ _ _)⟩)
 clear H a T z0 c4;refine Jj rfl rfl (fun K I=>?_);go_simp;refine⟨fun h=>Bool.noConfusion h,I _ _ ?_⟩;clear I K;unfold set3 at d;generalize ((D.setCell _ _).setCell _ _).setCell _ _=W5 at d ⊢;refine Jg ?_;clear f0 f1 f2 f3 f4 f5 G g1 g4;go_wp2_with fail;have Y:=d.o.2.1.load.1;have a0:=d.o.2.1.load.2.1;have a1:=d.o.2.1.load.2.2;refine bodyPost_ret (by simp[results,Tryz.results144,go_sem,Y,a0,a1];rfl) rfl ?_;exact⟨_,rfl,d.o.1,_,by rw[V.o],d.o.2.2⟩
structure LcSt (w W:World)(bp bq b5 bo:Nat)(u0 u1 uq:Value)(n:Nat)(a:Nat→Rat):Prop where
 g:Gr w W
 tp:Ja W bp #[u0,u1]
 tq:Ja W bq #[uq]
 t5:Jn W b5 (.bool false) (.slice none 0 0) (.slice none 0 0)
 ro:Jq W bo n a 80
theorem LcSt.grow {w W b:World}{f i c d:Nat}{u0 u1 j:Value}{n:Nat}{a:Nat→Rat}(h:LcSt w W f i c d u0 u1 j n a)(g:Gr W b):LcSt w b f i c d u0 u1 j n a:=
 ⟨h.g.trans g,h.tp.grow g,h.tq.grow g,h.t5.grow g,h.ro.grow g⟩
structure LcNe (w:World)(bp bq b5 bo:Nat):Prop where
 o:w.heap.size≤bo
 p:bp≠bo
 q:bq≠bo
 o5:b5≠bo
 c:w.heap.size≤b5
theorem LcSt.putO {w W:World}{g j f b:Nat}{u0 u1 m:Value}{n:Nat}{a d:Nat→Rat}(h:LcSt w W g j f b u0 u1 m n a)(c:LcNe w g j f b){k:Nat}(o:k < n){t:RatM}(p:RatV W t.v (d k) 80)(e:∀ i,i < n→i≠k→a i=d i):
  LcSt w (setRat W b k t) g j f b u0 u1 m n d:=
 have l:=Nb W b k t
 ⟨Pi h.g c.o k t,h.tp.upd l c.p,h.tq.upd l c.q,h.t5.upd l c.o5,h.ro.set o p e⟩
theorem LcSt.congr {w W:World}{f g c d:Nat}{u0 u1 i:Value}{n:Nat}{a b:Nat→Rat}(h:LcSt w W f g c d u0 u1 i n a)(e:∀ j,a j=b j):LcSt w W f g c d u0 u1 i n b:=
 ⟨h.g,h.tp,h.tq,h.t5,h.ro.congr fun j _=>e j⟩
theorem J2A {p:Prg}{y:List Rat}{i:Nat}(h:atQ y i=0)(j:Nat):sumQ (cA p y j) (i+1)=sumQ (cA p y j) i:=by
 have e:cA p y j i=0:=by
  unfold cA
  cases p.rows[i]? with
  | none=>rfl
  | some r=>simp[h]
 rw[Ls,e,Rat.add_zero]
theorem J28 {y:List Rat}{i:Nat}(h:¬ atQ y i=0):i < y.length:=Classical.not_not.1 fun k=>h (Sq (by omega))
theorem Y1 (w:World)(v:Value)(p:Prg)(q:Option Addr)(c:Nat)(y:List Rat)(hp:Js w v p)(hy:L1 w (.slice q y.length c) y 4)(hc:Calm p y)(hk:Jo p):
  Calls Tryz.prog 90 #[v,.slice q y.length c] w (Ret w fun r w'=>∃ b u,r = .tuple #[.slice (some ⟨b,0,none⟩) p.vars.length p.vars.length,u]∧w.heap.size≤b∧Jq w' b p.vars.length (combA p y) 80∧RatC w' u (combB p y)):=by
 obtain⟨HY,HC,HK⟩:=Z3 hy hc hk;have hn:=hk.1;have hm:=hk.2.1;have i4:=hy.parts;clear hy hc hk;obtain⟨Q,R,V,S,rfl,hv,hr⟩:=hp;obtain⟨HV,HR⟩:=Z2 hv hr;clear hv hr;have B0:=Ja.new w #[.slice Q p.vars.length R,.slice V p.rows.length S] 25;have B1:=Ja.new (w.alloc (.cells #[.slice Q p.vars.length R,.slice V p.rows.length S] 25)) #[.slice q y.length c] 33;have X:=box3 ((w.alloc (.cells #[.slice Q p.vars.length R,.slice V p.rows.length S] 25)).alloc (.cells #[.slice q y.length c] 33)) (.bool false) (.slice none 0 0) (.slice none 0 0) 68;simp only[World.size_alloc] at B1 X;have J:=Z (show Gr w _∧Ja _ w.heap.size #[.slice Q p.vars.length R,.slice V p.rows.length S]∧Ja _ (w.heap.size+1) #[.slice q y.length c]∧Jn _ (w.heap.size+1+1) (.bool false) (.slice none 0 0) (.slice none 0 0) from⟨B0.1.trans (B1.1.trans X.1),B0.2.grow (B1.1.trans X.1),B1.2.grow X.1,X.2⟩);clear B0 B1 X;unfold prgV;go_enter Tryz.func90,Tryz.ntmps90;go_wp2_with (at_make;refine Hold.hold ?_);generalize e7:w.heap.size+1+1=l at J ⊢;generalize f6:w.heap.size+1=N at J ⊢;generalize e9:w.heap.size=M at J ⊢;generalize ((w.alloc _).alloc _).alloc _=W at J ⊢;obtain⟨G,TP,TQ,T5,b3⟩:=Z5 J.o.1 J.o.2.1 J.o.2.2.1 J.o.2.2.2 (show w.heap.size≤l from by omega);clear J e7 f6 e9;refine Hold.go ?_;refine Pv rfl _ _ 33 rfl (by kernel_rfl) p.vars.length _ rfl rfl rfl (by omega) ?_;intro W1 ho g1;have a0:=Z (show LcNe w M N l W.heap.size from by
  have U:=TP.o.lt;have B:=T5.o.lt;have h3:=G.o.size;have h4:=TQ.o.lt;exact⟨by omega,by omega,by omega,by omega,b3.o⟩)
 have a8:=Z (show LcSt w W1 M N l W.heap.size (.slice Q p.vars.length R) (.slice V p.rows.length S) (.slice q y.length c) p.vars.length (fun _=>0) from
  ⟨G.o.trans g1,TP.o.grow g1,TQ.o.grow g1,T5.o.grow g1,ho⟩)
 have y1:=(TP.o.grow g1).at 1 rfl;generalize W.heap.size=L at a8 a0 ⊢;clear ho g1 TP TQ T5 G b3;go_wp2_with fail;clear y1;go_loopw [18] (fun i w9=>∃ k:Nat,i = .int .i64 (k:Int)∧k≤p.rows.length∧LcSt w w9 M N l L (.slice Q p.vars.length R) (.slice V p.rows.length S) (.slice q y.length c) p.vars.length (fun j=>sumQ (cA p y j) k)) (fun i _=>p.rows.length - (RowKit.intOf i).toNat)
 case atStart=>exact⟨0,rfl,Nat.zero_le _,a8.o⟩
 case round=>
  clear a8;obtain⟨k,rfl,hk,hq⟩:=hrel;have a:=Z hq;clear hq;by_cases f8:k < p.rows.length
  ·have h6:(k:Int) < (p.rows.length:Int):=by omega
   have g8:IntKind.i64.wrap ((k:Int)+1)=(k:Int)+1:=by rw[IntKind.wrap_i64];omega
   obtain⟨b,o,x,rfl,hx,c9,hc⟩:=HR.o.at f8;obtain⟨c0,c1,c2,c3,c4⟩:=hc _ a.o.g;obtain⟨s,b4,b6⟩:=Z3 hx c9 (HK.o.2.2.2 _ (List.mem_of_getElem? hx));clear hc hx c9;have B9:=Ja.new wr #[.string ⟨x.name.toArray⟩,.int .i64 x.group,.int .i64 x.kind,.slice x.tp x.terms.length x.tc,.int .i64 x.bound] 42;have T:=Z (show LcSt w _ M N l L _ _ _ p.vars.length _∧Gr wr _∧Ja _ _ _∧wr.heap.size≠L from⟨a.o.grow B9.1,B9.1,B9.2,by have:=a.o.ro.lt;omega⟩);clear B9;have z0:=T.o.1.tq.at 0 rfl;go_wp2_with fail;clear c0 c1 c2 c3 c4 z0;generalize wr.heap.size=b9 at T ⊢;generalize wr.alloc _=W9 at T ⊢;obtain⟨f,d6,a⟩:=Z3 (show Ja W9 b9 #[.string ⟨x.name.toArray⟩,.int .i64 x.group,.int .i64 x.kind,.slice x.tp x.terms.length x.tc,.int .i64 x.bound] from T.o.2.2.1) T.o.2.2.2 T.o.1;clear T;refine(Tv W9 q c y 4 k (HY.o.grow a.o.g)).mono ?_;rintro _ w2 ⟨r2,rfl,Y,B⟩;obtain⟨a,f,H2⟩:=Z3 (a.o.grow Y) (f.o.grow Y) B;clear Y B;go_wp2_with fail;obtain⟨cs,a9⟩:∃ c,sgn (atQ y k).num=c:=⟨_,rfl⟩
   refine(Qk w2 r2 (atQ y k) cs 4 H2.o a9 (by decide)).mono ?_;rintro _ w3 ⟨_,rfl,g3,rfl⟩;obtain⟨a,f,a7⟩:=Z3 (a.o.grow g3) (f.o.grow g3) (U0 a9);clear g3 a9 H2;by_cases h0:cs=0
   ·have HZ:=Z (a7.o.1 h0);subst h0;go_wp2_with fail;exact⟨⟨k+1,by go_num,by omega,a.o.congr fun j=>(J2A HZ.o j).symm⟩,by simp[RowKit.intOf];omega⟩
   have e0:(cs == 0)=false:=by simpa using h0
   have c5:=Z (J28 fun h=>h0 (a7.o.2 h));clear h0 a7;have y3:=f.o.at 3 rfl;have h9:=Lg.big b4.o;go_wp2_with fail;clear y3 e0;go_loopw [31] (fun i w9=>∃ m:Nat,i = .int .i64 (m:Int)∧m≤x.terms.length∧LcSt w w9 M N l L (.slice Q p.vars.length R) (.slice (some ⟨b,o,none⟩) p.rows.length S) (.slice q y.length c) p.vars.length (fun j=>sumQ (cA p y j) k+(rowCoef (x.terms.take m) j:Rat) * atQ y k)∧Ja w9 b9 #[.string ⟨x.name.toArray⟩,.int .i64 x.group,.int .i64 x.kind,.slice x.tp x.terms.length x.tc,.int .i64 x.bound]) (fun i _=>x.terms.length - (RowKit.intOf i).toNat)
   case atStart=>exact⟨0,rfl,Nat.zero_le _,a.o.congr fun j=>by simp[rowCoef];grind,f.o⟩
   case round=>
    clear a f;obtain⟨m,rfl,h7,hq,d2⟩:=hrel;obtain⟨a,f⟩:=Z2 hq d2;clear hq d2;by_cases f7:m < x.terms.length
    ·have g9:(m:Int) < (x.terms.length:Int):=by omega
     obtain⟨bt,ot,P,b2,ht,c7⟩:=O0 b4.o rfl f7;obtain⟨d0,d1⟩:=c7 _ a.o.g;rw[b2];obtain⟨HT,b8,a4⟩:=Z3 ht (Oo (Int.le_refl _) b6.o.2.2.2.2.2 P (List.mem_of_getElem? ht)) (M5 _ _ _ _ ht b6.o.2.2.2.2.2);obtain⟨d,b1⟩:∃ d:Nat,P.v=(d:Int):=⟨P.v.toNat,by have:=b8.o.1;omega⟩
     have b0:d < p.vars.length:=by have:=b8.o.2;omega
     have g6:(d:Int) < (p.vars.length:Int):=by omega
     have g5:(0:Int)≤(d:Int):=by omega
     rw[b1] at d0;have HJ:=Z b1;have BT:=Ja.new wr #[.int .i64 (d:Int),.int .i64 P.c] 75;obtain⟨a1,a,f,d7⟩:=Z4 BT.2 (a.o.grow BT.1) (f.o.grow BT.1) b2;clear ht c7 b1 b2 BT;go_wp2_with fail;clear d0 d1;generalize wr.heap.size=f9 at a1 ⊢;generalize wr.alloc _=W4 at a1 a f ⊢;have d0:=a1.o.c 0 rfl;have d1:=a1.o.c 1 rfl;have z0:=a.o.tq.c 0 rfl;obtain⟨t0,d4,a5⟩:=a.o.ro.at b0;have e0:=fun w' g=>(a5 w' g).1;have e1:=fun w' g=>(a5 w' g).2.1;have e2:=fun w' g=>(a5 w' g).2.2;have d8:=Z d4;obtain⟨e6,oy,ty,d3,d5,a6⟩:=HY.o.at c5.o;have i3:(k:Int) < (y.length:Int):=by have:=c5.o;omega
     have i0:=fun w' g=>(a6 w' (a.o.g.trans g)).1;have i1:=fun w' g=>(a6 w' (a.o.g.trans g)).2.1;have i2:=fun w' g=>(a6 w' (a.o.g.trans g)).2.2;have d9:=Z (d5.grow a.o.g);rw[show(#[.slice q y.length c]:Array Value)[0] = .slice (some ⟨e6,oy,none⟩) y.length c from by show Value.slice q _ _=_;rw[d3]] at z0;have g0:Gr W4 W4.drew:=(Gr.refl _).drew;have n:=Z g0;clear d4 a5 d5 a6 d3;refine Jl [(0,true),(1,true),(2,true),(3,true),(4,true),(5,true),(6,true),(7,true),(8,true),(9,true),(11,true),(12,true),(13,true),(14,true),(10,false),(15,false),(16,false),(17,true),(18,false)] ?_;repeat(refine Jc g0 (h:=?_))
     refine Je (k:=Md _ P.c (Kd a4.o.2.2.2).1 (Kd a4.o.2.2.2).2) (h:=?_);rintro r1 w5 g1 U;have n:=Z (n.o.trans g1);refine Je (k:=N3 _ _ _ (P.c:Rat) (atQ y k) _ 2 4 (U.v (Km a4.o.2.2.2)) (d9.o.grow n.o) rfl (by decide) (by decide)) (h:=?_);rintro r2 w6 Y B;have n:=Z (n.o.trans Y);clear U;refine Je (k:=Rs _ _ _ _ _ _ 80 80 (d8.o.grow n.o) (B.v (HC.o.t P.c k a4.o.2.2.2)) rfl (by decide) (by decide)) (h:=?_);rintro r3 w7 g3 h3;have n:=Z (n.o.trans g3);clear B;have g4:=n.o;repeat(refine Jc g4 (h:=?_))
     obtain⟨a,f⟩:=Z2 (a.o.grow n.o) (f.o.grow n.o);obtain⟨I,H,D,z,A,E,F,rfl⟩:=h3.agg;obtain⟨t1,-,c6⟩:=a.o.ro.at b0;obtain⟨f0,f1,f2⟩:=c6 w7 (Gr.refl _);have f3:=a.o.ro.f (d * 3);have f4:=a.o.ro.f (d * 3+1);have f5:=a.o.ro.f (d * 3+2);clear e0 e1 e2 d0 d1 z0 i0 i1 i2 c6;have a3:=Z (show LcSt w (setRat w7 L d ⟨I,H,D,z,A,E,F⟩) M N l L _ _ _ p.vars.length (fun j=>sumQ (cA p y j) k+(rowCoef (x.terms.take (m+1)) j:Rat) * atQ y k) from
      a.o.putO a0.o b0 (t:=⟨I,H,D,z,A,E,F⟩) (by
       have e:sumQ (cA p y d) k+(rowCoef (x.terms.take (m+1)) d:Rat) * atQ y k=sumQ (cA p y d) k+(rowCoef (x.terms.take m) d:Rat) * atQ y k+(P.c:Rat) * atQ y k:=by
        rw[Na HT.o,if_pos HJ.o,Rat.intCast_add];grind
       show RatV w7 _ (sumQ (cA p y d) k+(rowCoef (x.terms.take (m+1)) d:Rat) * atQ y k) 80;have hz:Sz 80 (sumQ (cA p y d) k+(rowCoef (x.terms.take (m+1)) d:Rat) * atQ y k):=HC.o.ak k d (m+1) _ s.o;rw[e] at hz ⊢;exact h3.v hz) (fun i O h8=>by
        show sumQ (cA p y i) k+(rowCoef (x.terms.take m) i:Rat) * atQ y k=sumQ (cA p y i) k+(rowCoef (x.terms.take (m+1)) i:Rat) * atQ y k;rw[Na HT.o,if_neg (by rw[HJ.o];omega)];simp))
     have a2:=Z (f.o.upd (Nb w7 L d ⟨I,H,D,z,A,E,F⟩) d6.o);clear h3;refine Jj rfl rfl (fun K hK=>?_);go_simp;refine⟨fun h=>Bool.noConfusion h,hK _ _ ?_⟩;clear hK K;unfold setRat at a3 a2;dsimp only at a3 a2;generalize ((w7.setCell _ _).setCell _ _).setCell _ _=W5 at a3 a2 ⊢;refine Jg ?_;clear f0 f1 f2 f3 f4 f5 g0 g1 Y g3 g4;have g7:IntKind.i64.wrap ((m:Int)+1)=(m:Int)+1:=by rw[IntKind.wrap_i64];omega
     go_wp2_with fail;exact⟨⟨m+1,by go_num,by omega,a3.o,by have h:=a2.o;rw[d7.o] at h;exact h⟩,by simp[RowKit.intOf];omega⟩
    ·obtain rfl:m=x.terms.length:=by omega
     go_wp2_with fail;exact⟨⟨k+1,by go_num,by omega,a.o.congr fun j=>(Xd s.o j).symm⟩,by simp[RowKit.intOf];omega⟩
  ·obtain rfl:k=p.rows.length:=by omega
   have y1:=a.o.tp.at 1 rfl;go_wp2_with fail;clear y1;have b7:=Z (show Sp wr (.func (.func 144) #[] #[.pointer (some ⟨M,0,none⟩),.pointer (some ⟨N,0,none⟩)]) p.rows.length (kB p) (atQ y) 4 from
    ⟨_,_,rfl,enters_of Tryz.func144 (by kernel_rfl) rfl,fun w' g i O=>J3S w' M N p.vars.length R S c Q V q p y 4 i (a.o.tp.grow g) (a.o.tq.grow g) (HR.o.grow (a.o.g.trans g)) (HY.o.grow (a.o.g.trans g)) O (by omega)⟩)
   have HE:=Z (show ∀ i,sumQ (fun j=>(kB p j:Rat) * atQ y j) i=sumQ (cB p y) i from fun i=>U8 fun j _=>(cB_k p y j).symm);refine(Y5 wr _ p.rows.length (kB p) (atQ y) 4 b7.o (fun i O=>by
    obtain⟨r,U,B⟩:=J0W O;have:=(HK.o.2.2.2 r B).2.2.2.1;unfold kB;rw[U];exact Kd this) (fun i O=>by rw[HE.o];exact Sz.mono' (HC.o.b i O) (by decide)) (fun i O=>by
    obtain⟨r,U,B⟩:=J0W O;have:=(HK.o.2.2.2 r B).2.2.2.1;unfold kB;rw[U];exact Sz.mono' (HC.o.t _ i this) (by decide)) (by decide) (by omega)).mono ?_
   rintro _ w4 ⟨r4,rfl,g4,h4⟩;rw[HE.o] at h4;have a:=Z (a.o.grow g4);obtain⟨I,H,D,z,A,E,F,rfl⟩:=h4.agg;have C:=a.o.t5;have f0:=C.load.1;have f1:=C.load.2.1;have f2:=C.load.2.2;have f3:=C.f0 0;have f4:=C.f0 1;have f5:=C.f0 2;have s:=Z (show Gr w (set3 w4 l (.bool I) (.slice H D z) (.slice A E F))∧Jn (set3 w4 l (.bool I) (.slice H D z) (.slice A E F)) l (.bool I) (.slice H D z) (.slice A E F)∧Jq (set3 w4 l (.bool I) (.slice H D z) (.slice A E F)) L p.vars.length (combA p y) 80∧RatC (set3 w4 l (.bool I) (.slice H D z) (.slice A E F)) (.agg #[.bool I,.slice H D z,.slice A E F]) (combB p y) from
    ⟨Ks a.o.g a0.o.c _ _ _,C.set _ _ _,a.o.ro.upd C.noInt (upd3 _ _ _ _ _) a0.o.o5.symm,h4.upd C.noInt (upd3 _ _ _ _ _)⟩)
   clear h4 g4 C b7;go_wp2_with fail;clear f0 f1 f2 f3 f4 f5;unfold set3 at s;generalize ((w4.setCell _ _).setCell _ _).setCell _ _=W5 at s ⊢;have e3:=s.o.2.1.load.1;have e4:=s.o.2.1.load.2.1;have e5:=s.o.2.1.load.2.2;refine bodyPost_ret (by simp[results,Tryz.results90,go_sem,e3,e4,e5];rfl) rfl ?_;exact⟨_,rfl,s.o.1,L,_,rfl,a0.o.o,s.o.2.2.1,s.o.2.2.2⟩
theorem J3T (w:World)(R S vc c:Nat)(va q:Option Addr)(u1:Value)(p:Prg)(a:Nat→Rat)(i:Nat)(hb:Ja w R #[.slice va p.vars.length vc,u1])(hq:Ja w S #[.slice q p.vars.length c])(hv:K8 w (.slice va p.vars.length vc) p.vars)(ha:Kq w (.slice q p.vars.length c) p.vars.length a 80)(hi:i < p.vars.length)(hm:p.vars.length≤1000000):
  Calls Tryz.prog 145 (#[.int .i64 (i:Int)] ++ #[.pointer (some ⟨S,0,none⟩),.pointer (some ⟨R,0,none⟩)]) w (Ret w fun r w'=>∃ u,r = .tuple #[.int .i64 (kL p.vars a i),u]∧RatV w' u (a i) 80):=by
 show Calls _ _ #[.int .i64 (i:Int),.pointer (some ⟨S,0,none⟩),.pointer (some ⟨R,0,none⟩)] _ _;obtain⟨b,o,x,rfl,hx,hc⟩:=K5 hv rfl hi;obtain⟨a4,M,HC⟩:=Z3 hx ha hc;have J:=box3 w (.bool false) (.slice none 0 0) (.slice none 0 0) 68;obtain⟨F,D,C⟩:=Z3 J (hb.grow J.1) (hq.grow J.1);have z0:=C.o.at 0 rfl;have a6:(i:Int) < (p.vars.length:Int):=by omega
 clear hb hq hv ha hx hc J;go_enter Tryz.func145,Tryz.ntmps145;go_wp2_with fail;clear z0;generalize a5:w.heap.size=A at F ⊢;generalize w.alloc _=W at F D C ⊢;obtain⟨a2,G,d⟩:=Z3 (show w.heap.size≤A from by omega) F.o.1 F.o.2;clear a5 F;refine(l_at _ q p.vars.length c a 80 i (a i) (M.o.grow G.o) (fun _ _=>by simp) (fun h=>absurd ⟨by omega,by omega⟩ h)).mono ?_;rintro _ w1 ⟨r1,rfl,g1,z⟩;obtain⟨H1,G,d,D,C⟩:=Z5 z (G.o.trans g1) (d.o.grow g1) (D.o.grow g1) (C.o.grow g1);clear z g1;go_wp2_with fail;obtain⟨U,a0⟩:∃ c,sgn (a i).num=c:=⟨_,rfl⟩
 refine(Qk w1 r1 (a i) U 80 H1.o a0 (by decide)).mono ?_;rintro _ L ⟨_,rfl,H,rfl⟩;obtain⟨G,d,D,C⟩:=Z4 (G.o.trans H) (d.o.grow H) (D.o.grow H) (C.o.grow H);have a3:=Z (Pa a0).1;clear H a0 H1;by_cases a1:U < 0
 ·have N:=Z (show kL p.vars a i=x.up from by
   unfold kL;rw[a4.o];simp only[if_pos (a3.o.1 a1)])
  go_wp2_with fail;have y0:=D.o.c 0 rfl;have z0:=C.o.c 0 rfl;have T:=fun w' g=>(HC.o w' (G.o.trans g)).2.1;have E:Gr L L.drew:=(Gr.refl _).drew;have j:=Z E;refine Jl [(0,true),(1,true),(2,true),(3,true),(4,true),(5,true),(6,true),(7,true),(8,false),(9,true),(10,false)] ?_;repeat(refine Jc E (h:=?_))
  refine Je (k:=l_at _ q p.vars.length c a 80 i (a i) (M.o.grow (G.o.trans j.o)) (fun _ _=>by simp) (fun h=>absurd ⟨by omega,by omega⟩ h)) (h:=?_);rintro r1 B g1 z;have j:=Z (j.o.trans g1);have g4:=j.o;repeat(refine Jc g4 (h:=?_))
  obtain⟨y,v,n,l,m,s,t,rfl⟩:=z.agg;have d:=d.o.grow j.o;have V:=d.load.1;have X:=d.load.2.1;have Y:=d.load.2.2;have f3:=d.f0 0;have f4:=d.f0 1;have f5:=d.f0 2;have f:=Z (show Gr w (set3 B A (.bool y) (.slice v n l) (.slice m s t))∧Jn (set3 B A (.bool y) (.slice v n l) (.slice m s t)) A (.bool y) (.slice v n l) (.slice m s t)∧RatV (set3 B A (.bool y) (.slice v n l) (.slice m s t)) (.agg #[.bool y,.slice v n l,.slice m s t]) (a i) 80 from
   ⟨Ks (G.o.trans j.o) a2.o _ _ _,d.set _ _ _,z.upd d.noInt (upd3 _ _ _ _ _)⟩)
  clear z d y0 z0 T;refine Jj rfl rfl (fun K I=>?_);go_simp;refine⟨fun h=>Bool.noConfusion h,I _ _ ?_⟩;clear I K;unfold set3 at f;generalize ((B.setCell _ _).setCell _ _).setCell _ _=W5 at f ⊢;refine Jg ?_;clear V X Y f3 f4 f5 E g1 g4;go_wp2_with fail;try rw[Exit.noGoto_ret]
  have O:=f.o.2.1.load.1;have P:=f.o.2.1.load.2.1;have Q:=f.o.2.1.load.2.2;refine bodyPost_ret (by simp[results,Tryz.results145,go_sem,O,P,Q];rfl) rfl ?_;exact⟨_,rfl,f.o.1,_,by rw[N.o],f.o.2.2⟩
 ·have a7:0≤U:=by omega
  have N:=Z (show kL p.vars a i=x.lo from by
   unfold kL;rw[a4.o];simp only[if_neg (fun h=>a1 (a3.o.2 h))])
  clear a1;go_wp2_with fail;have y0:=D.o.c 0 rfl;have z0:=C.o.c 0 rfl;have T:=fun w' g=>(HC.o w' (G.o.trans g)).1;have E:Gr L L.drew:=(Gr.refl _).drew;have j:=Z E;refine Jl [(0,true),(1,true),(2,true),(3,true),(4,true),(5,true),(6,true),(7,true),(8,false),(9,true),(10,false)] ?_;repeat(refine Jc E (h:=?_))
  refine Je (k:=l_at _ q p.vars.length c a 80 i (a i) (M.o.grow (G.o.trans j.o)) (fun _ _=>by simp) (fun h=>absurd ⟨by omega,by omega⟩ h)) (h:=?_);rintro r1 B g1 z;have j:=Z (j.o.trans g1);have g4:=j.o;repeat(refine Jc g4 (h:=?_))
  obtain⟨y,v,n,l,m,s,t,rfl⟩:=z.agg;have d:=d.o.grow j.o;have V:=d.load.1;have X:=d.load.2.1;have Y:=d.load.2.2;have f3:=d.f0 0;have f4:=d.f0 1;have f5:=d.f0 2;have f:=Z (show Gr w (set3 B A (.bool y) (.slice v n l) (.slice m s t))∧Jn (set3 B A (.bool y) (.slice v n l) (.slice m s t)) A (.bool y) (.slice v n l) (.slice m s t)∧RatV (set3 B A (.bool y) (.slice v n l) (.slice m s t)) (.agg #[.bool y,.slice v n l,.slice m s t]) (a i) 80 from
   ⟨Ks (G.o.trans j.o) a2.o _ _ _,d.set _ _ _,z.upd d.noInt (upd3 _ _ _ _ _)⟩)
  clear z d y0 z0 T;refine Jj rfl rfl (fun K I=>?_);go_simp;refine⟨fun h=>Bool.noConfusion h,I _ _ ?_⟩;clear I K;unfold set3 at f;generalize ((B.setCell _ _).setCell _ _).setCell _ _=W5 at f ⊢;refine Jg ?_;clear V X Y f3 f4 f5 E g1 g4;go_wp2_with fail;try rw[Exit.noGoto_ret]
  have O:=f.o.2.1.load.1;have P:=f.o.2.1.load.2.1;have Q:=f.o.2.1.load.2.2;refine bodyPost_ret (by simp[results,Tryz.results145,go_sem,O,P,Q];rfl) rfl ?_;exact⟨_,rfl,f.o.1,_,by rw[N.o],f.o.2.2⟩
theorem Y2 (w:World)(v:Value)(p:Prg)(q:Option Addr)(c:Nat)(a:Nat→Rat)(hp:Js w v p)(ha:Kq w (.slice q p.vars.length c) p.vars.length a 80)(Q:Jo p)(hw:Whole p)
  (hz:∀ j,j≤p.vars.length→Sz 200 (sumQ (lTerm p.vars a) j)) (a5:∀ j,Sz 200 (lTerm p.vars a j)):
  Calls Tryz.prog 91 #[v,.slice q p.vars.length c] w (Ret w fun r w'=>(K7 p.vars∧r = .tuple #[.agg #[.bool false,.slice none 0 0,.slice none 0 0],.bool false])∨(¬ K7 p.vars∧∃ u,r = .tuple #[u,.bool true]∧RatC w' u (leastS p.vars a))):=by
 obtain⟨HA,HK,HW,HZ⟩:=Z4 ha Q hw (And.intro hz a5);have hn:=Q.1;clear ha Q hw hz a5;obtain⟨L,M,S,T,rfl,R,hr⟩:=hp;have HV:=Z R;clear R hr;have V:=Ja.new w #[.slice L p.vars.length M,.slice S p.rows.length T] 25;have B:=Ja.new (w.alloc (.cells #[.slice L p.vars.length M,.slice S p.rows.length T] 25)) #[.slice q p.vars.length c] 33;have z:=box3 ((w.alloc (.cells #[.slice L p.vars.length M,.slice S p.rows.length T] 25)).alloc (.cells #[.slice q p.vars.length c] 33)) (.bool false) (.slice none 0 0) (.slice none 0 0) 68;simp only[World.size_alloc] at B z;have f:=Z (show Gr w _∧Ja _ w.heap.size #[.slice L p.vars.length M,.slice S p.rows.length T]∧Ja _ (w.heap.size+1) #[.slice q p.vars.length c]∧Jn _ (w.heap.size+1+1) (.bool false) (.slice none 0 0) (.slice none 0 0) from⟨V.1.trans (B.1.trans z.1),V.2.grow (B.1.trans z.1),B.2.grow z.1,z.2⟩);clear V B z;unfold prgV;go_enter Tryz.func91,Tryz.ntmps91;go_wp2_with fail;generalize a7:w.heap.size+1+1=n at f ⊢;generalize a9:w.heap.size+1=bq at f ⊢;generalize a8:w.heap.size=bp at f ⊢;generalize ((w.alloc _).alloc _).alloc _=W at f ⊢;obtain⟨G,O,TQ,d,N⟩:=Z5 f.o.1 f.o.2.1 f.o.2.2.1 f.o.2.2.2 (show w.heap.size≤n from by omega);clear f a7 a9 a8;go_loopw [11] (fun i w9=>∃ k:Nat,i = .int .i64 (k:Int)∧k≤p.vars.length∧(∀ (j:Nat) (x:VarM),j < k→p.vars[j]?=some x→x.lo≤x.up)∧Gr W w9) (fun i _=>p.vars.length - (RowKit.intOf i).toNat)
 case atStart=>exact⟨0,rfl,Nat.zero_le _,fun j x hj=>by omega,Gr.refl _⟩
 case round=>
  obtain⟨k,rfl,Q,hq,hg⟩:=hrel;obtain⟨Y,s⟩:=Z2 hq hg;clear hq hg;by_cases b0:k < p.vars.length
  ·have b2:(k:Int) < (p.vars.length:Int):=by omega
   obtain⟨b,o,t,rfl,ht,hc⟩:=K5 (SlL.grow HV.o (G.o.trans s.o)) rfl b0;obtain⟨c0,c1,c2,c3,c4⟩:=hc _ (Gr.refl _);have HT:=Z ht;have a4:=(HW.o t (List.mem_of_getElem? ht)).2;rw[a4] at c2;have b1:IntKind.i64.wrap ((k:Int)+1)=(k:Int)+1:=by rw[IntKind.wrap_i64];omega
   have X:=Z (s.o.trans (show Gr wr (wr.alloc (.cells #[.int .i64 t.lo,.int .i64 t.up,.bool false,.bool t.ig,.int .i64 t.cost] 62)) from(Gr.refl _).alloc _));clear hc ht a4;by_cases hb:t.up < t.lo
   ·obtain⟨H,d⟩:=Z2 (show K7 p.vars from⟨t,List.mem_of_getElem? HT.o,hb⟩) (d.o.grow X.o);have f0:=d.o.load.1;have f1:=d.o.load.2.1;have f2:=d.o.load.2.2;have f3:=d.o.f0 0;have f4:=d.o.f0 1;have f5:=d.o.f0 2;have A:=Z (show Gr w (set3 _ n (.bool false) (.slice none 0 0) (.slice none 0 0))∧Jn (set3 _ n (.bool false) (.slice none 0 0) (.slice none 0 0)) n (.bool false) (.slice none 0 0) (.slice none 0 0) from⟨Ks (G.o.trans X.o) N.o _ _ _,d.o.set _ _ _⟩);go_wp2_with fail;try rw[Exit.noGoto_ret]
    unfold set3 at A;generalize (((wr.alloc _).setCell _ _).setCell _ _).setCell _ _=W5 at A ⊢;clear f0 f1 f2 f3 f4 f5 c0 c1 c2 c3 c4;have a0:=A.o.2.load.1;have a1:=A.o.2.load.2.1;have a2:=A.o.2.load.2.2;refine bodyPost_ret (by simp[results,Tryz.results91,go_sem,a0,a1,a2];rfl) rfl ?_;exact⟨_,rfl,A.o.1,.inl ⟨H.o,rfl⟩⟩
   ·have a6:t.lo≤t.up:=by omega
    have N:=Z a6;clear hb;go_wp2_with fail;refine⟨⟨k+1,by go_num,by omega,fun j x hj hx=>?_,X.o⟩,by simp[RowKit.intOf];omega⟩;by_cases e:j=k
    ·subst e;rw[HT.o] at hx
     cases hx
     exact N.o
    ·exact Y.o j x (by omega) hx
  ·obtain rfl:k=p.vars.length:=by omega
   have HE:=Z (show ¬ K7 p.vars from fun⟨v,R,h⟩=>by
    obtain⟨i,m,rfl⟩:=List.getElem_of_mem R;have:=Y.o i _ m (List.getElem?_eq_getElem m);omega)
   obtain⟨O,TQ,d,G⟩:=Z4 (O.o.grow s.o) (TQ.o.grow s.o) (d.o.grow s.o) (G.o.trans s.o);have y0:=O.o.at 0 rfl;clear Y s;go_wp2_with fail;clear y0;have a3:=Z (show Sp wr (.func (.func 145) #[] #[.pointer (some ⟨bq,0,none⟩),.pointer (some ⟨bp,0,none⟩)]) p.vars.length (kL p.vars a) a 80 from
    ⟨_,_,rfl,enters_of Tryz.func145 (by kernel_rfl) rfl,fun w' g i m=>J3T w' bp bq M c L q _ p a i (O.o.grow g) (TQ.o.grow g) (SlL.grow HV.o (G.o.trans g)) (HA.o.grow (G.o.trans g)) m (by omega)⟩)
   have HS:=Z (show ∀ i,sumQ (fun j=>(kL p.vars a j:Rat) * a j) i=sumQ (lTerm p.vars a) i from fun i=>U8 fun j _=>(lT_k p.vars a j).symm);refine(Y5 wr _ p.vars.length (kL p.vars a) a 80 a3.o (fun i m=>by
    obtain⟨r,h1,h2⟩:=J6I m;have:=HK.o.2.2.1 r h2;unfold kL;rw[h1];show I64 (if a i < 0 then r.up else r.lo)
    split
    ·exact Kd this.2.1
    ·exact Kd this.1) (fun i m=>by rw[HS.o];exact Sz.mono' (HZ.o.1 i m) (by decide)) (fun i m=>by rw[← lT_k];exact Sz.mono' (HZ.o.2 i) (by decide)) (by decide) (by omega)).mono ?_
   rintro _ U ⟨r4,rfl,g4,P⟩;rw[HS.o] at P;obtain⟨K,J,E,C,D,F,I,rfl⟩:=P.agg;have l:=d.o.grow g4;have f0:=l.load.1;have f1:=l.load.2.1;have f2:=l.load.2.2;have f3:=l.f0 0;have f4:=l.f0 1;have f5:=l.f0 2;have y:=Z (show Gr w (set3 U n (.bool K) (.slice J E C) (.slice D F I))∧Jn (set3 U n (.bool K) (.slice J E C) (.slice D F I)) n (.bool K) (.slice J E C) (.slice D F I)∧RatC (set3 U n (.bool K) (.slice J E C) (.slice D F I)) (.agg #[.bool K,.slice J E C,.slice D F I]) (leastS p.vars a) from
    ⟨Ks (G.o.trans g4) N.o _ _ _,l.set _ _ _,P.upd l.noInt (upd3 _ _ _ _ _)⟩)
   clear P g4 l a3;go_wp2_with fail;clear f0 f1 f2 f3 f4 f5;unfold set3 at y;generalize ((U.setCell _ _).setCell _ _).setCell _ _=W5 at y ⊢;have a0:=y.o.2.1.load.1;have a1:=y.o.2.1.load.2.1;have a2:=y.o.2.1.load.2.2;refine bodyPost_ret (by simp[results,Tryz.results91,go_sem,a0,a1,a2];rfl) rfl ?_;exact⟨_,rfl,y.o.1,.inr ⟨HE.o,_,rfl,y.o.2.2⟩⟩
def J1T (w:World)(v:Value)(n:Nat)(x:Nat→Rat):Prop:=∃ (f:Nat) (caps:Array Value),v = .func (.func f) #[] caps∧(∀ args w,(callFunc f args).run Tryz.prog w = .ok (.enter f args) w)∧
 ∀ w',Gr w w'→∀ i,i < n→Calls Tryz.prog f (#[.int .i64 (i:Int)] ++ caps) w' (Ret w' fun r w''=>RatC w'' r (x i))
theorem J2F (w:World)(v:Value)(n:Nat)(x:Nat→Rat)(V:J1T w v n x)(K:∀ i,i < n→Sz 80 (x i))(hn:n≤1000000):
  Calls Tryz.prog 92 #[.int .i64 (n:Int),v] w (Ret w fun r w'=>∃ b,r = .slice (some ⟨b,0,none⟩) n n∧w.heap.size≤b∧Jq w' b n x 80):=by
 obtain⟨f,Y,rfl,he,D⟩:=V;obtain⟨M,N⟩:=Z2 D K;clear D K;go_enter Tryz.func92,Tryz.ntmps92;go_wp2_with (at_make;refine Hold.hold ?_);refine Hold.go ?_;refine Pv rfl _ _ 33 rfl (by kernel_rfl) n _ rfl rfl rfl (by omega) ?_;intro W I g1;have l:=Z (And.intro g1 I);generalize U:w.heap.size=c at l ⊢;have C:=Z (show w.heap.size≤c from by omega);clear I g1 U;go_wp2_with fail;go_loopw [11] (fun i L=>∃ k:Nat,i = .int .i64 (k:Int)∧k≤n∧Gr w L∧Jq L c n (fun j=>if j < k then x j else 0) 80) (fun i _=>n - (RowKit.intOf i).toNat)
 case atStart=>exact⟨0,rfl,Nat.zero_le _,l.o.1,l.o.2.congr fun j _=>by simp⟩
 case round=>
  clear l;obtain⟨k,rfl,hk,F,J⟩:=hrel;obtain⟨G,a⟩:=Z2 F J;clear F J;by_cases m:k < n
  ·have a1:(k:Int) < (n:Int):=by omega
   have a0:IntKind.i64.wrap ((k:Int)+1)=(k:Int)+1:=by rw[IntKind.wrap_i64];omega
   go_wp2_with fail;refine(M.o wr G.o k m).mono ?_;rintro _ g ⟨r2,rfl,q,s⟩;obtain⟨a,G⟩:=Z2 (a.o.grow q) (G.o.trans q);obtain⟨B,A,u,o,p,y,z,rfl⟩:=s.agg;obtain⟨t1,-,E⟩:=a.o.at m;obtain⟨O,P,Q⟩:=E g (Gr.refl _);have R:=a.o.f (k * 3);have S:=a.o.f (k * 3+1);have T:=a.o.f (k * 3+2);have d:=Z (show Gr w (setRat g c k ⟨B,A,u,o,p,y,z⟩)∧Jq (setRat g c k ⟨B,A,u,o,p,y,z⟩) c n (fun j=>if j < k+1 then x j else 0) 80 from
    ⟨Pi G.o C.o _ _,a.o.set m (t:=⟨B,A,u,o,p,y,z⟩) (by
     show RatV g _ (if k < k+1 then x k else 0) 80;rw[if_pos (by omega)];exact s.v (N.o k m)) fun j H a2=>by
     show(if j < k then x j else 0)=if j < k+1 then x j else 0;by_cases h:j < k
     ·rw[if_pos h,if_pos (by omega)]
     ·rw[if_neg h,if_neg (by omega)]⟩)
   clear s q E;go_wp2_with fail;unfold setRat at d;dsimp only at d;generalize ((g.setCell _ _).setCell _ _).setCell _ _=X at d ⊢;clear O P Q R S T;exact⟨⟨k+1,by go_num,by omega,d.o.1,d.o.2⟩,by simp[RowKit.intOf];omega⟩
  ·obtain rfl:k=n:=by omega
   go_wp2_with fail;go_ret;exact⟨_,rfl,G.o,c,rfl,C.o,a.o.congr fun j H=>by rw[if_pos H]⟩
theorem J2D (w:World)(s v n i:Nat)(a:Nat→Rat)(z:Ja w s #[.slice (some ⟨v,0,none⟩) n n])(y:Jq w v n a 80)(P:i < n)(S:n≤1000000):
  Calls Tryz.prog 93 (#[.int .i64 (i:Int)] ++ #[.pointer (some ⟨s,0,none⟩)]) w (Ret w fun r w'=>RatC w' r (- a i)):=by
 show Calls _ _ #[.int .i64 (i:Int),.pointer (some ⟨s,0,none⟩)] _ _;have o:=box3 w (.bool false) (.slice none 0 0) (.slice none 0 0) 68;have p:=Z o;have z0:=(z.grow o.1).at 0 rfl;obtain⟨t0,A,x⟩:=(y.grow o.1).at P;obtain⟨F,G,H⟩:=x _ (Gr.refl _);have u:=Z A;have R:(i:Int) < (n:Int):=by omega
 clear z y x A o;go_enter Tryz.func93,Tryz.ntmps93;go_wp2_with fail;clear z0 F G H;generalize O:w.heap.size=d at p ⊢;generalize w.alloc _=W at p u ⊢;have B:=Z (show w.heap.size≤d from by omega);clear O;refine(Rt W _ (a i) _ 80 u.o rfl (by decide)).mono ?_;rintro _ q ⟨T,rfl,g4,t⟩;obtain⟨m,l,h,f,g,j,k,rfl⟩:=t.agg;have b:=p.o.2.grow g4;have I:=b.load.1;have J:=b.load.2.1;have K:=b.load.2.2;have L:=b.f0 0;have M:=b.f0 1;have N:=b.f0 2;have c:=Z (show Gr w (set3 q d (.bool m) (.slice l h f) (.slice g j k))∧Jn (set3 q d (.bool m) (.slice l h f) (.slice g j k)) d (.bool m) (.slice l h f) (.slice g j k)∧RatC (set3 q d (.bool m) (.slice l h f) (.slice g j k)) (.agg #[.bool m,.slice l h f,.slice g j k]) (- a i) from
  ⟨Ks (p.o.1.trans g4) B.o _ _ _,b.set _ _ _,t.upd b.noInt (upd3 _ _ _ _ _)⟩)
 clear t g4 b;go_wp2_with fail;clear I J K L M N;unfold set3 at c;generalize ((q.setCell _ _).setCell _ _).setCell _ _=Q at c ⊢;have C:=c.o.2.1.load.1;have D:=c.o.2.1.load.2.1;have E:=c.o.2.1.load.2.2;refine bodyPost_ret (by simp[results,Tryz.results93,go_sem,C,D,E];rfl) rfl ?_;exact⟨_,rfl,c.o.1,c.o.2.2⟩
def infNew:Nat→LateN.NewS:=fun _=>⟨68,#[.bool false,.slice none 0 0,.slice none 0 0],fun b => .pointer (some ⟨b,0,none⟩)⟩
theorem J2y {x y:Rat}{c:Int}(h:cmpQ x y=c):0 < c↔y < x:=P7 h
theorem J2E (w:World)(v:Value)(p:Prg)(q:Option Addr)(c:Nat)(y:List Rat)(hp:Js w v p)(hy:L1 w (.slice q y.length c) y 4)(hc:Calm p y)(hk:Jo p)(hw:Whole p):
  Calls Tryz.prog 44 #[v,.slice q y.length c] w (Ret w fun r _=>Jb (Lw p y) r):=by
 obtain⟨HY,Y,HK,HW,HP⟩:=Z5 hy hc hk hw hp;have hn:=hk.1;have hm:=hk.2.1;have a7:∀ r ∈ p.rows,r.name.length≤1000000:=fun r hr=>by have:=(hk.2.2.2 r hr).2.2.1;omega
 have a9:PrgI p:=Jo.i HK.o;clear hy hc hk hw;obtain⟨P,R,Q,S,rfl,hv,hr⟩:=hp;obtain⟨HV,HR⟩:=Z2 hv hr;obtain⟨_,_,_,d8,d9⟩:=SlL.parts hv;obtain⟨_,_,_,d6,d7⟩:=hr.parts;clear hv hr;have B0:=Ja.new w #[.slice P p.vars.length R,.slice Q p.rows.length S] 25;have HB:=Z B0;unfold prgV;clear B0;unfold prgV at HP;go_enter Tryz.func44,Tryz.ntmps44;go_wp2_with fail;generalize w.heap.size=n at HB ⊢;generalize w.alloc _=W at HB ⊢;obtain⟨G,z⟩:=Z2 HB.o.1 HB.o.2;clear HB;refine(Tu W _ p (HP.o.grow G.o) a9 a7 (by omega) (by omega)).mono ?_;rintro _ w1 ⟨r1,rfl,g1,h1⟩;obtain⟨G,z⟩:=Z2 (G.o.trans g1) (z.o.grow g1);rcases h1.cases with⟨rfl,O⟩|⟨rfl,O⟩;rotate_left
 ·exact absurd HK.o O
 clear h1 O g1 a7 a9;have y0:=z.o.at 0 rfl;have y1:=z.o.at 1 rfl;go_wp2_with fail;clear y0 y1;refine(Y4 w1 _ p q c y 4 (HP.o.grow G.o) (HY.o.grow G.o) (by decide) (by omega)).mono ?_;rintro _ w2 ⟨r1,rfl,g1,h1⟩;obtain⟨G,z⟩:=Z2 (G.o.trans g1) (z.o.grow g1);rcases h1.cases with⟨rfl,O⟩|⟨rfl,O⟩;rotate_left
 ·have H:=Z (show ¬ Lw p y from fun h=>O h.1);clear h1 O g1;go_wp2_with fail;try rw[Exit.noGoto_ret]
  go_ret;exact⟨_,rfl,G.o,Jb.no H.o⟩
 have H1:=Z O;clear h1 O g1;have y0:=z.o.at 0 rfl;go_wp2_with fail;clear y0;go_loopw [23] (fun i w9=>∃ k:Nat,i = .int .i64 (k:Int)∧k≤p.vars.length∧(∀ (j:Nat) (x:VarM),j < k→p.vars[j]?=some x→x.lo≤x.up)∧Gr w2 w9) (fun i _=>p.vars.length - (RowKit.intOf i).toNat)
 case atStart=>exact⟨0,rfl,Nat.zero_le _,fun j x hj=>by omega,Gr.refl _⟩
 case round=>
  obtain⟨k,rfl,hk,hq,hg⟩:=hrel;obtain⟨HQ,GL⟩:=Z2 hq hg;clear hq hg;by_cases c7:k < p.vars.length
  ·have c9:(k:Int) < (p.vars.length:Int):=by omega
   obtain⟨b,o,t,rfl,ht,hc⟩:=K5 (SlL.grow HV.o (G.o.trans GL.o)) rfl c7;obtain⟨c0,c1,c2,c3,c4⟩:=hc _ (Gr.refl _);have HT:=Z ht;have a8:=(HW.o t (List.mem_of_getElem? ht)).2;rw[a8] at c2;have c8:IntKind.i64.wrap ((k:Int)+1)=(k:Int)+1:=by rw[IntKind.wrap_i64];omega
   have GX:=Z (GL.o.trans (show Gr wr (wr.alloc (.cells #[.int .i64 t.lo,.int .i64 t.up,.bool false,.bool t.ig,.int .i64 t.cost] 62)) from(Gr.refl _).alloc _));clear hc ht a8;by_cases hb:t.up < t.lo
   ·have H:=Z (show Lw p y from⟨H1.o,.inl ⟨t,List.mem_of_getElem? HT.o,hb⟩⟩);go_wp2_with fail;try rw[Exit.noGoto_ret]
    go_ret;exact⟨_,rfl,G.o.trans GX.o,Jb.yes H.o⟩
   ·have c5:t.lo≤t.up:=by omega
    have b2:=Z c5;clear hb;go_wp2_with fail;refine⟨⟨k+1,by go_num,by omega,fun j x hj hx=>?_,GX.o⟩,by simp[RowKit.intOf];omega⟩;by_cases e:j=k
    ·subst e;rw[HT.o] at hx
     cases hx
     exact b2.o
    ·exact HQ.o j x (by omega) hx
  ·obtain rfl:k=p.vars.length:=by omega
   have HE:=Z (show ¬ K7 p.vars from fun⟨v,hv,h⟩=>by
    obtain⟨i,X,rfl⟩:=List.getElem_of_mem hv;have:=HQ.o i _ X (List.getElem?_eq_getElem X);omega)
   obtain⟨z,G⟩:=Z2 (z.o.grow GL.o) (G.o.trans GL.o);have y0:=z.o.at 0 rfl;have y1:=z.o.at 1 rfl;clear HQ GL;go_wp2_with fail;clear y0 y1;refine(Y1 wr _ p q c y (HP.o.grow G.o) (HY.o.grow G.o) Y.o HK.o).mono ?_;rintro _ w3 ⟨r3,rfl,g3,B,u,rfl,c6,ho,J⟩;obtain⟨u0,rfl,J⟩:=N5 J;have B7:=Ja.new w3 #[.slice (some ⟨B,0,none⟩) p.vars.length p.vars.length] 33;have T:=box3 (w3.alloc (.cells #[.slice (some ⟨B,0,none⟩) p.vars.length p.vars.length] 33)) (.bool u0.n) (.slice u0.p u0.k u0.c) (.slice u0.q u0.m u0.e) 68;simp only[World.size_alloc] at T;have E:=Z (show Gr w _∧Ja _ n #[.slice P p.vars.length R,.slice Q p.rows.length S]∧Ja _ w3.heap.size #[.slice (some ⟨B,0,none⟩) p.vars.length p.vars.length]∧Jn _ (w3.heap.size+1) (.bool u0.n) (.slice u0.p u0.k u0.c) (.slice u0.q u0.m u0.e)∧Jq _ B p.vars.length (combA p y) 80∧RatC _ u0.v (combB p y) from
    ⟨G.o.trans (g3.trans (B7.1.trans T.1)),z.o.grow (g3.trans (B7.1.trans T.1)),B7.2.grow T.1,T.2,ho.grow (B7.1.trans T.1),J.grow (B7.1.trans T.1)⟩)
   clear ho J g3 B7 T z G c6;unfold RatM.v;go_wp2_with fail;generalize w3.heap.size+1=b8 at E ⊢;generalize w3.heap.size=s at E ⊢;generalize (w3.alloc _).alloc _=A at E ⊢;have D:Gr A A.drew:=(Gr.refl _).drew;have a:=Z (show Gr w A.drew∧Ja A.drew n #[.slice P p.vars.length R,.slice Q p.rows.length S]∧Ja A.drew s #[.slice (some ⟨B,0,none⟩) p.vars.length p.vars.length]∧Jn A.drew b8 (.bool u0.n) (.slice u0.p u0.k u0.c) (.slice u0.q u0.m u0.e)∧Jq A.drew B p.vars.length (combA p y) 80∧RatC A.drew u0.v (combB p y) from
    ⟨E.o.1.trans D,E.o.2.1.grow D,E.o.2.2.1.grow D,E.o.2.2.2.1.grow D,E.o.2.2.2.2.1.grow D,E.o.2.2.2.2.2.grow D⟩)
   clear D E;have q0:∀ w',(Ja w' n #[.slice P p.vars.length R,.slice Q p.rows.length S]∧Ja w' s #[.slice (some ⟨B,0,none⟩) p.vars.length p.vars.length])→w'.cell? ⟨n,0,none⟩=some (.slice P p.vars.length R):=fun w' h=>h.1.at 0 rfl;have q1:∀ w',(Ja w' n #[.slice P p.vars.length R,.slice Q p.rows.length S]∧Ja w' s #[.slice (some ⟨B,0,none⟩) p.vars.length p.vars.length])→w'.cell? ⟨n,1,none⟩=some (.slice Q p.rows.length S):=fun w' h=>h.1.at 1 rfl;have q2:∀ w',(Ja w' n #[.slice P p.vars.length R,.slice Q p.rows.length S]∧Ja w' s #[.slice (some ⟨B,0,none⟩) p.vars.length p.vars.length])→w'.cell? ⟨s,0,none⟩=some (.slice (some ⟨B,0,none⟩) p.vars.length p.vars.length):=fun w' h=>h.2.at 0 rfl;have a1:Ja A.drew n #[.slice P p.vars.length R,.slice Q p.rows.length S]∧Ja A.drew s #[.slice (some ⟨B,0,none⟩) p.vars.length p.vars.length]:=⟨a.o.2.1,a.o.2.2.1⟩
   refine LateN.Si (fun w'=>Ja w' n #[.slice P p.vars.length R,.slice Q p.rows.length S]∧Ja w' s #[.slice (some ⟨B,0,none⟩) p.vars.length p.vars.length]) a1 (fun _ _ h g=>⟨h.1.grow g,h.2.grow g⟩) infNew 60 [0,1,2,3] [(4,0),(5,0),(6,1),(7,1),(8,1),(9,2),(10,0),(11,1)] (by kernel_rfl) (by kernel_rfl) rfl (by kernel_rfl) (fun _ _ d _ _ h=>by cases d<;>exact h) (fun _ _ d _ _ h=>by cases d<;>exact h) ?_;clear a1;have b0:A.heap.size=A.drew.heap.size:=rfl;rw[b0];clear b0;generalize A.drew=W4 at a ⊢;have b3:=Z (show n < W4.heap.size∧s < W4.heap.size∧b8 < W4.heap.size∧w.heap.size≤W4.heap.size from⟨a.o.2.1.lt,a.o.2.2.1.lt,a.o.2.2.2.1.lt,a.o.1.size⟩);repeat(refine LateN.Sh (v:=?_) rfl rfl (fun w' hg=>?_) (fun K f=>?_);rotate_left;(go_simp;rfl);go_simp;refine f _ ?_;clear f K)
   refine LateN.Sg ⟨fun i X=>?_,?_⟩
   ·simp at X;subst X;exact⟨_,rfl,rfl,fun w'=>by go_simp;exact⟨rfl,rfl⟩⟩
   refine LateN.Lt rfl rfl (fun K f w5 F=>?_);go_simp;refine(J2F w5 _ p.vars.length (fun j => - combA p y j) ⟨_,_,rfl,enters_of Tryz.func93 (by kernel_rfl) rfl,fun w' g i X=>J2D w' s B p.vars.length i (combA p y) (a.o.2.2.1.grow (F.trans g)) (a.o.2.2.2.2.1.grow (F.trans g)) X (by omega)⟩ (fun i X=>No (Y.o.a _ i (Nat.le_refl _))) (by omega)).mono ?_;rintro _ w6 ⟨_,rfl,M,b9,rfl,-,h9⟩;refine⟨fun _=>M,⟨a.o.2.1.grow (F.trans M),a.o.2.2.1.grow (F.trans M)⟩,f _ _ _ ?_⟩;clear f K;obtain⟨a,H9⟩:=Z2 (show Gr w w6∧Ja w6 n _∧Ja w6 s _∧Jn w6 b8 _ _ _∧RatC w6 u0.v (combB p y) from⟨a.o.1.trans (F.trans M),a.o.2.1.grow (F.trans M),a.o.2.2.1.grow (F.trans M),a.o.2.2.2.1.grow (F.trans M),a.o.2.2.2.2.2.grow (F.trans M)⟩) h9;clear F M h9;refine LateN.Lt rfl rfl (fun K f w7 I=>?_);go_simp;refine(Y2 w7 _ p _ _ (fun j => - combA p y j) (HP.o.grow (a.o.1.trans I)) ((H9.o.grow I).read (by omega)) HK.o HW.o (fun j hj=>Sz.mono' (Y.o.l j hj) (by decide)) (fun j=>Sz.mono' (Y.o.l0 j) (by decide))).mono ?_;rintro _ w8 ⟨r8,rfl,N,h8⟩;rcases h8 with⟨h,_⟩|⟨_,u1,rfl,h8⟩
   ·exact absurd h HE.o
   obtain⟨u2,rfl,h8⟩:=N5 h8;refine⟨fun _=>N,⟨a.o.2.1.grow (I.trans N),a.o.2.2.1.grow (I.trans N)⟩,f _ _ _ ?_⟩;clear f K;obtain⟨a,H8⟩:=Z2 (show Gr w w8∧Ja w8 n _∧Ja w8 s _∧Jn w8 b8 _ _ _∧RatC w8 u0.v (combB p y) from⟨a.o.1.trans (I.trans N),a.o.2.1.grow (I.trans N),a.o.2.2.1.grow (I.trans N),a.o.2.2.2.1.grow (I.trans N),a.o.2.2.2.2.grow (I.trans N)⟩) h8;clear I N h8 H9;unfold RatM.v;refine LateN.O1 (v:=?_) rfl rfl (fun w' hg=>?_) (fun K f=>?_);rotate_left
   ·go_simp;rfl
   go_simp;refine f _ _ ?_;clear f K;refine LateN.O1 (v:=?_) rfl rfl (fun w' hg=>?_) (fun K f=>?_);rotate_left
   ·go_simp;rfl
   go_simp;refine f _ _ ?_;clear f K;refine LateN.O1 (v:=?_) rfl rfl (fun w' hg=>?_) (fun K f=>?_);rotate_left
   ·go_simp;rfl
   go_simp;refine f _ _ ?_;clear f K;refine LateN.Od rfl (fun K w9 m g9 a3 b1 f=>?_);have b6:=Z (show W4.heap.size≤m from Nat.le_of_not_lt fun h=>b1 (.inl (.inl h)));unfold infNew;go_simp;refine f _ _ ?_;clear f K;refine LateN.Lt rfl rfl (fun K f l V=>?_);have L:=Z (show Jn l m (.bool false) (.slice none 0 0) (.slice none 0 0) from⟨_,Jy.grow a3 V⟩);have b4:=Z (show w.heap.size≤m∧n≠m∧s≠m∧b8≠m from by
    have h1:=b6.o;have h2:=b3.o;exact⟨by omega,by omega,by omega,by omega⟩)
   have a:=Z (show Gr w l∧Ja l n _∧Ja l s _∧Jn l b8 _ _ _∧RatC l u0.v (combB p y)∧RatC l u2.v _ from⟨a.o.1.trans (g9.trans V),a.o.2.1.grow (g9.trans V),a.o.2.2.1.grow (g9.trans V),a.o.2.2.2.1.grow (g9.trans V),a.o.2.2.2.2.grow (g9.trans V),H8.o.grow (g9.trans V)⟩);clear g9 V a3 b1 H8;have f0:=L.o.load.1;have f1:=L.o.load.2.1;have f2:=L.o.load.2.2;have f3:=L.o.f0 0;have f4:=L.o.f0 1;have f5:=L.o.f0 2;have C:=Z (show Gr w (set3 l m (.bool u2.n) (.slice u2.p u2.k u2.c) (.slice u2.q u2.m u2.e))∧(Ja (set3 l m (.bool u2.n) (.slice u2.p u2.k u2.c) (.slice u2.q u2.m u2.e)) n _∧Ja (set3 l m (.bool u2.n) (.slice u2.p u2.k u2.c) (.slice u2.q u2.m u2.e)) s _)∧Jn (set3 l m (.bool u2.n) (.slice u2.p u2.k u2.c) (.slice u2.q u2.m u2.e)) b8 _ _ _∧Jn (set3 l m (.bool u2.n) (.slice u2.p u2.k u2.c) (.slice u2.q u2.m u2.e)) m (.bool u2.n) (.slice u2.p u2.k u2.c) (.slice u2.q u2.m u2.e)∧RatC (set3 l m (.bool u2.n) (.slice u2.p u2.k u2.c) (.slice u2.q u2.m u2.e)) u0.v (combB p y)∧RatC (set3 l m (.bool u2.n) (.slice u2.p u2.k u2.c) (.slice u2.q u2.m u2.e)) u2.v _ from by
    have J:=upd3 l m (.bool u2.n) (.slice u2.p u2.k u2.c) (.slice u2.q u2.m u2.e);have k:=b4.o;obtain⟨s1,s2,s3,s4,s5,s6⟩:=a.o;exact⟨Ks s1 k.1 _ _ _,⟨s2.upd J k.2.1,s3.upd J k.2.2.1⟩,s4.upd J k.2.2.2,L.o.set _ _ _,s5.upd L.o.noInt J,s6.upd L.o.noInt J⟩)
   go_simp;unfold set3 at C;refine⟨fun h=>Bool.noConfusion h,C.o.2.1,f _ _ _ ?_⟩;clear f K f0 f1 f2 f3 f4 f5;generalize ((l.setCell _ _).setCell _ _).setCell _ _=a2 at C ⊢;refine LateN.O1 (v:=?_) rfl rfl (fun w' hg=>?_) (fun K f=>?_);rotate_left
   ·go_simp;rfl
   go_simp;refine f _ _ ?_;clear f K;refine LateN.Sf ?_;clear q0 q1 q2;go_wp2_with fail;have d0:=C.o.2.2.2.1.c0;have d1:=C.o.2.2.2.1.c1;have d2:=C.o.2.2.2.1.c2;have d3:=C.o.2.2.1.c0;have d4:=C.o.2.2.1.c1;have d5:=C.o.2.2.1.c2;have D:Gr a2 a2.drew:=(Gr.refl _).drew;have U:=Z D;refine Jl [(0,true),(1,true),(2,true),(3,true),(4,false),(5,false),(6,true),(7,true),(8,true)] ?_;repeat(refine Jc D (h:=?_))
   refine Je (k:=Rt _ _ (combB p y) _ 80 (RatC.v (C.o.2.2.2.2.1.grow U.o) (Y.o.b _ (Nat.le_refl _))) rfl (by decide)) (h:=?_);rintro e0 e1 a4 a6;have U:=Z (U.o.trans a4);obtain⟨cs,a0⟩:∃ c,cmpQ (leastS p.vars (fun j => - combA p y j)) (- combB p y)=c:=⟨_,rfl⟩
   refine Je (k:=Ur _ _ _ (leastS p.vars (fun j => - combA p y j)) (- combB p y) cs 80 80 (RatC.v (C.o.2.2.2.2.2.grow U.o) (Y.o.l _ (Nat.le_refl _))) (a6.v (No (Y.o.b _ (Nat.le_refl _)))) a0 (by decide) (by decide)) (h:=?_);rintro _ e2 a5 rfl;have U:=Z (U.o.trans a5);have g4:=U.o;have b5:=Z (J2y a0);repeat(refine Jc g4 (h:=?_))
   refine Jg ?_;clear d0 d1 d2 d3 d4 d5 D g4 a4 a5 a6 a0;go_wp2_with fail;go_ret;refine⟨_,rfl,C.o.1.trans U.o,decide (0 < cs),rfl,?_⟩;rw[decide_eq_true_eq,b5.o];exact⟨fun h=>⟨H1.o,.inr (by grind)⟩,fun h=>by
    rcases h.2 with h|h
    ·exact absurd h HE.o
    ·grind⟩
end Prf
end Go.Proofs.YtcjgimlcefhhmaaGreatDoor
