/- Texts: PyF. -/
import Derived.Shelf.RegionOpen
import Derived.OwnWalkIn
import Derived.LoopNIn
import Derived.LoopIn
import Derived.Test.YtcjgimlcefhhmaaGreatDoorC32
import Derived.Test.YtcjgimlcefhhmaaGreatDoorC33
set_option linter.unusedVariables false
set_option linter.unusedSimpArgs false
set_option maxRecDepth 100000
set_option maxHeartbeats 12800000
namespace Go.Proofs.YtcjgimlcefhhmaaGreatDoor
namespace Prf
open Go.RowKit Go.Lib
attribute [local go_sem] Oper.semAt_some
def strLen (w:World)(b:Nat):Nat:=match w.cell? ⟨b,0,none⟩ with
 | some (.string s)=>s.size
 | _=>0
structure P2 (W:World)(bs bp bv k:Nat):Prop where
 s:Ja W bs #[.string ⟨(exRm k).toArray⟩]
 p:Ja W bp #[.string ⟨#[10]⟩]
 v:Ja W bv #[.int .i64 0]
theorem J3R (z u a f g l:Nat)(N:a < z∧f < z∧g < z∧a≠u∧f≠u∧g≠u∧a≠f∧a≠g)(J:List (List UInt8)→World→Prop)(W:World)(h0:J [] W)(d:P2 W a f g 0)
  (P:∀ s W m,J s W→NoU W a→W.grownBy m (some a)→J s m)
  (L:∀ s x c,s ++ [x] <+: exAll→J s c→YieldAt Fence.wide 0 Tryz.prog l #[.string ⟨x.toArray⟩] c (fun e m=>e = .returned (.bool true)∧J (s ++ [x]) m∧∀ b,b < z→b≠u→m.heap[b]?=c.heap[b]?)):
  CallsIn Fence.wide 0 Tryz.prog 111 #[.func (.yield l) #[] #[],.pointer (some ⟨f,0,none⟩),.pointer (some ⟨a,0,none⟩),.pointer (some ⟨g,0,none⟩)] W (fun e m=>(∃ v,e = .returned v)∧J exAll m):=by
 obtain⟨p,D,X,E⟩:=Z4 d N P L;have c0:=d.p.at 0 rfl;clear d N P L;refine callsIn_of_wp Tryz.func111 rfl trivial ?_ rfl;simp only[Tryz.ntmps111,List.size_toArray,List.length_cons,List.length_nil,Nat.reduceAdd,Nat.reduceSub,Array.replicate_succ,Array.replicate_zero,List.push_toArray,List.append_toArray,List.nil_append,List.cons_append]
 gi_wp2
 clear c0
 gi_loopw [7] (fun i wr=>∃ (k:Nat) (c:World),c=wr∧k≤4∧J (exAll.take k) c∧P2 c a f g k) (fun i wr=>strLen wr a)
 case atStart=>exact⟨0,_,rfl,by decide,h0,p.o⟩
 case round=>
  obtain⟨k,c,a1,hk,K,d⟩:=hrel;subst a1;obtain⟨C,p⟩:=Z2 K d;have V:=d.s.at 0 rfl;have U:=d.p.at 0 rfl;have v0:=d.v.at 0 rfl;have H:=Ja.f d.s 0;clear K d;by_cases w:k < 4
  ·have y:=J3c k w;have a4:=J3e k w;have Q:=J3f k w;have R:=J3g k w;have a5:=J3d k;have M:(exJ k).length≤(exRm k).length:=by omega
   have a6:(⟨(exRm k).toArray⟩:ByteArray).size=(exRm k).length:=by show(exRm k).toArray.size=_;simp
   obtain⟨h,a3⟩:∃ n,(exJ k).length=n:=⟨_,rfl⟩
   obtain⟨T,O⟩:∃ n,(exRm k).length=n:=⟨_,rfl⟩
   rw[a3] at y a4 Q R M;rw[O] at Q R a5 M a6;have b1:¬ (h:Int) < 0:=by omega
   have b2:IntKind.i64.wrap ((h:Int)+0)=(h:Int):=by rw[IntKind.wrap_i64];omega
   have b3:IntKind.i64.wrap ((h:Int)+1)=(h:Int)+1:=by rw[IntKind.wrap_i64];omega
   have a8:(h:Int)≤(T:Int):=by omega
   have a9:(h:Int)+1≤(T:Int):=by omega
   have b0:(0:Int)≤(h:Int)+1:=by omega
   obtain⟨fn,a7,Y,a0,B,t⟩:=E.o (exAll.take k) (exJ k) c (by rw[Rb k (by omega)];exact List.take_prefix _ _) C.o
   gi_wp2
   refine⟨trivial,rfl,?_⟩;refine(callsIn_wide.2 (Tryz.strings_Index_one ⟨(exRm k).toArray⟩ 10 c)).mono ?_;rintro _ G ⟨rfl,rfl⟩;rw[show(⟨(exRm k).toArray⟩:ByteArray).data.toList=exRm k from by simp,y]
   gi_wp2
   refine⟨rfl,?_⟩;refine t.mono ?_;rintro e q ⟨rfl,o,r⟩;rw[Rb k (by omega)] at o;have j:=Z (show P2 q a f g k from by
    have n:=D.o;exact⟨K3 p.o.s (r a n.1 n.2.2.2.1),K3 p.o.p (r f n.2.1 n.2.2.2.2.1),K3 p.o.v (r g n.2.2.1 n.2.2.2.2.2.1)⟩)
   have s3:=j.o.s.at 0 rfl;have p3:=j.o.p.at 0 rfl;have f3:=Ja.f j.o.s 0;have A:=Z o;clear V U v0 H B t o r
   gi_wp2
   have n:=D.o;have S:=J5 q a 0 (.string ⟨(exRm (k+1)).toArray⟩);have hS:=j.o.s.set 0 (.string ⟨(exRm (k+1)).toArray⟩);have hg:=X.o _ _ _ A.o (NoU.of j.o.s (by simp)) (Jp.set a q 0 (.string ⟨(exRm (k+1)).toArray⟩));have I:P2 (q.setCell ⟨a,0,none⟩ (.string ⟨(exRm (k+1)).toArray⟩)) a f g (k+1):=⟨by simpa using hS,j.o.p.upd S n.2.2.2.2.2.2.1.symm,j.o.v.upd S n.2.2.2.2.2.2.2.symm⟩
   refine⟨⟨k+1,_,rfl,by omega,hg,I⟩,?_⟩;have e1:strLen (q.setCell ⟨a,0,none⟩ (.string ⟨(exRm (k+1)).toArray⟩)) a=(exRm (k+1)).length:=by
    unfold strLen;rw[I.s.at 0 rfl];show(exRm (k+1)).toArray.size=_;simp
   have e2:∀ F,F=G→strLen F a=(exRm k).length:=by
    rintro _ rfl;unfold strLen;rw[p.o.s.at 0 rfl];show(exRm k).toArray.size=_;simp
   have e3:=e2 _ rfl;rw[e1,e3,O];omega
  ·obtain rfl:k=4:=by omega
   have y:=J3b;obtain⟨fn,a7,Y,a0,B,t⟩:=E.o (exAll.take 4) (exJ 4) c (by rw[Rb 4 (by omega)];exact List.take_prefix _ _) C.o
   gi_wp2
   refine⟨trivial,rfl,?_⟩;refine(callsIn_wide.2 (Tryz.strings_Index_one ⟨(exRm 4).toArray⟩ 10 c)).mono ?_;rintro _ G ⟨rfl,rfl⟩;rw[show(⟨(exRm 4).toArray⟩:ByteArray).data.toList=exRm 4 from by simp,y];have a2:exRm 4=exJ 4:=by decide
   rw[a2]
   gi_wp2
   refine⟨rfl,?_⟩;refine t.mono ?_;rintro e q ⟨rfl,o,r⟩;rw[Rb 4 (by omega)] at o;have A:=Z o;clear V U v0 H B t o r
   gi_wp2
   go_end0
   exact⟨⟨_,rfl⟩,A.o⟩
end Prf
end Go.Proofs.YtcjgimlcefhhmaaGreatDoor
