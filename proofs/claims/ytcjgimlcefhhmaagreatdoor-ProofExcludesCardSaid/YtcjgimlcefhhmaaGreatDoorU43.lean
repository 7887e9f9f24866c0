/- Texts: PyF. -/
import Derived.Shelf.Abstract
import Derived.Shelf.RegionOpen
import Derived.WalkKit
import Derived.OwnWalkIn
import Derived.TacticsInMore
import Derived.LoopNIn
import Derived.LoopIn
import Derived.Test.YtcjgimlcefhhmaaGreatDoorU5
import Derived.Test.YtcjgimlcefhhmaaGreatDoorU23
import Derived.Test.YtcjgimlcefhhmaaGreatDoorU41
import Derived.Test.YtcjgimlcefhhmaaGreatDoorU42
set_option linter.unusedVariables false
set_option linter.unusedSimpArgs false
set_option maxRecDepth 100000
set_option maxHeartbeats 12800000
namespace Go.Proofs.YtcjgimlcefhhmaaGreatDoor
namespace Prf
open Go.RowKit Go.Lib
attribute [local go_sem] Oper.semAt_some
def strLen (w:World)(b:Nat):Nat:=match w.cell? ⟨b,0,none⟩ with
 | some (.string s)=>s.size
 | _=>0
structure Pd (W:World)(bs bp bv k:Nat):Prop where
 s:Ja W bs #[.string ⟨(exRm k).toArray⟩]
 p:Ja W bp #[.string ⟨#[10]⟩]
 v:Ja W bv #[.int .i64 0]
theorem J3A (n0 bo bs bp bv l:Nat)(hn:bs < n0∧bp < n0∧bv < n0∧bs≠bo∧bp≠bo∧bv≠bo∧bs≠bp∧bs≠bv)(J:List (List UInt8)→World→Prop)(W:World)(h0:J [] W)(he:Pd W bs bp bv 0)
  (hst:∀ pre W W',J pre W→NoU W bs→W.grownBy W' (some bs)→J pre W')
  (hY:∀ pre x W1,pre ++ [x] <+: exAll→J pre W1→YieldAt Fence.wide 0 Tryz.prog l #[.string ⟨x.toArray⟩] W1 (fun e W'=>e = .returned (.bool true)∧J (pre ++ [x]) W'∧∀ b,b < n0→b≠bo→W'.heap[b]?=W1.heap[b]?)):
  CallsIn Fence.wide 0 Tryz.prog 111 #[.func (.yield l) #[] #[],.pointer (some ⟨bp,0,none⟩),.pointer (some ⟨bs,0,none⟩),.pointer (some ⟨bv,0,none⟩)] W (fun e W'=>(∃ v,e = .returned v)∧J exAll W'):=by
 have HE:=ξ he
 have HN:=ξ hn
 have HST:=ξ hst
 have HY:=ξ hY
 have c0:=he.p.at 0 rfl
 clear he hn hst hY
 refine callsIn_of_wp Tryz.func111 rfl trivial ?_ rfl
 simp only[Tryz.ntmps111,List.size_toArray,List.length_cons,List.length_nil,Nat.reduceAdd,Nat.reduceSub,Array.replicate_succ,Array.replicate_zero,List.push_toArray,List.append_toArray,List.nil_append,List.cons_append]
 gi_wp2
 clear c0
 gi_loopw [7] (fun i wr=>∃ (k:Nat) (W1:World),W1=wr∧k≤4∧J (exAll.take k) W1∧Pd W1 bs bp bv k) (fun i wr=>strLen wr bs)
 case atStart=>exact⟨0,_,rfl,by decide,h0,HE.out⟩
 case round=>
  obtain⟨k,W1,hW1,hk,hJ,he⟩:=hrel
  subst hW1
  have HJ:=ξ hJ
  have HE:=ξ he
  have s0:=he.s.at 0 rfl
  have p0:=he.p.at 0 rfl
  have v0:=he.v.at 0 rfl
  have f0:=Ja.f he.s 0
  clear hJ he
  by_cases h4:k < 4
  ·have hix:=J2P k h4
   have hpre:=J2R k h4
   have hsuf:=J2S k h4
   have hsz:=J2T k h4
   have hsz2:=J2Q k
   have hjl:(exJ k).length≤(exRm k).length:=by omega
   have hz0:(⟨(exRm k).toArray⟩:ByteArray).size=(exRm k).length:=by show(exRm k).toArray.size=_;simp
   obtain⟨nj,hnj⟩:∃ n,(exJ k).length=n:=⟨_,rfl⟩
   obtain⟨nr,hnr⟩:∃ n,(exRm k).length=n:=⟨_,rfl⟩
   rw[hnj] at hix hpre hsuf hsz hjl
   rw[hnr] at hsuf hsz hsz2 hjl hz0
   have hlt:¬ (nj:Int) < 0:=by omega
   have hw1:IntKind.i64.wrap ((nj:Int)+0)=(nj:Int):=by rw[IntKind.wrap_i64];omega
   have hw2:IntKind.i64.wrap ((nj:Int)+1)=(nj:Int)+1:=by rw[IntKind.wrap_i64];omega
   have hb1:(nj:Int)≤(nr:Int):=by omega
   have hb2:(nj:Int)+1≤(nr:Int):=by omega
   have hb3:(0:Int)≤(nj:Int)+1:=by omega
   obtain⟨fn,tmps,assign,body,hy,hR⟩:=HY.out (exAll.take k) (exJ k) W1 (by rw[Qm k (by omega)];exact List.take_prefix _ _) HJ.out
   gi_wp2
   refine⟨trivial,rfl,?_⟩
   refine(callsIn_wide.2 (Tryz.strings_Index_one ⟨(exRm k).toArray⟩ 10 W1)).mono ?_
   rintro _ W2 ⟨rfl,rfl⟩
   rw[show(⟨(exRm k).toArray⟩:ByteArray).data.toList=exRm k from by simp,hix]
   gi_wp2
   refine⟨rfl,?_⟩
   refine hR.mono ?_
   rintro e W3 ⟨rfl,hJ3,hk3⟩
   rw[Qm k (by omega)] at hJ3
   have E3:=ξ (show Pd W3 bs bp bv k from by
    have n:=HN.out
    exact⟨Kt HE.out.s (hk3 bs n.1 n.2.2.2.1),Kt HE.out.p (hk3 bp n.2.1 n.2.2.2.2.1),Kt HE.out.v (hk3 bv n.2.2.1 n.2.2.2.2.2.1)⟩)
   have s3:=E3.out.s.at 0 rfl
   have p3:=E3.out.p.at 0 rfl
   have f3:=Ja.f E3.out.s 0
   have HJ3:=ξ hJ3
   clear s0 p0 v0 f0 hy hR hJ3 hk3
   gi_wp2
   have n:=HN.out
   have hu:=J8 W3 bs 0 (.string ⟨(exRm (k+1)).toArray⟩)
   have hS:=E3.out.s.set 0 (.string ⟨(exRm (k+1)).toArray⟩)
   have hg:=HST.out _ _ _ HJ3.out (NoU.of E3.out.s (by simp)) (Jl.set bs W3 0 (.string ⟨(exRm (k+1)).toArray⟩))
   have hE:Pd (W3.setCell ⟨bs,0,none⟩ (.string ⟨(exRm (k+1)).toArray⟩)) bs bp bv (k+1):=⟨by simpa using hS,E3.out.p.upd hu n.2.2.2.2.2.2.1.symm,E3.out.v.upd hu n.2.2.2.2.2.2.2.symm⟩
   refine⟨⟨k+1,_,rfl,by omega,hg,hE⟩,?_⟩
   have e1:strLen (W3.setCell ⟨bs,0,none⟩ (.string ⟨(exRm (k+1)).toArray⟩)) bs=(exRm (k+1)).length:=by
    unfold strLen
    rw[hE.s.at 0 rfl]
    show(exRm (k+1)).toArray.size=_
    simp
   have e2:∀ W0,W0=W2→strLen W0 bs=(exRm k).length:=by
    rintro _ rfl
    unfold strLen
    rw[HE.out.s.at 0 rfl]
    show(exRm k).toArray.size=_
    simp
   have e3:=e2 _ rfl
   rw[e1,e3,hnr]
   omega
  ·obtain rfl:k=4:=by omega
   have hix:=J2O
   obtain⟨fn,tmps,assign,body,hy,hR⟩:=HY.out (exAll.take 4) (exJ 4) W1 (by rw[Qm 4 (by omega)];exact List.take_prefix _ _) HJ.out
   gi_wp2
   refine⟨trivial,rfl,?_⟩
   refine(callsIn_wide.2 (Tryz.strings_Index_one ⟨(exRm 4).toArray⟩ 10 W1)).mono ?_
   rintro _ W2 ⟨rfl,rfl⟩
   rw[show(⟨(exRm 4).toArray⟩:ByteArray).data.toList=exRm 4 from by simp,hix]
   have he4:exRm 4=exJ 4:=by decide
   rw[he4]
   gi_wp2
   refine⟨rfl,?_⟩
   refine hR.mono ?_
   rintro e W3 ⟨rfl,hJ3,hk3⟩
   rw[Qm 4 (by omega)] at hJ3
   have HJ3:=ξ hJ3
   clear s0 p0 v0 f0 hy hR hJ3 hk3
   gi_wp2
   go_end0
   exact⟨⟨_,rfl⟩,HJ3.out⟩
end Prf
end Go.Proofs.YtcjgimlcefhhmaaGreatDoor
