/- Texts: PoA. -/
import Derived.Test.YtcjgimlcefhhmaaGreatDoorProg
import Derived.WalkKit
import Derived.ProofKit
import Derived.OpenShut
import Derived.JoinedCond
import Derived.Lib.SmallJoins
import Derived.ChangeSlices
import Derived.Carry
import Derived.Test.YtcjgimlcefhhmaaGreatDoorU20
set_option linter.unusedVariables false
set_option linter.unusedSimpArgs false
set_option maxRecDepth 100000
set_option maxHeartbeats 12800000
namespace Go.Proofs.YtcjgimlcefhhmaaGreatDoor
namespace Prf
open Go.ChangeShapes Go.WideShapes Go.ChangeAt Go.RowKit Go.Joins
def Jq {H:Type}(t:TypeId)(d:DataW H):Prop:=(d.weights Tryz.prog t).all (·≤reachBytes)=true
theorem J3O {α:Type}{n:Nat}{Q:Nat→α→Prop}(h:∀ i,i < n→∃ y,Q i y):∃ l:List α,l.length=n∧∀ i y,l[i]?=some y→Q i y:=by
 induction n with
 | zero=>exact⟨[],rfl,by simp⟩
 | succ n ih=>
  obtain⟨l,hl,hq⟩:=ih (fun i hi=>h i (by omega))
  obtain⟨y,hy⟩:=h n (by omega)
  refine⟨l ++ [y],by simp[hl],fun i z hz=>?_⟩
  rcases Nat.lt_or_ge i l.length with hi|hi
  ·rw[List.getElem?_append_left hi] at hz
   exact hq i z hz
  ·rw[List.getElem?_append_right hi] at hz
   have:i - l.length=0:=by
    rcases Nat.eq_zero_or_pos (i - l.length) with h|h
    ·exact h
    ·rw[List.getElem?_eq_none (by simp;omega)] at hz;cases hz
   rw[this] at hz
   simp at hz
   subst hz
   rw[show i=n by omega]
   exact hy
theorem J15 {H:Type}{e:TypeId}{d:DataW H}:∀ {l:List (DataW H)},d ∈ l→(DataW.weightsAll Tryz.prog e l).all (·≤reachBytes)=true→Jq e d
 | [],h,_=>by cases h
 | x :: l,h,hw=>by
  unfold DataW.weightsAll at hw
  rw[List.all_append,Bool.and_eq_true] at hw
  rcases List.mem_cons.1 h with rfl|h
  ·exact hw.1
  ·exact J15 h hw.2
section
variable {H:Type}{enc:TypeId × Value→H}{w:World}{fuel:Nat}{cs:List Value}{x:DataW H × List MemPlace}
theorem Nm {α:Type}{en:α→List Value}{sz:Nat}{t e:TypeId}{R:α→Prop}(ht:Tryz.prog.underlying t=some (.slice e))(hc:Tryz.prog.cellsOf e=sz)(hsz:0 < sz)(hby:4≤Tryz.prog.bytesOf e)(hlen:∀ x,(en x).length=sz)
  (hel:∀ fuel cs (x:DataW H × List MemPlace),DataW.trod enc Tryz.prog w 0 (fun _=>true) true fuel e cs=some x→Jq e x.1→∃ y,cs=en y∧R y)
  (h:DataW.trod enc Tryz.prog w 0 (fun _=>true) true fuel t cs=some x) (hw:Jq t x.1):
  ∃ (p:Option Addr) (l:List α) (c:Nat),cs=[.slice p l.length c]∧SlL w sz en (.slice p l.length c) l∧l.length≤35184372088832∧∀ y ∈ l,R y:=by
 rcases DataW.trod_slice ht h with⟨rfl,rfl⟩|⟨a,len,cap,elems,rest,n,rfl,rfl,rfl,_,hl,hm,hlen',hel',hsp,_⟩
 ·exact⟨none,[],0,rfl,SlL.nil w,by simp,by simp⟩
 ·obtain⟨hrl,hr⟩:=hsp rfl
  unfold Jq at hw
  simp only[DataW.weights,ht,List.all_cons,List.all_append,Bool.and_eq_true,List.length_map,decide_eq_true_eq] at hw
  obtain⟨hw1,hw2,_⟩:=hw
  rw[hc] at hel' hr
  have each:∀ i,i < len→∃ y,w.cells? 0 (a.add (i * sz)) sz=some (en y)∧R y:=fun i hi=>by
   have h1:=hel' i hi
   have hi':i < elems.length:=by omega
   rw[List.getElem?_eq_getElem hi',Option.bind_eq_some_iff] at h1
   obtain⟨cs',hcs,hy⟩:=h1
   obtain⟨y,rfl,hR⟩:=hel _ _ _ hy (J15 (List.mem_map.2 ⟨_,List.getElem_mem hi',rfl⟩) hw2)
   exact⟨y,hcs,hR⟩
  obtain⟨l,hll,hq⟩:=J3O each
  have hspot:0 < cap→a.spot=none:=fun h0=>by
   have h1:∃ cs',w.cells? 0 a sz=some cs':=by
    by_cases h2:0 < len
    ·obtain⟨y,hy,_⟩:=each 0 h2
     exact⟨_,by simpa[Addr.add] using hy⟩
    ·have h3:=hr 0 (by omega)
     have h4:0 < rest.length:=by omega
     rw[List.getElem?_eq_getElem h4,Option.bind_eq_some_iff] at h3
     obtain⟨cs',hcs,_⟩:=h3
     have e:(len+0) * sz=0:=by(have h0:len=0:=(by omega));subst h0;simp
     rw[e] at hcs
     exact⟨cs',by simpa[Addr.add] using hcs⟩
   obtain⟨cs',h1⟩:=h1
   obtain⟨_,h2,h3⟩:=World.cells?_some h1
   have h4:=h3 0 hsz
   rw[List.getElem?_eq_getElem (by omega)] at h4
   unfold World.cell? at h4
   simp only[Addr.add,if_true] at h4
   cases hs:a.spot with
   | none=>rfl
   | some s=>
    rw[hs] at h4
    split at h4<;>simp at h4
  refine⟨some a,l,cap,by rw[hll],?_,?_,fun y hy=>?_⟩
  ·rw[hll]
   unfold SlL
   rw[hll]
   refine⟨by rw[Kv hlen,hll],some a,cap,rfl,hl,by simp only[maxLen] at hm;omega,?_⟩
   by_cases h0:cap=0
   ·exact .inl h0
   ·obtain⟨b,o,s⟩:=a
    have hs:=hspot (by omega)
    simp only at hs
    subst hs
    refine .inr ⟨b,o,rfl,fun j u hu=>?_⟩
    have hj:j < l.length * sz:=by
     have:=(List.getElem?_eq_some_iff.1 hu).1
     rwa [Kv hlen] at this
    have hi:j / sz < l.length:=by rw[Nat.div_lt_iff_lt_mul hsz];exact hj
    have hk:j % sz < sz:=Nat.mod_lt _ hsz
    have hx:l[j / sz]?=some l[j / sz]:=List.getElem?_eq_getElem hi
    have hg:=N5 hlen l (j / sz) _ (j % sz) hx hk
    have hd:j / sz * sz+j % sz=j:=Nat.div_add_mod' j sz
    rw[hd,hu] at hg
    obtain⟨hq1,_⟩:=hq _ _ hx
    obtain⟨_,_,h3⟩:=World.cells?_some hq1
    have h4:=h3 (j % sz) hk
    rw[Na,Na,Nat.add_assoc,hd,← hg] at h4
    exact h4
  ·have:(elems.length+rest.length) * 4≤(elems.length+rest.length) * Tryz.prog.bytesOf e:=Nat.mul_le_mul_left _ hby
   unfold reachBytes at hw1
   omega
  ·obtain⟨i,hi,e⟩:=List.getElem_of_mem hy
   exact(hq i y (by rw[List.getElem?_eq_getElem hi,e])).2
theorem one2 {α:Type}{l:List α}(h:l.length=2):∃ a0 a1,l=[a0,a1]:=by
 match l,h with
 | [a0,a1],_=>exact⟨a0,a1,rfl⟩
theorem one3 {α:Type}{l:List α}(h:l.length=3):∃ a0 a1 a2,l=[a0,a1,a2]:=by
 match l,h with
 | [a0,a1,a2],_=>exact⟨a0,a1,a2,rfl⟩
theorem one4 {α:Type}{l:List α}(h:l.length=4):∃ a0 a1 a2 a3,l=[a0,a1,a2,a3]:=by
 match l,h with
 | [a0,a1,a2,a3],_=>exact⟨a0,a1,a2,a3,rfl⟩
theorem one5 {α:Type}{l:List α}(h:l.length=5):∃ a0 a1 a2 a3 a4,l=[a0,a1,a2,a3,a4]:=by
 match l,h with
 | [a0,a1,a2,a3,a4],_=>exact⟨a0,a1,a2,a3,a4,rfl⟩
theorem one8 {α:Type}{l:List α}(h:l.length=8):∃ a0 a1 a2 a3 a4 a5 a6 a7,l=[a0,a1,a2,a3,a4,a5,a6,a7]:=by
 match l,h with
 | [a0,a1,a2,a3,a4,a5,a6,a7],_=>exact⟨a0,a1,a2,a3,a4,a5,a6,a7,rfl⟩
theorem cS:Tryz.prog.cellsOf 9=1:=by kernel_rfl
theorem cI:Tryz.prog.cellsOf 3=1:=by kernel_rfl
theorem cJ:Tryz.prog.cellsOf 2=1:=by kernel_rfl
theorem cBo:Tryz.prog.cellsOf 4=1:=by kernel_rfl
theorem cN:Tryz.prog.cellsOf 64=1:=by kernel_rfl
theorem cZ:Tryz.prog.cellsOf 66=2:=by kernel_rfl
theorem cC:Tryz.prog.cellsOf 45=4:=by kernel_rfl
theorem cR:Tryz.prog.cellsOf 33=1:=by kernel_rfl
theorem cT:Tryz.prog.cellsOf 40=1:=by kernel_rfl
theorem cL:Tryz.prog.cellsOf 34=1:=by kernel_rfl
theorem cV:Tryz.prog.cellsOf 22=1:=by kernel_rfl
theorem cW:Tryz.prog.cellsOf 23=1:=by kernel_rfl
theorem J4s (h:DataW.trod enc Tryz.prog w 0 (fun _=>true) true fuel 9 cs=some x):∃ s:List UInt8,cs=[.string ⟨s.toArray⟩]∧s.length≤9223372036854775807:=by
 obtain⟨s,rfl,_,hs⟩:=DataW.trod_string Tryz.underlying9 h
 exact⟨s.data.toList,by rw[Array.toArray_toList],by simpa[maxLen] using hs⟩
theorem Nk (h:DataW.trod enc Tryz.prog w 0 (fun _=>true) true fuel 3 cs=some x):∃ n:Int,cs=[.int .i64 n]∧I64 n:=by
 obtain⟨n,rfl,_,hw⟩:=DataW.trod_int Tryz.underlying3 h
 exact⟨n,rfl,by have:=bounds_i64 hw;exact this⟩
theorem Od (h:DataW.trod enc Tryz.prog w 0 (fun _=>true) true fuel 2 cs=some x):∃ n:Int,cs=[.int .i64 n]∧I64 n:=by
 obtain⟨n,rfl,_,hw⟩:=DataW.trod_int Tryz.underlying2 h
 exact⟨n,rfl,by have:=bounds_i64 hw;exact this⟩
def encU (n:Nat):List Value:=[.int .u32 (n:Int)]
theorem Xi (x:Nat):(encU x).length=1:=rfl
theorem J4t (h:DataW.trod enc Tryz.prog w 0 (fun _=>true) true fuel 153 cs=some x):∃ n:Nat,cs=encU n∧n < BB:=by
 obtain⟨n,rfl,_,hw⟩:=DataW.trod_int Tryz.underlying153 h
 have hw:0≤n∧n < 4294967296:=by
  simp[Lit.wf,IntKind.min,IntKind.max,IntKind.signed,IntKind.bits] at hw
  omega
 exact⟨n.toNat,by unfold encU;rw[Int.toNat_of_nonneg hw.1],by rw[Jc];omega⟩
theorem Zt (h:DataW.trod enc Tryz.prog w 0 (fun _=>true) true fuel 64 cs=some x)(hw:Jq 64 x.1):
  ∃ (p:Option Addr) (l:List Nat) (c:Nat),cs=[.slice p l.length c]∧NatL w (.slice p l.length c) l∧l.length≤35184372088832:=by
 obtain⟨p,l,c,h1,h2,h3,h4⟩:=Nm (R:=fun n:Nat=>n < BB) Tryz.underlying64 (show Tryz.prog.cellsOf 153=1 by kernel_rfl) (by decide) (of_decide_eq_true (by kernel_rfl)) Xi (fun fuel cs x h _=>J4t h) h hw
 refine⟨p,l,c,h1,?_,h3⟩
 obtain⟨_,p',c',hv,k1,k2,k3⟩:=h2
 injection hv with e1 e2 e3
 subst e1 e3
 refine⟨h4,p,c,rfl,k1,k2,?_⟩
 rcases k3 with k3|⟨b,o,hp,hc⟩
 ·exact .inl k3
 ·refine .inr ⟨b,o,hp,fun i hi=>?_⟩
  have hx:l[i]?=some l[i]:=List.getElem?_eq_getElem hi
  have hg:=N5 Xi l i _ 0 hx (by decide)
  rw[Nat.mul_one,Nat.add_zero] at hg
  have:=hc i (.int .u32 (l[i]:Int)) (by rw[hg];rfl)
  rw[show gd l i=l[i] by unfold gd;simp[List.getD_eq_getElem?_getD,hx]]
  exact this
def RatR (w:World)(x:RatM):Prop:=∃ l d,NatL w (.slice x.p x.k x.c) l∧NatL w (.slice x.q x.m x.e) d∧x.k=l.length∧x.m=d.length∧l.length≤35184372088832∧d.length≤35184372088832
theorem open_int (h:DataW.trod enc Tryz.prog w 0 (fun _=>true) true fuel 66 cs=some x)(hw:Jq 66 x.1):∃ (b:Bool) (p:Option Addr) (l:List Nat) (c:Nat),cs=[.bool b,.slice p l.length c]∧NatL w (.slice p l.length c) l∧l.length≤35184372088832:=by
 obtain⟨xs,n,rfl,rfl,hl,hxl,hf⟩:=DataW.trod_struct Tryz.underlying66 h
 obtain⟨v0,v1,rfl⟩:=one2 (hl.trans (show Tryz.prog.cellsOf 66=2 by kernel_rfl))
 obtain⟨x0,x1,rfl⟩:=one2 hxl
 have f0:DataW.trod enc Tryz.prog w 0 (fun _=>true) true n 4 [v0]=some x0:=by simpa[cS,cI,cJ,cBo,cN,cZ,cC,cR,cT,cL,cV,cW] using hf 0 _ rfl
 have f1:DataW.trod enc Tryz.prog w 0 (fun _=>true) true n 64 [v1]=some x1:=by simpa[cS,cI,cJ,cBo,cN,cZ,cC,cR,cT,cL,cV,cW] using hf 1 _ rfl
 unfold Jq at hw
 simp only[DataW.weights,Tryz.underlying66,List.map_cons,List.map_nil,DataW.weightsEach,List.all_append,Bool.and_eq_true] at hw
 obtain⟨b,e0,_⟩:=DataW.trod_bool Tryz.underlying4 f0
 obtain⟨p,l,c,e1,h1,h2⟩:=Zt f1 (by unfold Jq;exact hw.2.1)
 simp only[List.cons.injEq,and_true] at e0 e1
 subst e0 e1
 exact⟨b,p,l,c,rfl,h1,h2⟩
theorem J4B (h:DataW.trod enc Tryz.prog w 0 (fun _=>true) true fuel 68 cs=some x)(hw:Jq 68 x.1):∃ y:RatM,cs=encRat y∧RatR w y:=by
 obtain⟨xs,n,rfl,rfl,hl,hxl,hf⟩:=DataW.trod_struct Tryz.underlying68 h
 obtain⟨v0,v1,v2,rfl⟩:=one3 (hl.trans (show Tryz.prog.cellsOf 68=3 by kernel_rfl))
 obtain⟨x0,x1,rfl⟩:=one2 hxl
 have f0:DataW.trod enc Tryz.prog w 0 (fun _=>true) true n 66 [v0,v1]=some x0:=by simpa[cS,cI,cJ,cBo,cN,cZ,cC,cR,cT,cL,cV,cW] using hf 0 _ rfl
 have f1:DataW.trod enc Tryz.prog w 0 (fun _=>true) true n 64 [v2]=some x1:=by simpa[cS,cI,cJ,cBo,cN,cZ,cC,cR,cT,cL,cV,cW] using hf 1 _ rfl
 unfold Jq at hw
 simp only[DataW.weights,Tryz.underlying68,List.map_cons,List.map_nil,DataW.weightsEach,List.all_append,Bool.and_eq_true] at hw
 obtain⟨b,p,l,c,e0,h1,h2⟩:=open_int f0 (by unfold Jq;exact hw.1)
 obtain⟨q,d,e,e1,h3,h4⟩:=Zt f1 (by unfold Jq;exact hw.2.1)
 simp only[List.cons.injEq,and_true] at e0 e1
 obtain⟨rfl,rfl⟩:=e0
 subst e1
 exact⟨⟨b,p,l.length,c,q,d.length,e⟩,rfl,l,d,h1,h3,rfl,rfl,h2,h4⟩
theorem Zw (h:DataW.trod enc Tryz.prog w 0 (fun _=>true) true fuel 33 cs=some x)(hw:Jq 33 x.1):
  ∃ (p:Option Addr) (l:List RatM) (c:Nat),cs=[.slice p l.length c]∧SlL w 3 encRat (.slice p l.length c) l∧l.length≤35184372088832∧∀ y ∈ l,RatR w y:=
 Nm Tryz.underlying33 (show Tryz.prog.cellsOf 68=3 by kernel_rfl) (by decide) (of_decide_eq_true (by kernel_rfl)) Ku (fun fuel cs x h hw=>J4B h hw) h hw
theorem J4E (h:DataW.trod enc Tryz.prog w 0 (fun _=>true) true fuel 75 cs=some x)(hw:Jq 75 x.1):∃ y:Jg,cs=encTerm y∧Qb y:=by
 obtain⟨xs,n,rfl,rfl,hl,hxl,hf⟩:=DataW.trod_struct Tryz.underlying75 h
 obtain⟨v0,v1,rfl⟩:=one2 (hl.trans (show Tryz.prog.cellsOf 75=2 by kernel_rfl))
 obtain⟨x0,x1,rfl⟩:=one2 hxl
 have f0:DataW.trod enc Tryz.prog w 0 (fun _=>true) true n 3 [v0]=some x0:=by simpa[cS,cI,cJ,cBo,cN,cZ,cC,cR,cT,cL,cV,cW] using hf 0 _ rfl
 have f1:DataW.trod enc Tryz.prog w 0 (fun _=>true) true n 2 [v1]=some x1:=by simpa[cS,cI,cJ,cBo,cN,cZ,cC,cR,cT,cL,cV,cW] using hf 1 _ rfl
 unfold Jq at hw
 simp only[DataW.weights,Tryz.underlying75,List.map_cons,List.map_nil,DataW.weightsEach,List.all_append,Bool.and_eq_true] at hw
 obtain⟨a,e0,h0⟩:=Nk f0
 obtain⟨b,e1,h1⟩:=Od f1
 simp only[List.cons.injEq,and_true] at e0 e1
 subst e0 e1
 exact⟨⟨a,b⟩,rfl,h0,h1⟩
theorem J4F (h:DataW.trod enc Tryz.prog w 0 (fun _=>true) true fuel 40 cs=some x)(hw:Jq 40 x.1):
  ∃ (p:Option Addr) (l:List Jg) (c:Nat),cs=[.slice p l.length c]∧Lp w (.slice p l.length c) l∧l.length≤35184372088832∧∀ y ∈ l,Qb y:=
 Nm Tryz.underlying40 (show Tryz.prog.cellsOf 75=2 by kernel_rfl) (by decide) (of_decide_eq_true (by kernel_rfl)) My (fun fuel cs x h hw=>J4E h hw) h hw
def RowR (w:World)(x:RowM):Prop:=Mv w x∧RowI x.s∧x.terms.length≤35184372088832
theorem J4C (h:DataW.trod enc Tryz.prog w 0 (fun _=>true) true fuel 42 cs=some x)(hw:Jq 42 x.1):∃ y:RowM,cs=encRow y∧RowR w y∧y.name.length≤9223372036854775807:=by
 obtain⟨xs,n,rfl,rfl,hl,hxl,hf⟩:=DataW.trod_struct Tryz.underlying42 h
 obtain⟨v0,v1,v2,v3,v4,rfl⟩:=one5 (hl.trans (show Tryz.prog.cellsOf 42=5 by kernel_rfl))
 obtain⟨x0,x1,x2,x3,x4,rfl⟩:=one5 hxl
 have f0:DataW.trod enc Tryz.prog w 0 (fun _=>true) true n 9 [v0]=some x0:=by simpa[cS,cI,cJ,cBo,cN,cZ,cC,cR,cT,cL,cV,cW] using hf 0 _ rfl
 have f1:DataW.trod enc Tryz.prog w 0 (fun _=>true) true n 3 [v1]=some x1:=by simpa[cS,cI,cJ,cBo,cN,cZ,cC,cR,cT,cL,cV,cW] using hf 1 _ rfl
 have f2:DataW.trod enc Tryz.prog w 0 (fun _=>true) true n 3 [v2]=some x2:=by simpa[cS,cI,cJ,cBo,cN,cZ,cC,cR,cT,cL,cV,cW] using hf 2 _ rfl
 have f3:DataW.trod enc Tryz.prog w 0 (fun _=>true) true n 40 [v3]=some x3:=by simpa[cS,cI,cJ,cBo,cN,cZ,cC,cR,cT,cL,cV,cW] using hf 3 _ rfl
 have f4:DataW.trod enc Tryz.prog w 0 (fun _=>true) true n 2 [v4]=some x4:=by simpa[cS,cI,cJ,cBo,cN,cZ,cC,cR,cT,cL,cV,cW] using hf 4 _ rfl
 unfold Jq at hw
 simp only[DataW.weights,Tryz.underlying42,List.map_cons,List.map_nil,DataW.weightsEach,List.all_append,Bool.and_eq_true] at hw
 obtain⟨s,e0,hnm⟩:=J4s f0
 obtain⟨g,e1,h1⟩:=Nk f1
 obtain⟨k,e2,h2⟩:=Nk f2
 obtain⟨p,l,c,e3,h3,h4,h5⟩:=J4F f3 (by unfold Jq;exact hw.2.2.2.1)
 obtain⟨b,e4,h6⟩:=Od f4
 simp only[List.cons.injEq,and_true] at e0 e1 e2 e3 e4
 subst e0 e1 e2 e3 e4
 exact⟨⟨s,g,k,p,c,l,b⟩,rfl,⟨h3,⟨h1,h2,h6,h5⟩,h4⟩,hnm⟩
theorem J4G (h:DataW.trod enc Tryz.prog w 0 (fun _=>true) true fuel 62 cs=some x)(hw:Jq 62 x.1):∃ y:VarM,cs=encVar y∧VarI y:=by
 obtain⟨xs,n,rfl,rfl,hl,hxl,hf⟩:=DataW.trod_struct Tryz.underlying62 h
 obtain⟨v0,v1,v2,v3,v4,rfl⟩:=one5 (hl.trans (show Tryz.prog.cellsOf 62=5 by kernel_rfl))
 obtain⟨x0,x1,x2,x3,x4,rfl⟩:=one5 hxl
 have f0:DataW.trod enc Tryz.prog w 0 (fun _=>true) true n 2 [v0]=some x0:=by simpa[cS,cI,cJ,cBo,cN,cZ,cC,cR,cT,cL,cV,cW] using hf 0 _ rfl
 have f1:DataW.trod enc Tryz.prog w 0 (fun _=>true) true n 2 [v1]=some x1:=by simpa[cS,cI,cJ,cBo,cN,cZ,cC,cR,cT,cL,cV,cW] using hf 1 _ rfl
 have f2:DataW.trod enc Tryz.prog w 0 (fun _=>true) true n 4 [v2]=some x2:=by simpa[cS,cI,cJ,cBo,cN,cZ,cC,cR,cT,cL,cV,cW] using hf 2 _ rfl
 have f3:DataW.trod enc Tryz.prog w 0 (fun _=>true) true n 4 [v3]=some x3:=by simpa[cS,cI,cJ,cBo,cN,cZ,cC,cR,cT,cL,cV,cW] using hf 3 _ rfl
 have f4:DataW.trod enc Tryz.prog w 0 (fun _=>true) true n 2 [v4]=some x4:=by simpa[cS,cI,cJ,cBo,cN,cZ,cC,cR,cT,cL,cV,cW] using hf 4 _ rfl
 unfold Jq at hw
 simp only[DataW.weights,Tryz.underlying62,List.map_cons,List.map_nil,DataW.weightsEach,List.all_append,Bool.and_eq_true] at hw
 obtain⟨a,e0,h0⟩:=Od f0
 obtain⟨b,e1,h1⟩:=Od f1
 obtain⟨c,e2,_⟩:=DataW.trod_bool Tryz.underlying4 f2
 obtain⟨d,e3,_⟩:=DataW.trod_bool Tryz.underlying4 f3
 obtain⟨e,e4,h4⟩:=Od f4
 simp only[List.cons.injEq,and_true] at e0 e1 e2 e3 e4
 subst e0 e1 e2 e3 e4
 exact⟨⟨a,b,c,d,e⟩,rfl,h0,h1,h4⟩
theorem J4H (h:DataW.trod enc Tryz.prog w 0 (fun _=>true) true fuel 22 cs=some x)(hw:Jq 22 x.1):
  ∃ (p:Option Addr) (l:List VarM) (c:Nat),cs=[.slice p l.length c]∧K3 w (.slice p l.length c) l∧l.length≤35184372088832∧∀ y ∈ l,VarI y:=
 Nm Tryz.underlying22 (show Tryz.prog.cellsOf 62=5 by kernel_rfl) (by decide) (of_decide_eq_true (by kernel_rfl)) Nf (fun fuel cs x h hw=>J4G h hw) h hw
theorem J4D (h:DataW.trod enc Tryz.prog w 0 (fun _=>true) true fuel 23 cs=some x)(hw:Jq 23 x.1):
  ∃ (p:Option Addr) (l:List RowM) (c:Nat),cs=[.slice p l.length c]∧SlL w 5 encRow (.slice p l.length c) l∧l.length≤35184372088832∧∀ y ∈ l,RowR w y∧y.name.length≤9223372036854775807:=
 Nm Tryz.underlying23 (show Tryz.prog.cellsOf 42=5 by kernel_rfl) (by decide) (of_decide_eq_true (by kernel_rfl)) L1 (fun fuel cs x h hw=>J4C h hw) h hw
theorem J4x (h:DataW.trod enc Tryz.prog w 0 (fun _=>true) true fuel 34 cs=some x)(hw:Jq 34 x.1):
  ∃ (p:Option Addr) (l:List Int) (c:Nat),cs=[.slice p l.length c]∧K5 w (.slice p l.length c) l∧l.length≤35184372088832∧∀ y ∈ l,I64 y:=
 Nm Tryz.underlying34 (show Tryz.prog.cellsOf 3=1 by kernel_rfl) (by decide) (of_decide_eq_true (by kernel_rfl)) Pk (fun fuel cs x h hw=>Nk h) h hw
theorem J4v (h:DataW.trod enc Tryz.prog w 0 (fun _=>true) true fuel 36 cs=some x)(hw:Jq 36 x.1):
  ∃ (p:Option Addr) (l:List Int) (c:Nat),cs=[.slice p l.length c]∧K5 w (.slice p l.length c) l∧l.length≤35184372088832∧∀ y ∈ l,I64 y:=
 Nm Tryz.underlying36 (show Tryz.prog.cellsOf 2=1 by kernel_rfl) (by decide) (of_decide_eq_true (by kernel_rfl)) Pk (fun fuel cs x h hw=>Od h) h hw
def Ny (w:World)(p:Option Addr)(n c:Nat):Prop:=∃ T:List RatM,T.length=n∧SlL w 3 encRat (.slice p n c) T∧n≤35184372088832∧∀ y ∈ T,RatR w y
def U4 (w:World)(p:Option Addr)(n c:Nat):Prop:=∃ T:List Int,T.length=n∧K5 w (.slice p n c) T∧n≤35184372088832∧∀ y ∈ T,I64 y
structure Mt (w:World)(x:Jm):Prop where
 mult:Ny w x.mp x.mn x.mc
 cmul:Ny w x.cp x.cn x.cc
 vars:U4 w x.vp x.vn x.vc
 kind:I64 x.kind
 var:I64 x.var
 pos:I64 x.pos
 ck:I64 x.ck
 row:I64 x.row
theorem J4u (h:DataW.trod enc Tryz.prog w 0 (fun _=>true) true fuel 45 cs=some x)(hw:Jq 45 x.1):∃ ck cp cn cc row vp vn vc,cs=[.int .i64 ck,.slice cp cn cc,.int .i64 row,.slice vp vn vc]∧I64 ck∧Ny w cp cn cc∧I64 row∧U4 w vp vn vc:=by
 obtain⟨xs,n,rfl,rfl,hl,hxl,hf⟩:=DataW.trod_struct Tryz.underlying45 h
 obtain⟨v0,v1,v2,v3,rfl⟩:=one4 (hl.trans (show Tryz.prog.cellsOf 45=4 by kernel_rfl))
 obtain⟨x0,x1,x2,x3,rfl⟩:=one4 hxl
 have f0:DataW.trod enc Tryz.prog w 0 (fun _=>true) true n 3 [v0]=some x0:=by simpa[cS,cI,cJ,cBo,cN,cZ,cC,cR,cT,cL,cV,cW] using hf 0 _ rfl
 have f1:DataW.trod enc Tryz.prog w 0 (fun _=>true) true n 33 [v1]=some x1:=by simpa[cS,cI,cJ,cBo,cN,cZ,cC,cR,cT,cL,cV,cW] using hf 1 _ rfl
 have f2:DataW.trod enc Tryz.prog w 0 (fun _=>true) true n 3 [v2]=some x2:=by simpa[cS,cI,cJ,cBo,cN,cZ,cC,cR,cT,cL,cV,cW] using hf 2 _ rfl
 have f3:DataW.trod enc Tryz.prog w 0 (fun _=>true) true n 34 [v3]=some x3:=by simpa[cS,cI,cJ,cBo,cN,cZ,cC,cR,cT,cL,cV,cW] using hf 3 _ rfl
 unfold Jq at hw
 simp only[DataW.weights,Tryz.underlying45,List.map_cons,List.map_nil,DataW.weightsEach,List.all_append,Bool.and_eq_true] at hw
 obtain⟨a,e0,h0⟩:=Nk f0
 obtain⟨p,l,c,e1,h1,h2,h3⟩:=Zw f1 (by unfold Jq;exact hw.2.1)
 obtain⟨b,e2,h4⟩:=Nk f2
 obtain⟨q,m,d,e3,h5,h6,h7⟩:=J4x f3 (by unfold Jq;exact hw.2.2.2.1)
 simp only[List.cons.injEq,and_true] at e0 e1 e2 e3
 subst e0 e1 e2 e3
 exact⟨a,p,_,c,b,q,_,d,rfl,h0,⟨l,rfl,h1,h2,h3⟩,h4,⟨m,rfl,h5,h6,h7⟩⟩
theorem J4y (h:DataW.trod enc Tryz.prog w 0 (fun _=>true) true fuel 47 cs=some x)(hw:Jq 47 x.1):∃ y:Jm,cs=encNode y∧Mt w y:=by
 obtain⟨xs,n,rfl,rfl,hl,hxl,hf⟩:=DataW.trod_struct Tryz.underlying47 h
 obtain⟨v0,v1,v2,v3,v4,v5,v6,v7,rfl⟩:=one8 (hl.trans (show Tryz.prog.cellsOf 47=8 by kernel_rfl))
 obtain⟨x0,x1,x2,x3,x4,rfl⟩:=one5 hxl
 have f0:DataW.trod enc Tryz.prog w 0 (fun _=>true) true n 3 [v0]=some x0:=by simpa[cS,cI,cJ,cBo,cN,cZ,cC,cR,cT,cL,cV,cW] using hf 0 _ rfl
 have f1:DataW.trod enc Tryz.prog w 0 (fun _=>true) true n 33 [v1]=some x1:=by simpa[cS,cI,cJ,cBo,cN,cZ,cC,cR,cT,cL,cV,cW] using hf 1 _ rfl
 have f2:DataW.trod enc Tryz.prog w 0 (fun _=>true) true n 3 [v2]=some x2:=by simpa[cS,cI,cJ,cBo,cN,cZ,cC,cR,cT,cL,cV,cW] using hf 2 _ rfl
 have f3:DataW.trod enc Tryz.prog w 0 (fun _=>true) true n 2 [v3]=some x3:=by simpa[cS,cI,cJ,cBo,cN,cZ,cC,cR,cT,cL,cV,cW] using hf 3 _ rfl
 have f4:DataW.trod enc Tryz.prog w 0 (fun _=>true) true n 45 [v4,v5,v6,v7]=some x4:=by simpa[cS,cI,cJ,cBo,cN,cZ,cC,cR,cT,cL,cV,cW] using hf 4 _ rfl
 unfold Jq at hw
 simp only[DataW.weights,Tryz.underlying47,List.map_cons,List.map_nil,DataW.weightsEach,List.all_append,Bool.and_eq_true] at hw
 obtain⟨a,e0,h0⟩:=Nk f0
 obtain⟨p,l,c,e1,h1,h2,h3⟩:=Zw f1 (by unfold Jq;exact hw.2.1)
 obtain⟨b,e2,h4⟩:=Nk f2
 obtain⟨d,e3,h5⟩:=Od f3
 obtain⟨ck,cp,cn,cc,row,vp,vn,vc,e4,k0,k1,k2,k3⟩:=J4u f4 (by unfold Jq;exact hw.2.2.2.2.1)
 simp only[List.cons.injEq,and_true] at e0 e1 e2 e3 e4
 subst e0 e1 e2 e3
 obtain⟨rfl,rfl,rfl,rfl⟩:=e4
 exact⟨⟨a,p,_,c,b,d,ck,cp,cn,cc,row,vp,vn,vc⟩,rfl,⟨l,rfl,h1,h2,h3⟩,k1,k3,h0,h4,h5,k0,k2⟩
theorem J4z (h:DataW.trod enc Tryz.prog w 0 (fun _=>true) true fuel 26 cs=some x)(hw:Jq 26 x.1):
  ∃ (p:Option Addr) (l:List Jm) (c:Nat),cs=[.slice p l.length c]∧SlL w 8 encNode (.slice p l.length c) l∧l.length≤35184372088832∧∀ y ∈ l,Mt w y:=
 Nm Tryz.underlying26 (show Tryz.prog.cellsOf 47=8 by kernel_rfl) (by decide) (of_decide_eq_true (by kernel_rfl)) Nd (fun fuel cs x h hw=>J4y h hw) h hw
theorem J4A (h:DataW.trod enc Tryz.prog w 0 (fun _=>true) true fuel 25 cs=some x)(hw:Jq 25 x.1):∃ (a:Option Addr) (V:List VarM) (c:Nat) (b:Option Addr) (T:List RowM) (d:Nat),cs=[.slice a V.length c,.slice b T.length d]∧K3 w (.slice a V.length c) V∧SlL w 5 encRow (.slice b T.length d) T∧(∀ y ∈ V,VarI y)∧(∀ y ∈ T,RowR w y∧y.name.length≤9223372036854775807)∧V.length≤35184372088832∧T.length≤35184372088832:=by
 obtain⟨xs,n,rfl,rfl,hl,hxl,hf⟩:=DataW.trod_struct Tryz.underlying25 h
 obtain⟨v0,v1,rfl⟩:=one2 (hl.trans (show Tryz.prog.cellsOf 25=2 by kernel_rfl))
 obtain⟨x0,x1,rfl⟩:=one2 hxl
 have f0:DataW.trod enc Tryz.prog w 0 (fun _=>true) true n 22 [v0]=some x0:=by simpa[cS,cI,cJ,cBo,cN,cZ,cC,cR,cT,cL,cV,cW] using hf 0 _ rfl
 have f1:DataW.trod enc Tryz.prog w 0 (fun _=>true) true n 23 [v1]=some x1:=by simpa[cS,cI,cJ,cBo,cN,cZ,cC,cR,cT,cL,cV,cW] using hf 1 _ rfl
 unfold Jq at hw
 simp only[DataW.weights,Tryz.underlying25,List.map_cons,List.map_nil,DataW.weightsEach,List.all_append,Bool.and_eq_true] at hw
 obtain⟨a,V,c,e0,h0,h1,h2⟩:=J4H f0 (by unfold Jq;exact hw.1)
 obtain⟨b,T,d,e1,h3,h4,h5⟩:=J4D f1 (by unfold Jq;exact hw.2.1)
 simp only[List.cons.injEq,and_true] at e0 e1
 subst e0 e1
 exact⟨a,V,c,b,T,d,rfl,h0,h3,h2,h5,h1,h4⟩
end
end Prf
end Go.Proofs.YtcjgimlcefhhmaaGreatDoor
