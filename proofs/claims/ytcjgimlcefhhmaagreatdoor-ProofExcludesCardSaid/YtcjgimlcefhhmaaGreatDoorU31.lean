/- Texts: LnA LnB LnC LnD. -/
import Derived.Laws.RangeAny
import Derived.Test.YtcjgimlcefhhmaaGreatDoorU5
import Derived.Test.YtcjgimlcefhhmaaGreatDoorU20
import Derived.Test.YtcjgimlcefhhmaaGreatDoorU25
import Derived.Test.YtcjgimlcefhhmaaGreatDoorU27
set_option linter.unusedVariables false
set_option linter.unusedSimpArgs false
set_option maxRecDepth 100000
set_option maxHeartbeats 12800000
namespace Go.Proofs.YtcjgimlcefhhmaaGreatDoor
namespace Prf
open Go.RowKit Go.Lib
def PrdV {α:Type}(w:World)(v:Value)(mk:α→Value)(l:List α)(ok:α→Prop):Prop:=∃ (f:Nat) (caps:Array Value),v = .func (.func f) #[] caps∧(∀ args w,(callFunc f args).run Tryz.prog w = .ok (.enter f args) w)∧
 ∀ w',Gr w w'→∀ x ∈ l,Calls Tryz.prog f (#[mk x] ++ caps) w' (Ret w' fun r _=>Jb (ok x) r)
def mkI (n:Int):Value:=.int .i64 n
theorem J0p {w:World}{p:Option Addr}{n c:Nat}{l:List RowM}(h:SlL w 5 encRow (.slice p n c) l)(hn:l.length=n){k:Nat}(hk:k < n):
  ∃ b o x,p=some ⟨b,o,none⟩∧l[k]?=some x∧∀ w',Gr w w'→U9 w' b (o+k * 5) x:=by
 obtain⟨b,o,x,hp,hx,hc⟩:=h.at L1 hn hk
 exact⟨b,o,x,hp,hx,fun w' g=>⟨hc 0 _ rfl w' g,hc 1 _ rfl w' g,hc 2 _ rfl w' g,hc 3 _ rfl w' g,hc 4 _ rfl w' g⟩⟩
def mkVar (x:VarM):Value:=.agg (encVar x).toArray
theorem J3k (w:World)(p:Option Addr)(n c:Nat)(l:List Int)(v:Value)(ok:Int→Prop)(hl:SlL w 1 encI (.slice p n c) l)(hn:l.length=n)(hb:n≤100000000000000)(hv:PrdV w v mkI l ok):
  Calls Tryz.prog 197 #[.slice p n c,v] w (Ret w fun r _=>∃ z:Int,r = .int .i64 z∧(0≤z↔∃ x ∈ l,ok x)):=by
 obtain⟨f,caps,rfl,he,h5⟩:=hv
 have H5:=ξ h5
 have HL:=ξ hl
 have HN:=ξ hn
 clear h5 hl hn
 go_enter Tryz.func197,Tryz.ntmps197
 go_wp2_with fail
 go_loopw [8] (fun i w1=>∃ k:Nat,i = .int .i64 k∧k≤n∧(∀ j x,j < k→l[j]?=some x→¬ ok x)∧Gr w w1) (fun i _=>n - (RowKit.intOf i).toNat)
 case atStart=>exact⟨0,rfl,Nat.zero_le _,fun j x hj=>by omega,Gr.refl _⟩
 case round=>
  obtain⟨k,rfl,hk,hp,hg⟩:=hrel
  have Hp:=ξ hp
  have G:=ξ hg
  clear hp hg
  by_cases hlt:k < n
  ·have hlt':(k:Int) < (n:Int):=by omega
   obtain⟨b,o,x,rfl,hx,hc⟩:=L2 HL.out HN.out hlt
   have HX:=ξ hx
   obtain c0:=hc wr G.out
   clear hc hx
   go_wp2_with fail
   refine(H5.out wr G.out x (List.mem_of_getElem? HX.out)).mono ?_
   rintro _ w2 ⟨r2,rfl,g2,h2⟩
   have G:=ξ (G.out.trans g2)
   obtain⟨t,rfl,ht⟩:=h2
   have Ht:=ξ ht
   clear g2 ht
   cases t
   ·go_wp2_with fail
    refine⟨⟨k+1,by go_num,by omega,fun j y hj hy=>?_,G.out⟩,by simp[RowKit.intOf];omega⟩
    by_cases e:j=k
    ·subst e
     rw[HX.out] at hy
     cases hy
     exact fun h=>absurd (Ht.out.2 h) (by decide)
    ·exact Hp.out j y (by omega) hy
   ·go_wp2_with fail
    go_ret
    exact⟨_,rfl,G.out,(k:Int),rfl,⟨fun _=>⟨x,List.mem_of_getElem? HX.out,(by have:=Ht.out;simpa using this)⟩,fun _=>by omega⟩⟩
  ·obtain rfl:n=k:=by omega
   go_wp2_with fail
   go_ret
   refine⟨_,rfl,G.out,-1,rfl,⟨fun h=>absurd h (by decide),fun⟨x,hx,h⟩=>?_⟩⟩
   obtain⟨j,hj,e⟩:=List.mem_iff_getElem.1 hx
   exact absurd h (Hp.out j x (by rw[HN.out] at hj;exact hj) (by rw[List.getElem?_eq_getElem hj,e]))
theorem J3j (w:World)(p:Option Addr)(n c:Nat)(l:List Int)(v:Value)(ok:Int→Prop)(hl:SlL w 1 encI (.slice p n c) l)(hn:l.length=n)(hb:n≤100000000000000)(hv:PrdV w v mkI l ok):
  Calls Tryz.prog 136 #[.slice p n c,v] w (Ret w fun r _=>Jb (∃ x ∈ l,ok x) r):=by
 have H:=ξ (J3k w p n c l v ok hl hn hb hv)
 obtain⟨f,caps,rfl,he,h5⟩:=hv
 clear hl hn h5
 go_enter Tryz.func136,Tryz.ntmps136
 go_wp2_with fail
 refine H.out.mono ?_
 rintro _ w2 ⟨_,rfl,g2,z,rfl,hz⟩
 have G:=ξ g2
 have Hz:=ξ hz
 clear g2 hz
 go_wp2_with fail
 go_ret
 exact⟨_,rfl,G.out,decide (0≤z),rfl,by rw[← Hz.out];simp⟩
theorem J3x (w:World)(p:Option Addr)(n c:Nat)(l:List Int)(v:Value)(ok:Int→Prop)(hl:SlL w 1 encI (.slice p n c) l)(hn:l.length=n)(hb:n≤100000000000000)(hv:PrdV w v mkI l ok):
  Calls Tryz.prog 184 #[.slice p n c,v] w (Ret w fun r _=>∃ z:Int,r = .int .i64 z∧(0≤z↔∃ x ∈ l,ok x)):=by
 obtain⟨f,caps,rfl,he,h5⟩:=hv
 have H5:=ξ h5
 have HL:=ξ hl
 have HN:=ξ hn
 clear h5 hl hn
 go_enter Tryz.func184,Tryz.ntmps184
 go_wp2_with fail
 go_loopw [8] (fun i w1=>∃ k:Nat,i = .int .i64 k∧k≤n∧(∀ j x,j < k→l[j]?=some x→¬ ok x)∧Gr w w1) (fun i _=>n - (RowKit.intOf i).toNat)
 case atStart=>exact⟨0,rfl,Nat.zero_le _,fun j x hj=>by omega,Gr.refl _⟩
 case round=>
  obtain⟨k,rfl,hk,hp,hg⟩:=hrel
  have Hp:=ξ hp
  have G:=ξ hg
  clear hp hg
  by_cases hlt:k < n
  ·have hlt':(k:Int) < (n:Int):=by omega
   obtain⟨b,o,x,rfl,hx,hc⟩:=L2 HL.out HN.out hlt
   have HX:=ξ hx
   obtain c0:=hc wr G.out
   clear hc hx
   go_wp2_with fail
   refine(H5.out wr G.out x (List.mem_of_getElem? HX.out)).mono ?_
   rintro _ w2 ⟨r2,rfl,g2,h2⟩
   have G:=ξ (G.out.trans g2)
   obtain⟨t,rfl,ht⟩:=h2
   have Ht:=ξ ht
   clear g2 ht
   cases t
   ·go_wp2_with fail
    refine⟨⟨k+1,by go_num,by omega,fun j y hj hy=>?_,G.out⟩,by simp[RowKit.intOf];omega⟩
    by_cases e:j=k
    ·subst e
     rw[HX.out] at hy
     cases hy
     exact fun h=>absurd (Ht.out.2 h) (by decide)
    ·exact Hp.out j y (by omega) hy
   ·go_wp2_with fail
    go_ret
    exact⟨_,rfl,G.out,(k:Int),rfl,⟨fun _=>⟨x,List.mem_of_getElem? HX.out,(by have:=Ht.out;simpa using this)⟩,fun _=>by omega⟩⟩
  ·obtain rfl:n=k:=by omega
   go_wp2_with fail
   go_ret
   refine⟨_,rfl,G.out,-1,rfl,⟨fun h=>absurd h (by decide),fun⟨x,hx,h⟩=>?_⟩⟩
   obtain⟨j,hj,e⟩:=List.mem_iff_getElem.1 hx
   exact absurd h (Hp.out j x (by rw[HN.out] at hj;exact hj) (by rw[List.getElem?_eq_getElem hj,e]))
theorem J3w (w:World)(p:Option Addr)(n c:Nat)(l:List Int)(v:Value)(ok:Int→Prop)(hl:SlL w 1 encI (.slice p n c) l)(hn:l.length=n)(hb:n≤100000000000000)(hv:PrdV w v mkI l ok):
  Calls Tryz.prog 121 #[.slice p n c,v] w (Ret w fun r _=>Jb (∃ x ∈ l,ok x) r):=by
 have H:=ξ (J3x w p n c l v ok hl hn hb hv)
 obtain⟨f,caps,rfl,he,h5⟩:=hv
 clear hl hn h5
 go_enter Tryz.func121,Tryz.ntmps121
 go_wp2_with fail
 refine H.out.mono ?_
 rintro _ w2 ⟨_,rfl,g2,z,rfl,hz⟩
 have G:=ξ g2
 have Hz:=ξ hz
 clear g2 hz
 go_wp2_with fail
 go_ret
 exact⟨_,rfl,G.out,decide (0≤z),rfl,by rw[← Hz.out];simp⟩
theorem J5M (w:World)(p:Option Addr)(n c:Nat)(l:List RowM)(v:Value)(ok:RowM→Prop)(hl:SlL w 5 encRow (.slice p n c) l)(hn:l.length=n)(hb:n≤100000000000000)(hv:PrdV w v rowV l ok):
  Calls Tryz.prog 138 #[.slice p n c,v] w (Ret w fun r _=>∃ z:Int,r = .int .i64 z∧(0≤z↔∃ x ∈ l,ok x)):=by
 obtain⟨f,caps,rfl,he,h5⟩:=hv
 have H5:=ξ h5
 have HL:=ξ hl
 have HN:=ξ hn
 clear h5 hl hn
 go_enter Tryz.func138,Tryz.ntmps138
 go_wp2_with fail
 go_loopw [8] (fun i w1=>∃ k:Nat,i = .int .i64 k∧k≤n∧(∀ j x,j < k→l[j]?=some x→¬ ok x)∧Gr w w1) (fun i _=>n - (RowKit.intOf i).toNat)
 case atStart=>exact⟨0,rfl,Nat.zero_le _,fun j x hj=>by omega,Gr.refl _⟩
 case round=>
  obtain⟨k,rfl,hk,hp,hg⟩:=hrel
  have Hp:=ξ hp
  have G:=ξ hg
  clear hp hg
  by_cases hlt:k < n
  ·have hlt':(k:Int) < (n:Int):=by omega
   obtain⟨b,o,x,rfl,hx,hc⟩:=J0p HL.out HN.out hlt
   have HX:=ξ hx
   obtain⟨c0,c1,c2,c3,c4⟩:=hc wr G.out
   clear hc hx
   go_wp2_with fail
   refine(H5.out wr G.out x (List.mem_of_getElem? HX.out)).mono ?_
   rintro _ w2 ⟨r2,rfl,g2,h2⟩
   have G:=ξ (G.out.trans g2)
   obtain⟨t,rfl,ht⟩:=h2
   have Ht:=ξ ht
   clear g2 ht
   cases t
   ·go_wp2_with fail
    refine⟨⟨k+1,by go_num,by omega,fun j y hj hy=>?_,G.out⟩,by simp[RowKit.intOf];omega⟩
    by_cases e:j=k
    ·subst e
     rw[HX.out] at hy
     cases hy
     exact fun h=>absurd (Ht.out.2 h) (by decide)
    ·exact Hp.out j y (by omega) hy
   ·go_wp2_with fail
    go_ret
    exact⟨_,rfl,G.out,(k:Int),rfl,⟨fun _=>⟨x,List.mem_of_getElem? HX.out,(by have:=Ht.out;simpa using this)⟩,fun _=>by omega⟩⟩
  ·obtain rfl:n=k:=by omega
   go_wp2_with fail
   go_ret
   refine⟨_,rfl,G.out,-1,rfl,⟨fun h=>absurd h (by decide),fun⟨x,hx,h⟩=>?_⟩⟩
   obtain⟨j,hj,e⟩:=List.mem_iff_getElem.1 hx
   exact absurd h (Hp.out j x (by rw[HN.out] at hj;exact hj) (by rw[List.getElem?_eq_getElem hj,e]))
theorem J5L (w:World)(p:Option Addr)(n c:Nat)(l:List RowM)(v:Value)(ok:RowM→Prop)(hl:SlL w 5 encRow (.slice p n c) l)(hn:l.length=n)(hb:n≤100000000000000)(hv:PrdV w v rowV l ok):
  Calls Tryz.prog 85 #[.slice p n c,v] w (Ret w fun r _=>Jb (∃ x ∈ l,ok x) r):=by
 have H:=ξ (J5M w p n c l v ok hl hn hb hv)
 obtain⟨f,caps,rfl,he,h5⟩:=hv
 clear hl hn h5
 go_enter Tryz.func85,Tryz.ntmps85
 go_wp2_with fail
 refine H.out.mono ?_
 rintro _ w2 ⟨_,rfl,g2,z,rfl,hz⟩
 have G:=ξ g2
 have Hz:=ξ hz
 clear g2 hz
 go_wp2_with fail
 go_ret
 exact⟨_,rfl,G.out,decide (0≤z),rfl,by rw[← Hz.out];simp⟩
theorem J6y (w:World)(p:Option Addr)(n c:Nat)(l:List VarM)(v:Value)(ok:VarM→Prop)(hl:SlL w 5 encVar (.slice p n c) l)(hn:l.length=n)(hb:n≤100000000000000)(hv:PrdV w v mkVar l ok):
  Calls Tryz.prog 88 #[.slice p n c,v] w (Ret w fun r _=>∃ z:Int,r = .int .i64 z∧(0≤z↔∃ x ∈ l,ok x)):=by
 obtain⟨f,caps,rfl,he,h5⟩:=hv
 have H5:=ξ h5
 have HL:=ξ hl
 have HN:=ξ hn
 clear h5 hl hn
 go_enter Tryz.func88,Tryz.ntmps88
 go_wp2_with fail
 go_loopw [8] (fun i w1=>∃ k:Nat,i = .int .i64 k∧k≤n∧(∀ j x,j < k→l[j]?=some x→¬ ok x)∧Gr w w1) (fun i _=>n - (RowKit.intOf i).toNat)
 case atStart=>exact⟨0,rfl,Nat.zero_le _,fun j x hj=>by omega,Gr.refl _⟩
 case round=>
  obtain⟨k,rfl,hk,hp,hg⟩:=hrel
  have Hp:=ξ hp
  have G:=ξ hg
  clear hp hg
  by_cases hlt:k < n
  ·have hlt':(k:Int) < (n:Int):=by omega
   obtain⟨b,o,x,rfl,hx,hc⟩:=Mn HL.out HN.out hlt
   have HX:=ξ hx
   obtain⟨c0,c1,c2,c3,c4⟩:=hc wr G.out
   clear hc hx
   go_wp2_with fail
   refine(H5.out wr G.out x (List.mem_of_getElem? HX.out)).mono ?_
   rintro _ w2 ⟨r2,rfl,g2,h2⟩
   have G:=ξ (G.out.trans g2)
   obtain⟨t,rfl,ht⟩:=h2
   have Ht:=ξ ht
   clear g2 ht
   cases t
   ·go_wp2_with fail
    refine⟨⟨k+1,by go_num,by omega,fun j y hj hy=>?_,G.out⟩,by simp[RowKit.intOf];omega⟩
    by_cases e:j=k
    ·subst e
     rw[HX.out] at hy
     cases hy
     exact fun h=>absurd (Ht.out.2 h) (by decide)
    ·exact Hp.out j y (by omega) hy
   ·go_wp2_with fail
    go_ret
    exact⟨_,rfl,G.out,(k:Int),rfl,⟨fun _=>⟨x,List.mem_of_getElem? HX.out,(by have:=Ht.out;simpa using this)⟩,fun _=>by omega⟩⟩
  ·obtain rfl:n=k:=by omega
   go_wp2_with fail
   go_ret
   refine⟨_,rfl,G.out,-1,rfl,⟨fun h=>absurd h (by decide),fun⟨x,hx,h⟩=>?_⟩⟩
   obtain⟨j,hj,e⟩:=List.mem_iff_getElem.1 hx
   exact absurd h (Hp.out j x (by rw[HN.out] at hj;exact hj) (by rw[List.getElem?_eq_getElem hj,e]))
theorem J6x (w:World)(p:Option Addr)(n c:Nat)(l:List VarM)(v:Value)(ok:VarM→Prop)(hl:SlL w 5 encVar (.slice p n c) l)(hn:l.length=n)(hb:n≤100000000000000)(hv:PrdV w v mkVar l ok):
  Calls Tryz.prog 41 #[.slice p n c,v] w (Ret w fun r _=>Jb (∃ x ∈ l,ok x) r):=by
 have H:=ξ (J6y w p n c l v ok hl hn hb hv)
 obtain⟨f,caps,rfl,he,h5⟩:=hv
 clear hl hn h5
 go_enter Tryz.func41,Tryz.ntmps41
 go_wp2_with fail
 refine H.out.mono ?_
 rintro _ w2 ⟨_,rfl,g2,z,rfl,hz⟩
 have G:=ξ g2
 have Hz:=ξ hz
 clear g2 hz
 go_wp2_with fail
 go_ret
 exact⟨_,rfl,G.out,decide (0≤z),rfl,by rw[← Hz.out];simp⟩
theorem J3G (w:World)(n:Int):Calls Tryz.prog 137 (#[mkI n] ++ #[]) w (Ret w fun r _=>Jb (¬ In n) r):=by
 show Calls _ _ #[.int .i64 n] _ _
 by_cases h1:n < -1099511627776
 ·have H:=ξ (show ¬ In n from fun h=>by have:=h.1;omega)
  go_enter Tryz.func137,Tryz.ntmps137
  go_wp2_with fail
  go_ret
  exact⟨_,rfl,Gr.refl _,Jb.yes H.out⟩
 ·by_cases h2:1099511627776 < n
  ·have H:=ξ (show ¬ In n from fun h=>by have:=h.2;omega)
   go_enter Tryz.func137,Tryz.ntmps137
   go_wp2_with fail
   go_ret
   exact⟨_,rfl,Gr.refl _,Jb.yes H.out⟩
  ·have H:=ξ (show ¬ ¬ In n from fun h=>h ⟨by omega,by omega⟩)
   go_enter Tryz.func137,Tryz.ntmps137
   go_wp2_with fail
   go_ret
   exact⟨_,rfl,Gr.refl _,Jb.no H.out⟩
theorem S6 (w:World)(p:Option Addr)(n c:Nat)(l:List Int)(hl:K5 w (.slice p n c) l)(hn:l.length=n)(hb:n≤1000000):
  Calls Tryz.prog 84 #[.slice p n c] w (Ret w fun r _=>Jb (∀ x ∈ l,In x) r):=by
 have H:=ξ (J3j w p n c l (.func (.func 137) #[] #[]) (fun x=>¬ In x) hl hn (by omega) ⟨_,_,rfl,enters_of Tryz.func137 (by kernel_rfl) rfl,fun w' _ x _=>J3G w' x⟩)
 clear hl hn
 go_enter Tryz.func84,Tryz.ntmps84
 go_wp2_with fail
 refine H.out.mono ?_
 rintro _ w2 ⟨r,rfl,g2,h⟩
 have G:=ξ g2
 clear g2
 rcases h.cases with⟨rfl,k1⟩|⟨rfl,k1⟩
 ·have HN:=ξ (show ¬ ∀ x ∈ l,In x from fun q=>by obtain⟨x,hx,h⟩:=k1;exact h (q x hx))
  clear h k1
  go_wp2_with fail
  go_ret
  exact⟨_,rfl,G.out,Jb.no HN.out⟩
 ·have HN:=ξ (show ∀ x ∈ l,In x from fun x hx=>Classical.not_not.1 fun h=>k1 ⟨x,hx,h⟩)
  clear h k1
  go_wp2_with fail
  go_ret
  exact⟨_,rfl,G.out,Jb.yes HN.out⟩
theorem Xq:∀ l:List Int,l.flatMap encI=l.map fun n=>Value.int .i64 n
 | []=>rfl
 | a :: l=>by rw[List.flatMap_cons,List.map_cons,Xq l];rfl
theorem Qs {w:World}{b:Nat}{l:List Int}{vs:Array Value}(h:Ja w b vs)(hv:vs=(l.map fun n=>Value.int .i64 n).toArray)(hl:l.length≤1000000):K5 w (.slice (some ⟨b,0,none⟩) l.length l.length) l:=by
 subst hv
 have e:=Xq l
 refine⟨by rw[e];simp,_,l.length,rfl,Nat.le_refl _,by omega,.inr ⟨b,0,rfl,fun j u hj=>?_⟩⟩
 rw[e] at hj
 rw[Nat.zero_add]
 exact h.at j (by simpa using hj)
def offText (r:Nat):Bool:=decide (r < 32) || decide (126 < r)
def inText (c:UInt8):Bool:=decide (32≤c) && decide (c≤126)
theorem Zr (c:UInt8):offText c.toNat = !inText c:=by
 unfold offText inText
 have h1:(32≤c)↔32≤c.toNat:=by rw[UInt8.le_iff_toNat_le];rfl
 have h2:(c≤126)↔c.toNat≤126:=by rw[UInt8.le_iff_toNat_le];rfl
 by_cases a:32≤c.toNat<;>by_cases b:c.toNat≤126<;>simp[h1,h2,a,b]<;>omega
theorem Zq {r:Nat}(h:128≤r):offText r=true:=by
 unfold offText
 have h1:126 < r:=by omega
 simp[h1]
theorem J0N (bs:List UInt8):∀ (f pos:Nat),pos≤bs.length→bs.length - pos≤f→(0≤idxFuncFrom offText true ⟨bs.toArray⟩ f pos↔(bs.drop pos).all inText=false)
 | 0,pos,h,hf=>by
  have:bs.drop pos=[]:=List.drop_eq_nil_of_le (by omega)
  rw[this]
  simp[idxFuncFrom]
 | f+1,pos,h,hf=>by
  have hz:(⟨bs.toArray⟩:ByteArray).size=bs.length:=by simp[ByteArray.size]
  rcases Nat.lt_or_ge pos bs.length with hlt|hge
  ·have hp:pos < (⟨bs.toArray⟩:ByteArray).size:=by rw[hz];exact hlt
   have hb:(⟨bs.toArray⟩:ByteArray)[pos]'hp=bs[pos]:=by show bs.toArray[pos]=_;simp
   have hd:bs.drop pos=bs[pos] :: bs.drop (pos+1):=List.drop_eq_getElem_cons hlt
   unfold idxFuncFrom
   rw[if_pos hp,hd,List.all_cons]
   rcases Nat.lt_or_ge (bs[pos]).toNat 128 with ha|ha
   ·rw[decode_ascii _ pos hp (by rw[hb];exact ha),hb]
    show(0≤if offText (bs[pos]).toNat=true then (pos:Int) else idxFuncFrom offText true ⟨bs.toArray⟩ f (pos+1))↔_
    rw[Zr]
    cases hw:inText bs[pos]
    ·simp
    ·simp only[Bool.not_true,Bool.false_eq_true,if_false,Bool.true_and]
     exact J0N bs f (pos+1) (by omega) (by omega)
   ·have hh:=decode_high _ pos hp (by rw[hb];exact ha)
    rw[if_pos (Zq hh.1)]
    have:inText bs[pos]=false:=by
     have:=Zr bs[pos]
     rw[Zq ha] at this
     simpa using this.symm
    rw[this]
    simp
  ·have:bs.drop pos=[]:=List.drop_eq_nil_of_le (by omega)
   rw[this]
   unfold idxFuncFrom
   rw[if_neg (by rw[hz];omega)]
   simp
theorem J0M (bs:List UInt8):0≤idxFunc offText true ⟨bs.toArray⟩↔¬ ∀ b ∈ bs,32≤b∧b≤126:=by
 have h:=J0N bs bs.length 0 (Nat.zero_le _) (by omega)
 have hz:(⟨bs.toArray⟩:ByteArray).size=bs.length:=by simp[ByteArray.size]
 unfold idxFunc
 rw[hz]
 rw[List.drop_zero] at h
 rw[h]
 constructor
 ·intro h1 h2
  have:bs.all inText=true:=List.all_eq_true.2 fun b hb=>by
   have:=h2 b hb
   simp[inText,this.1,this.2]
  rw[h1] at this;cases this
 ·intro h1
  cases hw:bs.all inText
  ·rfl
  ·exact absurd (fun b hb=>by
    have:=List.all_eq_true.1 hw b hb
    simpa[inText] using this) h1
theorem J3H (w:World)(x:Nat)(hx:x≤1114111):Calls Tryz.prog 140 (#[encR x] ++ #[]) w fun e w'=>e = .returned (.bool (offText x))∧Below w.heap.size w w':=by
 by_cases h1:(x:Int) < 32
 ·have H:=ξ (show offText x=true by unfold offText;simp;omega)
  go_enter Tryz.func140,Tryz.ntmps140
  go_wp2_with fail
  go_ret
  exact⟨by rw[H.out];first|rfl|simp[h1]|(simp;omega),Below.refl _ _⟩
 ·by_cases h2:126 < (x:Int)
  ·have H:=ξ (show offText x=true by unfold offText;simp;omega)
   go_enter Tryz.func140,Tryz.ntmps140
   go_wp2_with fail
   go_ret
   exact⟨by rw[H.out];first|rfl|simp[h1]|(simp;omega),Below.refl _ _⟩
  ·have H:=ξ (show offText x=false by unfold offText;simp;omega)
   go_enter Tryz.func140,Tryz.ntmps140
   go_wp2_with fail
   go_ret
   exact⟨by rw[H.out];first|rfl|simp[h1]|(simp;omega),Below.refl _ _⟩
theorem J3I (w:World)(n:Nat)(x:RowM)(hn:n≤1000000)(hx:Mv w x)(hi:RowI x.s)(hl:x.name.length≤1000000):
  Calls Tryz.prog 87 #[.int .i64 (n:Int),rowV x] w (Ret w fun r _=>Jb (Kb n x.s) r):=by
 have B:=Ja.new w #[.string ⟨x.name.toArray⟩,.int .i64 x.group,.int .i64 x.kind,.slice x.tp x.terms.length x.tc,.int .i64 x.bound] 42
 have HB:=ξ B
 have HX:=ξ (SlL.grow hx B.1)
 have hb:=Lp.big hx
 have HI:=ξ hi
 clear B hx hi
 unfold rowV
 have HI5:=ξ HI.out.2.2.1
 go_enter Tryz.func87,Tryz.ntmps87
 go_wp2_with fail
 any_goals(go_ret;exact⟨_,rfl,HB.out.1,Jb.no fun k=>by
  obtain⟨⟨q1,q2⟩,⟨q3,q4⟩,q5,-⟩:=k
  simp only[RowM.s] at q1 q2 q3 q4 q5
  omega⟩)
 have HA:=ξ (show(0≤x.s.kind∧x.s.kind≤2)∧(0≤x.s.group∧x.s.group≤60)∧x.s.name.length≤80 by simp only[RowM.s];omega)
 have hsz:(w.alloc (.cells #[.string ⟨x.name.toArray⟩,.int .i64 x.group,.int .i64 x.kind,.slice x.tp x.terms.length x.tc,.int .i64 x.bound] 42)).heap.size=w.heap.size+1:=World.size_alloc ..
 rw[← hsz]
 clear hsz
 generalize w.heap.size=bp at HB ⊢
 generalize w.alloc _=W at HB HX ⊢
 have G:=ξ HB.out.1
 have TX:=ξ HB.out.2
 clear HB
 have B2:=Ja.new W #[.int .i64 x.bound] 2
 refine(S6 _ _ 1 1 [x.bound] (Qs B2.2 rfl (by simp)) rfl (by decide)).mono ?_
 rintro _ W2 ⟨r,rfl,g2,h⟩
 have TX:=ξ (TX.out.grow (B2.1.trans g2))
 have HX:=ξ (SlL.grow HX.out (B2.1.trans g2))
 have G:=ξ (G.out.trans (B2.1.trans g2))
 clear B2 g2
 rcases h.cases with⟨rfl,k1⟩|⟨rfl,k1⟩
 rotate_left
 ·have H:=ξ (show ¬ Kb n x.s from fun h=>k1 (fun z hz=>by obtain rfl:=List.mem_singleton.1 hz;exact h.2.2.2.1))
  clear h k1
  go_wp2_with fail
  try rw[Exit.noGoto_ret]
  go_ret
  exact⟨_,rfl,G.out,Jb.no H.out⟩
 have HBd:=ξ (show In x.s.bound from k1 x.bound (List.mem_singleton.2 rfl))
 clear h k1
 have x3:=TX.out.at 3 rfl
 go_wp2_with fail
 clear x3
 go_loopw [5,42] (fun i v w9=>∃ k:Nat,i = .int .i64 (lastV x.terms k)∧v = .int .i64 (k:Int)∧k≤x.terms.length∧Inc n (-1) (x.terms.take k)∧Gr W2 w9) (fun i v _=>x.terms.length - (RowKit.intOf v).toNat)
 case atStart=>exact⟨0,rfl,rfl,Nat.zero_le _,trivial,Gr.refl _⟩
 case round=>
  obtain⟨k,rfl,rfl,hk,hq,hg⟩:=hrel
  have HQ:=ξ hq
  have GL:=ξ hg
  clear hq hg
  by_cases hlt:k < x.terms.length
  ·have hlt':(k:Int) < (x.terms.length:Int):=by omega
   obtain⟨b,o,t,hp,ht,hc⟩:=P2 (SlL.grow HX.out GL.out) rfl hlt
   rw[hp]
   obtain⟨c0,c1⟩:=hc _ (Gr.refl _)
   have HT:=ξ ht
   obtain⟨lv,hlv⟩:∃ l,lastV x.terms k=l:=⟨_,rfl⟩
   rw[hlv]
   have HLV:=ξ hlv
   clear hc ht hp hlv
   go_wp2_with fail
   any_goals(go_ret;refine⟨_,rfl,(G.out.trans GL.out).alloc _,Jb.no fun h=>X2 HT.out (fun q=>?_) h.2.2.2.2.2⟩;rw[HLV.out] at q;omega)
   have HV:=ξ (show lastV x.terms k < t.v∧t.v < (n:Int)∧t.c≠0 from⟨by rw[HLV.out];omega,by omega,by assumption⟩)
   have B2:=ξ (Ja.new wr #[.int .i64 t.v,.int .i64 t.c] 75)
   have hsz:(wr.alloc (.cells #[.int .i64 t.v,.int .i64 t.c] 75)).heap.size=wr.heap.size+1:=World.size_alloc ..
   rw[← hsz]
   clear hsz
   generalize wr.heap.size=bt at B2 ⊢
   generalize wr.alloc _=W3 at B2 ⊢
   have B3:=Ja.new W3 #[.int .i64 t.c] 2
   refine(S6 _ _ 1 1 [t.c] (Qs B3.2 rfl (by simp)) rfl (by decide)).mono ?_
   rintro _ W4 ⟨r,rfl,g4,h⟩
   have G2:=ξ (GL.out.trans (B2.out.1.trans (B3.1.trans g4)))
   have y4:=(B2.out.2.grow (B3.1.trans g4)).at 0 rfl
   clear B2 B3 g4 c0 c1
   rcases h.cases with⟨rfl,k1⟩|⟨rfl,k1⟩
   ·have HK:=ξ (show In t.c from k1 t.c (List.mem_singleton.2 rfl))
    clear h k1
    have hk1:IntKind.i64.wrap ((k:Int)+1)=(k:Int)+1:=by rw[IntKind.wrap_i64];omega
    go_wp2_with fail
    any_goals(rename_i hh;exfalso;simp only[beq_iff_eq] at hh;omega)
    exact⟨⟨k+1,by rw[J3J HT.out],by go_num,by omega,J3g HT.out HQ.out HV.out.1 HV.out.2.1 HV.out.2.2 HK.out,G2.out⟩,by simp[RowKit.intOf];omega⟩
   ·have H:=ξ (show ¬ Kb n x.s from fun h=>X2 HT.out (fun q=>k1 (fun z hz=>by obtain rfl:=List.mem_singleton.1 hz;exact q.2.2.2)) h.2.2.2.2.2)
    clear h k1
    go_wp2_with fail
    try rw[Exit.noGoto_ret]
    go_ret
    exact⟨_,rfl,G.out.trans G2.out,Jb.no H.out⟩
  ·obtain rfl:k=x.terms.length:=by omega
   have x0:=(TX.out.grow GL.out).at 0 rfl
   go_wp2_with fail
   clear x0
   refine(Tryz.strings_ContainsFunc_grows 140 #[] (enters_of Tryz.func140 (by kernel_rfl) rfl) offText ⟨x.name.toArray⟩ wr (fun W x hx _=>J3H W x hx)).mono ?_
   rintro _ W5 ⟨rfl,g5⟩
   have g5:Gr wr W5:=g5
   have G5:=ξ (G.out.trans (GL.out.trans g5))
   obtain⟨t,ht⟩:∃ t,decide (0≤idxFunc offText true ⟨x.name.toArray⟩)=t:=⟨_,rfl⟩
   rw[ht]
   have HT:=ξ ht
   clear ht g5
   cases t
   ·have HN:=ξ (show ∀ b ∈ x.s.name,32≤b∧b≤126 from Classical.not_not.1 fun h=>of_decide_eq_false HT.out ((J0M x.name).2 h))
    go_wp2_with fail
    go_ret
    exact⟨_,rfl,G5.out,Jb.yes ⟨HA.out.1,HA.out.2.1,HA.out.2.2,HBd.out,HN.out,by have:=HQ.out;rwa [List.take_length] at this⟩⟩
   ·have HN:=ξ (show ¬ Kb n x.s from fun h=>(J0M x.name).1 (of_decide_eq_true HT.out) h.2.2.2.2.1)
    go_wp2_with fail
    go_ret
    exact⟨_,rfl,G5.out,Jb.no HN.out⟩
theorem J3D (w:World)(bp n m vc vd:Nat)(va vb:Option Addr)(x:RowM)(hn:n≤1000000)(hb:Ja w bp #[.slice va n vc,.slice vb m vd])(hx:Mv w x)(hi:RowI x.s)(hl:x.name.length≤1000000):
  Calls Tryz.prog 86 (#[rowV x] ++ #[.pointer (some ⟨bp,0,none⟩)]) w (Ret w fun r _=>Jb (¬ Kb n x.s) r):=by
 show Calls _ _ #[rowV x,.pointer (some ⟨bp,0,none⟩)] _ _
 have B:=Ja.new w #[.string ⟨x.name.toArray⟩,.int .i64 x.group,.int .i64 x.kind,.slice x.tp x.terms.length x.tc,.int .i64 x.bound] 42
 have HB:=ξ B
 have HP:=ξ (hb.grow B.1)
 have HX:=ξ (show Mv _ x from SlL.grow hx B.1)
 have HI:=ξ hi
 have y0:=HP.out.at 0 rfl
 have z0:=HB.out.2.at 0 rfl
 have z1:=HB.out.2.at 1 rfl
 have z2:=HB.out.2.at 2 rfl
 have z3:=HB.out.2.at 3 rfl
 have z4:=HB.out.2.at 4 rfl
 clear B hx hi hb
 unfold rowV
 go_enter Tryz.func86,Tryz.ntmps86
 go_wp2_with fail
 clear y0 z0 z1 z2 z3 z4
 refine(J3I _ n x hn HX.out HI.out hl).mono ?_
 rintro _ w2 ⟨r,rfl,g2,h⟩
 have G:=ξ (HB.out.1.trans g2)
 clear g2
 rcases h.cases with⟨rfl,k1⟩|⟨rfl,k1⟩
 ·have HN:=ξ (show ¬ ¬ Kb n x.s from fun h=>h k1)
  clear h k1
  go_wp2_with fail
  go_ret
  exact⟨_,rfl,G.out,Jb.no HN.out⟩
 ·have HN:=ξ k1
  clear h k1
  go_wp2_with fail
  go_ret
  exact⟨_,rfl,G.out,Jb.yes HN.out⟩
theorem S4 (w:World)(v:Value)(p:Prg)(hp:Jv w v p)(hi:PrgI p)(hl:∀ r ∈ p.rows,r.name.length≤1000000)(hn:p.vars.length≤1000000)(hm:p.rows.length≤1000000):
  Calls Tryz.prog 40 #[v] w (Ret w fun r _=>Jb (Jr p) r):=by
 have HI:=ξ hi
 have HL:=ξ hl
 clear hi hl
 obtain⟨va,vc,vb,vd,rfl,hv,hr⟩:=hp
 have HV:=ξ hv
 have HR:=ξ hr
 obtain⟨_,_,_,hvb1,hvb2⟩:=SlL.parts hv
 obtain⟨_,_,_,hrb1,hrb2⟩:=hr.parts
 clear hv hr
 have B0:=Ja.new w #[.slice va p.vars.length vc,.slice vb p.rows.length vd] 25
 have HB:=ξ B0
 unfold prgV
 clear B0
 go_enter Tryz.func40,Tryz.ntmps40
 go_wp2_with fail
 any_goals(go_ret;exact⟨_,rfl,HB.out.1,Jb.no fun k=>by have:=k.1;have:=k.2.1;omega⟩)
 have HA:=ξ (show p.vars.length≤400∧p.rows.length≤4000 by omega)
 generalize w.heap.size=bp at HB ⊢
 generalize w.alloc _=W at HB ⊢
 have G:=ξ HB.out.1
 have TP:=ξ HB.out.2
 clear HB
 go_loopw [18] (fun i w9=>∃ k:Nat,i = .int .i64 (k:Int)∧k≤p.vars.length∧(∀ (j:Nat) (x:VarM),j < k→p.vars[j]?=some x→Lz x)∧Gr W w9) (fun i _=>p.vars.length - (RowKit.intOf i).toNat)
 case atStart=>exact⟨0,rfl,Nat.zero_le _,fun j x hj=>by omega,Gr.refl _⟩
 case round=>
  obtain⟨k,rfl,hk,hq,hg⟩:=hrel
  have HQ:=ξ hq
  have GL:=ξ hg
  clear hq hg
  by_cases hlt:k < p.vars.length
  ·have hlt':(k:Int) < (p.vars.length:Int):=by omega
   obtain⟨b,o,t,rfl,ht,hc⟩:=Mn (SlL.grow HV.out (G.out.trans GL.out)) rfl hlt
   obtain⟨c0,c1,c2,c3,c4⟩:=hc _ (Gr.refl _)
   have HT:=ξ ht
   have HVI:=ξ (HI.out.1 t (List.mem_of_getElem? ht))
   have hno:=ξ (show ¬ Lz t→¬ Jr p from fun h q=>h (q.2.2.1 t (List.mem_of_getElem? ht)))
   have B2:=Ja.new wr #[.int .i64 t.lo,.int .i64 t.up,.bool t.op,.bool t.ig,.int .i64 t.cost] 62
   have HB2:=ξ B2
   clear hc ht B2
   go_wp2_with fail
   clear c0 c1 c2 c3 c4
   have G2:=ξ (GL.out.trans HB2.out.1)
   have TV:=ξ HB2.out.2
   clear HB2
   have hsz:(wr.alloc (.cells #[.int .i64 t.lo,.int .i64 t.up,.bool t.op,.bool t.ig,.int .i64 t.cost] 62)).heap.size=wr.heap.size+1:=World.size_alloc ..
   rw[← hsz]
   clear hsz
   generalize wr.heap.size=bt at TV ⊢
   generalize wr.alloc _=W2 at G2 TV ⊢
   have B3:=Ja.new W2 #[.int .i64 t.lo,.int .i64 t.up,.int .i64 t.cost] 2
   refine(S6 _ _ 3 3 [t.lo,t.up,t.cost] (Qs B3.2 rfl (by simp)) rfl (by decide)).mono ?_
   rintro _ W4 ⟨r,rfl,g4,h⟩
   have G2:=ξ (G2.out.trans (B3.1.trans g4))
   have TV:=ξ (TV.out.grow (B3.1.trans g4))
   clear B3 g4
   have y1:=TV.out.at 1 rfl
   have y2:=TV.out.at 2 rfl
   rcases h.cases with⟨rfl,k1⟩|⟨rfl,k1⟩
   rotate_left
   ·have H:=ξ (hno.out (fun h=>k1 (fun z hz=>by
     simp only[List.mem_cons,List.not_mem_nil,or_false] at hz
     rcases hz with rfl|rfl|rfl
     ·exact h.1
     ·exact h.2.1
     ·exact h.2.2.1)))
    clear h k1
    go_wp2_with fail
    try rw[Exit.noGoto_ret]
    go_ret
    exact⟨_,rfl,G.out.trans G2.out,Jb.no H.out⟩
   have H1:=ξ (show In t.lo∧In t.up∧In t.cost from⟨k1 _ (by simp),k1 _ (by simp),k1 _ (by simp)⟩)
   clear h k1
   have hk1:IntKind.i64.wrap ((k:Int)+1)=(k:Int)+1:=by rw[IntKind.wrap_i64];omega
   by_cases hbad:t.op=true∧t.up≠0
   ·have e1:t.op=true:=hbad.1
    have e2:(t.up != 0)=true:=by simpa using hbad.2
    have H:=ξ (hno.out (fun h=>h.2.2.2 hbad))
    rw[e1] at y2
    clear hbad
    go_wp2_with fail
    try rw[Exit.noGoto_ret]
    go_ret
    exact⟨_,rfl,G.out.trans G2.out,Jb.no H.out⟩
   ·have HOK:=ξ (show Lz t from⟨H1.out.1,H1.out.2.1,H1.out.2.2,hbad⟩)
    have hnext:RowKit.Hid (∀ (j:Nat) (x:VarM),j < k+1→p.vars[j]?=some x→Lz x):=ξ fun j x hj hx=>by
     by_cases e:j=k
     ·subst e
      rw[HT.out] at hx
      cases hx
      exact HOK.out
     ·exact HQ.out j x (by omega) hx
    obtain⟨op,hop⟩:∃ b,t.op=b:=⟨_,rfl⟩
    rw[hop] at y2
    cases op
    ·clear hbad hop
     go_wp2_with fail
     exact⟨⟨k+1,by go_num,by omega,hnext.out,G2.out⟩,by simp[RowKit.intOf];omega⟩
    ·have e2:(t.up != 0)=false:=by
      have:t.up=0:=Classical.not_not.1 fun h=>hbad ⟨hop,h⟩
      simpa using this
     clear hbad hop
     go_wp2_with fail
     exact⟨⟨k+1,by go_num,by omega,hnext.out,G2.out⟩,by simp[RowKit.intOf];omega⟩
  ·obtain rfl:k=p.vars.length:=by omega
   have HVS:=ξ (show ∀ v ∈ p.vars,Lz v from fun v hv=>by
    obtain⟨i,hi,rfl⟩:=List.getElem_of_mem hv
    exact HQ.out i _ hi (List.getElem?_eq_getElem hi))
   have y1:=(TP.out.grow GL.out).at 1 rfl
   go_wp2_with fail
   clear y1
   obtain⟨T,hT1,hT2,hT3⟩:=HR.out
   have hTl:T.length=p.rows.length:=by rw[← hT2,List.length_map]
   have HT:=ξ (And.intro hT2 hT3)
   have hin:∀ y ∈ T,y.s ∈ p.rows:=fun y hy=>by rw[← hT2];exact List.mem_map.2 ⟨y,hy,rfl⟩
   refine(J5L wr vb p.rows.length vd T (.func (.func 86) #[] #[.pointer (some ⟨bp,0,none⟩)]) (fun y=>¬ Kb p.vars.length y.s) (SlL.grow hT1 (G.out.trans GL.out)) hTl (by omega)
    ⟨_,_,rfl,enters_of Tryz.func86 (by kernel_rfl) rfl,fun w' g y hy=>J3D w' bp p.vars.length p.rows.length vc vd va vb y hn (TP.out.grow (GL.out.trans g)) (SlL.grow (hT3 y hy) ((G.out.trans GL.out).trans g)) (HI.out.2 _ (hin y hy)) (HL.out _ (hin y hy))⟩).mono ?_
   rintro _ w5 ⟨r,rfl,g5,h⟩
   have G5:=ξ (G.out.trans (GL.out.trans g5))
   clear g5 hT1 hT2 hT3 hTl hin
   rcases h.cases with⟨rfl,k1⟩|⟨rfl,k1⟩
   ·have HN:=ξ (show ¬ Jr p from fun q=>by
     obtain⟨y,hy,k⟩:=k1
     exact k (q.2.2.2 _ (by rw[← HT.out.1];exact List.mem_map.2 ⟨y,hy,rfl⟩)))
    clear h k1
    go_wp2_with fail
    go_ret
    exact⟨_,rfl,G5.out,Jb.no HN.out⟩
   ·have HN:=ξ (show Jr p from⟨HA.out.1,HA.out.2,HVS.out,fun r hr=>by
     rw[← HT.out.1] at hr
     obtain⟨y,hy,rfl⟩:=List.mem_map.1 hr
     exact Classical.not_not.1 fun h=>k1 ⟨y,hy,h⟩⟩)
    clear h k1
    go_wp2_with fail
    go_ret
    exact⟨_,rfl,G5.out,Jb.yes HN.out⟩
theorem l_at (w:World)(p:Option Addr)(n c:Nat)(a:Nat→Rat)(L:Nat)(i:Int)(z:Rat)(h:Ke w (.slice p n c) n a L)(h1:0≤i→i < (n:Int)→a i.toNat=z)(h2:¬ (0≤i∧i < (n:Int))→z=0):
  Calls Tryz.prog 127 #[.slice p n c,.int .i64 i] w (Ret w fun r w'=>RatV w' r z L):=by
 have HA:=ξ h
 by_cases hi0:i < 0
 ·obtain rfl:=h2 (by omega)
  clear h h1 h2
  have B:=box3 w (.bool false) (.slice none 0 0) (.slice none 0 0) 68
  go_enter Tryz.func127,Tryz.ntmps127
  go_wp2_with fail
  generalize w.alloc _=W at B ⊢
  obtain⟨G0,t0⟩:=B
  generalize hb0:w.heap.size=b0 at t0  ⊢
  have Hb0:=ξ (show ¬ b0 < w.heap.size by omega)
  have G:=ξ G0
  have T0:=ξ t0
  clear hb0 G0 t0
  have T0_0:=T0.out.load.1
  have T0_1:=T0.out.load.2.1
  have T0_2:=T0.out.load.2.2
  refine bodyPost_ret (by simp[results,Tryz.results127,go_sem,T0_0,T0_1,T0_2];rfl) rfl ?_
  exact⟨_,rfl,G.out,P9 W L⟩
 ·have hi0':0≤i:=by omega
  by_cases hin:i < (n:Int)
  ·have hz:=h1 hi0' hin
   obtain⟨k,rfl⟩:∃ k:Nat,i=k:=⟨i.toNat,by omega⟩
   have hk:k < n:=by omega
   obtain⟨b,o,t,rfl,hv,hc⟩:=h.at hk
   rw[show a k=z from hz] at hv
   have HV:=ξ hv
   have B:=box3 w (.bool false) (.slice none 0 0) (.slice none 0 0) 68
   obtain⟨c0,c1,c2⟩:=hc _ B.1
   have HV:=ξ hv
   clear h h1 h2 hz hv hc B
   go_enter Tryz.func127,Tryz.ntmps127
   go_wp2_with fail
   obtain⟨G1,T0⟩:=box3 w (.bool t.n) (.slice t.p t.k t.c) (.slice t.q t.m t.e) 68
   generalize w.heap.size=b0 at T0 ⊢
   generalize w.alloc _=W1 at G1 T0 ⊢
   have T0_0:=T0.load.1
   have T0_1:=T0.load.2.1
   have T0_2:=T0.load.2.2
   refine bodyPost_ret (by simp[results,Tryz.results127,go_sem,T0_0,T0_1,T0_2];rfl) rfl ?_
   exact⟨_,rfl,G1,HV.out.grow G1⟩
  ·obtain rfl:=h2 (by omega)
   have hin':(n:Int)≤i:=by omega
   clear h h1 h2
   have B:=box3 w (.bool false) (.slice none 0 0) (.slice none 0 0) 68
   go_enter Tryz.func127,Tryz.ntmps127
   go_wp2_with fail
   generalize w.alloc _=W at B ⊢
   obtain⟨G0,t0⟩:=B
   generalize hb0:w.heap.size=b0 at t0  ⊢
   have Hb0:=ξ (show ¬ b0 < w.heap.size by omega)
   have G:=ξ G0
   have T0:=ξ t0
   clear hb0 G0 t0
   have T0_0:=T0.out.load.1
   have T0_1:=T0.out.load.2.1
   have T0_2:=T0.out.load.2.2
   refine bodyPost_ret (by simp[results,Tryz.results127,go_sem,T0_0,T0_1,T0_2];rfl) rfl ?_
   exact⟨_,rfl,G.out,P9 W L⟩
theorem S5 (w:World)(p:Option Addr)(c:Nat)(xs:List Rat)(L k:Nat)(h:Kx w (.slice p xs.length c) xs L):
  Calls Tryz.prog 127 #[.slice p xs.length c,.int .i64 (k:Int)] w (Ret w fun r w'=>RatV w' r (atQ xs k) L):=
 l_at w p xs.length c (atQ xs) L k _ h (fun _ _=>by simp) (fun h=>Rv (by omega))
theorem Yl (w:World)(v:Value)(p:Prg)(q:Option Addr)(c:Nat)(y:List Rat)(L:Nat)(hp:Jv w v p)(hy:Kx w (.slice q y.length c) y L)(hL:L≤1000)(hm:p.rows.length≤1000000):
  Calls Tryz.prog 89 #[v,.slice q y.length c] w (Ret w fun r _=>Jb (M9 p y) r):=by
 have HY:=ξ hy
 clear hy
 obtain⟨va,vc,vb,vd,rfl,hv,hr⟩:=hp
 have HV:=ξ hv
 have HR:=ξ hr
 obtain⟨_,_,_,hvb1,hvb2⟩:=SlL.parts hv
 obtain⟨_,_,_,hrb1,hrb2⟩:=hr.parts
 clear hv hr
 have B0:=Ja.new w #[.slice va p.vars.length vc,.slice vb p.rows.length vd] 25
 have HB:=ξ B0
 unfold prgV
 clear B0
 go_enter Tryz.func89,Tryz.ntmps89
 go_wp2_with fail
 generalize w.heap.size=bp at HB ⊢
 generalize w.alloc _=W at HB ⊢
 have G:=ξ HB.out.1
 have TP:=ξ HB.out.2
 clear HB
 go_loopw [11] (fun i w9=>∃ k:Nat,i = .int .i64 (k:Int)∧k≤p.rows.length∧(∀ (j:Nat) (x:RowS),j < k→p.rows[j]?=some x→Pc x.kind (atQ y j))∧Gr W w9) (fun i _=>p.rows.length - (RowKit.intOf i).toNat)
 case atStart=>exact⟨0,rfl,Nat.zero_le _,fun j x hj=>by omega,Gr.refl _⟩
 case round=>
  obtain⟨k,rfl,hk,hq,hg⟩:=hrel
  have HQ:=ξ hq
  have GL:=ξ hg
  clear hq hg
  by_cases hlt:k < p.rows.length
  ·have hlt':(k:Int) < (p.rows.length:Int):=by omega
   obtain⟨b,o,x,rfl,hx,hin,hc⟩:=(HR.out.grow G.out).at hlt
   have HX:=ξ hx
   obtain⟨c0,c1,c2,c3,c4⟩:=hc wr GL.out
   have B6:=Ja.new wr #[.string ⟨x.name.toArray⟩,.int .i64 x.group,.int .i64 x.kind,.slice x.tp x.terms.length x.tc,.int .i64 x.bound] 42
   have H6:=ξ B6.2
   have GL:=ξ (GL.out.trans B6.1)
   clear B6
   have hk1:IntKind.i64.wrap ((k:Int)+1)=(k:Int)+1:=by rw[IntKind.wrap_i64];omega
   clear hc hx hin
   go_wp2_with fail
   clear c0 c1 c2 c3 c4
   generalize wr.heap.size=b6 at H6 ⊢
   generalize wr.alloc _=W6 at H6 GL ⊢
   refine(S5 W6 q c y L k (HY.out.grow (G.out.trans GL.out))).mono ?_
   rintro _ w2 ⟨r,rfl,g2,hr⟩
   have GL:=ξ (GL.out.trans g2)
   have H6:=ξ (H6.out.grow g2)
   have HRR:=ξ hr
   clear g2 hr
   go_wp2_with fail
   obtain⟨cs,hcs⟩:∃ c,sgn (atQ y k).num=c:=⟨_,rfl⟩
   refine(Pu w2 r (atQ y k) cs L HRR.out hcs (by omega)).mono ?_
   rintro _ w3 ⟨_,rfl,g3,rfl⟩
   have GL:=ξ (GL.out.trans g3)
   obtain⟨hs1,hs2⟩:=Rw hcs
   have HS:=ξ (And.intro hs1 hs2)
   clear hcs hs1 hs2
   have c2:=(H6.out.grow g3).at 2 rfl
   obtain⟨kd,hkd⟩:∃ c,x.kind=c:=⟨_,rfl⟩
   rw[hkd] at c2
   have HK:=ξ (show x.s.kind=kd from hkd)
   have hno:=ξ (show ¬ Pc kd (atQ y k)→¬ M9 p y from fun h q=>h (by have:=q k _ HX.out;rwa [HK.out] at this))
   have hnext:=ξ (show Pc kd (atQ y k)→∀ (j:Nat) (z:RowS),j < k+1→p.rows[j]?=some z→Pc z.kind (atQ y j) from fun h j z hj hz=>by
    by_cases e:j=k
    ·subst e
     rw[HX.out] at hz
     cases hz
     rw[HK.out];exact h
    ·exact HQ.out j z (by omega) hz)
   clear hkd
   by_cases h1:kd=1
   ·subst h1
    by_cases hn:cs < 0
    ·have H:=ξ (hno.out fun h=>h.1 ⟨rfl,HS.out.1.1 hn⟩)
     go_wp2_with fail
     try rw[Exit.noGoto_ret]
     go_ret
     exact⟨_,rfl,G.out.trans GL.out,Jb.no H.out⟩
    ·have hn':0≤cs:=by omega
     have H:=ξ (hnext.out ⟨fun h=>hn (HS.out.1.2 h.2),fun h=>absurd h.1 (by decide)⟩)
     clear hn
     go_wp2_with fail
     exact⟨⟨k+1,by go_num,by omega,H.out,GL.out⟩,by simp[RowKit.intOf];omega⟩
   ·have e1:(kd == 1)=false:=by simpa using h1
    by_cases h0:kd=0
    ·subst h0
     by_cases hn:0 < cs
     ·have H:=ξ (hno.out fun h=>h.2 ⟨rfl,HS.out.2.1 hn⟩)
      clear e1 h1
      go_wp2_with fail
      try rw[Exit.noGoto_ret]
      go_ret
      exact⟨_,rfl,G.out.trans GL.out,Jb.no H.out⟩
     ·have hn':cs≤0:=by omega
      have H:=ξ (hnext.out ⟨fun h=>absurd h.1 (by decide),fun h=>hn (HS.out.2.2 h.2)⟩)
      clear hn e1 h1
      go_wp2_with fail
      exact⟨⟨k+1,by go_num,by omega,H.out,GL.out⟩,by simp[RowKit.intOf];omega⟩
    ·have e0:(kd == 0)=false:=by simpa using h0
     have H:=ξ (hnext.out ⟨fun h=>absurd h.1 h1,fun h=>absurd h.1 h0⟩)
     clear h1 h0
     go_wp2_with fail
     exact⟨⟨k+1,by go_num,by omega,H.out,GL.out⟩,by simp[RowKit.intOf];omega⟩
  ·obtain rfl:k=p.rows.length:=by omega
   have H:=ξ (show M9 p y from fun i r hr=>HQ.out i r (List.getElem?_eq_some_iff.1 hr).1 hr)
   go_wp2_with fail
   go_ret
   exact⟨_,rfl,G.out.trans GL.out,Jb.yes H.out⟩
def Rt (w:World)(v:Value)(n:Nat)(k:Nat→Int)(x:Nat→Rat)(L:Nat):Prop:=∃ (f:Nat) (caps:Array Value),v = .func (.func f) #[] caps∧(∀ args w,(callFunc f args).run Tryz.prog w = .ok (.enter f args) w)∧
 ∀ w',Gr w w'→∀ i,i < n→Calls Tryz.prog f (#[.int .i64 (i:Int)] ++ caps) w' (Ret w' fun r w''=>∃ u,r = .tuple #[.int .i64 (k i),u]∧RatV w'' u (x i) L)
structure Mw (w W:World)(b4 b5:Nat)(s:Rat):Prop where
 g:Gr w W
 t4:Jk W b4 (.bool false) (.slice none 0 0) (.slice none 0 0)
 t5:J6 W b5 s
theorem Mw.grow {w W W':World}{b4 b5:Nat}{s:Rat}(h:Mw w W b4 b5 s)(g:Gr W W'):Mw w W' b4 b5 s:=⟨h.g.trans g,h.t4.grow g,h.t5.grow g⟩
theorem Mw.putB {w W:World}{b4 b5:Nat}{s s':Rat}(h:Mw w W b4 b5 s)(hn:w.heap.size≤b4∧w.heap.size≤b5∧b4≠b5){t:RatM}(ht:RatC W t.v s'):
  Mw w (set3 W b5 (.bool t.n) (.slice t.p t.k t.c) (.slice t.q t.m t.e)) b4 b5 s':=
 have hu:=upd3 W b5 (.bool t.n) (.slice t.p t.k t.c) (.slice t.q t.m t.e)
 ⟨Ko h.g hn.2.1 _ _ _,h.t4.upd hu hn.2.2,h.t5.put ht⟩
theorem J3c {n:Int}(h:I64 n):Sz 2 (n:Rat):=Nq (J3b n h.1 h.2) (by decide)
theorem Ub {x:Rat}{c:Int}(h:sgn x.num=c):c=0↔x=0:=by
 have:=Rw h
 constructor
 ·intro e;subst e
  have h1:=this.1;have h2:=this.2
  simp at h1 h2
  grind
 ·rintro rfl
  have h1:=this.1;have h2:=this.2
  simp at h1 h2
  omega
theorem Yn (w:World)(v:Value)(n:Nat)(k:Nat→Int)(x:Nat→Rat)(L:Nat)(hf:Rt w v n k x L)(hk:∀ i,i < n→I64 (k i))(hz:∀ i,i≤n→Sz 900 (sumQ (fun j=>(k j:Rat) * x j) i))(hz2:∀ i,i < n→Sz 900 ((k i:Rat) * x i))(hL:L≤900)(hn:n≤1000000):
  Calls Tryz.prog 133 #[.int .i64 (n:Int),v] w (Ret w fun r w'=>RatC w' r (sumQ (fun j=>(k j:Rat) * x j) n)):=by
 obtain⟨f,caps,rfl,he,h5⟩:=hf
 have H5:=ξ h5
 have HK:=ξ hk
 have HZ:=ξ (And.intro hz hz2)
 have B4:=box3 w (.bool false) (.slice none 0 0) (.slice none 0 0) 68
 have HB:=ξ B4
 clear h5 hk hz hz2 B4
 go_enter Tryz.func133,Tryz.ntmps133
 go_wp2_with fail
 generalize hb4:w.heap.size=b4 at HB ⊢
 generalize w.alloc _=W at HB ⊢
 have HB4:=ξ (show w.heap.size≤b4 from by omega)
 clear hb4
 refine(Lu W 0 (by decide) (by decide)).mono ?_
 rintro _ w1 ⟨r1,rfl,g1,h1⟩
 obtain⟨s8,p8,k8,c8,e8,m8,n8,rfl⟩:=h1.agg
 have B5:=box3 w1 (.bool s8) (.slice p8 k8 c8) (.slice e8 m8 n8) 68
 have HS0:=ξ (show Mw w (w1.alloc (.cells #[.bool s8,.slice p8 k8 c8,.slice e8 m8 n8] 68)) b4 w1.heap.size (sumQ (fun j=>(k j:Rat) * x j) 0) from
  ⟨HB.out.1.trans (g1.trans B5.1),HB.out.2.grow (g1.trans B5.1),⟨s8,p8,k8,c8,e8,m8,n8⟩,B5.2,by have:=h1.grow B5.1;exact this⟩)
 have HN:=ξ (show w.heap.size≤b4∧w.heap.size≤w1.heap.size∧b4≠w1.heap.size from by
  have h2:=(HB.out.2.grow g1).lt
  exact⟨HB4.out,(HB.out.1.trans g1).size,by omega⟩)
 clear h1 g1 B5 HB HB4
 go_wp2_with fail
 generalize w1.heap.size=b5 at HS0 HN ⊢
 generalize w1.alloc _=W1 at HS0 ⊢
 go_loopw [11] (fun i w9=>∃ m:Nat,i = .int .i64 (m:Int)∧m≤n∧Mw w w9 b4 b5 (sumQ (fun j=>(k j:Rat) * x j) m)) (fun i _=>n - (RowKit.intOf i).toNat)
 case atStart=>exact⟨0,rfl,Nat.zero_le _,HS0.out⟩
 case round=>
  clear HS0
  obtain⟨m,rfl,hm,hq⟩:=hrel
  have HS:=ξ hq
  clear hq
  by_cases hlt:m < n
  ·have hlt':(m:Int) < (n:Int):=by omega
   have hk1:IntKind.i64.wrap ((m:Int)+1)=(m:Int)+1:=by rw[IntKind.wrap_i64];omega
   go_wp2_with fail
   refine(H5.out wr HS.out.g m hlt).mono ?_
   rintro _ w2 ⟨_,rfl,g2,u,rfl,hu⟩
   obtain⟨s9,p9,k9,c9,e9,m9,n9,rfl⟩:=hu.agg
   have B8:=box3 w2 (.bool s9) (.slice p9 k9 c9) (.slice e9 m9 n9) 68
   have HS:=ξ (HS.out.grow (g2.trans B8.1))
   have HU:=ξ (hu.grow B8.1)
   have T8:=ξ B8.2
   have HKI:=ξ (HK.out m hlt)
   obtain⟨km,hkm⟩:∃ c,k m=c:=⟨_,rfl⟩
   rw[hkm] at HKI ⊢
   have HKM:=ξ hkm
   clear hu g2 B8 hkm
   by_cases h0:km=0
   ·have e0:(km != 0)=false:=by simpa using h0
    have HE:=ξ (show(k m:Rat) * x m=0 from by rw[HKM.out,h0];simp)
    clear h0
    go_wp2_with fail
    exact⟨⟨m+1,by go_num,by omega,by rw[Kq,HE.out,Rat.add_zero];exact HS.out⟩,by simp[RowKit.intOf];omega⟩
   ·have e0:(km != 0)=true:=by simpa using h0
    clear h0
    have t0:=T8.out.load.1
    have t1:=T8.out.load.2.1
    have t2:=T8.out.load.2.2
    go_wp2_with fail
    clear t0 t1 t2
    generalize w2.heap.size=b8 at T8 ⊢
    generalize w2.alloc _=W2 at HS HU T8 ⊢
    obtain⟨cs,hcs⟩:∃ c,sgn (x m).num=c:=⟨_,rfl⟩
    refine(Pu W2 _ (x m) cs L HU.out hcs (by omega)).mono ?_
    rintro _ w3 ⟨_,rfl,g3,rfl⟩
    have HS:=ξ (HS.out.grow g3)
    have HU:=ξ (HU.out.grow g3)
    have T8:=ξ (T8.out.grow g3)
    have HCZ:=ξ (Ub hcs)
    clear g3 hcs
    by_cases h1:cs=0
    ·have e1:(cs != 0)=false:=by simpa using h1
     have HE:=ξ (show(k m:Rat) * x m=0 from by rw[HCZ.out.1 h1];simp)
     clear h1
     go_wp2_with fail
     exact⟨⟨m+1,by go_num,by omega,by rw[Kq,HE.out,Rat.add_zero];exact HS.out⟩,by simp[RowKit.intOf];omega⟩
    ·have e1:(cs != 0)=true:=by simpa using h1
     clear h1
     go_wp2_with fail
     clear e0 e1
     obtain⟨ts,h7,hts⟩:=HS.out.t5
     have HTS:=ξ hts
     have d0:=h7.c0
     have d1:=h7.c1
     have d2:=h7.c2
     have d3:=T8.out.c0
     have d4:=T8.out.c1
     have d5:=T8.out.c2
     have g0:Gr w3 w3.drew:=(Gr.refl _).drew
     have GZ:=ξ g0
     clear h7 hts
     refine Jp [(0,true),(1,true),(3,true),(2,false),(4,false),(5,false),(6,false)] (by kernel_rfl) (by kernel_rfl) rfl (by kernel_rfl) (fun _ _ d _ _ h=>by cases d<;>exact h) ?_
     repeat(refine Jf (v:=?_) g0 rfl rfl (fun w' hg=>?_) (fun K hK=>?_);rotate_left;(go_simp;rfl);go_simp;refine hK _ _ ?_;clear hK K)
     refine Jd (args:=?_) rfl rfl rfl rfl rfl rfl (by kernel_rfl) (by kernel_rfl) ?_ (fun K hK=>?_)
     rotate_left
     ·go_simp;rfl
     refine(Lu _ km HKI.out.1 HKI.out.2).mono ?_
     rintro _ w4 ⟨r1,rfl,g1,h1⟩
     refine⟨_,rfl,g1,?_⟩
     go_simp
     refine hK _ _ ?_
     clear hK K
     have GZ:=ξ (GZ.out.trans g1)
     refine Jd (args:=?_) rfl rfl rfl rfl rfl rfl (by kernel_rfl) (by kernel_rfl) ?_ (fun K hK=>?_)
     rotate_left
     ·go_simp;rfl
     refine(Nn _ _ _ (km:Rat) (x m) _ 2 L (h1.v (J3c HKI.out)) (HU.out.grow GZ.out) rfl (by decide) (by omega)).mono ?_
     rintro _ w5 ⟨r2,rfl,g2,h2⟩
     refine⟨_,rfl,g2,?_⟩
     go_simp
     refine hK _ _ ?_
     clear hK K
     have GZ:=ξ (GZ.out.trans g2)
     clear h1
     refine Jd (args:=?_) rfl rfl rfl rfl rfl rfl (by kernel_rfl) (by kernel_rfl) ?_ (fun K hK=>?_)
     rotate_left
     ·go_simp;rfl
     refine(Qz _ _ _ _ _ (sumQ (fun j=>(k j:Rat) * x j) (m+1)) 900 900 (RatC.v (HTS.out.grow GZ.out) (HZ.out.1 m (by omega))) (h2.v (by have:=HZ.out.2 m hlt;rw[HKM.out] at this;exact this)) (by rw[Kq,HKM.out]) (by decide) (by decide)).mono ?_
     rintro _ w6 ⟨r3,rfl,g3,h3⟩
     refine⟨_,rfl,g3,?_⟩
     go_simp
     refine hK _ _ ?_
     clear hK K
     have GZ:=ξ (GZ.out.trans g3)
     clear h2
     have HS:=ξ (HS.out.grow GZ.out)
     obtain⟨s7,p7,k7,c7,e7,m7,n7,rfl⟩:=h3.agg
     obtain⟨t1,h7,-⟩:=HS.out.t5
     have f0:=h7.load.1
     have f1:=h7.load.2.1
     have f2:=h7.load.2.2
     have f3:=h7.f0 0
     have f4:=h7.f0 1
     have f5:=h7.f0 2
     have HNX:=ξ (show Mw w (set3 w6 b5 (.bool s7) (.slice p7 k7 c7) (.slice e7 m7 n7)) b4 b5 (sumQ (fun j=>(k j:Rat) * x j) (m+1)) from HS.out.putB HN.out (t:=⟨s7,p7,k7,c7,e7,m7,n7⟩) h3)
     clear h3 h7 d0 d1 d2 d3 d4 d5
     refine Jj rfl rfl (fun K hK=>?_)
     go_simp
     refine⟨fun h=>Bool.noConfusion h,hK _ _ ?_⟩
     clear hK K
     unfold set3 at HNX
     generalize ((w6.setCell _ _).setCell _ _).setCell _ _=W5 at HNX ⊢
     refine Ji ?_
     clear f0 f1 f2 f3 f4 f5 g0 g1 g2 g3
     go_wp2_with fail
     exact⟨⟨m+1,by go_num,by omega,HNX.out⟩,by simp[RowKit.intOf];omega⟩
  ·obtain rfl:m=n:=by omega
   obtain⟨ts,h7,hts⟩:=HS.out.t5
   have HTS:=ξ hts
   have d0:=h7.load.1
   have d1:=h7.load.2.1
   have d2:=h7.load.2.2
   have h4:=HS.out.t4
   have f0:=h4.load.1
   have f1:=h4.load.2.1
   have f2:=h4.load.2.2
   have f3:=h4.f0 0
   have f4:=h4.f0 1
   have f5:=h4.f0 2
   have HXX:=ξ (show Gr w (set3 wr b4 (.bool ts.n) (.slice ts.p ts.k ts.c) (.slice ts.q ts.m ts.e))∧Jk (set3 wr b4 (.bool ts.n) (.slice ts.p ts.k ts.c) (.slice ts.q ts.m ts.e)) b4 (.bool ts.n) (.slice ts.p ts.k ts.c) (.slice ts.q ts.m ts.e)∧RatC (set3 wr b4 (.bool ts.n) (.slice ts.p ts.k ts.c) (.slice ts.q ts.m ts.e)) ts.v _ from
    ⟨Ko HS.out.g HN.out.1 _ _ _,h4.set _ _ _,HTS.out.upd h4.noInt (upd3 _ _ _ _ _)⟩)
   clear h4 h7 hts
   go_wp2_with fail
   clear d0 d1 d2 f0 f1 f2 f3 f4 f5
   unfold set3 at HXX
   generalize ((wr.setCell _ _).setCell _ _).setCell _ _=W5 at HXX ⊢
   have T0_0:=HXX.out.2.1.load.1
   have T0_1:=HXX.out.2.1.load.2.1
   have T0_2:=HXX.out.2.1.load.2.2
   refine bodyPost_ret (by simp[results,Tryz.results133,go_sem,T0_0,T0_1,T0_2];rfl) rfl ?_
   exact⟨_,rfl,HXX.out.1,HXX.out.2.2⟩
def kB (p:Prg)(i:Nat):Int:=match p.rows[i]? with
 | some r=>r.bound
 | none=>0
theorem cB_k (p:Prg)(y:List Rat)(i:Nat):cB p y i=(kB p i:Rat) * atQ y i:=by
 unfold cB kB
 cases p.rows[i]? with
 | some r=>rfl
 | none=>simp
open Classical in
noncomputable def kL (vs:List VarM) (a:Nat→Rat) (i:Nat):Int:=match vs[i]? with
 | some v=>if a i < 0 then v.up else v.lo
 | none=>0
theorem lT_k (vs:List VarM)(a:Nat→Rat)(i:Nat):lTerm vs a i=(kL vs a i:Rat) * a i:=by
 unfold lTerm kL
 cases vs[i]? with
 | some v=>
  show(if a i < 0 then v.up else v.lo:Int) * a i=((if a i < 0 then v.up else v.lo:Int):Rat) * a i
  by_cases h:a i < 0
  ·simp only[if_pos h]
  ·simp only[if_neg h]
 | none=>simp
theorem J3B (w:World)(bp bq n vc vd c:Nat)(va vb q:Option Addr)(p:Prg)(y:List Rat)(L i:Nat)(hb:Ja w bp #[.slice va n vc,.slice vb p.rows.length vd])(hq:Ja w bq #[.slice q y.length c])(hr:Mc w (.slice vb p.rows.length vd) p.rows)(hy:Kx w (.slice q y.length c) y L)(hi:i < p.rows.length)(hm:p.rows.length≤1000000):
  Calls Tryz.prog 144 (#[.int .i64 (i:Int)] ++ #[.pointer (some ⟨bp,0,none⟩),.pointer (some ⟨bq,0,none⟩)]) w (Ret w fun r w'=>∃ u,r = .tuple #[.int .i64 (kB p i),u]∧RatV w' u (atQ y i) L):=by
 show Calls _ _ #[.int .i64 (i:Int),.pointer (some ⟨bp,0,none⟩),.pointer (some ⟨bq,0,none⟩)] _ _
 obtain⟨b,o,x,rfl,hx,hin,hc⟩:=hr.at hi
 have HK:=ξ (show kB p i=x.bound from by unfold kB;rw[hx];rfl)
 have HY:=ξ hy
 have B5:=box3 w (.bool false) (.slice none 0 0) (.slice none 0 0) 68
 have HB:=ξ B5
 have y1:=(hb.grow B5.1).c 1 rfl
 have z0:=(hq.grow B5.1).c 0 rfl
 have c4:=fun w' g=>(hc w' (B5.1.trans g)).2.2.2.2
 have hi':(i:Int) < (p.rows.length:Int):=by omega
 clear hb hq hr hy hx hin hc B5
 go_enter Tryz.func144,Tryz.ntmps144
 go_wp2_with fail
 generalize hb5:w.heap.size=b5 at HB ⊢
 generalize w.alloc _=W at HB y1 z0 c4 ⊢
 have HB5:=ξ (show w.heap.size≤b5 from by omega)
 clear hb5
 have g0:Gr W W.drew:=(Gr.refl _).drew
 have GZ:=ξ g0
 refine Jp [(0,true),(1,true),(2,true),(3,true),(4,true),(5,true),(6,true),(7,true),(8,false),(9,true),(10,false)] (by kernel_rfl) (by kernel_rfl) rfl (by kernel_rfl) (fun _ _ d _ _ h=>by cases d<;>exact h) ?_
 repeat(refine Jf (v:=?_) g0 rfl rfl (fun w' hg=>?_) (fun K hK=>?_);rotate_left;(go_simp;rfl);go_simp;refine hK _ _ ?_;clear hK K)
 refine Jd (args:=?_) rfl rfl rfl rfl rfl rfl (by kernel_rfl) (by kernel_rfl) ?_ (fun K hK=>?_)
 rotate_left
 ·go_simp;rfl
 refine(S5 _ q c y L i (HY.out.grow (HB.out.1.trans GZ.out))).mono ?_
 rintro _ w1 ⟨r1,rfl,g1,h1⟩
 refine⟨_,rfl,g1,?_⟩
 go_simp
 refine hK _ _ ?_
 clear hK K
 have GZ:=ξ (GZ.out.trans g1)
 have g4:=GZ.out
 repeat(refine Jf (v:=?_) g4 rfl rfl (fun w' hg=>?_) (fun K hK=>?_);rotate_left;(go_simp;rfl);go_simp;refine hK _ _ ?_;clear hK K)
 obtain⟨s8,p8,k8,c8,e8,m8,n8,rfl⟩:=h1.agg
 have T5:=HB.out.2.grow GZ.out
 have f0:=T5.load.1
 have f1:=T5.load.2.1
 have f2:=T5.load.2.2
 have f3:=T5.f0 0
 have f4:=T5.f0 1
 have f5:=T5.f0 2
 have HX:=ξ (show Gr w (set3 w1 b5 (.bool s8) (.slice p8 k8 c8) (.slice e8 m8 n8))∧Jk (set3 w1 b5 (.bool s8) (.slice p8 k8 c8) (.slice e8 m8 n8)) b5 (.bool s8) (.slice p8 k8 c8) (.slice e8 m8 n8)∧RatV (set3 w1 b5 (.bool s8) (.slice p8 k8 c8) (.slice e8 m8 n8)) (.agg #[.bool s8,.slice p8 k8 c8,.slice e8 m8 n8]) (atQ y i) L from
  ⟨Ko (HB.out.1.trans GZ.out) HB5.out _ _ _,T5.set _ _ _,h1.upd T5.noInt (upd3 _ _ _ _ _)⟩)
 clear h1 T5 y1 z0 c4
 refine Jj rfl rfl (fun K hK=>?_)
 go_simp
 refine⟨fun h=>Bool.noConfusion h,hK _ _ ?_⟩
 clear hK K
 unfold set3 at HX
 generalize ((w1.setCell _ _).setCell _ _).setCell _ _=W5 at HX ⊢
 refine Ji ?_
 clear f0 f1 f2 f3 f4 f5 g0 g1 g4
 go_wp2_with fail
 have T0_0:=HX.out.2.1.load.1
 have T0_1:=HX.out.2.1.load.2.1
 have T0_2:=HX.out.2.1.load.2.2
 refine bodyPost_ret (by simp[results,Tryz.results144,go_sem,T0_0,T0_1,T0_2];rfl) rfl ?_
 exact⟨_,rfl,HX.out.1,_,by rw[HK.out],HX.out.2.2⟩
structure LcSt (w W:World)(bp bq b5 bo:Nat)(u0 u1 uq:Value)(n:Nat)(a:Nat→Rat):Prop where
 g:Gr w W
 tp:Ja W bp #[u0,u1]
 tq:Ja W bq #[uq]
 t5:Jk W b5 (.bool false) (.slice none 0 0) (.slice none 0 0)
 ro:Jo W bo n a 80
theorem LcSt.grow {w W W':World}{bp bq b5 bo:Nat}{u0 u1 uq:Value}{n:Nat}{a:Nat→Rat}(h:LcSt w W bp bq b5 bo u0 u1 uq n a)(g:Gr W W'):LcSt w W' bp bq b5 bo u0 u1 uq n a:=
 ⟨h.g.trans g,h.tp.grow g,h.tq.grow g,h.t5.grow g,h.ro.grow g⟩
structure LcNe (w:World)(bp bq b5 bo:Nat):Prop where
 o:w.heap.size≤bo
 p:bp≠bo
 q:bq≠bo
 o5:b5≠bo
 c:w.heap.size≤b5
theorem LcSt.putO {w W:World}{bp bq b5 bo:Nat}{u0 u1 uq:Value}{n:Nat}{a a':Nat→Rat}(h:LcSt w W bp bq b5 bo u0 u1 uq n a)(hn:LcNe w bp bq b5 bo){k:Nat}(hk:k < n){t:RatM}(ht:RatV W t.v (a' k) 80)(e:∀ i,i < n→i≠k→a i=a' i):
  LcSt w (setRat W bo k t) bp bq b5 bo u0 u1 uq n a':=
 have hu:=Oy W bo k t
 ⟨Qq h.g hn.o k t,h.tp.upd hu hn.p,h.tq.upd hu hn.q,h.t5.upd hu hn.o5,h.ro.set hk ht e⟩
theorem LcSt.congr {w W:World}{bp bq b5 bo:Nat}{u0 u1 uq:Value}{n:Nat}{a a':Nat→Rat}(h:LcSt w W bp bq b5 bo u0 u1 uq n a)(e:∀ j,a j=a' j):LcSt w W bp bq b5 bo u0 u1 uq n a':=
 ⟨h.g,h.tp,h.tq,h.t5,h.ro.congr fun j _=>e j⟩
theorem J23 {p:Prg}{y:List Rat}{i:Nat}(h:atQ y i=0)(j:Nat):sumQ (cA p y j) (i+1)=sumQ (cA p y j) i:=by
 have e:cA p y j i=0:=by
  unfold cA
  cases p.rows[i]? with
  | none=>rfl
  | some r=>simp[h]
 rw[Kq,e,Rat.add_zero]
theorem J1y {y:List Rat}{i:Nat}(h:¬ atQ y i=0):i < y.length:=Classical.not_not.1 fun k=>h (Rv (by omega))
theorem Yi (w:World)(v:Value)(p:Prg)(q:Option Addr)(c:Nat)(y:List Rat)(hp:Jv w v p)(hy:Kx w (.slice q y.length c) y 4)(hc:Calm p y)(hk:Jr p):
  Calls Tryz.prog 90 #[v,.slice q y.length c] w (Ret w fun r w'=>∃ b u,r = .tuple #[.slice (some ⟨b,0,none⟩) p.vars.length p.vars.length,u]∧w.heap.size≤b∧Jo w' b p.vars.length (combA p y) 80∧RatC w' u (combB p y)):=by
 have HY:=ξ hy
 have HC:=ξ hc
 have HK:=ξ hk
 have hn:=hk.1
 have hm:=hk.2.1
 have hyl:=hy.parts
 clear hy hc hk
 obtain⟨va,vc,vb,vd,rfl,hv,hr⟩:=hp
 have HV:=ξ hv
 have HR:=ξ hr
 clear hv hr
 have B0:=Ja.new w #[.slice va p.vars.length vc,.slice vb p.rows.length vd] 25
 have B1:=Ja.new (w.alloc (.cells #[.slice va p.vars.length vc,.slice vb p.rows.length vd] 25)) #[.slice q y.length c] 33
 have B2:=box3 ((w.alloc (.cells #[.slice va p.vars.length vc,.slice vb p.rows.length vd] 25)).alloc (.cells #[.slice q y.length c] 33)) (.bool false) (.slice none 0 0) (.slice none 0 0) 68
 simp only[World.size_alloc] at B1 B2
 have HB:=ξ (show Gr w _∧Ja _ w.heap.size #[.slice va p.vars.length vc,.slice vb p.rows.length vd]∧Ja _ (w.heap.size+1) #[.slice q y.length c]∧Jk _ (w.heap.size+1+1) (.bool false) (.slice none 0 0) (.slice none 0 0) from⟨B0.1.trans (B1.1.trans B2.1),B0.2.grow (B1.1.trans B2.1),B1.2.grow B2.1,B2.2⟩)
 clear B0 B1 B2
 unfold prgV
 go_enter Tryz.func90,Tryz.ntmps90
 go_wp2_with (at_make;refine Hold.hold ?_)
 generalize hb5:w.heap.size+1+1=b5 at HB ⊢
 generalize hbq:w.heap.size+1=bq at HB ⊢
 generalize hbp:w.heap.size=bp at HB ⊢
 generalize ((w.alloc _).alloc _).alloc _=W at HB ⊢
 have G:=ξ HB.out.1
 have TP:=ξ HB.out.2.1
 have TQ:=ξ HB.out.2.2.1
 have T5:=ξ HB.out.2.2.2
 have HBB:=ξ (show w.heap.size≤b5 from by omega)
 clear HB hb5 hbq hbp
 refine Hold.go ?_
 refine Rk rfl _ _ 33 rfl (by kernel_rfl) p.vars.length _ rfl rfl rfl (by omega) ?_
 intro W1 ho g1
 have HNE:=ξ (show LcNe w bp bq b5 W.heap.size from by
  have h1:=TP.out.lt
  have h2:=T5.out.lt
  have h3:=G.out.size
  have h4:=TQ.out.lt
  exact⟨by omega,by omega,by omega,by omega,HBB.out⟩)
 have HS0:=ξ (show LcSt w W1 bp bq b5 W.heap.size (.slice va p.vars.length vc) (.slice vb p.rows.length vd) (.slice q y.length c) p.vars.length (fun _=>0) from
  ⟨G.out.trans g1,TP.out.grow g1,TQ.out.grow g1,T5.out.grow g1,ho⟩)
 have y1:=(TP.out.grow g1).at 1 rfl
 generalize W.heap.size=bo at HS0 HNE ⊢
 clear ho g1 TP TQ T5 G HBB
 go_wp2_with fail
 clear y1
 go_loopw [18] (fun i w9=>∃ k:Nat,i = .int .i64 (k:Int)∧k≤p.rows.length∧LcSt w w9 bp bq b5 bo (.slice va p.vars.length vc) (.slice vb p.rows.length vd) (.slice q y.length c) p.vars.length (fun j=>sumQ (cA p y j) k)) (fun i _=>p.rows.length - (RowKit.intOf i).toNat)
 case atStart=>exact⟨0,rfl,Nat.zero_le _,HS0.out⟩
 case round=>
  clear HS0
  obtain⟨k,rfl,hk,hq⟩:=hrel
  have HS:=ξ hq
  clear hq
  by_cases hlt:k < p.rows.length
  ·have hlt':(k:Int) < (p.rows.length:Int):=by omega
   have hkk1:IntKind.i64.wrap ((k:Int)+1)=(k:Int)+1:=by rw[IntKind.wrap_i64];omega
   obtain⟨b,o,x,rfl,hx,hin,hc⟩:=HR.out.at hlt
   obtain⟨c0,c1,c2,c3,c4⟩:=hc _ HS.out.g
   have HX:=ξ hx
   have HIN:=ξ hin
   have HRO:=ξ (HK.out.2.2.2 _ (List.mem_of_getElem? hx))
   clear hc hx hin
   have B9:=Ja.new wr #[.string ⟨x.name.toArray⟩,.int .i64 x.group,.int .i64 x.kind,.slice x.tp x.terms.length x.tc,.int .i64 x.bound] 42
   have HB9:=ξ (show LcSt w _ bp bq b5 bo _ _ _ p.vars.length _∧Gr wr _∧Ja _ _ _∧wr.heap.size≠bo from⟨HS.out.grow B9.1,B9.1,B9.2,by have:=HS.out.ro.lt;omega⟩)
   clear B9
   have z0:=HB9.out.1.tq.at 0 rfl
   go_wp2_with fail
   clear c0 c1 c2 c3 c4 z0
   generalize wr.heap.size=b9 at HB9 ⊢
   generalize wr.alloc _=W9 at HB9 ⊢
   have H9:=ξ (show Ja W9 b9 #[.string ⟨x.name.toArray⟩,.int .i64 x.group,.int .i64 x.kind,.slice x.tp x.terms.length x.tc,.int .i64 x.bound] from HB9.out.2.2.1)
   have HN9:=ξ HB9.out.2.2.2
   have HS:=ξ HB9.out.1
   clear HB9
   refine(S5 W9 q c y 4 k (HY.out.grow HS.out.g)).mono ?_
   rintro _ w2 ⟨r2,rfl,g2,h2⟩
   have HS:=ξ (HS.out.grow g2)
   have H9:=ξ (H9.out.grow g2)
   have H2:=ξ h2
   clear g2 h2
   go_wp2_with fail
   obtain⟨cs,hcs⟩:∃ c,sgn (atQ y k).num=c:=⟨_,rfl⟩
   refine(Pu w2 r2 (atQ y k) cs 4 H2.out hcs (by decide)).mono ?_
   rintro _ w3 ⟨_,rfl,g3,rfl⟩
   have HS:=ξ (HS.out.grow g3)
   have H9:=ξ (H9.out.grow g3)
   have HCZ:=ξ (Ub hcs)
   clear g3 hcs H2
   by_cases h0:cs=0
   ·have HZ:=ξ (HCZ.out.1 h0)
    subst h0
    go_wp2_with fail
    exact⟨⟨k+1,by go_num,by omega,HS.out.congr fun j=>(J23 HZ.out j).symm⟩,by simp[RowKit.intOf];omega⟩
   have e0:(cs == 0)=false:=by simpa using h0
   have HYL:=ξ (J1y fun h=>h0 (HCZ.out.2 h))
   clear h0 HCZ
   have y3:=H9.out.at 3 rfl
   have htb:=Lp.big HIN.out
   go_wp2_with fail
   clear y3 e0
   go_loopw [31] (fun i w9=>∃ m:Nat,i = .int .i64 (m:Int)∧m≤x.terms.length∧LcSt w w9 bp bq b5 bo (.slice va p.vars.length vc) (.slice (some ⟨b,o,none⟩) p.rows.length vd) (.slice q y.length c) p.vars.length (fun j=>sumQ (cA p y j) k+(rowCoef (x.terms.take m) j:Rat) * atQ y k)∧Ja w9 b9 #[.string ⟨x.name.toArray⟩,.int .i64 x.group,.int .i64 x.kind,.slice x.tp x.terms.length x.tc,.int .i64 x.bound]) (fun i _=>x.terms.length - (RowKit.intOf i).toNat)
   case atStart=>exact⟨0,rfl,Nat.zero_le _,HS.out.congr fun j=>by simp[rowCoef];grind,H9.out⟩
   case round=>
    clear HS H9
    obtain⟨m,rfl,hm2,hq,hq9⟩:=hrel
    have HS:=ξ hq
    have H9:=ξ hq9
    clear hq hq9
    by_cases hlm:m < x.terms.length
    ·have hlm':(m:Int) < (x.terms.length:Int):=by omega
     obtain⟨bt,ot,tm,htp,ht,hct⟩:=P2 HIN.out rfl hlm
     obtain⟨d0,d1⟩:=hct _ HS.out.g
     rw[htp]
     have HT:=ξ ht
     have HTV:=ξ (Nh (Int.le_refl _) HRO.out.2.2.2.2.2 tm (List.mem_of_getElem? ht))
     have HTC:=ξ (Ng _ _ _ _ ht HRO.out.2.2.2.2.2)
     obtain⟨jn,hjn⟩:∃ jn:Nat,tm.v=(jn:Int):=⟨tm.v.toNat,by have:=HTV.out.1;omega⟩
     have hjl:jn < p.vars.length:=by have:=HTV.out.2;omega
     have hjl':(jn:Int) < (p.vars.length:Int):=by omega
     have hj0:(0:Int)≤(jn:Int):=by omega
     rw[hjn] at d0
     have HJ:=ξ hjn
     have BT:=Ja.new wr #[.int .i64 (jn:Int),.int .i64 tm.c] 75
     have HBT:=ξ BT.2
     have HS:=ξ (HS.out.grow BT.1)
     have H9:=ξ (H9.out.grow BT.1)
     have HTP:=ξ htp
     clear ht hct hjn htp BT
     go_wp2_with fail
     clear d0 d1
     generalize wr.heap.size=bt2 at HBT ⊢
     generalize wr.alloc _=W4 at HBT HS H9 ⊢
     have d0:=HBT.out.c 0 rfl
     have d1:=HBT.out.c 1 rfl
     have z0:=HS.out.tq.c 0 rfl
     obtain⟨t0,hv0,hc0⟩:=HS.out.ro.at hjl
     have e0:=fun w' g=>(hc0 w' g).1
     have e1:=fun w' g=>(hc0 w' g).2.1
     have e2:=fun w' g=>(hc0 w' g).2.2
     have HV0:=ξ hv0
     obtain⟨by',oy,ty,hqy,hvy,hcy⟩:=HY.out.at HYL.out
     have hyk:(k:Int) < (y.length:Int):=by have:=HYL.out;omega
     have i0:=fun w' g=>(hcy w' (HS.out.g.trans g)).1
     have i1:=fun w' g=>(hcy w' (HS.out.g.trans g)).2.1
     have i2:=fun w' g=>(hcy w' (HS.out.g.trans g)).2.2
     have HVY:=ξ (hvy.grow HS.out.g)
     rw[show(#[.slice q y.length c]:Array Value)[0] = .slice (some ⟨by',oy,none⟩) y.length c from by show Value.slice q _ _=_;rw[hqy]] at z0
     have g0:Gr W4 W4.drew:=(Gr.refl _).drew
     have GZ:=ξ g0
     clear hv0 hc0 hvy hcy hqy
     refine Jp [(0,true),(1,true),(2,true),(3,true),(4,true),(5,true),(6,true),(7,true),(8,true),(9,true),(11,true),(12,true),(13,true),(14,true),(10,false),(15,false),(16,false),(17,true),(18,false)] (by kernel_rfl) (by kernel_rfl) rfl (by kernel_rfl) (fun _ _ d _ _ h=>by cases d<;>exact h) ?_
     repeat(refine Jf (v:=?_) g0 rfl rfl (fun w' hg=>?_) (fun K hK=>?_);rotate_left;(go_simp;rfl);go_simp;refine hK _ _ ?_;clear hK K)
     refine Jd (args:=?_) rfl rfl rfl rfl rfl rfl (by kernel_rfl) (by kernel_rfl) ?_ (fun K hK=>?_)
     rotate_left
     ·go_simp;rfl
     refine(Lu _ tm.c (Js HTC.out.2.2.2).1 (Js HTC.out.2.2.2).2).mono ?_
     rintro _ w5 ⟨r1,rfl,g1,h1⟩
     refine⟨_,rfl,g1,?_⟩
     go_simp
     refine hK _ _ ?_
     clear hK K
     have GZ:=ξ (GZ.out.trans g1)
     refine Jd (args:=?_) rfl rfl rfl rfl rfl rfl (by kernel_rfl) (by kernel_rfl) ?_ (fun K hK=>?_)
     rotate_left
     ·go_simp;rfl
     refine(Nn _ _ _ (tm.c:Rat) (atQ y k) _ 2 4 (h1.v (Ky HTC.out.2.2.2)) (HVY.out.grow GZ.out) rfl (by decide) (by decide)).mono ?_
     rintro _ w6 ⟨r2,rfl,g2,h2⟩
     refine⟨_,rfl,g2,?_⟩
     go_simp
     refine hK _ _ ?_
     clear hK K
     have GZ:=ξ (GZ.out.trans g2)
     clear h1
     refine Jd (args:=?_) rfl rfl rfl rfl rfl rfl (by kernel_rfl) (by kernel_rfl) ?_ (fun K hK=>?_)
     rotate_left
     ·go_simp;rfl
     refine(Qz _ _ _ _ _ _ 80 80 (HV0.out.grow GZ.out) (h2.v (HC.out.t tm.c k HTC.out.2.2.2)) rfl (by decide) (by decide)).mono ?_
     rintro _ w7 ⟨r3,rfl,g3,h3⟩
     refine⟨_,rfl,g3,?_⟩
     go_simp
     refine hK _ _ ?_
     clear hK K
     have GZ:=ξ (GZ.out.trans g3)
     clear h2
     have g4:=GZ.out
     repeat(refine Jf (v:=?_) g4 rfl rfl (fun w' hg=>?_) (fun K hK=>?_);rotate_left;(go_simp;rfl);go_simp;refine hK _ _ ?_;clear hK K)
     have HS:=ξ (HS.out.grow GZ.out)
     have H9:=ξ (H9.out.grow GZ.out)
     obtain⟨s8,p8,k8,c8,e8,m8,n8,rfl⟩:=h3.agg
     obtain⟨t1,-,hc1⟩:=HS.out.ro.at hjl
     obtain⟨f0,f1,f2⟩:=hc1 w7 (Gr.refl _)
     have f3:=HS.out.ro.f (jn * 3)
     have f4:=HS.out.ro.f (jn * 3+1)
     have f5:=HS.out.ro.f (jn * 3+2)
     clear e0 e1 e2 d0 d1 z0 i0 i1 i2 hc1
     have HNX:=ξ (show LcSt w (setRat w7 bo jn ⟨s8,p8,k8,c8,e8,m8,n8⟩) bp bq b5 bo _ _ _ p.vars.length (fun j=>sumQ (cA p y j) k+(rowCoef (x.terms.take (m+1)) j:Rat) * atQ y k) from
      HS.out.putO HNE.out hjl (t:=⟨s8,p8,k8,c8,e8,m8,n8⟩) (by
       have e:sumQ (cA p y jn) k+(rowCoef (x.terms.take (m+1)) jn:Rat) * atQ y k=sumQ (cA p y jn) k+(rowCoef (x.terms.take m) jn:Rat) * atQ y k+(tm.c:Rat) * atQ y k:=by
        rw[Ow HT.out,if_pos HJ.out,Rat.intCast_add];grind
       show RatV w7 _ (sumQ (cA p y jn) k+(rowCoef (x.terms.take (m+1)) jn:Rat) * atQ y k) 80
       have hz:Sz 80 (sumQ (cA p y jn) k+(rowCoef (x.terms.take (m+1)) jn:Rat) * atQ y k):=HC.out.ak k jn (m+1) _ HX.out
       rw[e] at hz ⊢
       exact h3.v hz) (fun i hi hne=>by
        show sumQ (cA p y i) k+(rowCoef (x.terms.take m) i:Rat) * atQ y k=sumQ (cA p y i) k+(rowCoef (x.terms.take (m+1)) i:Rat) * atQ y k
        rw[Ow HT.out,if_neg (by rw[HJ.out];omega)];simp))
     have HN9':=ξ (H9.out.upd (Oy w7 bo jn ⟨s8,p8,k8,c8,e8,m8,n8⟩) HN9.out)
     clear h3
     refine Jj rfl rfl (fun K hK=>?_)
     go_simp
     refine⟨fun h=>Bool.noConfusion h,hK _ _ ?_⟩
     clear hK K
     unfold setRat at HNX HN9'
     dsimp only at HNX HN9'
     generalize ((w7.setCell _ _).setCell _ _).setCell _ _=W5 at HNX HN9' ⊢
     refine Ji ?_
     clear f0 f1 f2 f3 f4 f5 g0 g1 g2 g3 g4
     have hk1:IntKind.i64.wrap ((m:Int)+1)=(m:Int)+1:=by rw[IntKind.wrap_i64];omega
     go_wp2_with fail
     exact⟨⟨m+1,by go_num,by omega,HNX.out,by have h:=HN9'.out;rw[HTP.out] at h;exact h⟩,by simp[RowKit.intOf];omega⟩
    ·obtain rfl:m=x.terms.length:=by omega
     go_wp2_with fail
     exact⟨⟨k+1,by go_num,by omega,HS.out.congr fun j=>(J22 HX.out j).symm⟩,by simp[RowKit.intOf];omega⟩
  ·obtain rfl:k=p.rows.length:=by omega
   have y1:=HS.out.tp.at 1 rfl
   go_wp2_with fail
   clear y1
   have HTF:=ξ (show Rt wr (.func (.func 144) #[] #[.pointer (some ⟨bp,0,none⟩),.pointer (some ⟨bq,0,none⟩)]) p.rows.length (kB p) (atQ y) 4 from
    ⟨_,_,rfl,enters_of Tryz.func144 (by kernel_rfl) rfl,fun w' g i hi=>J3B w' bp bq p.vars.length vc vd c va vb q p y 4 i (HS.out.tp.grow g) (HS.out.tq.grow g) (HR.out.grow (HS.out.g.trans g)) (HY.out.grow (HS.out.g.trans g)) hi (by omega)⟩)
   have HE:=ξ (show ∀ i,sumQ (fun j=>(kB p j:Rat) * atQ y j) i=sumQ (cB p y) i from fun i=>P1 fun j _=>(cB_k p y j).symm)
   refine(Yn wr _ p.rows.length (kB p) (atQ y) 4 HTF.out (fun i hi=>by
    obtain⟨r,h1,h2⟩:=Q6 hi
    have:=(HK.out.2.2.2 r h2).2.2.2.1
    unfold kB;rw[h1]
    exact Js this) (fun i hi=>by rw[HE.out];exact Sz.mono' (HC.out.b i hi) (by decide)) (fun i hi=>by
    obtain⟨r,h1,h2⟩:=Q6 hi
    have:=(HK.out.2.2.2 r h2).2.2.2.1
    unfold kB;rw[h1]
    exact Sz.mono' (HC.out.t _ i this) (by decide)) (by decide) (by omega)).mono ?_
   rintro _ w4 ⟨r4,rfl,g4,h4⟩
   rw[HE.out] at h4
   have HS:=ξ (HS.out.grow g4)
   obtain⟨s8,p8,k8,c8,e8,m8,n8,rfl⟩:=h4.agg
   have h5:=HS.out.t5
   have f0:=h5.load.1
   have f1:=h5.load.2.1
   have f2:=h5.load.2.2
   have f3:=h5.f0 0
   have f4:=h5.f0 1
   have f5:=h5.f0 2
   have HX:=ξ (show Gr w (set3 w4 b5 (.bool s8) (.slice p8 k8 c8) (.slice e8 m8 n8))∧Jk (set3 w4 b5 (.bool s8) (.slice p8 k8 c8) (.slice e8 m8 n8)) b5 (.bool s8) (.slice p8 k8 c8) (.slice e8 m8 n8)∧Jo (set3 w4 b5 (.bool s8) (.slice p8 k8 c8) (.slice e8 m8 n8)) bo p.vars.length (combA p y) 80∧RatC (set3 w4 b5 (.bool s8) (.slice p8 k8 c8) (.slice e8 m8 n8)) (.agg #[.bool s8,.slice p8 k8 c8,.slice e8 m8 n8]) (combB p y) from
    ⟨Ko HS.out.g HNE.out.c _ _ _,h5.set _ _ _,HS.out.ro.upd h5.noInt (upd3 _ _ _ _ _) HNE.out.o5.symm,h4.upd h5.noInt (upd3 _ _ _ _ _)⟩)
   clear h4 g4 h5 HTF
   go_wp2_with fail
   clear f0 f1 f2 f3 f4 f5
   unfold set3 at HX
   generalize ((w4.setCell _ _).setCell _ _).setCell _ _=W5 at HX ⊢
   have T0_0:=HX.out.2.1.load.1
   have T0_1:=HX.out.2.1.load.2.1
   have T0_2:=HX.out.2.1.load.2.2
   refine bodyPost_ret (by simp[results,Tryz.results90,go_sem,T0_0,T0_1,T0_2];rfl) rfl ?_
   exact⟨_,rfl,HX.out.1,bo,_,rfl,HNE.out.o,HX.out.2.2.1,HX.out.2.2.2⟩
end Prf
end Go.Proofs.YtcjgimlcefhhmaaGreatDoor
