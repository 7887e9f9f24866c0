/- Texts: Law LawA LawB LawC. -/
import Derived.Deep.RegionWith
import Derived.Laws.EntriesVeiled
import Derived.Test.YtcjgimlcefhhmaaGreatDoorU9
import Derived.Test.YtcjgimlcefhhmaaGreatDoorU14
set_option linter.unusedVariables false
set_option linter.unusedSimpArgs false
set_option maxRecDepth 100000
set_option maxHeartbeats 12800000
namespace Go.Proofs.YtcjgimlcefhhmaaGreatDoor
open Go.RowKit
theorem IntC.same {x z:Int}:(decide (x < 0) == decide (z < 0) && decide (digs x.natAbs=digs z.natAbs))=decide (x=z):=by
 by_cases h:x=z
 ·subst h;simp
 ·rw[decide_eq_false h]
  by_cases h2:digs x.natAbs=digs z.natAbs
  ·have:=V5 h2
   have h3:decide (x < 0)≠decide (z < 0):=by
    intro e
    have:(x < 0)↔(z < 0):=by simpa using e
    omega
   simp[h3]
  ·simp[h2]
theorem J6Y (z:Int):zval (decide (z < 0)) (digs z.natAbs)=z:=by
 unfold zval
 rw[Je]
 split<;>rename_i h<;>simp at h<;>omega
def zcI:TypeId→Array Value:=fun _ => #[.bool false,.slice none 0 0]
theorem J0.two {T:TypeId}{b:Nat}{w:World}(h:J0 (zcI T) T b w):Two w b (.bool false) (.slice none 0 0):=⟨T,h⟩
theorem allocI:O9 Tryz.prog 66 (zcI 66):=fun w=>by
 simp[go_sem]
 rfl
theorem Gr.two {a w:World}(g:Gr a w){b:Nat}(hb:¬ b < a.heap.size)(u v:Value):Gr a ((w.setCell ⟨b,0,none⟩ u).setCell ⟨b,1,none⟩ v):=
 Below.setCell (Below.setCell g (by show a.heap.size≤b;omega) u) (by show a.heap.size≤b;omega) v
theorem IntC.keepBox {w:World}{v:Value}{z:Int}{b:Nat}{s:Bool}{p:Option Addr}{k c:Nat}(h:IntC w v z)(t:Two w b (.bool s) (.slice p k c))(x y:Value):IntC ((w.setCell ⟨b,0,none⟩ x).setCell ⟨b,1,none⟩ y) v z:=by
 obtain⟨p',k',c',rfl,h⟩:=h
 exact⟨p',k',c',rfl,h.keepBox t x y⟩
def IntV (w:World)(v:Value)(x:Int)(L:Nat):Prop:=∃ n l,IntL w v n l∧zval n l=x∧l.length≤L
theorem IntV.grow {w w':World}{v:Value}{x:Int}{L:Nat}(h:IntV w v x L)(g:Gr w w'):IntV w' v x L:=by
 obtain⟨n,l,h1,h2⟩:=h;exact⟨n,l,h1.grow g,h2⟩
theorem IntV.len {w:World}{v:Value}{x:Int}{L:Nat}(h:IntV w v x L):(digs x.natAbs).length≤L:=by
 obtain⟨n,l,h1,rfl,h3⟩:=h
 rw[O8]
 exact Nat.le_trans (Kg h1.dig) h3
theorem IntC.v {w:World}{v:Value}{x:Int}{L:Nat}(h:IntC w v x)(hL:(digs x.natAbs).length≤L):IntV w v x L:=⟨_,_,h,M5 x,hL⟩
theorem Yp {x y:Int}{L M:Nat}(hx:(digs x.natAbs).length≤L)(hy:(digs y.natAbs).length≤M):(digs (x+y).natAbs).length≤L+M+1:=by
 refine Nat.le_trans (Kn (b:=x.natAbs+y.natAbs) (by omega)) ?_
 exact N1 (k:=L+M) (by omega) (by omega)
theorem Yq {x y:Int}{L M:Nat}(hx:(digs x.natAbs).length≤L)(hy:(digs y.natAbs).length≤M):(digs (x * y).natAbs).length≤L+M+1:=by
 rw[Int.natAbs_mul]
 exact Nat.le_succ_of_le (N2 hx hy)
def ResV (w:World)(v:Value)(x:Int)(L:Nat):Prop:=IntC w v x∧IntV w v x L
theorem ResV.grow {w w':World}{v:Value}{x:Int}{L:Nat}(h:ResV w v x L)(g:Gr w w'):ResV w' v x L:=⟨h.1.grow g,h.2.grow g⟩
theorem v_of {P:Program}{f:FuncId}{args:Array Value}{w:World}{z:Int}{L:Nat}(hL:(digs z.natAbs).length≤L)(h:Calls P f args w (Ret w fun r w'=>IntC w' r z)):
  Calls P f args w (Ret w fun r w'=>ResV w' r z L):=
 h.mono fun e w' ⟨v,he,hg,hv⟩=>⟨v,he,hg,hv,hv.v hL⟩
theorem Uq (w:World)(va vb:Value)(x y z:Int)(L M:Nat)(hx:IntV w va x L)(hy:IntV w vb y M)(hz:x+y=z)(hL:L≤1000000)(hM:M≤1000000):
  Calls Tryz.prog 199 #[va,vb] w (Ret w fun r w'=>ResV w' r z (L+M+1)):=by
 have h:=Yp hx.len hy.len
 rw[hz] at h
 refine v_of h ?_
 obtain⟨n,l,h1,rfl,h3⟩:=hx
 obtain⟨n',l',k1,rfl,k3⟩:=hy
 exact Ya w va vb n n' l l' z hz h1 k1 (by omega) (by omega)
theorem Nr (w:World)(va vb:Value)(x y z:Int)(L M:Nat)(hx:IntV w va x L)(hy:IntV w vb y M)(hz:x * y=z)(hL:L≤1000000)(hM:M≤1000000):
  Calls Tryz.prog 131 #[va,vb] w (Ret w fun r w'=>ResV w' r z (L+M+1)):=by
 have h:=Yq hx.len hy.len
 rw[hz] at h
 refine v_of h ?_
 obtain⟨n,l,h1,rfl,h3⟩:=hx
 obtain⟨n',l',k1,rfl,k3⟩:=hy
 exact S2 w va vb n n' l l' z hz h1 k1 (by omega) (by omega)
theorem Re (w:World)(va:Value)(x z:Int)(L:Nat)(hx:IntV w va x L)(hz : - x=z)(hL:L≤1000000):
  Calls Tryz.prog 147 #[va] w (Ret w fun r w'=>ResV w' r z L):=by
 have h:=hx.len
 rw[show x.natAbs=z.natAbs by omega] at h
 refine v_of h ?_
 obtain⟨n,l,h1,rfl,h3⟩:=hx
 exact Yc w va n l z hz h1 (by omega)
theorem Ur (w:World)(va:Value)(x z:Int)(L:Nat)(hx:IntV w va x L)(hz:sgn x=z)(hL:L≤1000000):
  Calls Tryz.prog 193 #[va] w (Ret w fun r w'=>r = .int .i64 z):=by
 obtain⟨n,l,h1,rfl,h3⟩:=hx
 exact Pn w va n l z hz h1 (by omega)
theorem J6l (w:World)(va vb:Value)(x y z:Int)(L M:Nat)(hx:IntV w va x L)(hy:IntV w vb y M)(hz:cmpZ x y=z)(hL:L≤1000000)(hM:M≤1000000):
  Calls Tryz.prog 130 #[va,vb] w (Ret w fun r w'=>r = .int .i64 z):=by
 obtain⟨n,l,h1,rfl,h3⟩:=hx
 obtain⟨n',l',k1,rfl,k3⟩:=hy
 exact J3q w va vb n n' l l' z hz h1 k1 (by omega) (by omega)
end Go.Proofs.YtcjgimlcefhhmaaGreatDoor
