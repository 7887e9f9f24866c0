/- Texts: Law LawA LawB LawC. -/
import Derived.Laws.EntriesVeiled
import Derived.Test.YtcjgimlcefhhmaaGreatDoorC6
set_option linter.unusedVariables false
set_option linter.unusedSimpArgs false
set_option maxRecDepth 100000
set_option maxHeartbeats 12800000
namespace Go.Proofs.YtcjgimlcefhhmaaGreatDoor
open Go.RowKit
theorem IntC.same {x z:Int}:(decide (x < 0) == decide (z < 0) && decide (digs x.natAbs=digs z.natAbs))=decide (x=z):=by
 by_cases h:x=z
 ·subst h;simp
 ·rw[decide_eq_false h];by_cases a:digs x.natAbs=digs z.natAbs
  ·have:=Xo a;have b:decide (x < 0)≠decide (z < 0):=by
    intro e;have:(x < 0)↔(z < 0):=by simpa using e
    omega
   simp[b]
  ·simp[a]
theorem J74 (z:Int):zval (decide (z < 0)) (digs z.natAbs)=z:=by
 unfold zval;rw[Jf]
 split<;>rename_i h<;>simp at h<;>omega
def zcI:TypeId→Array Value:=fun _ => #[.bool false,.slice none 0 0]
theorem Jy.two {T:TypeId}{b:Nat}{w:World}(h:Jy (zcI T) T b w):Two w b (.bool false) (.slice none 0 0):=⟨T,h⟩
theorem allocI:O7 Tryz.prog 66 (zcI 66):=fun w=>by
 simp[go_sem];rfl
theorem Gr.two {a w:World}(g:Gr a w){b:Nat}(c:¬ b < a.heap.size)(u v:Value):Gr a ((w.setCell ⟨b,0,none⟩ u).setCell ⟨b,1,none⟩ v):=
 Below.setCell (Below.setCell g (by show a.heap.size≤b;omega) u) (by show a.heap.size≤b;omega) v
theorem IntC.keepBox {w:World}{v:Value}{z:Int}{b:Nat}{s:Bool}{p:Option Addr}{k c:Nat}(h:IntC w v z)(t:Two w b (.bool s) (.slice p k c))(x y:Value):IntC ((w.setCell ⟨b,0,none⟩ x).setCell ⟨b,1,none⟩ y) v z:=by
 obtain⟨p',k',c',rfl,h⟩:=h;exact⟨p',k',c',rfl,h.keepBox t x y⟩
def IntV (w:World)(v:Value)(x:Int)(L:Nat):Prop:=∃ n l,IntL w v n l∧zval n l=x∧l.length≤L
theorem IntV.grow {w w':World}{v:Value}{x:Int}{L:Nat}(h:IntV w v x L)(g:Gr w w'):IntV w' v x L:=by
 obtain⟨n,l,a,b⟩:=h;exact⟨n,l,a.grow g,b⟩
theorem IntV.len {w:World}{v:Value}{x:Int}{L:Nat}(h:IntV w v x L):(digs x.natAbs).length≤L:=by
 obtain⟨n,l,a,rfl,b⟩:=h;rw[O6];exact Nat.le_trans (Kk a.dig) b
theorem IntC.v {w:World}{v:Value}{x:Int}{L:Nat}(h:IntC w v x)(a:(digs x.natAbs).length≤L):IntV w v x L:=⟨_,_,h,Mx x,a⟩
theorem Y7 {x y:Int}{L M:Nat}(a:(digs x.natAbs).length≤L)(c:(digs y.natAbs).length≤M):(digs (x+y).natAbs).length≤L+M+1:=by
 refine Nat.le_trans (Kh (b:=x.natAbs+y.natAbs) (by omega)) ?_;exact Ny (k:=L+M) (by omega) (by omega)
theorem J43 {x y:Int}{L M:Nat}(a:(digs x.natAbs).length≤L)(c:(digs y.natAbs).length≤M):(digs (x - y).natAbs).length≤L+M+1:=by
 refine Nat.le_trans (Kh (b:=x.natAbs+y.natAbs) (by omega)) ?_;exact Ny (k:=L+M) (by omega) (by omega)
theorem Y8 {x y:Int}{L M:Nat}(a:(digs x.natAbs).length≤L)(b:(digs y.natAbs).length≤M):(digs (x * y).natAbs).length≤L+M+1:=by
 rw[Int.natAbs_mul];exact Nat.le_succ_of_le (Ok a b)
def ResV (w:World)(v:Value)(x:Int)(L:Nat):Prop:=IntC w v x∧IntV w v x L
theorem ResV.grow {w w':World}{v:Value}{x:Int}{L:Nat}(h:ResV w v x L)(g:Gr w w'):ResV w' v x L:=⟨h.1.grow g,h.2.grow g⟩
theorem v_of {P:Program}{f:FuncId}{args:Array Value}{w:World}{z:Int}{L:Nat}(b:(digs z.natAbs).length≤L)(h:Calls P f args w (Ret w fun r w'=>IntC w' r z)):
  Calls P f args w (Ret w fun r w'=>ResV w' r z L):=
 h.mono fun e w' ⟨v,c,d,a⟩=>⟨v,c,d,a,a.v b⟩
theorem Vg (w:World)(a b:Value)(x y z:Int)(L M:Nat)(c:IntV w a x L)(d:IntV w b y M)(f:x+y=z)(m:L≤1000000)(o:M≤1000000):
  Calls Tryz.prog 199 #[a,b] w (Ret w fun r w'=>ResV w' r z (L+M+1)):=by
 have h:=Y7 c.len d.len;rw[f] at h;refine v_of h ?_;obtain⟨n,l,g,rfl,k⟩:=c;obtain⟨n',j,i,rfl,p⟩:=d;exact Yt w a b n n' l j z f g i (by omega) (by omega)
theorem N7 (w:World)(a b:Value)(x y z:Int)(L M:Nat)(c:IntV w a x L)(d:IntV w b y M)(f:x * y=z)(m:L≤1000000)(o:M≤1000000):
  Calls Tryz.prog 131 #[a,b] w (Ret w fun r w'=>ResV w' r z (L+M+1)):=by
 have h:=Y8 c.len d.len;rw[f] at h;refine v_of h ?_;obtain⟨n,l,g,rfl,k⟩:=c;obtain⟨n',j,i,rfl,p⟩:=d;exact Ts w a b n n' l j z f g i (by omega) (by omega)
theorem R9 (w:World)(a:Value)(x z:Int)(L:Nat)(b:IntV w a x L)(d : - x=z)(g:L≤1000000):
  Calls Tryz.prog 147 #[a] w (Ret w fun r w'=>ResV w' r z L):=by
 have h:=b.len;rw[show x.natAbs=z.natAbs by omega] at h;refine v_of h ?_;obtain⟨n,l,c,rfl,f⟩:=b;exact Yv w a n l z d c (by omega)
theorem Vi (w:World)(a:Value)(x z:Int)(L:Nat)(c:IntV w a x L)(d:sgn x=z)(g:L≤1000000):
  Calls Tryz.prog 193 #[a] w (Ret w fun r w'=>r = .int .i64 z):=by
 obtain⟨n,l,b,rfl,f⟩:=c;exact Qd w a n l z d b (by omega)
theorem J6v (w:World)(a b:Value)(x y z:Int)(L M:Nat)(d:IntV w a x L)(f:IntV w b y M)(g:cmpZ x y=z)(k:L≤1000000)(m:M≤1000000):
  Calls Tryz.prog 130 #[a,b] w (Ret w fun r w'=>r = .int .i64 z):=by
 obtain⟨n,l,c,rfl,j⟩:=d;obtain⟨n',i,h,rfl,o⟩:=f;exact J3H w a b n n' l i z g c h (by omega) (by omega)
end Go.Proofs.YtcjgimlcefhhmaaGreatDoor
