/- Texts: PvB PvC PvD PvE. -/
import Derived.Test.YtcjgimlcefhhmaaGreatDoorU35
import Derived.Test.YtcjgimlcefhhmaaGreatDoorU37
set_option linter.unusedVariables false
set_option linter.unusedSimpArgs false
set_option maxRecDepth 100000
set_option maxHeartbeats 12800000
namespace Go.Proofs.YtcjgimlcefhhmaaGreatDoor
namespace Inv
open Go.RowKit
section steps
variable {P:Program}{ops:Array Oper}{Q:Exit→Act→World→Prop}{B:World→Prop}{i:Nat}{t:Tr}{a:Act}{w:World}{o:Oper}
end steps
end Inv
namespace Prf
open Go.RowKit Go.Lib
theorem Sy {n:Nat}:∀ (l:List Jg) (last:Int),-1≤last→last < (n:Int)→Inc n last l→(l.length:Int)≤(n:Int) - 1 - last
 | [],last,h1,h2,_=>by simp;omega
 | t :: l,last,h1,h2,h=>by
  have h3:=h.1
  have:=Sy l t.v (by omega) (by omega) h.2
  rw[List.length_cons]
  omega
theorem Jr.tl {p:Prg}(h:Jr p):∀ r ∈ p.rows,r.terms.length≤1000000:=fun r hr=>by
 have h1:=(h.2.2.2 r hr).2.2.2.2.2
 have hn:=h.1
 by_cases hv:p.vars.length=0
 ·cases ht:r.terms with
  | nil=>simp
  | cons t l=>
   rw[ht,hv] at h1
   have:=h1.1
   omega
 ·have:=Sy r.terms (-1) (by decide) (by omega) h1
  omega
theorem J0U (w:World)(va vb:Option Addr)(vc vd k:Nat)(vs:List VarM)(n jn:Nat)(m:Int)(low:Bool)(hv:K3 w (.slice va n vc) vs)(hn:vs.length=n)(hj:jn < n)(hm : -1099511627776≤m∧m < 1099511627776)(hn2:n≤1000000):
  Calls Tryz.prog 47 #[.agg #[.slice va n vc,.slice vb k vd],.int .i64 (jn:Int),.int .i64 m,.bool low] w (Ret w fun r w'=>∃ pv cv,r = .agg #[.slice pv n cv,.slice vb k vd]∧OwnL w' w.heap.size 62 5 encVar (.slice pv n cv) (if low=true then setUp vs (jn:Int) m else setLo vs (jn:Int) (m+1))):=by
 have HV:=ξ hv
 have HVN:=ξ hn
 have B0:=Ja.new w #[.slice va n vc,.slice vb k vd] 25
 have B1:=Ja.new (w.alloc (.cells #[.slice va n vc,.slice vb k vd] 25)) #[.slice none 0 0,.slice none 0 0] 25
 simp only[World.size_alloc] at B1
 have HB:=ξ (show Gr w _∧Ja _ w.heap.size #[.slice va n vc,.slice vb k vd]∧Ja _ (w.heap.size+1) #[.slice none 0 0,.slice none 0 0] from⟨B0.1.trans B1.1,B0.2.grow B1.1,B1.2⟩)
 have hj':(jn:Int) < (n:Int):=by omega
 have hm1:IntKind.i64.wrap (m+1)=m+1:=by rw[IntKind.wrap_i64];omega
 clear hv hn B0 B1
 go_enter Tryz.func47,Tryz.ntmps47
 go_wp2_with fail
 generalize hb8:w.heap.size+1=b8 at HB ⊢
 generalize hbp:w.heap.size=bp at HB ⊢
 generalize (w.alloc _).alloc _=W at HB ⊢
 have HN:=ξ (show w.heap.size≤b8∧bp≠b8 from by omega)
 clear hb8 hbp
 refine(R2 W va n vc vs (SlL.grow HV.out HB.out.1) HVN.out hn2).mono ?_
 rintro _ w2 ⟨_,rfl,g2,pg,cg,rfl,ho2⟩
 obtain⟨bg,cap,hvg,hbg,hbg2,hcg,hcg2⟩:=OwnL.made ho2 (by rw[HVN.out];omega)
 injection hvg with e1 e2 e3
 subst e1 e3
 have HL:=ξ (show bp≠bg∧b8≠bg∧w.heap.size≤bg from by
  have h1:=HB.out.2.1.lt
  have h2:=HB.out.2.2.lt
  have h3:=HB.out.1.size
  exact⟨by omega,by omega,by omega⟩)
 have G:=ξ (HB.out.1.trans g2)
 have TP:=ξ (HB.out.2.1.grow g2)
 have T8:=ξ (HB.out.2.2.grow g2)
 have HO:=ξ (OwnL.low ho2 HB.out.1.size)
 clear ho2 g2 HB hbg hbg2
 obtain⟨x,hx⟩:∃ x,vs[jn]?=some x:=⟨_,List.getElem?_eq_getElem (by rw[HVN.out];exact hj)⟩
 have HX:=ξ hx
 clear hx
 have hne1:¬ bp=bg:=HL.out.1
 have hne2:¬ b8=bg:=HL.out.2.1
 have hne3:¬ bp=b8:=HN.out.2
 have y1:=TP.out.at 1 rfl
 have d0:=T8.out.at 0 rfl
 have d1:=T8.out.at 1 rfl
 have f0:=Ja.f T8.out 0
 have f1:=Ja.f T8.out 1
 cases low
 ·obtain⟨mu,hmu⟩:∃ z,max x.lo (m+1)=z:=⟨_,rfl⟩
  have HMU:=ξ hmu
  obtain⟨-,-,q0a,q1,q2⟩:=OwnL.putS Nf HO.out { x with lo:=mu } 0 (.int .i64 mu) HX.out (by decide) rfl
  rw[Nat.add_zero] at q0a q1 q2
  have q0:w2.cell? ⟨bg,jn * 5,none⟩=some (.int .i64 x.lo):=q0a
  have HQ:=ξ q2
  have hf:=fill2 (.slice (some ⟨bg,0,none⟩) vs.length cg) (.slice vb k vd) (T8.out.upd (J8 w2 bg (jn * 5) (.int .i64 mu)) hne2) (Gr.set G.out (by have:=HL.out.2.2;omega) (.int .i64 mu)) HN.out.1
  have HX2:=ξ (And.intro hf.1 (And.intro hf.2.1 (OwnL.fill HQ.out (b:=b8) (fun e=>hne2 (Option.some.inj e).symm) (.slice (some ⟨bg,0,none⟩) vs.length cg) (.slice vb k vd))))
  clear q0a q2 hf hmu
  have hq:=HMU.out
  go_wp2_with fail
  clear q0 q1 y1 d0 d1 f0 f1 hq
  try rw[Exit.noGoto_ret]
  generalize ((w2.setCell _ _).setCell _ _).setCell _ _=W5 at HX2 ⊢
  have z0:=HX2.out.2.1.at 0 rfl
  have z1:=HX2.out.2.1.at 1 rfl
  refine bodyPost_ret (by simp[results,Tryz.results47,go_sem,z0,z1];rfl) rfl ?_
  refine⟨_,rfl,HX2.out.1,some ⟨bg,0,none⟩,cg,rfl,?_⟩
  rw[J5V HX.out,HMU.out];have h:=HX2.out.2.2;rw[← HVN.out] at h;exact h
 ·obtain⟨mu,hmu⟩:∃ z,min x.up m=z:=⟨_,rfl⟩
  have HMU:=ξ hmu
  obtain⟨-,-,q0a,q1,q2⟩:=OwnL.putS Nf HO.out { x with up:=mu } 1 (.int .i64 mu) HX.out (by decide) rfl
  skip
  have q0:w2.cell? ⟨bg,jn * 5+1,none⟩=some (.int .i64 x.up):=q0a
  have HQ:=ξ q2
  have hf:=fill2 (.slice (some ⟨bg,0,none⟩) vs.length cg) (.slice vb k vd) (T8.out.upd (J8 w2 bg (jn * 5+1) (.int .i64 mu)) hne2) (Gr.set G.out (by have:=HL.out.2.2;omega) (.int .i64 mu)) HN.out.1
  have HX2:=ξ (And.intro hf.1 (And.intro hf.2.1 (OwnL.fill HQ.out (b:=b8) (fun e=>hne2 (Option.some.inj e).symm) (.slice (some ⟨bg,0,none⟩) vs.length cg) (.slice vb k vd))))
  clear q0a q2 hf hmu
  have hq:=HMU.out
  go_wp2_with fail
  clear q0 q1 y1 d0 d1 f0 f1 hq
  try rw[Exit.noGoto_ret]
  generalize ((w2.setCell _ _).setCell _ _).setCell _ _=W5 at HX2 ⊢
  have z0:=HX2.out.2.1.at 0 rfl
  have z1:=HX2.out.2.1.at 1 rfl
  refine bodyPost_ret (by simp[results,Tryz.results47,go_sem,z0,z1];rfl) rfl ?_
  refine⟨_,rfl,HX2.out.1,some ⟨bg,0,none⟩,cg,rfl,?_⟩
  rw[J5Y HX.out,HMU.out];have h:=HX2.out.2.2;rw[← HVN.out] at h;exact h
end Prf
end Go.Proofs.YtcjgimlcefhhmaaGreatDoor
namespace Go.Proofs.YtcjgimlcefhhmaaGreatDoor
namespace Prf
open Go.RowKit Go.Lib
def OKV (x:VarM):Prop:=x.ig=true∧x.op=false
theorem J6u (w:World)(x:VarM):Calls Tryz.prog 42 (#[mkVar x] ++ #[]) w (Ret w fun r _=>Jb (¬ OKV x) r):=by
 show Calls _ _ #[.agg #[.int .i64 x.lo,.int .i64 x.up,.bool x.op,.bool x.ig,.int .i64 x.cost]] _ _
 obtain⟨op,hop⟩:∃ b,x.op=b:=⟨_,rfl⟩
 obtain⟨ig,hig⟩:∃ b,x.ig=b:=⟨_,rfl⟩
 have HO:=ξ (And.intro hop hig)
 rw[hop,hig]
 have HG:=ξ (show Gr w (w.alloc (.cells #[.int .i64 x.lo,.int .i64 x.up,.bool op,.bool ig,.int .i64 x.cost] 62)) from(Gr.refl _).alloc _)
 clear hop hig
 cases ig
 ·have H:=ξ (show ¬ OKV x from fun h=>by have h1:=h.1;rw[HO.out.2] at h1;cases h1)
  go_enter Tryz.func42,Tryz.ntmps42
  go_wp2_with fail
  go_ret
  exact⟨_,rfl,HG.out,Jb.yes H.out⟩
 ·cases op
  ·have H:=ξ (show ¬ ¬ OKV x from fun h=>h ⟨HO.out.2,HO.out.1⟩)
   go_enter Tryz.func42,Tryz.ntmps42
   go_wp2_with fail
   go_ret
   exact⟨_,rfl,HG.out,Jb.no H.out⟩
  ·have H:=ξ (show ¬ OKV x from fun h=>by have h1:=h.2;rw[HO.out.1] at h1;cases h1)
   go_enter Tryz.func42,Tryz.ntmps42
   go_wp2_with fail
   go_ret
   exact⟨_,rfl,HG.out,Jb.yes H.out⟩
theorem J10 (w:World)(v:Value)(p:Prg)(hp:Jv w v p)(hi:PrgI p)(hl:∀ r ∈ p.rows,r.name.length≤1000000)(hn:p.vars.length≤1000000)(hm:p.rows.length≤1000000):
  Calls Tryz.prog 23 #[v] w (Ret w fun r _=>Jb (Jr p∧Whole p) r):=by
 have HI:=ξ hi
 have HL:=ξ hl
 have HP:=ξ hp
 clear hi hl
 obtain⟨va,vc,vb,vd,rfl,hv,hr⟩:=hp
 have HV:=ξ hv
 have HR:=ξ hr
 obtain⟨_,_,_,hvb1,hvb2⟩:=SlL.parts hv
 obtain⟨_,_,_,hrb1,hrb2⟩:=hr.parts
 clear hv hr
 have B0:=Ja.new w #[.slice va p.vars.length vc,.slice vb p.rows.length vd] 25
 have HB:=ξ B0
 unfold prgV
 clear B0
 unfold prgV at HP
 go_enter Tryz.func23,Tryz.ntmps23
 go_wp2_with fail
 generalize w.heap.size=bp at HB ⊢
 generalize w.alloc _=W at HB ⊢
 have G:=ξ HB.out.1
 have TP:=ξ HB.out.2
 clear HB
 refine(S4 W _ p (HP.out.grow G.out) HI.out HL.out hn hm).mono ?_
 rintro _ w1 ⟨r1,rfl,g1,h1⟩
 have G:=ξ (G.out.trans g1)
 have TP:=ξ (TP.out.grow g1)
 rcases h1.cases with⟨rfl,k1⟩|⟨rfl,k1⟩
 rotate_left
 ·have H:=ξ (show ¬ (Jr p∧Whole p) from fun h=>k1 h.1)
  clear h1 k1 g1
  go_wp2_with fail
  go_ret
  exact⟨_,rfl,G.out,Jb.no H.out⟩
 have H1:=ξ k1
 have y0:=TP.out.at 0 rfl
 clear h1 k1 g1
 go_wp2_with fail
 clear y0
 refine(J6x w1 va p.vars.length vc p.vars (.func (.func 42) #[] #[]) (fun x=>¬ OKV x) (SlL.grow HV.out G.out) rfl (by omega) ⟨_,_,rfl,enters_of Tryz.func42 (by kernel_rfl) rfl,fun w' _ x _=>J6u w' x⟩).mono ?_
 rintro _ w2 ⟨r2,rfl,g2,h2⟩
 have G:=ξ (G.out.trans g2)
 rcases h2.cases with⟨rfl,k2⟩|⟨rfl,k2⟩
 ·have H:=ξ (show ¬ (Jr p∧Whole p) from fun h=>by obtain⟨x,hx,hh⟩:=k2;exact hh (h.2 x hx))
  clear h2 k2 g2
  go_wp2_with fail
  go_ret
  exact⟨_,rfl,G.out,Jb.no H.out⟩
 ·have H:=ξ (show Jr p∧Whole p from⟨H1.out,fun x hx=>Classical.not_not.1 fun h=>k2 ⟨x,hx,h⟩⟩)
  clear h2 k2 g2
  go_wp2_with fail
  go_ret
  exact⟨_,rfl,G.out,Jb.yes H.out⟩
structure K1 (n:Jh):Prop where
 m:n.mult.length≤16
 ms:∀ x ∈ n.mult,Sz 4 x
 c:n.cut.mult.length≤16
 cs:∀ x ∈ n.cut.mult,Sz 4 x
 v:n.cut.vars.length≤1000
theorem Q9 (w:World)(va vb:Option Addr)(vc vd n m:Nat)(x:Jm):
  Gr w ((w.alloc (.cells #[.slice va n vc,.slice vb m vd] 25)).alloc (.cells (nodeA x) 47))∧Ja ((w.alloc (.cells #[.slice va n vc,.slice vb m vd] 25)).alloc (.cells (nodeA x) 47)) w.heap.size #[.slice va n vc,.slice vb m vd]∧
   Ja ((w.alloc (.cells #[.slice va n vc,.slice vb m vd] 25)).alloc (.cells (nodeA x) 47)) (w.heap.size+1) (nodeA x):=by
 have B0:=Ja.new w #[.slice va n vc,.slice vb m vd] 25
 have B1:=Ja.new (w.alloc (.cells #[.slice va n vc,.slice vb m vd] 25)) (nodeA x) 47
 rw[World.size_alloc] at B1
 exact⟨B0.1.trans B1.1,B0.2.grow B1.1,B1.2⟩
theorem J0W (w:World)(v:Value)(p:Prg)(x:Jm)(n:Jh)(hp:Jv w v p)(hx:Kj w x n 4)(hk:Jr p)(hw:Whole p)(hn:p.vars.length≤10)(hm:p.rows.length≤40)(hf:K1 n):
  Calls Tryz.prog 43 #[v,.agg (nodeA x)] w (Ret w fun r _=>Jb (n.mult.length≤p.rows.length∧Ms p n.mult) r):=by
 have HK:=ξ hk
 have HW:=ξ hw
 have HP:=ξ hp
 have HCM:=ξ (Vo hf.ms hf.m hk.2.2.2 hk.2.2.1 hm hn)
 have HMN:=ξ hx.mn
 have HM:=ξ hx.mult
 obtain⟨va,vc,vb,vd,rfl,hv,hr⟩:=hp
 have HB:=ξ (Q9 w va vb vc vd p.vars.length p.rows.length x)
 obtain⟨kd,mp,mn,mc,var,pos,ck,cp,cn,cc,row,vp,vn,vc2⟩:=x
 dsimp only at HMN HM
 unfold nodeA at HB ⊢
 dsimp only at HB ⊢
 have hmn16:n.mult.length≤16:=hf.m
 have e:=HMN.out
 clear HMN
 subst e
 clear hk hw hv hr hx hf
 unfold prgV at HP ⊢
 by_cases h:n.mult.length≤p.rows.length
 ·have HLE:=ξ h
  have h':(n.mult.length:Int)≤(p.rows.length:Int):=by omega
  go_enter Tryz.func43,Tryz.ntmps43
  go_wp2_with fail
  generalize w.heap.size+1=bn at HB ⊢
  generalize w.heap.size=bp at HB ⊢
  generalize (w.alloc _).alloc _=W at HB ⊢
  refine(J29 W _ p mp mc n.mult (HP.out.grow HB.out.1) (HM.out.grow HB.out.1) HCM.out HK.out HW.out).mono ?_
  rintro _ w2 ⟨r2,rfl,g2,h2⟩
  have G:=ξ (HB.out.1.trans g2)
  rcases h2.cases with⟨rfl,k2⟩|⟨rfl,k2⟩
  ·have H:=ξ (And.intro HLE.out k2)
   clear h2 k2 g2
   go_wp2_with fail
   go_ret
   exact⟨_,rfl,G.out,Jb.yes H.out⟩
  ·have H:=ξ (show ¬ (n.mult.length≤p.rows.length∧Ms p n.mult) from fun h=>k2 h.2)
   clear h2 k2 g2
   go_wp2_with fail
   go_ret
   exact⟨_,rfl,G.out,Jb.no H.out⟩
 ·have H:=ξ (show ¬ (n.mult.length≤p.rows.length∧Ms p n.mult) from fun k=>h k.1)
  have h':¬ (n.mult.length:Int)≤(p.rows.length:Int):=by omega
  go_enter Tryz.func43,Tryz.ntmps43
  go_wp2_with fail
  go_ret
  exact⟨_,rfl,HB.out.1,Jb.no (by first|exact H.out|simp)⟩
def Pb (p:Prg)(j:Int):Prop:=0≤j∧∃ v,p.vars[j.toNat]?=some v∧v.up < v.lo
theorem J0X (w:World)(v:Value)(p:Prg)(x:Jm)(n:Jh)(hp:Jv w v p)(hx:Kj w x n 4)(hn:p.vars.length≤1000000):
  Calls Tryz.prog 45 #[v,.agg (nodeA x)] w (Ret w fun r _=>Jb (Pb p n.var) r):=by
 have HNV:=ξ hx.var
 obtain⟨va,vc,vb,vd,rfl,hv,hr⟩:=hp
 have HV:=ξ hv
 have HB:=ξ (Q9 w va vb vc vd p.vars.length p.rows.length x)
 obtain⟨kd,mp,mn,mc,var,pos,ck,cp,cn,cc,row,vp,vn,vc2⟩:=x
 dsimp only at HNV
 unfold nodeA at HB ⊢
 dsimp only at HB ⊢
 clear hv hr hx
 unfold prgV
 go_enter Tryz.func45,Tryz.ntmps45
 go_wp2_with fail
 generalize w.heap.size+1=bn at HB ⊢
 generalize w.heap.size=bp at HB ⊢
 generalize (w.alloc _).alloc _=W at HB ⊢
 have x2:=HB.out.2.2.c 2 rfl
 have y0:=HB.out.2.1.c 0 rfl
 have g0:Gr W W.drew:=(Gr.refl _).drew
 by_cases h0:0≤var
 ·by_cases h1:var < (p.vars.length:Int)
  ·obtain⟨jn,rfl⟩:∃ j:Nat,var=(j:Int):=⟨var.toNat,by omega⟩
   have hj:jn < p.vars.length:=by omega
   obtain⟨b,o,u,rfl,hu,hc⟩:=Mn HV.out rfl hj
   have HU:=ξ hu
   have c0:=fun w' g=>(hc w' (HB.out.1.trans g)).1
   have c1:=fun w' g=>(hc w' (HB.out.1.trans g)).2.1
   clear hc hu h0 h1
   have h0:(0:Int)≤(jn:Int):=by omega
   have h1:(jn:Int) < (p.vars.length:Int):=by omega
   by_cases h2:u.up < u.lo
   ·have H:=ξ (show Pb p n.var from⟨by rw[← HNV.out];omega,u,by rw[← HNV.out,Int.toNat_natCast];exact HU.out,h2⟩)
    refine Jp [(0,true),(1,true),(2,true),(3,true),(4,true),(5,true),(6,true),(7,true),(8,true),(9,true),(10,true),(11,true),(12,true),(13,true),(14,true),(15,true),(16,true),(17,true),(18,true),(19,true),(20,true),(21,true),(22,true),(23,true),(24,true),(25,true),(26,true),(27,true),(28,true)] (by kernel_rfl) (by kernel_rfl) rfl (by kernel_rfl) (fun _ _ d _ _ h=>by cases d<;>exact h) ?_
    generalize W.drew=Wd at g0 ⊢
    repeat(first|(refine Ka rfl rfl ?_;go_simp)|(refine Jf (v:=?_) g0 rfl rfl (fun w' hg=>?_) (fun K hK=>?_);rotate_left;(go_simp;rfl);go_simp;refine hK _ _ ?_;clear hK K))
    refine Ji ?_
    have G:=ξ (HB.out.1.trans g0)
    clear g0
    go_wp2_with fail
    go_ret
    exact⟨_,rfl,G.out,Jb.yes H.out⟩
   ·have e2:decide (u.up < u.lo)=false:=decide_eq_false h2
    have HX:=ξ h2
    have H:=ξ (show ¬ Pb p n.var from fun h=>by(obtain⟨-,z,hz,hl⟩:=h;rw[← HNV.out,Int.toNat_natCast,HU.out] at hz;cases hz;exact HX.out hl))
    refine Jp [(0,true),(1,true),(2,true),(3,true),(4,true),(5,true),(6,true),(7,true),(8,true),(9,true),(10,true),(11,true),(12,true),(13,true),(14,true),(15,true),(16,true),(17,true),(18,true),(19,true),(20,true),(21,true),(22,true),(23,true),(24,true),(25,true),(26,true),(27,true),(28,true)] (by kernel_rfl) (by kernel_rfl) rfl (by kernel_rfl) (fun _ _ d _ _ h=>by cases d<;>exact h) ?_
    generalize W.drew=Wd at g0 ⊢
    repeat(first|(refine Ka rfl rfl ?_;go_simp)|(refine Jf (v:=?_) g0 rfl rfl (fun w' hg=>?_) (fun K hK=>?_);rotate_left;(go_simp;rfl);go_simp;refine hK _ _ ?_;clear hK K))
    refine Ji ?_
    have G:=ξ (HB.out.1.trans g0)
    clear g0
    go_wp2_with fail
    go_ret
    exact⟨_,rfl,G.out,Jb.no H.out⟩
  ·have e2:decide (var < (p.vars.length:Int))=false:=decide_eq_false h1
   have HX:=ξ h1
   have H:=ξ (show ¬ Pb p n.var from fun h=>by(obtain⟨h0,z,hz,hl⟩:=h;rw[← HNV.out] at hz;have:=(List.getElem?_eq_some_iff.1 hz).1;have:=HX.out;omega))
   refine Jp [(0,true),(1,true),(2,true),(3,true),(4,true),(5,true),(6,true),(7,true),(8,true),(9,true),(10,true),(11,true),(12,true),(13,true),(14,true),(15,true),(16,true),(17,true),(18,true),(19,true),(20,true),(21,true),(22,true),(23,true),(24,true),(25,true),(26,true),(27,true),(28,true)] (by kernel_rfl) (by kernel_rfl) rfl (by kernel_rfl) (fun _ _ d _ _ h=>by cases d<;>exact h) ?_
   generalize W.drew=Wd at g0 ⊢
   repeat(first|(refine Ka rfl rfl ?_;go_simp)|(refine Jf (v:=?_) g0 rfl rfl (fun w' hg=>?_) (fun K hK=>?_);rotate_left;(go_simp;rfl);go_simp;refine hK _ _ ?_;clear hK K))
   refine Ji ?_
   have G:=ξ (HB.out.1.trans g0)
   clear g0
   go_wp2_with fail
   go_ret
   exact⟨_,rfl,G.out,Jb.no H.out⟩
 ·have e2:decide (0≤var)=false:=decide_eq_false h0
  have HX:=ξ h0
  have H:=ξ (show ¬ Pb p n.var from fun h=>HX.out (by rw[HNV.out];exact h.1))
  refine Jp [(0,true),(1,true),(2,true),(3,true),(4,true),(5,true),(6,true),(7,true),(8,true),(9,true),(10,true),(11,true),(12,true),(13,true),(14,true),(15,true),(16,true),(17,true),(18,true),(19,true),(20,true),(21,true),(22,true),(23,true),(24,true),(25,true),(26,true),(27,true),(28,true)] (by kernel_rfl) (by kernel_rfl) rfl (by kernel_rfl) (fun _ _ d _ _ h=>by cases d<;>exact h) ?_
  generalize W.drew=Wd at g0 ⊢
  repeat(first|(refine Ka rfl rfl ?_;go_simp)|(refine Jf (v:=?_) g0 rfl rfl (fun w' hg=>?_) (fun K hK=>?_);rotate_left;(go_simp;rfl);go_simp;refine hK _ _ ?_;clear hK K))
  refine Ji ?_
  have G:=ξ (HB.out.1.trans g0)
  clear g0
  go_wp2_with fail
  go_ret
  exact⟨_,rfl,G.out,Jb.no H.out⟩
end Prf
end Go.Proofs.YtcjgimlcefhhmaaGreatDoor
namespace Go.Proofs.YtcjgimlcefhhmaaGreatDoor
open Go.RowKit Go.Lib
theorem SlL.rest {α:Type}{enc:α→List Value}{sz:Nat}{w:World}{b o n c:Nat}{l:List α}(he:∀ x,(enc x).length=sz)(h:SlL w sz enc (.slice (some ⟨b,o,none⟩) n c) l){k:Nat}(hk:k≤l.length)(q:Option Addr)(hq:q=some ⟨b,o+k * sz,none⟩∨c=k):SlL w sz enc (.slice q (n - k) (c - k)) (l.drop k):=by
 have hn:l.length=n:=by
  obtain⟨p',c',hv,_⟩:=h.parts
  injection hv with _ h2 _
  exact h2.symm
 obtain⟨h0,p',c',hv,h1,h2,h3⟩:=h
 injection hv with e1 e2 e3
 subst e1 e3
 have hl:(l.drop k).length=n - k:=by rw[List.length_drop,hn]
 unfold SlL
 rw[hl]
 refine⟨by rw[Kv he,hl],q,c - k,rfl,by omega,by omega,?_⟩
 rcases hq with hq|hq
 ·rcases h3 with h3|⟨b',o',hp,hc⟩
  ·left;omega
  ·injection hp with hp
   injection hp with e1 e2 _
   subst e1 e2
   refine .inr ⟨b,o+k * sz,hq,fun j u hj=>?_⟩
   have:=hc (k * sz+j) u (by
    have e:l.flatMap enc=(l.take k).flatMap enc ++ (l.drop k).flatMap enc:=by rw[← List.flatMap_append,List.take_append_drop]
    have hlt:(List.flatMap enc (l.take k)).length=k * sz:=by rw[Kv he,List.length_take,Nat.min_eq_left hk]
    rw[e,List.getElem?_append_right (by rw[hlt];omega),hlt,show k * sz+j - k * sz=j by omega]
    exact hj)
   rw[← Nat.add_assoc] at this
   exact this
 ·left;omega
namespace Prf
theorem Tl {w:World}{p:Option Addr}{n c L:Nat}{x:Jh}{N:List Jh}(h:J1 w (.slice p n c) (x :: N) L):
  ∃ b o t,p=some ⟨b,o,none⟩∧Kj w t x L∧(∀ w',Gr w w'→∀ j u,(encNode t)[j]?=some u→w'.cell? ⟨b,o+j,none⟩=some u)∧∀ q,(q=some ⟨b,o+8,none⟩∨c=1)→J1 w (.slice q (n - 1) (c - 1)) N L:=by
 obtain⟨T,h1,h2,h3⟩:=h
 have hn:T.length=n:=by
  obtain⟨p',c',e,_⟩:=h1.parts
  cases e;rfl
 have h2':T.length=N.length+1:=by simpa using h2
 obtain⟨b,o,t,hp,ht,hc⟩:=h1.at Nd hn (k:=0) (by omega)
 subst hp
 refine⟨b,o,t,rfl,h3 0 t x ht rfl,fun w' g j u hj=>by have:=hc j u hj w' g;rw[Nat.zero_mul,Nat.add_zero] at this;exact this,fun q hq=>?_⟩
 refine⟨T.drop 1,SlL.rest Nd h1 (by omega) q (by rw[Nat.one_mul];exact hq),by rw[List.length_drop];omega,fun i s y hs hy=>?_⟩
 rw[List.getElem?_drop] at hs
 exact h3 (1+i) s y hs (by rw[Nat.add_comm];simpa using hy)
def J2 (w:World)(bt:Nat)(v:Value)(p:Prg):Prop:=∀ w',w.grownBy w' (some bt)→Jv w' v p
theorem Xz (w:World)(b:Nat):w.grownBy w (some b):=Jl.refl b w
theorem J5 {w w':World}(b:Nat)(g:Gr w w'):w.grownBy w' (some b):=Jl.of_gr g
theorem J9 {w w' w'':World}{b:Nat}(g:w.grownBy w' (some b))(h:w'.grownBy w'' (some b)):w.grownBy w'' (some b):=Jl.trans g h
theorem J2.at {w:World}{bt:Nat}{v:Value}{p:Prg}(h:J2 w bt v p):Jv w v p:=h w (Xz w bt)
theorem J2.go {w w':World}{bt:Nat}{v:Value}{p:Prg}(h:J2 w bt v p)(g:w.grownBy w' (some bt)):J2 w' bt v p:=fun w'' k=>h w'' (J9 g k)
theorem J2.new {w:World}{base bt:Nat}{v:Value}{p:Prg}(h:Lc w base v p)(hb:bt < base):J2 w bt v p:=fun w' g=>(h.kept hb g).at
theorem J2.part {w w1:World}{base bt:Nat}{va vb pv:Option Addr}{vc vd cv:Nat}{p q:Prg}(h:J2 w bt (.agg #[.slice va p.vars.length vc,.slice vb p.rows.length vd]) p)(g:w.grownBy w1 (some bt))(ho:Jl bt w w1)(hq:q.rows=p.rows)
  (h1:OwnL w1 base 62 5 encVar (.slice pv q.vars.length cv) q.vars) (hb:bt < base):J2 w1 bt (.agg #[.slice pv q.vars.length cv,.slice vb p.rows.length vd]) q:=fun w' k=>by
 obtain⟨a,c,b,d,e,k1,k2⟩:=h w' (J9 g k)
 unfold prgV at e
 injection e with e
 have e1:=congrArg (fun x=>x[1]?) e
 simp at e1
 obtain⟨rfl,rfl⟩:=e1
 refine⟨pv,cv,vb,vd,by unfold prgV;rw[hq],?_,by rw[hq];exact k2⟩
 exact(show OwnL w' base 62 5 encVar (.slice pv q.vars.length cv) q.vars from World.ownsRow.kept h1 k (.inr fun e=>by have:=(World.ownsRow.lt h1 bt e).1;omega)).read
def visitF (bt bs:Nat):Value:=.func (.func 50) #[] #[.pointer (some ⟨bt,0,none⟩),.pointer (some ⟨bs,0,none⟩)]
def stepsL (bv:Nat):List (Value × Value):=[(.int .i64 0,.func (.func 43) #[] #[]),(.int .i64 1,.func (.func 45) #[] #[]),
 (.int .i64 2,.func (.func 46) #[] #[.pointer (some ⟨bv,0,none⟩)]),(.int .i64 3,.func (.func 48) #[] #[.pointer (some ⟨bv,0,none⟩)])]
structure K2 (W0 w:World)(bt bv bs bm:Nat)(tv:Value):Prop where
 g:Gr W0 w
 t:Ja w bt #[tv]
 v:Ja w bv #[visitF bt bs]
 s:Ja w bs #[.map (some bm)]
 m:K0 w bm (stepsL bv)
 n:bt≠bv∧bt≠bs∧bt≠bm∧W0.heap.size≤bt
theorem K2.grow {W0 w w':World}{bt bv bs bm:Nat}{tv:Value}(h:K2 W0 w bt bv bs bm tv)(g:Gr w w'):K2 W0 w' bt bv bs bm tv:=
 ⟨h.g.trans g,h.t.grow g,h.v.grow g,h.s.grow g,h.m.grow g,h.n⟩
theorem K2.set {W0 w:World}{bt bv bs bm:Nat}{tv:Value}(h:K2 W0 w bt bv bs bm tv)(u:Value):K2 W0 (w.setCell ⟨bt,0,none⟩ u) bt bv bs bm u∧w.grownBy (w.setCell ⟨bt,0,none⟩ u) (some bt):=by
 have hu:=J8 w bt 0 u
 refine⟨⟨Gr.set h.g (by have:=h.n.2.2.2;omega) _,?_,h.v.upd hu h.n.1.symm,h.s.upd hu h.n.2.1.symm,?_,h.n⟩,Jl.set bt w 0 u⟩
 ·have:=h.t.set 0 u
  simpa using this
 ·obtain⟨es,c,h1,h2⟩:=h.m
  exact⟨es,c,by rw[hu bm h.n.2.2.1.symm];exact h1,h2⟩
def VisR (p:Prg)(N:List Jh)(W0 w:World)(bt bv bs bm:Nat)(r:Value)(w':World):Prop:=
 w.grownBy w' (some bt)∧((∃ S pt nt ct,Jn p N S∧r = .bool true∧K2 W0 w' bt bv bs bm (.slice pt nt ct)∧J1 W0 (.slice pt nt ct) S 4∧nt=S.length)∨((¬ ∃ S,Jn p N S)∧r = .bool false∧∃ tv,K2 W0 w' bt bv bs bm tv))
structure PvP (p:Prg)(k:Nat):Prop where
 ok:Jr p
 wh:Whole p
 n:p.vars.length≤10
 m:p.rows.length+k≤40
theorem PvP.low {p:Prg}{k:Nat}{j m:Int}(h:PvP p k)(hm : -1099511627776≤m∧m < 1099511627776):PvP (lowPart p j m) k:=by
 obtain⟨a,b⟩:=J3Q h.ok h.wh (v:=j) hm.1 hm.2
 exact⟨a,b,by simp only[lowPart,Py];exact h.n,h.m⟩
theorem PvP.high {p:Prg}{k:Nat}{j m:Int}(h:PvP p k)(hm : -1099511627776≤m∧m < 1099511627776):PvP (highPart p j m) k:=by
 obtain⟨a,b⟩:=J3a h.ok h.wh (v:=j) hm.1 hm.2
 exact⟨a,b,by simp only[highPart,Px];exact h.n,h.m⟩
theorem PvP.less {p:Prg}{k k':Nat}(h:PvP p k)(hk:k'≤k):PvP p k':=⟨h.ok,h.wh,h.n,by have:=h.m;omega⟩
theorem PvP.add {p:Prg}{k:Nat}{c:CutS}{r:RowS}(h:PvP p (k+1))(hd:Kz p c r):PvP (addRow p r) k:=
 have hm:=h.m
 ⟨J1r h.ok (J2j h.ok hd) (by omega),h.wh,h.n,by simp only[addRow,List.length_append,List.length_singleton];omega⟩
theorem J5b {p:Prg}{S:List Jh}:¬ Jn p [] S:=fun h=>by cases h
theorem J5c {p:Prg}{N S:List Jh}(h:Jn p N S):S.length≤N.length∧∀ n ∈ S,n ∈ N:=by
 obtain⟨u,_,rfl,_⟩:=Z7 h
 exact⟨by rw[List.length_append];omega,fun n hn=>List.mem_append.2 (.inr hn)⟩
theorem J2.vars {w:World}{bt:Nat}{va vb:Option Addr}{vc vd:Nat}{p:Prg}(h:J2 w bt (.agg #[.slice va p.vars.length vc,.slice vb p.rows.length vd]) p):K3 w (.slice va p.vars.length vc) p.vars:=by
 obtain⟨a,c,b,d,e,k1,k2⟩:=h.at
 unfold prgV at e
 injection e with e
 have e1:=congrArg (fun x=>x[0]?) e
 simp at e1
 obtain⟨rfl,rfl⟩:=e1
 exact k1
theorem J2.low {w w1:World}{base bt:Nat}{va vb pv:Option Addr}{vc vd cv n k:Nat}{p:Prg}{j m:Int}(hn:p.vars.length=n)(hk:p.rows.length=k)(h:J2 w bt (.agg #[.slice va n vc,.slice vb k vd]) p)(g:w.grownBy w1 (some bt))
  (h1:OwnL w1 base 62 5 encVar (.slice pv n cv) (setUp p.vars j m)) (hb:bt < base):J2 w1 bt (.agg #[.slice pv n cv,.slice vb k vd]) (lowPart p j m):=by
 subst hn hk
 have e:(lowPart p j m).vars.length=p.vars.length:=Py ..
 have:=J2.part (q:=lowPart p j m) (pv:=pv) (cv:=cv) h g g rfl (by rw[e];exact h1) hb
 rw[e] at this
 exact this
theorem J2.high {w w1:World}{base bt:Nat}{va vb pv:Option Addr}{vc vd cv n k:Nat}{p:Prg}{j m:Int}(hn:p.vars.length=n)(hk:p.rows.length=k)(h:J2 w bt (.agg #[.slice va n vc,.slice vb k vd]) p)(g:w.grownBy w1 (some bt))
  (h1:OwnL w1 base 62 5 encVar (.slice pv n cv) (setLo p.vars j (m+1))) (hb:bt < base):J2 w1 bt (.agg #[.slice pv n cv,.slice vb k vd]) (highPart p j m):=by
 subst hn hk
 have e:(highPart p j m).vars.length=p.vars.length:=Px ..
 have:=J2.part (q:=highPart p j m) (pv:=pv) (cv:=cv) h g g rfl (by rw[e];exact h1) hb
 rw[e] at this
 exact this
def VisC (k:Nat)(W0:World)(bt bv bs bm:Nat):Prop:=∀ (w:World) (v:Value) (p:Prg) (N:List Jh) (pt:Option Addr) (ct nt:Nat),N.length < k→nt=N.length→K2 W0 w bt bv bs bm (.slice pt nt ct)→J1 W0 (.slice pt nt ct) N 4→J2 w bt v p→
 PvP p N.length→(∀ n ∈ N,K1 n)→Calls Tryz.prog 50 #[v,.pointer (some ⟨bt,0,none⟩),.pointer (some ⟨bs,0,none⟩)] w (fun e w'=>∃ r,e = .returned r∧VisR p N W0 w bt bv bs bm r w')
theorem VisR.leaf {p:Prg}{N' N:List Jh}{W0 w w':World}{bt bv bs bm:Nat}{r:Value}{P:Prop}{pt:Option Addr}{ct nt:Nat}(h:∀ S,Jn p N' S↔P∧S=N)(ht:Jb P r)(g:Gr w w')(he:K2 W0 w bt bv bs bm (.slice pt nt ct))(hn:J1 W0 (.slice pt nt ct) N 4)(hl:nt=N.length):VisR p N' W0 w bt bv bs bm r w':=by
 refine⟨J5 bt g,?_⟩
 rcases ht.cases with⟨rfl,k⟩|⟨rfl,k⟩
 ·exact .inl ⟨N,pt,nt,ct,(h N).2 ⟨k,rfl⟩,rfl,he.grow g,hn,hl⟩
 ·exact .inr ⟨fun⟨S,hS⟩=>k ((h S).1 hS).1,rfl,_,he.grow g⟩
end Prf
namespace Inv
section steps
variable {P:Program}{ops:Array Oper}{Q:Exit→Act→World→Prop}{B:World→Prop}{i:Nat}{t:Tr}{a:Act}{w:World}{o:Oper}
theorem Nv (ho:ops[i]?=some o)(hw:Region.wanted o (yielded ops a.tmps)=false)(h:∀ K:Act→World→Prop,(∀ a w,wpL P ops Q B t a w→K a w)→K (a.put o.dst undef) w):wpL P ops Q B (.read i t) a w:=⟨o,ho,by rw[if_neg (by simp[hw])];exact h _ (fun _ _ h=>h)⟩
theorem Nu (ho:ops[i]?=some o)(hw:Region.wanted o (yielded ops a.tmps)=false)(h:∀ K:Act→World→Prop,(∀ a w,wpL P ops Q B t a w→K a w)→K (a.put o.dst undef) w):wpL P ops Q B (.one i t) a w:=⟨o,ho,by rw[if_neg (by simp[hw])];exact h _ (fun _ _ h=>h)⟩
end steps
end Inv
end Go.Proofs.YtcjgimlcefhhmaaGreatDoor
namespace Go.Proofs.YtcjgimlcefhhmaaGreatDoor
namespace Prf
open Go.RowKit Go.Lib
theorem J11 {w:World}{bt:Nat}{va vb:Option Addr}{vc vd n k:Nat}{p:Prg}(hn:p.vars.length=n)(hk:p.rows.length=k)(h:J2 w bt (.agg #[.slice va n vc,.slice vb k vd]) p):K3 w (.slice va n vc) p.vars:=by
 subst hn hk
 exact h.vars
theorem J0Y (W0 w:World)(bt bv bs bm:Nat)(pt:Option Addr)(ct:Nat)(v:Value)(p:Prg)(x:Jm)(n:Jh)(N:List Jh)(nt:Nat)(hnt:nt=N.length)(IH:VisC (N.length+1) W0 bt bv bs bm)(he:K2 W0 w bt bv bs bm (.slice pt nt ct))(hno:J1 W0 (.slice pt nt ct) N 4)
  (hs:J2 w bt v p) (hx:Kj w x n 4) (hp:PvP p (N.length+1)) (hf:∀ n ∈ N,K1 n) (h2:n.kind=2) (h3:Kd n):
  Calls Tryz.prog 46 #[v,.agg (nodeA x),.pointer (some ⟨bv,0,none⟩)] w (fun e w'=>∃ r,e = .returned r∧VisR p (n :: N) W0 w bt bv bs bm r w'):=by
 have HIH:=ξ IH
 have HE:=ξ he
 have HNO:=ξ (And.intro hno hnt)
 have HPV:=ξ hp
 have HF:=ξ hf
 have HK:=ξ (fun s=>J54 (p:=p) (n:=n) (t:=N) (s:=s) h3 h2)
 have HVP:=ξ (And.intro hx.var hx.pos)
 obtain⟨va,vc,vb,vd,rfl,hv,hr⟩:=hs.at
 have HS:=ξ hs
 unfold prgV at HS ⊢
 obtain⟨lv,hlv⟩:∃ z,p.vars.length=z:=⟨_,rfl⟩
 obtain⟨lr,hlr⟩:∃ z,p.rows.length=z:=⟨_,rfl⟩
 have HLV:=ξ (And.intro hlv hlr)
 rw[hlv,hlr] at HS ⊢
 have HB:=ξ (Q9 w va vb vc vd lv lr x)
 clear IH he hno hnt hs hp hf h2 h3 hv hr hx hlv hlr
 obtain⟨kd,mp,mn,mc,var,pos,ck,cp,cn,cc,row,vp,vn,vc2⟩:=x
 dsimp only at HVP
 unfold nodeA at HB ⊢
 dsimp only at HB ⊢
 go_enter Tryz.func46,Tryz.ntmps46
 go_wp2_with fail
 have HSZ:=ξ (show bt < w.heap.size∧bv < w.heap.size from⟨HE.out.t.lt,HE.out.v.lt⟩)
 generalize hbn:w.heap.size+1=bn at HB ⊢
 generalize hbp:w.heap.size=bp at HB HSZ ⊢
 generalize (w.alloc _).alloc _=W at HB ⊢
 have HNE:=ξ (show bt < bp∧bv < bp∧bt < bn∧bp < W.heap.size∧bn < W.heap.size from by
  have:=HSZ.out
  have h1:=HB.out.2.1.lt
  have h2:=HB.out.2.2.lt
  omega)
 clear hbn hbp
 have hB0:Ja W.drew bv #[visitF bt bs]∧Ja W.drew bp #[.slice va lv vc,.slice vb lr vd]∧Ja W.drew bn (nodeA ⟨kd,mp,mn,mc,var,pos,ck,cp,cn,cc,row,vp,vn,vc2⟩):=
  have g0:Gr W W.drew:=(Gr.refl _).drew
  ⟨HE.out.v.grow (HB.out.1.trans g0),HB.out.2.1.grow g0,HB.out.2.2.grow g0⟩
 have x2:∀ w',(Ja w' bv #[visitF bt bs]∧Ja w' bp #[.slice va lv vc,.slice vb lr vd]∧Ja w' bn (nodeA ⟨kd,mp,mn,mc,var,pos,ck,cp,cn,cc,row,vp,vn,vc2⟩))→w'.cell? ⟨bn,2,none⟩=some (.int .i64 var):=fun w' h=>h.2.2.at 2 rfl
 have x3:∀ w',(Ja w' bv #[visitF bt bs]∧Ja w' bp #[.slice va lv vc,.slice vb lr vd]∧Ja w' bn (nodeA ⟨kd,mp,mn,mc,var,pos,ck,cp,cn,cc,row,vp,vn,vc2⟩))→w'.cell? ⟨bn,3,none⟩=some (.int .i64 pos):=fun w' h=>h.2.2.at 3 rfl
 have y0:∀ w',(Ja w' bv #[visitF bt bs]∧Ja w' bp #[.slice va lv vc,.slice vb lr vd]∧Ja w' bn (nodeA ⟨kd,mp,mn,mc,var,pos,ck,cp,cn,cc,row,vp,vn,vc2⟩))→w'.cell? ⟨bp,0,none⟩=some (.slice va lv vc):=fun w' h=>h.2.1.at 0 rfl
 have y1:∀ w',(Ja w' bv #[visitF bt bs]∧Ja w' bp #[.slice va lv vc,.slice vb lr vd]∧Ja w' bn (nodeA ⟨kd,mp,mn,mc,var,pos,ck,cp,cn,cc,row,vp,vn,vc2⟩))→w'.cell? ⟨bp,1,none⟩=some (.slice vb lr vd):=fun w' h=>h.2.1.at 1 rfl
 have z0:∀ w',(Ja w' bv #[visitF bt bs]∧Ja w' bp #[.slice va lv vc,.slice vb lr vd]∧Ja w' bn (nodeA ⟨kd,mp,mn,mc,var,pos,ck,cp,cn,cc,row,vp,vn,vc2⟩))→w'.cell? ⟨bv,0,none⟩=some (.func (.func 50) #[] #[.pointer (some ⟨bt,0,none⟩),.pointer (some ⟨bs,0,none⟩)]):=fun w' h=>h.1.at 0 rfl
 by_cases h0:0≤var
 rotate_left
 ·have e2:decide (0≤var)=false:=decide_eq_false h0
  have HX:=ξ h0
  clear h0
  have H:=ξ (show ¬ ∃ S,Jn p (n :: N) S from fun⟨S,h⟩=>HX.out (by rw[HVP.out.1];exact((HK.out S).1 h).1.1))
  refine Inv.Of (fun w'=>Ja w' bv #[visitF bt bs]∧Ja w' bp #[.slice va lv vc,.slice vb lr vd]∧Ja w' bn (nodeA ⟨kd,mp,mn,mc,var,pos,ck,cp,cn,cc,row,vp,vn,vc2⟩)) (.read 0 (.read 1 (.read 2 (.read 3 (.read 4 (.read 5 (.read 6 (.read 7 (.read 8 (.read 9 (.read 10 (.read 11 (.read 12 (.read 13 (.read 14 (.read 15 (.read 16 (.read 17 (.read 18 (.read 19 (.read 20 (.read 21 (.read 22 (.read 23 (.read 24 (.read 25 (.read 26 (.read 27 (.one 28 (.one 29 (.read 30 (.read 31 (.read 32 (.read 33 (.read 34 (.read 35 (.read 36 (.read 37 (.one 38 (.one 39 (.read 40 (.read 41 .stop)))))))))))))))))))))))))))))))))))))))))) hB0 (by kernel_rfl) (by kernel_rfl) rfl (by kernel_rfl) (fun _ _ d _ _ h=>by cases d<;>exact h) ?_
  generalize hWd:W.drew=Wd at hB0 ⊢
  have GD:=ξ (show Gr w Wd from by rw[← hWd];exact HB.out.1.trans (Gr.refl W).drew)
  clear hWd hB0
  repeat(first|(refine Inv.Lw (v:=?_) rfl rfl (fun w' hg=>?_) (fun K hK=>?_);rotate_left;(go_simp;rfl);go_simp;refine hK _ _ ?_;clear hK K)|(refine Inv.Nv rfl rfl (fun K hK=>?_);go_simp;refine hK _ _ ?_;clear hK K)|(refine Inv.Nu rfl rfl (fun K hK=>?_);go_simp;refine hK _ _ ?_;clear hK K))
  refine Inv.Nw ?_
  clear x2 x3 y0 y1 z0
  go_wp2_with fail
  go_ret
  exact⟨_,rfl,J5 bt GD.out,.inr ⟨H.out,rfl,_,HE.out.grow GD.out⟩⟩
 by_cases h1:var < (lv:Int)
 rotate_left
 ·have e2:decide (var < (lv:Int))=false:=decide_eq_false h1
  have HX:=ξ h1
  clear h1
  have H:=ξ (show ¬ ∃ S,Jn p (n :: N) S from fun⟨S,h⟩=>HX.out (by rw[HVP.out.1,← HLV.out.1];exact((HK.out S).1 h).1.2))
  refine Inv.Of (fun w'=>Ja w' bv #[visitF bt bs]∧Ja w' bp #[.slice va lv vc,.slice vb lr vd]∧Ja w' bn (nodeA ⟨kd,mp,mn,mc,var,pos,ck,cp,cn,cc,row,vp,vn,vc2⟩)) (.read 0 (.read 1 (.read 2 (.read 3 (.read 4 (.read 5 (.read 6 (.read 7 (.read 8 (.read 9 (.read 10 (.read 11 (.read 12 (.read 13 (.read 14 (.read 15 (.read 16 (.read 17 (.read 18 (.read 19 (.read 20 (.read 21 (.read 22 (.read 23 (.read 24 (.read 25 (.read 26 (.read 27 (.one 28 (.one 29 (.read 30 (.read 31 (.read 32 (.read 33 (.read 34 (.read 35 (.read 36 (.read 37 (.one 38 (.one 39 (.read 40 (.read 41 .stop)))))))))))))))))))))))))))))))))))))))))) hB0 (by kernel_rfl) (by kernel_rfl) rfl (by kernel_rfl) (fun _ _ d _ _ h=>by cases d<;>exact h) ?_
  generalize hWd:W.drew=Wd at hB0 ⊢
  have GD:=ξ (show Gr w Wd from by rw[← hWd];exact HB.out.1.trans (Gr.refl W).drew)
  clear hWd hB0
  repeat(first|(refine Inv.Lw (v:=?_) rfl rfl (fun w' hg=>?_) (fun K hK=>?_);rotate_left;(go_simp;rfl);go_simp;refine hK _ _ ?_;clear hK K)|(refine Inv.Nv rfl rfl (fun K hK=>?_);go_simp;refine hK _ _ ?_;clear hK K)|(refine Inv.Nu rfl rfl (fun K hK=>?_);go_simp;refine hK _ _ ?_;clear hK K))
  refine Inv.Nw ?_
  clear x2 x3 y0 y1 z0
  go_wp2_with fail
  go_ret
  exact⟨_,rfl,J5 bt GD.out,.inr ⟨H.out,rfl,_,HE.out.grow GD.out⟩⟩
 by_cases h4 : -1099511627776≤pos
 rotate_left
 ·have e2:decide (-1099511627776≤pos)=false:=decide_eq_false h4
  have HX:=ξ h4
  clear h4
  have H:=ξ (show ¬ ∃ S,Jn p (n :: N) S from fun⟨S,h⟩=>HX.out (by rw[HVP.out.2];exact((HK.out S).1 h).2.1.1))
  refine Inv.Of (fun w'=>Ja w' bv #[visitF bt bs]∧Ja w' bp #[.slice va lv vc,.slice vb lr vd]∧Ja w' bn (nodeA ⟨kd,mp,mn,mc,var,pos,ck,cp,cn,cc,row,vp,vn,vc2⟩)) (.read 0 (.read 1 (.read 2 (.read 3 (.read 4 (.read 5 (.read 6 (.read 7 (.read 8 (.read 9 (.read 10 (.read 11 (.read 12 (.read 13 (.read 14 (.read 15 (.read 16 (.read 17 (.read 18 (.read 19 (.read 20 (.read 21 (.read 22 (.read 23 (.read 24 (.read 25 (.read 26 (.read 27 (.one 28 (.one 29 (.read 30 (.read 31 (.read 32 (.read 33 (.read 34 (.read 35 (.read 36 (.read 37 (.one 38 (.one 39 (.read 40 (.read 41 .stop)))))))))))))))))))))))))))))))))))))))))) hB0 (by kernel_rfl) (by kernel_rfl) rfl (by kernel_rfl) (fun _ _ d _ _ h=>by cases d<;>exact h) ?_
  generalize hWd:W.drew=Wd at hB0 ⊢
  have GD:=ξ (show Gr w Wd from by rw[← hWd];exact HB.out.1.trans (Gr.refl W).drew)
  clear hWd hB0
  repeat(first|(refine Inv.Lw (v:=?_) rfl rfl (fun w' hg=>?_) (fun K hK=>?_);rotate_left;(go_simp;rfl);go_simp;refine hK _ _ ?_;clear hK K)|(refine Inv.Nv rfl rfl (fun K hK=>?_);go_simp;refine hK _ _ ?_;clear hK K)|(refine Inv.Nu rfl rfl (fun K hK=>?_);go_simp;refine hK _ _ ?_;clear hK K))
  refine Inv.Nw ?_
  clear x2 x3 y0 y1 z0
  go_wp2_with fail
  go_ret
  exact⟨_,rfl,J5 bt GD.out,.inr ⟨H.out,rfl,_,HE.out.grow GD.out⟩⟩
 by_cases h5:pos < 1099511627776
 rotate_left
 ·have e2:decide (pos < 1099511627776)=false:=decide_eq_false h5
  have HX:=ξ h5
  clear h5
  have H:=ξ (show ¬ ∃ S,Jn p (n :: N) S from fun⟨S,h⟩=>HX.out (by rw[HVP.out.2];exact((HK.out S).1 h).2.1.2))
  refine Inv.Of (fun w'=>Ja w' bv #[visitF bt bs]∧Ja w' bp #[.slice va lv vc,.slice vb lr vd]∧Ja w' bn (nodeA ⟨kd,mp,mn,mc,var,pos,ck,cp,cn,cc,row,vp,vn,vc2⟩)) (.read 0 (.read 1 (.read 2 (.read 3 (.read 4 (.read 5 (.read 6 (.read 7 (.read 8 (.read 9 (.read 10 (.read 11 (.read 12 (.read 13 (.read 14 (.read 15 (.read 16 (.read 17 (.read 18 (.read 19 (.read 20 (.read 21 (.read 22 (.read 23 (.read 24 (.read 25 (.read 26 (.read 27 (.one 28 (.one 29 (.read 30 (.read 31 (.read 32 (.read 33 (.read 34 (.read 35 (.read 36 (.read 37 (.one 38 (.one 39 (.read 40 (.read 41 .stop)))))))))))))))))))))))))))))))))))))))))) hB0 (by kernel_rfl) (by kernel_rfl) rfl (by kernel_rfl) (fun _ _ d _ _ h=>by cases d<;>exact h) ?_
  generalize hWd:W.drew=Wd at hB0 ⊢
  have GD:=ξ (show Gr w Wd from by rw[← hWd];exact HB.out.1.trans (Gr.refl W).drew)
  clear hWd hB0
  repeat(first|(refine Inv.Lw (v:=?_) rfl rfl (fun w' hg=>?_) (fun K hK=>?_);rotate_left;(go_simp;rfl);go_simp;refine hK _ _ ?_;clear hK K)|(refine Inv.Nv rfl rfl (fun K hK=>?_);go_simp;refine hK _ _ ?_;clear hK K)|(refine Inv.Nu rfl rfl (fun K hK=>?_);go_simp;refine hK _ _ ?_;clear hK K))
  refine Inv.Nw ?_
  clear x2 x3 y0 y1 z0
  go_wp2_with fail
  go_ret
  exact⟨_,rfl,J5 bt GD.out,.inr ⟨H.out,rfl,_,HE.out.grow GD.out⟩⟩
 obtain⟨jn,rfl⟩:∃ j:Nat,var=(j:Int):=⟨var.toNat,by omega⟩
 have hj:jn < lv:=by omega
 have HM:=ξ (show -1099511627776≤pos∧pos < 1099511627776 from⟨h4,h5⟩)
 have HVN:=ξ (show p.vars.length=lv∧lv≤1000000 from⟨HLV.out.1,by have:=HPV.out.n;have:=HLV.out.1;omega⟩)
 refine Inv.Of (fun w'=>Ja w' bv #[visitF bt bs]∧Ja w' bp #[.slice va lv vc,.slice vb lr vd]∧Ja w' bn (nodeA ⟨kd,mp,mn,mc,(jn:Int),pos,ck,cp,cn,cc,row,vp,vn,vc2⟩)) (.read 0 (.read 1 (.read 2 (.read 3 (.read 4 (.read 5 (.read 6 (.read 7 (.read 8 (.read 9 (.read 10 (.read 11 (.read 12 (.read 13 (.read 14 (.read 15 (.read 16 (.read 17 (.read 18 (.read 19 (.read 20 (.read 21 (.read 22 (.read 23 (.read 24 (.read 25 (.read 26 (.read 27 (.one 28 (.one 29 (.read 30 (.read 31 (.read 32 (.read 33 (.read 34 (.read 35 (.read 36 (.read 37 (.one 38 (.one 39 (.read 40 (.read 41 .stop)))))))))))))))))))))))))))))))))))))))))) hB0 (by kernel_rfl) (by kernel_rfl) rfl (by kernel_rfl) (fun _ _ d _ _ h=>by cases d<;>exact h) ?_
 generalize hWd:W.drew=Wd at hB0 ⊢
 have GD:=ξ (show Gr w Wd∧W.heap.size≤Wd.heap.size from by rw[← hWd];exact⟨HB.out.1.trans (Gr.refl W).drew,((Gr.refl W).drew).size⟩)
 have HJ:=ξ hj
 clear hWd
 repeat(first|(refine Inv.Lw (v:=?_) rfl rfl (fun w' hg=>?_) (fun K hK=>?_);rotate_left;(go_simp;rfl);go_simp;refine hK _ _ ?_;clear hK K)|(refine Inv.Nv rfl rfl (fun K hK=>?_);go_simp;refine hK _ _ ?_;clear hK K)|(refine Inv.Nu rfl rfl (fun K hK=>?_);go_simp;refine hK _ _ ?_;clear hK K))
 clear h0 h1 h4 h5 hj
 refine Inv.J17 (args:=?_) rfl rfl rfl rfl rfl rfl (by kernel_rfl) (by kernel_rfl) ?_ (fun K hK=>?_)
 rotate_left
 ·go_simp;rfl
 refine(J0U Wd va vb vc vd lr p.vars lv jn pos true (J11 HLV.out.1 HLV.out.2 (HS.out.go (J5 bt GD.out.1))) HVN.out.1 HJ.out HM.out HVN.out.2).mono ?_
 rintro _ w1 ⟨_,rfl,g1,pv1,cv1,rfl,ho1⟩
 rw[if_pos rfl] at ho1
 have HS1:=ξ (J2.low HLV.out.1 HLV.out.2 HS.out (J5 bt (GD.out.1.trans g1)) ho1 (by have:=HNE.out;have:=GD.out.2;omega))
 have hB1:Ja w1 bv #[visitF bt bs]∧Ja w1 bp #[.slice va lv vc,.slice vb lr vd]∧Ja w1 bn (nodeA ⟨kd,mp,mn,mc,(jn:Int),pos,ck,cp,cn,cc,row,vp,vn,vc2⟩):=⟨hB0.1.grow g1,hB0.2.1.grow g1,hB0.2.2.grow g1⟩
 have HE1:=ξ (HE.out.grow (GD.out.1.trans g1))
 have GG:=ξ (J5 bt (GD.out.1.trans g1))
 clear ho1 hB0 g1
 refine⟨_,rfl,hB1,?_⟩
 go_simp
 refine hK _ _ ?_
 clear hK K
 refine Inv.J18 (args:=?_) rfl rfl rfl rfl rfl (enters_of Tryz.func50 (by kernel_rfl) rfl) ?_ (fun K hK=>?_)
 rotate_left
 ·go_simp;rfl
 refine(HIH.out w1 _ (lowPart p (jn:Int) pos) N pt ct nt (by omega) HNO.out.2 HE1.out HNO.out.1 HS1.out ((HPV.out.low HM.out).less (by omega)) HF.out).mono ?_
 rintro _ w2 ⟨r2,rfl,g2,hr2⟩
 have hB2:Ja w2 bv #[visitF bt bs]∧Ja w2 bp #[.slice va lv vc,.slice vb lr vd]∧Ja w2 bn (nodeA ⟨kd,mp,mn,mc,(jn:Int),pos,ck,cp,cn,cc,row,vp,vn,vc2⟩):=
  ⟨hB1.1.grown g2 (by have:=HNE.out;have:=HE.out.n;exact fun e=>this.1 (Option.some.inj e).symm),hB1.2.1.grown g2 (fun e=>by have:=HNE.out;have:=Option.some.inj e;omega),hB1.2.2.grown g2 (fun e=>by have:=HNE.out;have:=Option.some.inj e;omega)⟩
 have GG:=ξ (J9 GG.out g2)
 clear hB1 g2
 rcases hr2 with⟨S,pt2,nt2,ct2,hpr,rfl,he2,hno2,hl2⟩|⟨hnp,rfl,tv2,he2⟩
 rotate_left
 ·have H:=ξ (show ¬ ∃ S,Jn p (n :: N) S from fun⟨S,h⟩=>by
   obtain⟨-,-,r,k1,-⟩:=(HK.out S).1 h
   rw[← HVP.out.1,← HVP.out.2] at k1
   exact hnp ⟨r,k1⟩)
  have HE2:=ξ he2
  clear hnp he2
  refine⟨_,rfl,hB2,?_⟩
  go_simp
  refine hK _ _ ?_
  clear hK K
  repeat(first|(refine Inv.Lw (v:=?_) rfl rfl (fun w' hg=>?_) (fun K hK=>?_);rotate_left;(go_simp;rfl);go_simp;refine hK _ _ ?_;clear hK K)|(refine Inv.Nv rfl rfl (fun K hK=>?_);go_simp;refine hK _ _ ?_;clear hK K)|(refine Inv.Nu rfl rfl (fun K hK=>?_);go_simp;refine hK _ _ ?_;clear hK K))
  refine Inv.Nw ?_
  clear x2 x3 y0 y1 z0
  go_wp2_with fail
  go_ret
  exact⟨_,rfl,GG.out,.inr ⟨H.out,rfl,_,HE2.out⟩⟩
 have HPR:=ξ hpr
 have HE2:=ξ he2
 have HNO2:=ξ (And.intro hno2 hl2)
 clear hpr he2 hno2 hl2
 refine⟨_,rfl,hB2,?_⟩
 go_simp
 refine hK _ _ ?_
 clear hK K
 repeat(first|(refine Inv.Lw (v:=?_) rfl rfl (fun w' hg=>?_) (fun K hK=>?_);rotate_left;(go_simp;rfl);go_simp;refine hK _ _ ?_;clear hK K)|(refine Inv.Nv rfl rfl (fun K hK=>?_);go_simp;refine hK _ _ ?_;clear hK K)|(refine Inv.Nu rfl rfl (fun K hK=>?_);go_simp;refine hK _ _ ?_;clear hK K))
 refine Inv.J17 (args:=?_) rfl rfl rfl rfl rfl rfl (by kernel_rfl) (by kernel_rfl) ?_ (fun K hK=>?_)
 rotate_left
 ·go_simp;rfl
 refine(J0U w2 va vb vc vd lr p.vars lv jn pos false (J11 HLV.out.1 HLV.out.2 (HS.out.go GG.out)) HVN.out.1 HJ.out HM.out HVN.out.2).mono ?_
 rintro _ w3 ⟨_,rfl,g3,pv3,cv3,rfl,ho3⟩
 rw[if_neg (by decide)] at ho3
 have HS3:=ξ (J2.high HLV.out.1 HLV.out.2 HS.out (J9 GG.out (J5 bt g3)) ho3 (by have:=HE2.out.t.lt;omega))
 have hB3:Ja w3 bv #[visitF bt bs]∧Ja w3 bp #[.slice va lv vc,.slice vb lr vd]∧Ja w3 bn (nodeA ⟨kd,mp,mn,mc,(jn:Int),pos,ck,cp,cn,cc,row,vp,vn,vc2⟩):=⟨hB2.1.grow g3,hB2.2.1.grow g3,hB2.2.2.grow g3⟩
 have HE3:=ξ (HE2.out.grow g3)
 have GG:=ξ (J9 GG.out (J5 bt g3))
 clear ho3 hB2 g3
 refine⟨_,rfl,hB3,?_⟩
 go_simp
 refine hK _ _ ?_
 clear hK K
 refine Inv.J18 (args:=?_) rfl rfl rfl rfl rfl (enters_of Tryz.func50 (by kernel_rfl) rfl) ?_ (fun K hK=>?_)
 rotate_left
 ·go_simp;rfl
 have HSU:=ξ (J5c HPR.out)
 refine(HIH.out w3 _ (highPart p (jn:Int) pos) S pt2 ct2 nt2 (by have:=HSU.out.1;omega) HNO2.out.2 HE3.out HNO2.out.1 HS3.out ((HPV.out.high HM.out).less (by have:=HSU.out.1;omega)) (fun n hn=>HF.out n (HSU.out.2 n hn))).mono ?_
 rintro _ w4 ⟨r4,rfl,g4,hr4⟩
 have hB4:Ja w4 bv #[visitF bt bs]∧Ja w4 bp #[.slice va lv vc,.slice vb lr vd]∧Ja w4 bn (nodeA ⟨kd,mp,mn,mc,(jn:Int),pos,ck,cp,cn,cc,row,vp,vn,vc2⟩):=
  ⟨hB3.1.grown g4 (by have:=HNE.out;have:=HE.out.n;exact fun e=>this.1 (Option.some.inj e).symm),hB3.2.1.grown g4 (fun e=>by have:=HNE.out;have:=Option.some.inj e;omega),hB3.2.2.grown g4 (fun e=>by have:=HNE.out;have:=Option.some.inj e;omega)⟩
 have GG:=ξ (J9 GG.out g4)
 clear hB3 g4
 have HRB:=ξ (show(∃ t,r4 = .bool t)∧VisR p (n :: N) W0 w bt bv bs bm r4 w4 from by
  rcases hr4 with⟨S',pt5,nt5,ct5,hp5,rfl,k1,k2,k3⟩|⟨hn5,rfl,tv5,k1⟩
  ·exact⟨⟨_,rfl⟩,GG.out,.inl ⟨S',pt5,nt5,ct5,(HK.out S').2 ⟨by rw[← HVP.out.1];exact⟨by omega,by have:=HJ.out;have:=HLV.out.1;omega⟩,by rw[← HVP.out.2];exact HM.out,S,by rw[← HVP.out.1,← HVP.out.2];exact⟨HPR.out,hp5⟩⟩,rfl,k1,k2,k3⟩⟩
  ·refine⟨⟨_,rfl⟩,GG.out,.inr ⟨fun⟨S',h⟩=>?_,rfl,tv5,k1⟩⟩
   obtain⟨-,-,r,q1,q2⟩:=(HK.out S').1 h
   rw[← HVP.out.1,← HVP.out.2] at q1 q2
   exact hn5 ⟨S',by rw[Tp HPR.out q1];exact q2⟩)
 clear hr4
 obtain⟨t4,rfl⟩:=HRB.out.1
 refine⟨_,rfl,hB4,?_⟩
 go_simp
 refine hK _ _ ?_
 clear hK K
 repeat(first|(refine Inv.Lw (v:=?_) rfl rfl (fun w' hg=>?_) (fun K hK=>?_);rotate_left;(go_simp;rfl);go_simp;refine hK _ _ ?_;clear hK K)|(refine Inv.Nv rfl rfl (fun K hK=>?_);go_simp;refine hK _ _ ?_;clear hK K)|(refine Inv.Nu rfl rfl (fun K hK=>?_);go_simp;refine hK _ _ ?_;clear hK K))
 refine Inv.Nw ?_
 clear x2 x3 y0 y1 z0
 go_wp2_with fail
 go_ret
 exact⟨_,rfl,HRB.out.2⟩
end Prf
end Go.Proofs.YtcjgimlcefhhmaaGreatDoor
