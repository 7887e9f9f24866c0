/- Texts: SgE. -/
import Derived.Test.YtcjgimlcefhhmaaGreatDoorU30
import Derived.Test.YtcjgimlcefhhmaaGreatDoorU40
import Derived.Test.YtcjgimlcefhhmaaGreatDoorU51
set_option linter.unusedVariables false
set_option linter.unusedSimpArgs false
set_option maxRecDepth 100000
set_option maxHeartbeats 12800000
namespace Go.Proofs.YtcjgimlcefhhmaaGreatDoor
namespace Prf
open Go.RowKit Go.Lib
theorem J0q {p:Prg}(h:Jr p)(hn:p.vars.length≤1000):∀ r ∈ p.rows,r.terms.length≤1000:=fun r hr=>by
 have:=Sy _ _ (by omega) (by omega) (h.2.2.2 r hr).2.2.2.2.2
 omega
theorem J58 {w:World}{q:Option Addr}{n c:Nat}{l:List Int}(h:Kx w (.slice q n c) (l.map fun z:Int=>(z:Rat)) 4)(hn:l.length=n)(hi:∀ y ∈ l,I64 y):PtAt w q n c (l.map fun z:Int=>(z:Rat)) (fun i=>(l[i]?).getD 0):=by
 refine⟨h,by simpa using hn,fun i=>?_,fun i=>?_⟩
 ·unfold atQ
  rw[List.getElem?_map]
  cases l[i]?<;>simp
 ·cases e:l[i]? with
  | none=>simp[I64]
  | some y=>exact hi y (List.mem_of_getElem? e)
theorem J0z {p:Prg}{N:List Jh}{X:Nat→Int}{m:Nat}(hk:Jr p)(hp:Jn p N [])(hi:InB p.vars X)(hm:m=0↔∀ r ∈ p.rows,Sat r X):0 < m:=by
 rcases Nat.eq_zero_or_pos m with h|h
 ·exact absurd ⟨hi,hm.1 h⟩ (J56 hp (fun r hr=>(hk.2.2.2 r hr).tin) X)
 ·exact h
theorem J3L (w:World)(a b q xp:Option Addr)(c d nv nr nn nc xn xc:Nat)(V:List VarM)(T:List RowM)(l:List Jm)(xl:List Int)(hv:K3 w (.slice a nv c) V)(hr:SlL w 5 encRow (.slice b nr d) T)(hl:SlL w 8 encNode (.slice q nn nc) l)(hnv:V.length=nv)(hnr:T.length=nr)(hnl:l.length=nn)
  (hvi:∀ y ∈ V,VarI y) (hx:∀ y ∈ T,RowR w y) (hlr:∀ x ∈ l,Mt w x) (hb:nv≤35184372088832) (hb2:nr≤35184372088832) (hb3:nn≤35184372088832) (hnm:∀ y ∈ T,y.name.length≤9223372036854775807)
  (hxl:K5 w (.slice xp xn xc) xl) (hxn:xl.length=xn) (hxi:∀ y ∈ xl,I64 y) (hxb:xn≤35184372088832) (mz:Int) (hmz:w.cell? ⟨2,0,none⟩=some (.int .i64 mz)) (htab:Tab w):
  Calls Tryz.prog 5 #[.agg #[.slice a nv c,.slice b nr d],.slice q nn nc,.slice xp xn xc] w (Ret w fun r w'=>r = .bool true):=by
 have HAW:=ξ (fun(W:World) (g:Gr w W)=>Ym W mz (g.cell hmz) (htab.grow g))
 clear hmz htab
 have HB:=ξ (Ja.new w #[.slice a nv c,.slice b nr d] 25)
 have HSM:=ξ (fun(W:World) (g:Gr w W)=>Xv W a b q c d nv nr nn nc V T l (SlL.grow hv g) (SlL.grow hr g) (SlL.grow hl g) hnv hnr hnl hvi (fun y hy=>by obtain⟨k1,k2,k3⟩:=hx y hy;exact⟨SlL.grow k1 g,k2,k3⟩) (fun x hx=>by
  have h:=hlr x hx
  refine⟨h.mult.grow g,h.cmul.grow g,?_,h.kind,h.var,h.pos,h.ck,h.row⟩
  obtain⟨V,e3,r3,b3,z3⟩:=h.vars
  exact⟨V,e3,SlL.grow r3 g,b3,z3⟩) hb hb2 hb3 hnm)
 have HXL:=ξ (And.intro hxl (And.intro hxn hxi))
 clear hv hr hl hnv hnr hnl hvi hx hlr hnm hxl hxn hxi
 go_enter Tryz.func5,Tryz.ntmps5
 go_wp2_with fail
 generalize w.heap.size=bp at HB ⊢
 generalize w.alloc _=W at HB ⊢
 have G:=ξ HB.out.1
 refine(HAW.out W G.out).mono ?_
 rintro _ w1 ⟨_,rfl,g1,rfl⟩
 have HP:=ξ (HB.out.2.grow g1)
 have G:=ξ (G.out.trans g1)
 have p0:=HP.out.at 0 rfl
 have p1:=HP.out.at 1 rfl
 clear g1 HB
 go_wp2_with fail
 clear p0 p1
 refine(HSM.out w1 G.out).mono ?_
 rintro _ w2 ⟨r2,rfl,g2,h2⟩
 have G:=ξ (G.out.trans g2)
 have HP:=ξ (HP.out.grow g2)
 rcases h2.cases with⟨rfl,N,hN,hs⟩|rfl
 rotate_left
 ·clear h2 g2
  go_wp2_with fail
  refine(HAW.out _ G.out).mono ?_
  rintro _ wz ⟨_,rfl,gz,rfl⟩
  have G:=ξ (G.out.trans gz)
  clear gz
  go_wp2_with fail
  go_ret
  exact⟨_,rfl,G.out,rfl⟩
 have HN:=ξ hN
 have HS:=ξ hs
 clear h2 g2 hN hs
 by_cases h6:(xn:Int)≤6
 rotate_left
 ·go_wp2_with fail
  refine(HAW.out _ G.out).mono ?_
  rintro _ wz ⟨_,rfl,gz,rfl⟩
  have G:=ξ (G.out.trans gz)
  clear gz
  go_wp2_with fail
  go_ret
  exact⟨_,rfl,G.out,rfl⟩
 have H6:=ξ h6
 go_wp2_with fail
 refine(J5x w2 xp xn xc xl (SlL.grow HXL.out.1 G.out) HXL.out.2.1 (by have:=H6.out;omega) HXL.out.2.2).mono ?_
 rintro _ w3 ⟨_,rfl,g3,q3,d3,rfl,h3⟩
 have HPT:=ξ (J58 h3 HXL.out.2.1 HXL.out.2.2)
 have G:=ξ (G.out.trans g3)
 have HP:=ξ (HP.out.grow g3)
 have GS:=ξ g3
 have p0:=HP.out.at 0 rfl
 have p1:=HP.out.at 1 rfl
 clear g3 h3
 go_wp2_with fail
 clear p0 p1
 refine(Rd w3 _ ⟨V,T.map RowM.s⟩ N q nn nc HN.out.symm (HS.out.prg.grow GS.out) (HS.out.nodes.grow GS.out) HS.out.i HS.out.nl (Nat.le_trans HS.out.n (by decide)) (by have:=HS.out.m;have:=HS.out.k;omega) HS.out.few).mono ?_
 rintro _ w4 ⟨r4,rfl,g4,h4⟩
 have G:=ξ (G.out.trans g4)
 have HP:=ξ (HP.out.grow g4)
 have GS:=ξ (GS.out.trans g4)
 have HPT:=ξ (HPT.out.grow g4)
 rcases h4 with⟨-,rfl⟩|⟨k4,k5,rfl⟩|⟨-,-,rfl⟩
 ·clear g4
  go_wp2_with fail
  go_ret
  exact⟨_,rfl,G.out,rfl⟩
 rotate_left
 ·clear g4
  go_wp2_with fail
  go_ret
  exact⟨_,rfl,G.out,rfl⟩
 have HPR:=ξ (And.intro k4 k5)
 clear g4 k4 k5
 have p0:=HP.out.at 0 rfl
 have p1:=HP.out.at 1 rfl
 go_wp2_with fail
 clear p0 p1
 refine(J5A w4 _ ⟨V,T.map RowM.s⟩ q3 xn d3 _ _ (HS.out.prg.grow GS.out) HPR.out.1.1 HPR.out.1.2 HPT.out (by have:=HS.out.n;omega)).mono ?_
 rintro _ w5 ⟨r5,rfl,g5,h5⟩
 have G:=ξ (G.out.trans g5)
 have HP:=ξ (HP.out.grow g5)
 have GS:=ξ (GS.out.trans g5)
 have HPT:=ξ (HPT.out.grow g5)
 rcases h5.cases with⟨rfl,k5⟩|⟨rfl,-⟩
 rotate_left
 ·clear h5 g5
  go_wp2_with fail
  go_ret
  exact⟨_,rfl,G.out,rfl⟩
 have HIB:=ξ k5
 clear h5 g5 k5
 have p0:=HP.out.at 0 rfl
 have p1:=HP.out.at 1 rfl
 go_wp2_with fail
 clear p0 p1
 refine(J0g w5 _ ⟨V,T.map RowM.s⟩ q3 xn d3 _ _ (HS.out.prg.grow GS.out) HPR.out.1.1 HPT.out (by have:=HS.out.n;omega) (by have:=HS.out.m;omega) (J0q HPR.out.1.1 (by have:=HS.out.n;omega))).mono ?_
 rintro _ w6 ⟨_,rfl,g6,q6,m6,d6,rfl,h6'⟩
 have G:=ξ (G.out.trans g6)
 have hpos:0 < m6:=J0z HPR.out.1.1 HPR.out.2 HIB.out h6'
 have hpos':(0:Int) < (m6:Int):=by omega
 clear h6' g6
 go_wp2_with fail
 go_ret
 exact⟨_,rfl,G.out,rfl⟩
end Prf
end Go.Proofs.YtcjgimlcefhhmaaGreatDoor
