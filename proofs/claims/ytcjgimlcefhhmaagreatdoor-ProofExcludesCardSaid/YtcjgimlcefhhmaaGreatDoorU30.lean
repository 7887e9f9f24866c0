/- Texts: SgC SgD. -/
import Derived.Test.YtcjgimlcefhhmaaGreatDoorU29
set_option linter.unusedVariables false
set_option linter.unusedSimpArgs false
set_option maxRecDepth 100000
set_option maxHeartbeats 12800000
namespace Go.Proofs.YtcjgimlcefhhmaaGreatDoor
namespace Prf
open Go.RowKit Go.Lib
theorem Me (a b:Int):cmpQ (a:Rat) (b:Rat)=cmpZ a b:=by
 unfold cmpQ cmpZ
 by_cases h:a < b
 ·rw[if_pos h,if_pos (Rat.intCast_lt_intCast.2 h)]
 ·rw[if_neg h,if_neg (fun k=>h (Rat.intCast_lt_intCast.1 k))]
  by_cases e:a=b
  ·subst e;rw[if_pos rfl,if_pos rfl]
  ·rw[if_neg e,if_neg (fun k=>e (Rat.intCast_inj.1 k))]
theorem Sx {n:Nat}:∀ {l:List Jg} {last:Int},Inc n last l→∀ t ∈ l,In t.c
 | [],_,_,t,ht=>by cases ht
 | x :: l,last,h,t,ht=>by
  obtain⟨h1,h2⟩:=h
  rcases List.mem_cons.1 ht with rfl|ht
  ·exact h1.2.2.2
  ·exact Sx h2 t ht
theorem Ke.mono {w:World}{v:Value}{n:Nat}{a:Nat→Rat}{L M:Nat}(h:Ke w v n a L)(hM:L≤M):Ke w v n a M:=by
 obtain⟨T,h1,h2,h3⟩:=h
 exact⟨T,h1,h2,fun i t ht=>by
  obtain⟨n,l,d,k1,k2,k3,k4⟩:=h3 i t ht
  exact⟨n,l,d,k1,k2,by omega,by omega⟩⟩
structure PtAt (w:World)(q:Option Addr)(n c:Nat)(xs:List Rat)(X:Nat→Int):Prop where
 r:Kx w (.slice q n c) xs 4
 n:xs.length=n
 x:∀ i,atQ xs i=((X i:Int):Rat)
 i:∀ i,I64 (X i)
theorem PtAt.grow {w w':World}{q:Option Addr}{n c:Nat}{xs:List Rat}{X:Nat→Int}(h:PtAt w q n c xs X)(g:Gr w w'):PtAt w' q n c xs X:=⟨h.r.grow g,h.n,h.x,h.i⟩
theorem J5S {r:RowS}{X:Nat→Int}(h:r.kind=0):cmpZ (dotZ r.terms X) r.bound≤0↔Sat r X:=by
 unfold Sat cmpZ
 split
 ·exact⟨fun _=>⟨fun _=>by omega,fun e=>by omega,fun e=>absurd h e⟩,fun _=>by decide⟩
 ·split
  ·exact⟨fun _=>⟨fun _=>by omega,fun e=>by omega,fun e=>absurd h e⟩,fun _=>by decide⟩
  ·exact⟨fun k=>absurd k (by decide),fun k=>by have:=k.1 h;omega⟩
theorem J5T {r:RowS}{X:Nat→Int}(h:r.kind=1):0≤cmpZ (dotZ r.terms X) r.bound↔Sat r X:=by
 unfold Sat cmpZ
 split
 ·exact⟨fun k=>absurd k (by decide),fun k=>by have:=k.2.1 h;omega⟩
 ·split
  ·exact⟨fun _=>⟨fun e=>by omega,fun _=>by omega,fun _ e=>absurd h e⟩,fun _=>by decide⟩
  ·exact⟨fun _=>⟨fun e=>by omega,fun _=>by omega,fun _ e=>absurd h e⟩,fun _=>by decide⟩
theorem J5U {r:RowS}{X:Nat→Int}(h:r.kind=2):cmpZ (dotZ r.terms X) r.bound=0↔Sat r X:=by
 unfold Sat cmpZ
 split
 ·exact⟨fun k=>absurd k (by decide),fun k=>by have:=k.2.2 (by omega) (by omega);omega⟩
 ·split
  ·exact⟨fun _=>⟨fun e=>by omega,fun e=>by omega,fun _ _=>by omega⟩,fun _=>rfl⟩
  ·exact⟨fun k=>absurd k (by decide),fun k=>by have:=k.2.2 (by omega) (by omega);omega⟩
theorem J5z (w:World)(v:Value)(p:Prg)(x:RowM)(q:Option Addr)(n c:Nat)(xs:List Rat)(X:Nat→Int)(hp:Jv w v p)(hx:Mv w x)(hro:Kb p.vars.length x.s)(ht:PtAt w q n c xs X)(hn:p.vars.length≤1000)(hl:x.terms.length≤1000):
  Calls Tryz.prog 28 #[v,rowV x,.slice q n c] w (Ret w fun r _=>Jb (Sat x.s X) r):=by
 have HPT:=ξ ht
 have HRO:=ξ hro
 have HRI:=ξ hx
 have HP:=ξ hp
 have HN:=ξ (And.intro hn hl)
 clear ht hro hx hn hl
 obtain⟨va,vc,vb,vd,rfl,hv,hr⟩:=hp
 unfold prgV at HP ⊢
 unfold rowV
 have B0:=Ja.new w #[.slice va p.vars.length vc,.slice vb p.rows.length vd] 25
 have B1:=Ja.new (w.alloc (.cells #[.slice va p.vars.length vc,.slice vb p.rows.length vd] 25)) #[.string ⟨x.name.toArray⟩,.int .i64 x.group,.int .i64 x.kind,.slice x.tp x.terms.length x.tc,.int .i64 x.bound] 42
 simp only[World.size_alloc] at B1
 have HB:=ξ (show Gr w _∧Ja _ _ #[.slice va p.vars.length vc,.slice vb p.rows.length vd]∧Ja _ _ #[.string ⟨x.name.toArray⟩,.int .i64 x.group,.int .i64 x.kind,.slice x.tp x.terms.length x.tc,.int .i64 x.bound] from⟨B0.1.trans B1.1,B0.2.grow B1.1,B1.2⟩)
 clear hv hr B0 B1
 go_enter Tryz.func28,Tryz.ntmps28
 go_wp2_with fail
 generalize w.heap.size+1=bx at HB ⊢
 generalize w.heap.size=bp at HB ⊢
 generalize (w.alloc _).alloc _=W at HB ⊢
 have p0:=fun w' (g:Gr W w')=>(HB.out.2.1.grow g).at 0 rfl
 have p1:=fun w' (g:Gr W w')=>(HB.out.2.1.grow g).at 1 rfl
 have x3:=fun w' (g:Gr W w')=>(HB.out.2.2.grow g).at 3 rfl
 have x4:=fun w' (g:Gr W w')=>(HB.out.2.2.grow g).at 4 rfl
 have g0:Gr W W.drew:=(Gr.refl _).drew
 have GZ:=ξ (HB.out.1.trans g0)
 refine Jp [(0,true),(1,true),(2,true),(3,true),(6,true),(7,true),(4,false),(5,false),(8,false),(9,false),(10,true)] (by kernel_rfl) (by kernel_rfl) rfl (by kernel_rfl) (fun _ _ d _ _ h=>by cases d<;>exact h) ?_
 generalize W.drew=Wd at g0 GZ ⊢
 repeat(refine Jf (v:=?_) g0 rfl rfl (fun w' hg=>?_) (fun K hK=>?_);rotate_left;(go_simp;rfl);go_simp;refine hK _ _ ?_;clear hK K)
 refine Jd (args:=?_) rfl rfl rfl rfl rfl rfl (by kernel_rfl) (by kernel_rfl) ?_ (fun K hK=>?_)
 rotate_left
 ·go_simp;rfl
 have hpn:=HPT.out.n
 subst hpn
 refine(J5B Wd _ p q c 4 xs (HP.out.grow GZ.out) (HPT.out.r.grow GZ.out) HN.out.1).mono ?_
 rintro _ w1 ⟨_,rfl,g1,q1,d1,rfl,h1⟩
 refine⟨_,rfl,g1,?_⟩
 go_simp
 refine hK _ _ ?_
 clear hK K
 have GZ:=ξ (GZ.out.trans g1)
 refine Jd (args:=?_) rfl rfl rfl rfl rfl rfl (by kernel_rfl) (by kernel_rfl) ?_ (fun K hK=>?_)
 rotate_left
 ·go_simp;rfl
 refine(J5y w1 x.tp q1 x.tc d1 p.vars.length x.terms (atQ xs) X (SlL.grow HRI.out GZ.out) HN.out.2 (fun t ht=>⟨(Nh (by decide) HRO.out.2.2.2.2.2 t ht).1,(Nh (by decide) HRO.out.2.2.2.2.2 t ht).2,Sx HRO.out.2.2.2.2.2 t ht⟩) (h1.mono (by decide)) (fun i _=>HPT.out.x i) HPT.out.i HN.out.1).mono ?_
 rintro _ w2 ⟨r2,rfl,g2,h2⟩
 clear h1
 refine⟨_,rfl,g2,?_⟩
 go_simp
 refine hK _ _ ?_
 clear hK K
 have GZ:=ξ (GZ.out.trans g2)
 refine Jd (args:=?_) rfl rfl rfl rfl rfl rfl (by kernel_rfl) (by kernel_rfl) ?_ (fun K hK=>?_)
 rotate_left
 ·go_simp;rfl
 refine(Lj w2 x.bound (Js HRO.out.2.2.2.1).1 (Js HRO.out.2.2.2.1).2).mono ?_
 rintro _ w3 ⟨r3,rfl,g3,h3⟩
 refine⟨_,rfl,g3,?_⟩
 go_simp
 refine hK _ _ ?_
 clear hK K
 have GZ:=ξ (GZ.out.trans g3)
 refine Jd (args:=?_) rfl rfl rfl rfl rfl rfl (by kernel_rfl) (by kernel_rfl) ?_ (fun K hK=>?_)
 rotate_left
 ·go_simp;rfl
 obtain⟨cs,hcs⟩:∃ c,cmpZ (dotZ x.terms X) x.bound=c:=⟨_,rfl⟩
 refine(Ml w3 r2 r3 ((dotZ x.terms X:Int):Rat) (x.bound:Rat) cs 4 4 ((h2.grow g3).v (Xa HPT.out.i (fun t ht=>Sx HRO.out.2.2.2.2.2 t ht) HN.out.2)) (h3.v (Lr (Js HRO.out.2.2.2.1))) (by rw[Me];exact hcs) (by decide) (by decide) (by decide) (by decide)).mono ?_
 rintro _ w4 ⟨_,rfl,g4,rfl⟩
 refine⟨_,rfl,g4,?_⟩
 go_simp
 refine hK _ _ ?_
 clear hK K
 have GZ:=ξ (GZ.out.trans g4)
 have g0:=(((g0.trans g1).trans g2).trans g3).trans g4
 have HCS:=ξ hcs
 clear h2 h3 hcs g1 g2 g3 g4
 repeat(refine Jf (v:=?_) g0 rfl rfl (fun w' hg=>?_) (fun K hK=>?_);rotate_left;(go_simp;rfl);go_simp;refine hK _ _ ?_;clear hK K)
 refine Ji ?_
 have HW:=ξ (HB.out.2.2.grow g0)
 clear p0 p1 x3 x4 g0
 have x2:=HW.out.at 2 rfl
 obtain⟨kd,hkd⟩:∃ z,x.kind=z:=⟨_,rfl⟩
 have HKD:=ξ (show x.s.kind=kd from hkd)
 have hr:=HRO.out.1
 rw[HKD.out] at hr
 rw[hkd] at x2
 clear hkd
 by_cases h0:kd=0
 ·subst h0
  clear hr
  go_wp2_with fail
  try rw[Exit.noGoto_ret]
  go_ret
  exact⟨_,rfl,GZ.out,_,rfl,by rw[decide_eq_true_eq,← HCS.out];exact J5S HKD.out⟩
 by_cases h1:kd=1
 ·subst h1
  clear hr h0
  go_wp2_with fail
  try rw[Exit.noGoto_ret]
  go_ret
  exact⟨_,rfl,GZ.out,_,rfl,by rw[decide_eq_true_eq,← HCS.out];exact J5T HKD.out⟩
 ·obtain rfl:kd=2:=by omega
  clear hr h0 h1
  go_wp2_with fail
  try rw[Exit.noGoto_ret]
  go_ret
  exact⟨_,rfl,GZ.out,_,rfl,by rw[beq_iff_eq,← HCS.out];exact J5U HKD.out⟩
theorem J3m:(Tryz.prog.info? 3).map (fun i=>(i.zero,i.size,i.bytes))=some (some (.int .i64 0),1,8):=by kernel_rfl
theorem J2x:∀ x,∀ u ∈ encI x,u.oneCell'=true:=fun x u hu=>by
 simp[encI] at hu;subst hu;rfl
structure Vd (W W1:World)(p:Prg)(X:Nat→Int)(k:Nat)(u:Value):Prop where
 g:Gr W W1
 o:∃ (q:Option Addr) (c:Nat) (l:List Int),u = .slice q l.length c∧OwnL W1 W.heap.size 3 1 encI u l∧l.length≤k∧(l=[]↔∀ j r,j < k→p.rows[j]?=some r→Sat r X)
theorem J0g (w:World)(v:Value)(p:Prg)(q:Option Addr)(n c:Nat)(xs:List Rat)(X:Nat→Int)(hp:Jv w v p)(hk:Jr p)(ht:PtAt w q n c xs X)(hn:p.vars.length≤1000)(hm:p.rows.length≤1000)(hl:∀ r ∈ p.rows,r.terms.length≤1000):
  Calls Tryz.prog 12 #[v,.slice q n c] w (Ret w fun r _=>∃ q' m d,r = .slice q' m d∧(m=0↔∀ r ∈ p.rows,Sat r X)):=by
 have HPT:=ξ ht
 have HK:=ξ hk
 have HP0:=ξ hp
 have HLL:=ξ hl
 clear ht hk hl
 obtain⟨va,vc,vb,vd,rfl,hv,hr⟩:=hp
 have HV:=ξ hv
 have HR:=ξ hr
 obtain⟨_,_,_,hvb1,hvb2⟩:=SlL.parts hv
 obtain⟨_,_,_,hrb1,hrb2⟩:=hr.parts
 clear hv hr
 have B0:=Ja.new w #[.slice va p.vars.length vc,.slice vb p.rows.length vd] 25
 have HB:=ξ B0
 unfold prgV
 clear B0
 have HWS:=ξ (World.size_alloc w (.cells #[.slice va p.vars.length vc,.slice vb p.rows.length vd] 25))
 unfold prgV at HP0
 go_enter Tryz.func12,Tryz.ntmps12
 go_wp2_with fail
 generalize w.heap.size=bp at HB HWS ⊢
 generalize w.alloc _=W at HB HWS ⊢
 have G:=ξ HB.out.1
 have TP:=ξ HB.out.2
 clear HB
 have HM:=ξ (show Vd W (W.alloc (.cells #[] 3)) p X 0 (.slice (some ⟨bp+1,0,none⟩) 0 0) from
  ⟨(Gr.refl W).alloc _,some ⟨bp+1,0,none⟩,0,[],rfl,by have h:=OwnL.made0 (enc:=encI) (sz:=1) W W.heap.size 3 (Nat.le_refl _);rw[HWS.out] at h ⊢;exact h,Nat.le_refl _,by simp⟩)
 generalize W.alloc _=W2 at HM ⊢
 go_loopw [5,6] (fun u i w9=>∃ (k:Nat) (W1:World),W1=w9∧i = .int .i64 (k:Int)∧k≤p.rows.length∧Vd W W1 p X k u) (fun _ i _=>p.rows.length - (RowKit.intOf i).toNat)
 case atStart=>exact⟨0,_,rfl,rfl,Nat.zero_le _,HM.out⟩
 case round=>
  clear HM
  obtain⟨k,W1,rfl,rfl,hk,hg,q1,c1,l1,rfl,ho,hlk,hiff⟩:=hrel
  have GL:=ξ hg
  have HO:=ξ ho
  have HLK:=ξ hlk
  have HIF:=ξ hiff
  clear hg ho hlk hiff
  have y1:=(TP.out.grow GL.out).at 1 rfl
  by_cases hlt:k < p.rows.length
  ·have hlt':(k:Int) < (p.rows.length:Int):=by omega
   have hk1:IntKind.i64.wrap ((k:Int)+1)=(k:Int)+1:=by rw[IntKind.wrap_i64];omega
   obtain⟨b,o,x,rfl,hx,hin,hc⟩:=HR.out.at hlt
   have HX:=ξ hx
   have HIN:=ξ hin
   have p0:=fun w' (g:Gr W1 w')=>(TP.out.grow (GL.out.trans g)).at 0 rfl
   have p1:=fun w' (g:Gr W1 w')=>(TP.out.grow (GL.out.trans g)).at 1 rfl
   have x0:=fun w' (g:Gr W1 w')=>(hc w' ((G.out.trans GL.out).trans g)).1
   have x1:=fun w' (g:Gr W1 w')=>(hc w' ((G.out.trans GL.out).trans g)).2.1
   have x2:=fun w' (g:Gr W1 w')=>(hc w' ((G.out.trans GL.out).trans g)).2.2.1
   have x3:=fun w' (g:Gr W1 w')=>(hc w' ((G.out.trans GL.out).trans g)).2.2.2.1
   have x4:=fun w' (g:Gr W1 w')=>(hc w' ((G.out.trans GL.out).trans g)).2.2.2.2
   clear hx hin hc
   go_wp2_with fail
   have g0:Gr W1 W1.drew:=(Gr.refl _).drew
   refine Jp [(0,true),(1,true),(2,true),(3,true),(4,true),(5,true),(6,true),(7,false),(8,true)] (by kernel_rfl) (by kernel_rfl) rfl (by kernel_rfl) (fun _ _ d _ _ h=>by cases d<;>exact h) ?_
   generalize W1.drew=Wd at g0 ⊢
   repeat(refine Jf (v:=?_) g0 rfl rfl (fun w' hg=>?_) (fun K hK=>?_);rotate_left;(go_simp;rfl);go_simp;refine hK _ _ ?_;clear hK K)
   refine Jd (args:=?_) rfl rfl rfl rfl rfl rfl (by kernel_rfl) (by kernel_rfl) ?_ (fun K hK=>?_)
   rotate_left
   ·go_simp;rfl
   refine(J5z Wd _ p x q n c xs X (HP0.out.grow ((G.out.trans GL.out).trans g0)) (SlL.grow HIN.out ((G.out.trans GL.out).trans g0)) (HK.out.2.2.2 _ (List.mem_of_getElem? HX.out)) (HPT.out.grow ((G.out.trans GL.out).trans g0)) hn (HLL.out _ (List.mem_of_getElem? HX.out))).mono ?_
   rintro _ w3 ⟨r3,rfl,g3,h3⟩
   have HO3:=ξ (HO.out.grow (g0.trans g3))
   have G3:=ξ (GL.out.trans (g0.trans g3))
   rcases h3.cases with⟨rfl,k3⟩|⟨rfl,k3⟩
   ·have H3:=ξ k3
    refine⟨_,rfl,g3,?_⟩
    go_simp
    refine hK _ _ ?_
    clear hK K
    replace g0:=g0.trans g3
    clear h3 k3 g3
    repeat(refine Jf (v:=?_) g0 rfl rfl (fun w' hg=>?_) (fun K hK=>?_);rotate_left;(go_simp;rfl);go_simp;refine hK _ _ ?_;clear hK K)
    refine Ji ?_
    clear p0 p1 x0 x1 x2 x3 x4 y1 g0
    go_wp2_with fail
    refine⟨⟨k+1,_,rfl,by go_num,by omega,G3.out,q1,c1,l1,rfl,HO3.out,by have:=HLK.out;omega,HIF.out.trans ⟨fun h j r hj hr=>?_,fun h j r hj hr=>h j r (by omega) hr⟩⟩,by simp[RowKit.intOf];omega⟩
    by_cases e:j=k
    ·subst e
     rw[HX.out] at hr
     cases hr
     exact H3.out
    ·exact h j r (by omega) hr
   ·have H3:=ξ k3
    refine⟨_,rfl,g3,?_⟩
    go_simp
    refine hK _ _ ?_
    clear hK K
    replace g0:=g0.trans g3
    clear h3 k3 g3
    repeat(refine Jf (v:=?_) g0 rfl rfl (fun w' hg=>?_) (fun K hK=>?_);rotate_left;(go_simp;rfl);go_simp;refine hK _ _ ?_;clear hK K)
    refine Ji ?_
    clear p0 p1 x0 x1 x2 x3 x4 y1 g0
    go_wp2_with (at_builtin;refine Hold.hold ?_)
    have BS:=SlL.new (enc:=encI) (sz:=1) w3 3 Pk [(k:Int)] #[.int .i64 (k:Int)] 1 rfl rfl (by decide)
    have HO5:=ξ (HO3.out.grow BS.1)
    have G5:=ξ (G3.out.trans BS.1)
    have HBS:=ξ BS.2
    clear BS
    generalize w3.heap.size=bs at HBS ⊢
    generalize w3.alloc _=W5 at HO5 G5 HBS ⊢
    refine Hold.go ?_
    refine wpList_plain rfl (fun K hK=>?_)
    refine O7 _ _ 34 3 _ 8 rfl Tryz.underlying34 J3m rfl (by decide) Pk J2x W.heap.size _ _ l1 [(k:Int)] rfl HO5.out rfl HBS.out (by have:=HLK.out;simp;omega) (by have:=HLK.out;simp;omega) G5.out.size (by simp) ?_
    intro v6 W6 ho6 hg6 _
    have G6:=ξ (OwnL.gr HO5.out G5.out hg6)
    obtain⟨q6,c6,hv6,-,-⟩:=ho6.read.parts
    rw[show(l1 ++ [(k:Int)]).length=l1.length+1 from by simp] at hv6
    subst hv6
    have HO6:=ξ ho6
    clear ho6 hg6
    refine hK _ _ ?_
    clear hK K
    go_wp2_with fail
    exact⟨⟨k+1,_,rfl,by go_num,by omega,G6.out,q6,c6,l1 ++ [(k:Int)],by simp,HO6.out,by have:=HLK.out;simp;omega,by simp,fun h=>absurd (h k _ (by omega) HX.out) H3.out⟩,by simp[RowKit.intOf];omega⟩
  ·obtain rfl:k=p.rows.length:=by omega
   go_wp2_with fail
   go_ret
   refine⟨_,rfl,G.out.trans GL.out,q1,l1.length,c1,rfl,List.length_eq_zero_iff.trans (HIF.out.trans ⟨fun h r hr=>?_,fun h j r _ hr=>h r (List.mem_of_getElem? hr)⟩)⟩
   obtain⟨j,hj,rfl⟩:=List.getElem_of_mem hr
   exact h j _ hj (List.getElem?_eq_getElem hj)
theorem J5A (w:World)(v:Value)(p:Prg)(q:Option Addr)(n c:Nat)(xs:List Rat)(X:Nat→Int)(hp:Jv w v p)(hk:Jr p)(hw:Whole p)(ht:PtAt w q n c xs X)(hn:p.vars.length≤1000):
  Calls Tryz.prog 14 #[v,.slice q n c] w (Ret w fun r _=>Jb (InB p.vars X) r):=by
 have hpn:=ht.n
 subst hpn
 have HPT:=ξ ht.r
 have HPX:=ξ ht.x
 have HK:=ξ (And.intro hk hw)
 clear ht hk hw
 obtain⟨va,vc,vb,vd,rfl,hv,hr⟩:=hp
 have HV:=ξ hv
 have HR:=ξ hr
 obtain⟨_,_,_,hvb1,hvb2⟩:=SlL.parts hv
 obtain⟨_,_,_,hrb1,hrb2⟩:=hr.parts
 clear hv hr
 have B0:=Ja.new w #[.slice va p.vars.length vc,.slice vb p.rows.length vd] 25
 have HB:=ξ B0
 unfold prgV
 clear B0
 go_enter Tryz.func14,Tryz.ntmps14
 go_wp2_with fail
 generalize w.heap.size=bp at HB ⊢
 generalize w.alloc _=W at HB ⊢
 have G:=ξ HB.out.1
 have TP:=ξ HB.out.2
 clear HB
 go_loopw [5] (fun i w9=>∃ (k:Nat) (W1:World),W1=w9∧i = .int .i64 (k:Int)∧k≤p.vars.length∧Gr W W1∧(∀ j v,j < k→p.vars[j]?=some v→v.lo≤X j∧X j≤v.up)) (fun i _=>p.vars.length - (RowKit.intOf i).toNat)
 case atStart=>exact⟨0,_,rfl,rfl,Nat.zero_le _,Gr.refl _,fun j v hj=>by omega⟩
 case round=>
  obtain⟨k,W1,rfl,rfl,hk,hg,hq⟩:=hrel
  have GL:=ξ hg
  have HQ:=ξ hq
  clear hg hq
  have z0:=(TP.out.grow GL.out).at 0 rfl
  by_cases hlt:k < p.vars.length
  ·have hlt':(k:Int) < (p.vars.length:Int):=by omega
   have hk1:IntKind.i64.wrap ((k:Int)+1)=(k:Int)+1:=by rw[IntKind.wrap_i64];omega
   obtain⟨b,o,x,rfl,hx,hc⟩:=Mn HV.out rfl hlt
   have hvo:=HK.out.1.2.2.1 x (List.mem_of_getElem? hx)
   have hop:=(HK.out.2 x (List.mem_of_getElem? hx)).2
   obtain⟨c0,c1,c2,c3,c4⟩:=hc _ (G.out.trans GL.out)
   obtain⟨lo,up,op,ig,cost⟩:=x
   dsimp only at hop c0 c1 c2 c3 c4
   subst hop
   have HX:=ξ hx
   have HIN:=ξ (show In lo∧In up from⟨hvo.1,hvo.2.1⟩)
   have B:=Ja.new W1 #[.int .i64 lo,.int .i64 up,.bool false,.bool ig,.int .i64 cost] 62
   have HB:=ξ B
   clear hx hc hvo B
   go_wp2_with fail
   clear c0 c1 c2 c3 c4 z0
   generalize W1.heap.size=b6 at HB ⊢
   generalize W1.alloc _=W2 at HB ⊢
   have GLL:=ξ (GL.out.trans HB.out.1)
   have G2:=ξ (G.out.trans GLL.out)
   have y0:=fun w' (g:Gr W2 w')=>(HB.out.2.grow g).at 0 rfl
   have y1:=fun w' (g:Gr W2 w')=>(HB.out.2.grow g).at 1 rfl
   have y2:=fun w' (g:Gr W2 w')=>(HB.out.2.grow g).at 2 rfl
   by_cases hlo:X k < lo
   ·have HNO:=ξ (show ¬ InB p.vars X from fun h=>by have:=(h k _ HX.out).1;dsimp only at this;omega)
    have g0:Gr W2 W2.drew:=(Gr.refl _).drew
    refine Jp [(0,true),(1,true),(3,true),(4,true),(2,false),(5,false),(6,false),(7,true),(8,true),(9,true),(10,true),(11,true),(12,true),(13,true),(14,true),(16,true),(17,true),(15,false),(18,false),(19,false),(20,true),(21,true),(22,true)] (by kernel_rfl) (by kernel_rfl) rfl (by kernel_rfl) (fun _ _ d _ _ h=>by cases d<;>exact h) ?_
    generalize W2.drew=Wd at g0 ⊢
    repeat(refine Jf (v:=?_) g0 rfl rfl (fun w' hg=>?_) (fun K hK=>?_);rotate_left;(go_simp;rfl);go_simp;refine hK _ _ ?_;clear hK K)
    refine Jd (args:=?_) rfl rfl rfl rfl rfl rfl (by kernel_rfl) (by kernel_rfl) ?_ (fun K hK=>?_)
    rotate_left
    ·go_simp;rfl
    refine(Mk Wd q c xs 4 k (HPT.out.grow (G2.out.trans g0))).mono ?_
    rintro _ w3 ⟨r3,rfl,g3,h3⟩
    rw[HPX.out k] at h3
    refine⟨_,rfl,g3,?_⟩
    go_simp
    refine hK _ _ ?_
    clear hK K
    replace g0:=g0.trans g3
    clear g3
    refine Jd (args:=?_) rfl rfl rfl rfl rfl rfl (by kernel_rfl) (by kernel_rfl) ?_ (fun K hK=>?_)
    rotate_left
    ·go_simp;rfl
    refine(Lj w3 lo (Js HIN.out.1).1 (Js HIN.out.1).2).mono ?_
    rintro _ w4 ⟨r4,rfl,g4,h4⟩
    have h3:=RatV.grow h3 g4
    refine⟨_,rfl,g4,?_⟩
    go_simp
    refine hK _ _ ?_
    clear hK K
    replace g0:=g0.trans g4
    clear g4
    refine Jd (args:=?_) rfl rfl rfl rfl rfl rfl (by kernel_rfl) (by kernel_rfl) ?_ (fun K hK=>?_)
    rotate_left
    ·go_simp;rfl
    refine(Ml w4 r3 r4 ((X k:Int):Rat) (lo:Rat) (-1) 4 4 h3 (h4.v (Lr (Js HIN.out.1))) (by rw[Me];exact(by unfold cmpZ;rw[if_pos (by omega)])) (by decide) (by decide) (by decide) (by decide)).mono ?_
    rintro _ w5 ⟨_,rfl,g5,rfl⟩
    refine⟨_,rfl,g5,?_⟩
    go_simp
    refine hK _ _ ?_
    clear hK K
    replace g0:=g0.trans g5
    clear g5 h3 h4
    repeat(first|(refine Ka rfl rfl ?_;go_simp)|(refine Jf (v:=?_) g0 rfl rfl (fun w' hg=>?_) (fun K hK=>?_);rotate_left;(go_simp;rfl);go_simp;refine hK _ _ ?_;clear hK K))
    refine Ji ?_
    have GZ:=ξ (G2.out.trans g0)
    clear y0 y1 y2 g0
    go_wp2_with fail
    try rw[Exit.noGoto_ret]
    go_ret
    exact⟨_,rfl,GZ.out,Jb.no HNO.out⟩
   by_cases hle:X k=lo
   ·have g0:Gr W2 W2.drew:=(Gr.refl _).drew
    refine Jp [(0,true),(1,true),(3,true),(4,true),(2,false),(5,false),(6,false),(7,true),(8,true),(9,true),(10,true),(11,true),(12,true),(13,true),(14,true),(16,true),(17,true),(15,false),(18,false),(19,false),(20,true),(21,true),(22,true)] (by kernel_rfl) (by kernel_rfl) rfl (by kernel_rfl) (fun _ _ d _ _ h=>by cases d<;>exact h) ?_
    generalize W2.drew=Wd at g0 ⊢
    repeat(refine Jf (v:=?_) g0 rfl rfl (fun w' hg=>?_) (fun K hK=>?_);rotate_left;(go_simp;rfl);go_simp;refine hK _ _ ?_;clear hK K)
    refine Jd (args:=?_) rfl rfl rfl rfl rfl rfl (by kernel_rfl) (by kernel_rfl) ?_ (fun K hK=>?_)
    rotate_left
    ·go_simp;rfl
    refine(Mk Wd q c xs 4 k (HPT.out.grow (G2.out.trans g0))).mono ?_
    rintro _ w3 ⟨r3,rfl,g3,h3⟩
    rw[HPX.out k] at h3
    refine⟨_,rfl,g3,?_⟩
    go_simp
    refine hK _ _ ?_
    clear hK K
    replace g0:=g0.trans g3
    clear g3
    refine Jd (args:=?_) rfl rfl rfl rfl rfl rfl (by kernel_rfl) (by kernel_rfl) ?_ (fun K hK=>?_)
    rotate_left
    ·go_simp;rfl
    refine(Lj w3 lo (Js HIN.out.1).1 (Js HIN.out.1).2).mono ?_
    rintro _ w4 ⟨r4,rfl,g4,h4⟩
    have h3:=RatV.grow h3 g4
    refine⟨_,rfl,g4,?_⟩
    go_simp
    refine hK _ _ ?_
    clear hK K
    replace g0:=g0.trans g4
    clear g4
    refine Jd (args:=?_) rfl rfl rfl rfl rfl rfl (by kernel_rfl) (by kernel_rfl) ?_ (fun K hK=>?_)
    rotate_left
    ·go_simp;rfl
    refine(Ml w4 r3 r4 ((X k:Int):Rat) (lo:Rat) (0) 4 4 h3 (h4.v (Lr (Js HIN.out.1))) (by rw[Me];exact(by unfold cmpZ;rw[if_neg (by omega),if_pos (by omega)])) (by decide) (by decide) (by decide) (by decide)).mono ?_
    rintro _ w5 ⟨_,rfl,g5,rfl⟩
    refine⟨_,rfl,g5,?_⟩
    go_simp
    refine hK _ _ ?_
    clear hK K
    replace g0:=g0.trans g5
    clear g5 h3 h4
    by_cases h1:up < X k
    ·have HNO:=ξ (show ¬ InB p.vars X from fun h=>by have:=(h k _ HX.out).2;dsimp only at this;omega)
     repeat(first|(refine Ka rfl rfl ?_;go_simp)|(refine Jf (v:=?_) g0 rfl rfl (fun w' hg=>?_) (fun K hK=>?_);rotate_left;(go_simp;rfl);go_simp;refine hK _ _ ?_;clear hK K))
     refine Jd (args:=?_) rfl rfl rfl rfl rfl rfl (by kernel_rfl) (by kernel_rfl) ?_ (fun K hK=>?_)
     rotate_left
     ·go_simp;rfl
     refine(Mk w5 q c xs 4 k (HPT.out.grow (G2.out.trans g0))).mono ?_
     rintro _ w6 ⟨r6,rfl,g6,h6⟩
     rw[HPX.out k] at h6
     refine⟨_,rfl,g6,?_⟩
     go_simp
     refine hK _ _ ?_
     clear hK K
     replace g0:=g0.trans g6
     clear g6
     refine Jd (args:=?_) rfl rfl rfl rfl rfl rfl (by kernel_rfl) (by kernel_rfl) ?_ (fun K hK=>?_)
     rotate_left
     ·go_simp;rfl
     refine(Lj w6 up (Js HIN.out.2).1 (Js HIN.out.2).2).mono ?_
     rintro _ w7 ⟨r7,rfl,g7,h7⟩
     have h6:=RatV.grow h6 g7
     refine⟨_,rfl,g7,?_⟩
     go_simp
     refine hK _ _ ?_
     clear hK K
     replace g0:=g0.trans g7
     clear g7
     refine Jd (args:=?_) rfl rfl rfl rfl rfl rfl (by kernel_rfl) (by kernel_rfl) ?_ (fun K hK=>?_)
     rotate_left
     ·go_simp;rfl
     refine(Ml w7 r6 r7 ((X k:Int):Rat) (up:Rat) (1) 4 4 h6 (h7.v (Lr (Js HIN.out.2))) (by rw[Me];exact(by unfold cmpZ;rw[if_neg (by omega),if_neg (by omega)])) (by decide) (by decide) (by decide) (by decide)).mono ?_
     rintro _ w8 ⟨_,rfl,g8,rfl⟩
     refine⟨_,rfl,g8,?_⟩
     go_simp
     refine hK _ _ ?_
     clear hK K
     replace g0:=g0.trans g8
     clear g8 h6 h7
     repeat(first|(refine Ka rfl rfl ?_;go_simp)|(refine Jf (v:=?_) g0 rfl rfl (fun w' hg=>?_) (fun K hK=>?_);rotate_left;(go_simp;rfl);go_simp;refine hK _ _ ?_;clear hK K))
     refine Ji ?_
     have GZ:=ξ (G2.out.trans g0)
     clear y0 y1 y2 g0
     go_wp2_with fail
     try rw[Exit.noGoto_ret]
     go_ret
     exact⟨_,rfl,GZ.out,Jb.no HNO.out⟩
    by_cases h2:X k=up
    ·have HNX:=ξ (show ∀ j v,j < k+1→p.vars[j]?=some v→v.lo≤X j∧X j≤v.up from fun j v hj hv=>by
      by_cases e:j=k
      ·subst e;rw[HX.out] at hv;cases hv;dsimp only;omega
      ·exact HQ.out j v (by omega) hv)
     repeat(first|(refine Ka rfl rfl ?_;go_simp)|(refine Jf (v:=?_) g0 rfl rfl (fun w' hg=>?_) (fun K hK=>?_);rotate_left;(go_simp;rfl);go_simp;refine hK _ _ ?_;clear hK K))
     refine Jd (args:=?_) rfl rfl rfl rfl rfl rfl (by kernel_rfl) (by kernel_rfl) ?_ (fun K hK=>?_)
     rotate_left
     ·go_simp;rfl
     refine(Mk w5 q c xs 4 k (HPT.out.grow (G2.out.trans g0))).mono ?_
     rintro _ w6 ⟨r6,rfl,g6,h6⟩
     rw[HPX.out k] at h6
     refine⟨_,rfl,g6,?_⟩
     go_simp
     refine hK _ _ ?_
     clear hK K
     replace g0:=g0.trans g6
     clear g6
     refine Jd (args:=?_) rfl rfl rfl rfl rfl rfl (by kernel_rfl) (by kernel_rfl) ?_ (fun K hK=>?_)
     rotate_left
     ·go_simp;rfl
     refine(Lj w6 up (Js HIN.out.2).1 (Js HIN.out.2).2).mono ?_
     rintro _ w7 ⟨r7,rfl,g7,h7⟩
     have h6:=RatV.grow h6 g7
     refine⟨_,rfl,g7,?_⟩
     go_simp
     refine hK _ _ ?_
     clear hK K
     replace g0:=g0.trans g7
     clear g7
     refine Jd (args:=?_) rfl rfl rfl rfl rfl rfl (by kernel_rfl) (by kernel_rfl) ?_ (fun K hK=>?_)
     rotate_left
     ·go_simp;rfl
     refine(Ml w7 r6 r7 ((X k:Int):Rat) (up:Rat) (0) 4 4 h6 (h7.v (Lr (Js HIN.out.2))) (by rw[Me];exact(by unfold cmpZ;rw[if_neg (by omega),if_pos (by omega)])) (by decide) (by decide) (by decide) (by decide)).mono ?_
     rintro _ w8 ⟨_,rfl,g8,rfl⟩
     refine⟨_,rfl,g8,?_⟩
     go_simp
     refine hK _ _ ?_
     clear hK K
     replace g0:=g0.trans g8
     clear g8 h6 h7
     repeat(first|(refine Ka rfl rfl ?_;go_simp)|(refine Jf (v:=?_) g0 rfl rfl (fun w' hg=>?_) (fun K hK=>?_);rotate_left;(go_simp;rfl);go_simp;refine hK _ _ ?_;clear hK K))
     refine Ji ?_
     have GZ:=ξ (GLL.out.trans g0)
     clear y0 y1 y2 g0
     go_wp2_with fail
     exact⟨⟨k+1,_,rfl,by go_num,by omega,GZ.out,HNX.out⟩,by simp[RowKit.intOf];omega⟩
    ·have HNX:=ξ (show ∀ j v,j < k+1→p.vars[j]?=some v→v.lo≤X j∧X j≤v.up from fun j v hj hv=>by
      by_cases e:j=k
      ·subst e;rw[HX.out] at hv;cases hv;dsimp only;omega
      ·exact HQ.out j v (by omega) hv)
     repeat(first|(refine Ka rfl rfl ?_;go_simp)|(refine Jf (v:=?_) g0 rfl rfl (fun w' hg=>?_) (fun K hK=>?_);rotate_left;(go_simp;rfl);go_simp;refine hK _ _ ?_;clear hK K))
     refine Jd (args:=?_) rfl rfl rfl rfl rfl rfl (by kernel_rfl) (by kernel_rfl) ?_ (fun K hK=>?_)
     rotate_left
     ·go_simp;rfl
     refine(Mk w5 q c xs 4 k (HPT.out.grow (G2.out.trans g0))).mono ?_
     rintro _ w6 ⟨r6,rfl,g6,h6⟩
     rw[HPX.out k] at h6
     refine⟨_,rfl,g6,?_⟩
     go_simp
     refine hK _ _ ?_
     clear hK K
     replace g0:=g0.trans g6
     clear g6
     refine Jd (args:=?_) rfl rfl rfl rfl rfl rfl (by kernel_rfl) (by kernel_rfl) ?_ (fun K hK=>?_)
     rotate_left
     ·go_simp;rfl
     refine(Lj w6 up (Js HIN.out.2).1 (Js HIN.out.2).2).mono ?_
     rintro _ w7 ⟨r7,rfl,g7,h7⟩
     have h6:=RatV.grow h6 g7
     refine⟨_,rfl,g7,?_⟩
     go_simp
     refine hK _ _ ?_
     clear hK K
     replace g0:=g0.trans g7
     clear g7
     refine Jd (args:=?_) rfl rfl rfl rfl rfl rfl (by kernel_rfl) (by kernel_rfl) ?_ (fun K hK=>?_)
     rotate_left
     ·go_simp;rfl
     refine(Ml w7 r6 r7 ((X k:Int):Rat) (up:Rat) (-1) 4 4 h6 (h7.v (Lr (Js HIN.out.2))) (by rw[Me];exact(by unfold cmpZ;rw[if_pos (by omega)])) (by decide) (by decide) (by decide) (by decide)).mono ?_
     rintro _ w8 ⟨_,rfl,g8,rfl⟩
     refine⟨_,rfl,g8,?_⟩
     go_simp
     refine hK _ _ ?_
     clear hK K
     replace g0:=g0.trans g8
     clear g8 h6 h7
     repeat(first|(refine Ka rfl rfl ?_;go_simp)|(refine Jf (v:=?_) g0 rfl rfl (fun w' hg=>?_) (fun K hK=>?_);rotate_left;(go_simp;rfl);go_simp;refine hK _ _ ?_;clear hK K))
     refine Ji ?_
     have GZ:=ξ (GLL.out.trans g0)
     clear y0 y1 y2 g0
     go_wp2_with fail
     exact⟨⟨k+1,_,rfl,by go_num,by omega,GZ.out,HNX.out⟩,by simp[RowKit.intOf];omega⟩
   ·have g0:Gr W2 W2.drew:=(Gr.refl _).drew
    refine Jp [(0,true),(1,true),(3,true),(4,true),(2,false),(5,false),(6,false),(7,true),(8,true),(9,true),(10,true),(11,true),(12,true),(13,true),(14,true),(16,true),(17,true),(15,false),(18,false),(19,false),(20,true),(21,true),(22,true)] (by kernel_rfl) (by kernel_rfl) rfl (by kernel_rfl) (fun _ _ d _ _ h=>by cases d<;>exact h) ?_
    generalize W2.drew=Wd at g0 ⊢
    repeat(refine Jf (v:=?_) g0 rfl rfl (fun w' hg=>?_) (fun K hK=>?_);rotate_left;(go_simp;rfl);go_simp;refine hK _ _ ?_;clear hK K)
    refine Jd (args:=?_) rfl rfl rfl rfl rfl rfl (by kernel_rfl) (by kernel_rfl) ?_ (fun K hK=>?_)
    rotate_left
    ·go_simp;rfl
    refine(Mk Wd q c xs 4 k (HPT.out.grow (G2.out.trans g0))).mono ?_
    rintro _ w3 ⟨r3,rfl,g3,h3⟩
    rw[HPX.out k] at h3
    refine⟨_,rfl,g3,?_⟩
    go_simp
    refine hK _ _ ?_
    clear hK K
    replace g0:=g0.trans g3
    clear g3
    refine Jd (args:=?_) rfl rfl rfl rfl rfl rfl (by kernel_rfl) (by kernel_rfl) ?_ (fun K hK=>?_)
    rotate_left
    ·go_simp;rfl
    refine(Lj w3 lo (Js HIN.out.1).1 (Js HIN.out.1).2).mono ?_
    rintro _ w4 ⟨r4,rfl,g4,h4⟩
    have h3:=RatV.grow h3 g4
    refine⟨_,rfl,g4,?_⟩
    go_simp
    refine hK _ _ ?_
    clear hK K
    replace g0:=g0.trans g4
    clear g4
    refine Jd (args:=?_) rfl rfl rfl rfl rfl rfl (by kernel_rfl) (by kernel_rfl) ?_ (fun K hK=>?_)
    rotate_left
    ·go_simp;rfl
    refine(Ml w4 r3 r4 ((X k:Int):Rat) (lo:Rat) (1) 4 4 h3 (h4.v (Lr (Js HIN.out.1))) (by rw[Me];exact(by unfold cmpZ;rw[if_neg (by omega),if_neg (by omega)])) (by decide) (by decide) (by decide) (by decide)).mono ?_
    rintro _ w5 ⟨_,rfl,g5,rfl⟩
    refine⟨_,rfl,g5,?_⟩
    go_simp
    refine hK _ _ ?_
    clear hK K
    replace g0:=g0.trans g5
    clear g5 h3 h4
    by_cases h1:up < X k
    ·have HNO:=ξ (show ¬ InB p.vars X from fun h=>by have:=(h k _ HX.out).2;dsimp only at this;omega)
     repeat(first|(refine Ka rfl rfl ?_;go_simp)|(refine Jf (v:=?_) g0 rfl rfl (fun w' hg=>?_) (fun K hK=>?_);rotate_left;(go_simp;rfl);go_simp;refine hK _ _ ?_;clear hK K))
     refine Jd (args:=?_) rfl rfl rfl rfl rfl rfl (by kernel_rfl) (by kernel_rfl) ?_ (fun K hK=>?_)
     rotate_left
     ·go_simp;rfl
     refine(Mk w5 q c xs 4 k (HPT.out.grow (G2.out.trans g0))).mono ?_
     rintro _ w6 ⟨r6,rfl,g6,h6⟩
     rw[HPX.out k] at h6
     refine⟨_,rfl,g6,?_⟩
     go_simp
     refine hK _ _ ?_
     clear hK K
     replace g0:=g0.trans g6
     clear g6
     refine Jd (args:=?_) rfl rfl rfl rfl rfl rfl (by kernel_rfl) (by kernel_rfl) ?_ (fun K hK=>?_)
     rotate_left
     ·go_simp;rfl
     refine(Lj w6 up (Js HIN.out.2).1 (Js HIN.out.2).2).mono ?_
     rintro _ w7 ⟨r7,rfl,g7,h7⟩
     have h6:=RatV.grow h6 g7
     refine⟨_,rfl,g7,?_⟩
     go_simp
     refine hK _ _ ?_
     clear hK K
     replace g0:=g0.trans g7
     clear g7
     refine Jd (args:=?_) rfl rfl rfl rfl rfl rfl (by kernel_rfl) (by kernel_rfl) ?_ (fun K hK=>?_)
     rotate_left
     ·go_simp;rfl
     refine(Ml w7 r6 r7 ((X k:Int):Rat) (up:Rat) (1) 4 4 h6 (h7.v (Lr (Js HIN.out.2))) (by rw[Me];exact(by unfold cmpZ;rw[if_neg (by omega),if_neg (by omega)])) (by decide) (by decide) (by decide) (by decide)).mono ?_
     rintro _ w8 ⟨_,rfl,g8,rfl⟩
     refine⟨_,rfl,g8,?_⟩
     go_simp
     refine hK _ _ ?_
     clear hK K
     replace g0:=g0.trans g8
     clear g8 h6 h7
     repeat(first|(refine Ka rfl rfl ?_;go_simp)|(refine Jf (v:=?_) g0 rfl rfl (fun w' hg=>?_) (fun K hK=>?_);rotate_left;(go_simp;rfl);go_simp;refine hK _ _ ?_;clear hK K))
     refine Ji ?_
     have GZ:=ξ (G2.out.trans g0)
     clear y0 y1 y2 g0
     go_wp2_with fail
     try rw[Exit.noGoto_ret]
     go_ret
     exact⟨_,rfl,GZ.out,Jb.no HNO.out⟩
    by_cases h2:X k=up
    ·have HNX:=ξ (show ∀ j v,j < k+1→p.vars[j]?=some v→v.lo≤X j∧X j≤v.up from fun j v hj hv=>by
      by_cases e:j=k
      ·subst e;rw[HX.out] at hv;cases hv;dsimp only;omega
      ·exact HQ.out j v (by omega) hv)
     repeat(first|(refine Ka rfl rfl ?_;go_simp)|(refine Jf (v:=?_) g0 rfl rfl (fun w' hg=>?_) (fun K hK=>?_);rotate_left;(go_simp;rfl);go_simp;refine hK _ _ ?_;clear hK K))
     refine Jd (args:=?_) rfl rfl rfl rfl rfl rfl (by kernel_rfl) (by kernel_rfl) ?_ (fun K hK=>?_)
     rotate_left
     ·go_simp;rfl
     refine(Mk w5 q c xs 4 k (HPT.out.grow (G2.out.trans g0))).mono ?_
     rintro _ w6 ⟨r6,rfl,g6,h6⟩
     rw[HPX.out k] at h6
     refine⟨_,rfl,g6,?_⟩
     go_simp
     refine hK _ _ ?_
     clear hK K
     replace g0:=g0.trans g6
     clear g6
     refine Jd (args:=?_) rfl rfl rfl rfl rfl rfl (by kernel_rfl) (by kernel_rfl) ?_ (fun K hK=>?_)
     rotate_left
     ·go_simp;rfl
     refine(Lj w6 up (Js HIN.out.2).1 (Js HIN.out.2).2).mono ?_
     rintro _ w7 ⟨r7,rfl,g7,h7⟩
     have h6:=RatV.grow h6 g7
     refine⟨_,rfl,g7,?_⟩
     go_simp
     refine hK _ _ ?_
     clear hK K
     replace g0:=g0.trans g7
     clear g7
     refine Jd (args:=?_) rfl rfl rfl rfl rfl rfl (by kernel_rfl) (by kernel_rfl) ?_ (fun K hK=>?_)
     rotate_left
     ·go_simp;rfl
     refine(Ml w7 r6 r7 ((X k:Int):Rat) (up:Rat) (0) 4 4 h6 (h7.v (Lr (Js HIN.out.2))) (by rw[Me];exact(by unfold cmpZ;rw[if_neg (by omega),if_pos (by omega)])) (by decide) (by decide) (by decide) (by decide)).mono ?_
     rintro _ w8 ⟨_,rfl,g8,rfl⟩
     refine⟨_,rfl,g8,?_⟩
     go_simp
     refine hK _ _ ?_
     clear hK K
     replace g0:=g0.trans g8
     clear g8 h6 h7
     repeat(first|(refine Ka rfl rfl ?_;go_simp)|(refine Jf (v:=?_) g0 rfl rfl (fun w' hg=>?_) (fun K hK=>?_);rotate_left;(go_simp;rfl);go_simp;refine hK _ _ ?_;clear hK K))
     refine Ji ?_
     have GZ:=ξ (GLL.out.trans g0)
     clear y0 y1 y2 g0
     go_wp2_with fail
     exact⟨⟨k+1,_,rfl,by go_num,by omega,GZ.out,HNX.out⟩,by simp[RowKit.intOf];omega⟩
    ·have HNX:=ξ (show ∀ j v,j < k+1→p.vars[j]?=some v→v.lo≤X j∧X j≤v.up from fun j v hj hv=>by
      by_cases e:j=k
      ·subst e;rw[HX.out] at hv;cases hv;dsimp only;omega
      ·exact HQ.out j v (by omega) hv)
     repeat(first|(refine Ka rfl rfl ?_;go_simp)|(refine Jf (v:=?_) g0 rfl rfl (fun w' hg=>?_) (fun K hK=>?_);rotate_left;(go_simp;rfl);go_simp;refine hK _ _ ?_;clear hK K))
     refine Jd (args:=?_) rfl rfl rfl rfl rfl rfl (by kernel_rfl) (by kernel_rfl) ?_ (fun K hK=>?_)
     rotate_left
     ·go_simp;rfl
     refine(Mk w5 q c xs 4 k (HPT.out.grow (G2.out.trans g0))).mono ?_
     rintro _ w6 ⟨r6,rfl,g6,h6⟩
     rw[HPX.out k] at h6
     refine⟨_,rfl,g6,?_⟩
     go_simp
     refine hK _ _ ?_
     clear hK K
     replace g0:=g0.trans g6
     clear g6
     refine Jd (args:=?_) rfl rfl rfl rfl rfl rfl (by kernel_rfl) (by kernel_rfl) ?_ (fun K hK=>?_)
     rotate_left
     ·go_simp;rfl
     refine(Lj w6 up (Js HIN.out.2).1 (Js HIN.out.2).2).mono ?_
     rintro _ w7 ⟨r7,rfl,g7,h7⟩
     have h6:=RatV.grow h6 g7
     refine⟨_,rfl,g7,?_⟩
     go_simp
     refine hK _ _ ?_
     clear hK K
     replace g0:=g0.trans g7
     clear g7
     refine Jd (args:=?_) rfl rfl rfl rfl rfl rfl (by kernel_rfl) (by kernel_rfl) ?_ (fun K hK=>?_)
     rotate_left
     ·go_simp;rfl
     refine(Ml w7 r6 r7 ((X k:Int):Rat) (up:Rat) (-1) 4 4 h6 (h7.v (Lr (Js HIN.out.2))) (by rw[Me];exact(by unfold cmpZ;rw[if_pos (by omega)])) (by decide) (by decide) (by decide) (by decide)).mono ?_
     rintro _ w8 ⟨_,rfl,g8,rfl⟩
     refine⟨_,rfl,g8,?_⟩
     go_simp
     refine hK _ _ ?_
     clear hK K
     replace g0:=g0.trans g8
     clear g8 h6 h7
     repeat(first|(refine Ka rfl rfl ?_;go_simp)|(refine Jf (v:=?_) g0 rfl rfl (fun w' hg=>?_) (fun K hK=>?_);rotate_left;(go_simp;rfl);go_simp;refine hK _ _ ?_;clear hK K))
     refine Ji ?_
     have GZ:=ξ (GLL.out.trans g0)
     clear y0 y1 y2 g0
     go_wp2_with fail
     exact⟨⟨k+1,_,rfl,by go_num,by omega,GZ.out,HNX.out⟩,by simp[RowKit.intOf];omega⟩
  ·obtain rfl:k=p.vars.length:=by omega
   go_wp2_with fail
   go_ret
   exact⟨_,rfl,G.out.trans GL.out,Jb.yes fun j v hv=>HQ.out j v (List.getElem?_eq_some_iff.1 hv).1 hv⟩
end Prf
end Go.Proofs.YtcjgimlcefhhmaaGreatDoor
