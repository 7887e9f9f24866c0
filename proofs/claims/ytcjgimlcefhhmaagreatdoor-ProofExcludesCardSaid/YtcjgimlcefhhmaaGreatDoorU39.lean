/- Texts: PvF PvG PvH PxA. -/
import Derived.Test.YtcjgimlcefhhmaaGreatDoorU38
set_option linter.unusedVariables false
set_option linter.unusedSimpArgs false
set_option maxRecDepth 100000
set_option maxHeartbeats 12800000
namespace Go.Proofs.YtcjgimlcefhhmaaGreatDoor
namespace Prf
open Go.RowKit Go.Lib
theorem J0Z (W0 w:World)(bt bv bs bm:Nat)(pt:Option Addr)(ct:Nat)(v:Value)(p:Prg)(x:Jm)(n:Jh)(N:List Jh)(nt:Nat)(hnt:nt=N.length)(IH:VisC (N.length+1) W0 bt bv bs bm)(he:K2 W0 w bt bv bs bm (.slice pt nt ct))(hno:J1 W0 (.slice pt nt ct) N 4)
  (hs:J2 w bt v p) (hx:Kj w x n 4) (hp:PvP p (N.length+1)) (hf:∀ n ∈ N,K1 n) (hfn:K1 n) (h2:n.kind=3) (h3:Kd n):
  Calls Tryz.prog 48 #[v,.agg (nodeA x),.pointer (some ⟨bv,0,none⟩)] w (fun e w'=>∃ r,e = .returned r∧VisR p (n :: N) W0 w bt bv bs bm r w'):=by
 have HIH:=ξ IH
 have HE:=ξ he
 have HNO:=ξ (And.intro hno hnt)
 have HPV:=ξ hp
 have HF:=ξ hf
 have HFN:=ξ hfn
 have HK:=ξ (fun s=>J55 (p:=p) (n:=n) (t:=N) (s:=s) h3 h2)
 have HCU:=ξ hx.cut
 have HP:=ξ hs.at
 obtain⟨va,vc,vb,vd,rfl,hv,hr⟩:=hs.at
 unfold prgV at HP ⊢
 have HB:=ξ (Q9 w va vb vc vd p.vars.length p.rows.length x)
 clear IH he hno hnt hs hp hf hfn h2 h3 hv hr hx
 obtain⟨kd,mp,mn,mc,var,pos,ck,cp,cn,cc,row,vp,vn,vc2⟩:=x
 unfold Jm.cutV at HCU
 dsimp only at HCU
 unfold nodeA at HB ⊢
 dsimp only at HB ⊢
 have z0:((w.alloc (.cells #[.slice va p.vars.length vc,.slice vb p.rows.length vd] 25)).alloc (.cells (nodeA ⟨kd,mp,mn,mc,var,pos,ck,cp,cn,cc,row,vp,vn,vc2⟩) 47)).cell? ⟨bv,0,none⟩=some (.func (.func 50) #[] #[.pointer (some ⟨bt,0,none⟩),.pointer (some ⟨bs,0,none⟩)]):=(HE.out.v.grow HB.out.1).at 0 rfl
 have HZ:=ξ z0
 clear z0
 go_enter Tryz.func48,Tryz.ntmps48
 go_wp2_with fail
 have HSZ:=ξ (show bt < w.heap.size from HE.out.t.lt)
 generalize hbn:w.heap.size+1=bn at HB ⊢
 generalize hbp:w.heap.size=bp at HB HSZ ⊢
 generalize (w.alloc _).alloc _=W at HB HZ ⊢
 have HNE:=ξ (show bt < W.heap.size from by have:=HSZ.out;have h1:=HB.out.2.1.lt;omega)
 clear hbn hbp
 refine(J1G W _ _ p n.cut (HP.out.grow HB.out.1) (HCU.out.grow HB.out.1) HFN.out.c HFN.out.cs HFN.out.v HPV.out.ok HPV.out.wh HPV.out.n (by have:=HPV.out.m;omega) HPV.out.ok.tl).mono ?_
 rintro _ w2 ⟨r2,rfl,g2,h2⟩
 have G:=ξ (HB.out.1.trans g2)
 have HL2:=ξ (show bt < w2.heap.size from by have:=g2.size;have:=HNE.out;omega)
 rcases h2 with⟨rs,q,hd,rfl,hq⟩|⟨hno,e,he0,rfl⟩
 rotate_left
 ·have heb:(e == 0)=false:=by simpa using he0
  have H:=ξ (show ¬ ∃ S,Jn p (n :: N) S from fun⟨S,h⟩=>by
   obtain⟨r,k1,-⟩:=(HK.out S).1 h
   exact hno r k1)
  clear hno he0 g2
  go_wp2_with fail
  go_ret
  exact⟨_,rfl,J5 bt (G.out.trans ((Gr.refl _).alloc _)),.inr ⟨H.out,rfl,_,HE.out.grow (G.out.trans ((Gr.refl _).alloc _))⟩⟩
 have HD:=ξ hd
 have HQ:=ξ hq
 obtain⟨va3,vc3,vb3,vd3,T,rfl,-⟩:=hq
 unfold prgV at HQ ⊢
 have g4:Gr w2 (w2.alloc (.cells #[.slice va3 (addRow p rs).vars.length vc3,.slice vb3 (addRow p rs).rows.length vd3] 25)):=(Gr.refl _).alloc _
 have z0:=(HE.out.v.grow (G.out.trans g4)).at 0 rfl
 have HG4:=ξ g4
 clear hd g2 g4
 unfold visitF at z0
 go_wp2_with fail
 generalize (w2.alloc _)=w4 at HG4 z0 ⊢
 clear z0
 refine(HIH.out w4 _ (addRow p rs) N pt ct nt (by omega) HNO.out.2 (HE.out.grow (G.out.trans HG4.out)) HNO.out.1 ((J2.new HQ.out HNE.out).go (J5 bt HG4.out)) (HPV.out.add HD.out) HF.out).mono ?_
 rintro _ w5 ⟨r5,rfl,g5,hr5⟩
 have GG:=ξ (J9 (J5 bt (G.out.trans HG4.out)) g5)
 have HRB:=ξ (show(∃ t,r5 = .bool t)∧VisR p (n :: N) W0 w bt bv bs bm r5 w5 from by
  rcases hr5 with⟨S',pt5,nt5,ct5,hp5,rfl,k1,k2,k3⟩|⟨hn5,rfl,tv5,k1⟩
  ·exact⟨⟨_,rfl⟩,GG.out,.inl ⟨S',pt5,nt5,ct5,(HK.out S').2 ⟨rs,HD.out,hp5⟩,rfl,k1,k2,k3⟩⟩
  ·refine⟨⟨_,rfl⟩,GG.out,.inr ⟨fun⟨S',h⟩=>?_,rfl,tv5,k1⟩⟩
   obtain⟨r,q1,q2⟩:=(HK.out S').1 h
   rw[← V3 HD.out q1] at q2
   exact hn5 ⟨S',q2⟩)
 clear hr5 g5
 obtain⟨t5,rfl⟩:=HRB.out.1
 go_wp2_with fail
 go_ret
 exact⟨_,rfl,HRB.out.2⟩
theorem J0B (bv:Nat):fkv (.int .i64) (.int .i64 0) (stepsL bv)=some (some (.func (.func 43) #[] #[])):=rfl
theorem J0C (bv:Nat):fkv (.int .i64) (.int .i64 1) (stepsL bv)=some (some (.func (.func 45) #[] #[])):=rfl
theorem J0D (bv:Nat):fkv (.int .i64) (.int .i64 2) (stepsL bv)=some (some (.func (.func 46) #[] #[.pointer (some ⟨bv,0,none⟩)])):=rfl
theorem J0E (bv:Nat):fkv (.int .i64) (.int .i64 3) (stepsL bv)=some (some (.func (.func 48) #[] #[.pointer (some ⟨bv,0,none⟩)])):=rfl
theorem J0F (bv:Nat){n:Int}(h0:n≠0)(h1:n≠1)(h2:n≠2)(h3:n≠3):fkv (.int .i64) (.int .i64 n) (stepsL bv)=some none:=by
 unfold stepsL fkv
 rw[Ox h0]
 simp only[]
 unfold fkv
 rw[Ox h1]
 simp only[]
 unfold fkv
 rw[Ox h2]
 simp only[]
 unfold fkv
 rw[Ox h3]
 rfl
theorem VisC.less {k k':Nat}{W0:World}{bt bv bs bm:Nat}(h:VisC k W0 bt bv bs bm)(hk:k'≤k):VisC k' W0 bt bv bs bm:=fun w v p N pt ct nt hl=>h w v p N pt ct nt (by omega)
theorem VisR.from {p:Prg}{N:List Jh}{W0 w w1 w':World}{bt bv bs bm:Nat}{r:Value}(g:w.grownBy w1 (some bt))(h:VisR p N W0 w1 bt bv bs bm r w'):VisR p N W0 w bt bv bs bm r w':=⟨J9 g h.1,h.2⟩
theorem VisR.bool {p:Prg}{N:List Jh}{W0 w w':World}{bt bv bs bm:Nat}{r:Value}(h:VisR p N W0 w bt bv bs bm r w'):∃ t,r = .bool t:=by
 rcases h.2 with⟨S,pt,nt,ct,_,rfl,_⟩|⟨_,rfl,_⟩
 ·exact⟨_,rfl⟩
 ·exact⟨_,rfl⟩
theorem J6t (W0:World)(bt bv bs bm:Nat):∀ k,VisC k W0 bt bv bs bm:=by
 intro k
 induction k with
 | zero=>intro w v p N pt ct nt hk;omega
 | succ k IH=>
  intro w v p N pt ct nt hk hnt he hno hs hp hf
  have HIH:=ξ IH
  have HE:=ξ he
  have HPV:=ξ hp
  have HF:=ξ hf
  have HS:=ξ hs
  obtain⟨va,vc,vb,vd,rfl,hv,hr⟩:=hs.at
  unfold prgV at HS ⊢
  clear IH hs hp hf hv hr
  cases N with
  | nil=>
   obtain rfl:nt=0:=hnt
   have T:=Ja.new w #[.slice va p.vars.length vc,.slice vb p.rows.length vd] 25
   have HT:=ξ T
   have t0:=(he.grow T.1).t.at 0 rfl
   clear he T hno
   go_enter Tryz.func50,Tryz.ntmps50
   go_wp2_with fail
   go_ret
   exact⟨_,rfl,J5 bt HT.out.1,.inr ⟨fun⟨S,h⟩=>J5b h,rfl,_,HE.out.grow HT.out.1⟩⟩
  | cons n N=>
   obtain⟨b,o,x,rfl,hx,hc,hrest⟩:=Tl hno
   have HX:=ξ hx
   have HRE:=ξ hrest
   have HFN:=ξ (HF.out n (List.mem_cons_self ..))
   have HFR:=ξ (fun m hm=>HF.out m (List.mem_cons_of_mem n hm))
   have HNT:=ξ hnt
   have T:=Ja.new w #[.slice va p.vars.length vc,.slice vb p.rows.length vd] 25
   have HT:=ξ T
   have t0:=(he.grow T.1).t.at 0 rfl
   have hnt0:((nt:Int) == 0)=false:=by simp;simp at hnt;omega
   have hcx:=fun j u hj=>hc _ ((he.g.trans T.1)) j u hj
   obtain⟨kd,mp,mn,mc,var,pos,ck,cp,cn,cc,row,vp,vn,vc2⟩:=x
   have c0:=hcx 0 _ rfl
   have c1:=hcx 1 _ rfl
   have c2:=hcx 2 _ rfl
   have c3:=hcx 3 _ rfl
   have c4:=hcx 4 _ rfl
   have c5:=hcx 5 _ rfl
   have c6:=hcx 6 _ rfl
   have c7:=hcx 7 _ rfl
   have hlt:0 < nt:=by simp at hnt;omega
   have hlt':(0:Int) < (nt:Int):=by omega
   have hlt2:(1:Int)≤(nt:Int):=by omega
   obtain⟨W2,hW2⟩:∃ z,(w.alloc (.cells #[.slice va p.vars.length vc,.slice vb p.rows.length vd] 25)).alloc (.cells (nodeA ⟨kd,mp,mn,mc,var,pos,ck,cp,cn,cc,row,vp,vn,vc2⟩) 47)=z:=⟨_,rfl⟩
   have T2:=Ja.new (w.alloc (.cells #[.slice va p.vars.length vc,.slice vb p.rows.length vd] 25)) (nodeA ⟨kd,mp,mn,mc,var,pos,ck,cp,cn,cc,row,vp,vn,vc2⟩) 47
   rw[hW2,World.size_alloc] at T2
   have G2:=ξ (T.1.trans T2.1)
   have t1:W2.cell? ⟨bt,0,none⟩=some (.slice (some ⟨b,o,none⟩) nt ct):=(he.grow G2.out).t.at 0 rfl
   have HP2:=ξ (T.2.grow T2.1)
   have HN2:=ξ T2.2
   have f1:=Ja.f (he.grow G2.out).t 0
   unfold nodeA at hW2
   dsimp only at hW2
   clear he T hno hx hc hrest hcx hnt T2
   dsimp only at c0 c1 c2 c3 c4 c5 c6 c7
   rw[Nat.add_zero] at c0
   have HK:=ξ hk
   clear hk
   by_cases hct:ct=1
   ·subst hct
    obtain⟨W3,hW3⟩:∃ z,W2.setCell ⟨bt,0,none⟩ (.slice (some ⟨b,o,none⟩) (nt - 1) 0)=z:=⟨_,rfl⟩
    have HE3:=K2.set (HE.out.grow G2.out) (.slice (some ⟨b,o,none⟩) (nt - 1) 0)
    rw[hW3] at HE3
    have HE3:=ξ HE3
    have HBT:=ξ (show bt < w.heap.size from HE.out.t.lt)
    have HU3:=ξ (show Upd bt W2 W3 from by rw[← hW3];exact J8 W2 bt 0 _)
    have HN3:=ξ (HN2.out.upd HU3.out (by have:=HBT.out;omega))
    have HP3:=ξ (HP2.out.upd HU3.out (by have:=HBT.out;omega))
    have HR3:=ξ (show J1 W0 (.slice (some ⟨b,o,none⟩) (nt - 1) 0) N 4 from(by have:=HRE.out (some ⟨b,o,none⟩) (.inr rfl);exact this))
    have GG:=ξ (J9 (J5 bt G2.out) HE3.out.2)
    have HLN:=ξ (show nt - 1=N.length from by have:=HNT.out;simp at this;omega)
    have s0:W3.cell? ⟨bs,0,none⟩=some (.map (some bm)):=HE3.out.1.s.at 0 rfl
    unfold nodeA at HN3
    dsimp only at HN3
    have m0:=HN3.out.at 0 rfl
    have m1:=HN3.out.at 1 rfl
    have m2:=HN3.out.at 2 rfl
    have m3:=HN3.out.at 3 rfl
    have m4:=HN3.out.at 4 rfl
    have m5:=HN3.out.at 5 rfl
    have m6:=HN3.out.at 6 rfl
    have m7:=HN3.out.at 7 rfl
    by_cases k0:kd=0
    ·subst k0
     have hl:=(K9 HE3.out.1.m Tryz.underlying95 Tryz.underlying3 Kc (J0B bv)).1
     have hq:=fun w=>Nj (w:=w)
     go_enter Tryz.func50,Tryz.ntmps50
     go_wp2_with fail
     clear hl hq s0 hW2 hW3 t0 t1 f1 c0 c1 c2 c3 c4 c5 c6 c7 hnt0 hlt hlt' hlt2
     clear m0 m1 m2 m3 m4 m5 m6 m7
     refine(Mm W3 ⟨0,mp,mn,mc,var,pos,ck,cp,cn,cc,row,vp,vn,vc2⟩ n 4 (HX.out.grow HE3.out.1.g)).mono ?_
     rintro _ w4 ⟨r4,rfl,g4,h4⟩
     have HN4:=ξ (HN3.out.grow g4)
     have HP4:=ξ (HP3.out.grow g4)
     have HE4:=ξ (HE3.out.1.grow g4)
     have GG:=ξ (J9 GG.out (J5 bt g4))
     clear g4
     rcases h4.cases with⟨rfl,k4⟩|⟨rfl,k4⟩
     rotate_left
     ·have H:=ξ (show ¬ ∃ S,Jn p (n :: N) S from fun⟨S,h⟩=>k4 (Mj h))
      clear h4 k4
      go_wp2_with fail
      go_ret
      exact⟨_,rfl,GG.out,.inr ⟨H.out,rfl,_,HE4.out⟩⟩
     have HPL:=ξ k4
     have HKN:=ξ (show n.kind=0 from HX.out.kind.symm)
     clear h4 k4
     have HN3:=HN4
     have m0:=HN3.out.at 0 rfl
     have m1:=HN3.out.at 1 rfl
     have m2:=HN3.out.at 2 rfl
     have m3:=HN3.out.at 3 rfl
     have m4:=HN3.out.at 4 rfl
     have m5:=HN3.out.at 5 rfl
     have m6:=HN3.out.at 6 rfl
     have m7:=HN3.out.at 7 rfl
     have p0:=HP4.out.at 0 rfl
     have p1:=HP4.out.at 1 rfl
     go_wp2_with fail
     clear m0 m1 m2 m3 m4 m5 m6 m7
     clear p0 p1 HN3
     refine(J0W w4 _ p ⟨0,mp,mn,mc,var,pos,ck,cp,cn,cc,row,vp,vn,vc2⟩ n (HS.out.go GG.out).at (HX.out.grow HE4.out.g) HPV.out.ok HPV.out.wh HPV.out.n (by have:=HPV.out.m;omega) HFN.out).mono ?_
     rintro _ w5 ⟨r5,rfl,g5,h5⟩
     have HRB:=ξ (show VisR p (n :: N) W0 w bt bv bs bm r5 w5 from VisR.from GG.out (VisR.leaf (fun S=>Z5 HPL.out HKN.out) h5 g5 HE4.out HR3.out HLN.out))
     clear h5 g5
     obtain⟨t5,rfl⟩:=HRB.out.bool
     go_wp2_with fail
     go_ret
     exact⟨_,rfl,HRB.out⟩
    by_cases k1:kd=1
    ·subst k1
     have hl:=(K9 HE3.out.1.m Tryz.underlying95 Tryz.underlying3 Kc (J0C bv)).1
     clear k0
     have hq:=fun w=>Nj (w:=w)
     go_enter Tryz.func50,Tryz.ntmps50
     go_wp2_with fail
     clear hl hq s0 hW2 hW3 t0 t1 f1 c0 c1 c2 c3 c4 c5 c6 c7 hnt0 hlt hlt' hlt2
     clear m0 m1 m2 m3 m4 m5 m6 m7
     refine(Mm W3 ⟨1,mp,mn,mc,var,pos,ck,cp,cn,cc,row,vp,vn,vc2⟩ n 4 (HX.out.grow HE3.out.1.g)).mono ?_
     rintro _ w4 ⟨r4,rfl,g4,h4⟩
     have HN4:=ξ (HN3.out.grow g4)
     have HP4:=ξ (HP3.out.grow g4)
     have HE4:=ξ (HE3.out.1.grow g4)
     have GG:=ξ (J9 GG.out (J5 bt g4))
     clear g4
     rcases h4.cases with⟨rfl,k4⟩|⟨rfl,k4⟩
     rotate_left
     ·have H:=ξ (show ¬ ∃ S,Jn p (n :: N) S from fun⟨S,h⟩=>k4 (Mj h))
      clear h4 k4
      go_wp2_with fail
      go_ret
      exact⟨_,rfl,GG.out,.inr ⟨H.out,rfl,_,HE4.out⟩⟩
     have HPL:=ξ k4
     have HKN:=ξ (show n.kind=1 from HX.out.kind.symm)
     clear h4 k4
     have HN3:=HN4
     have m0:=HN3.out.at 0 rfl
     have m1:=HN3.out.at 1 rfl
     have m2:=HN3.out.at 2 rfl
     have m3:=HN3.out.at 3 rfl
     have m4:=HN3.out.at 4 rfl
     have m5:=HN3.out.at 5 rfl
     have m6:=HN3.out.at 6 rfl
     have m7:=HN3.out.at 7 rfl
     have p0:=HP4.out.at 0 rfl
     have p1:=HP4.out.at 1 rfl
     go_wp2_with fail
     clear m0 m1 m2 m3 m4 m5 m6 m7
     clear p0 p1 HN3
     refine(J0X w4 _ p ⟨1,mp,mn,mc,var,pos,ck,cp,cn,cc,row,vp,vn,vc2⟩ n (HS.out.go GG.out).at (HX.out.grow HE4.out.g) (by have:=HPV.out.n;omega)).mono ?_
     rintro _ w5 ⟨r5,rfl,g5,h5⟩
     have HRB:=ξ (show VisR p (n :: N) W0 w bt bv bs bm r5 w5 from VisR.from GG.out (VisR.leaf (fun S=>Z6 HPL.out HKN.out) h5 g5 HE4.out HR3.out HLN.out))
     clear h5 g5
     obtain⟨t5,rfl⟩:=HRB.out.bool
     go_wp2_with fail
     go_ret
     exact⟨_,rfl,HRB.out⟩
    by_cases k2:kd=2
    ·subst k2
     have hl:=(K9 HE3.out.1.m Tryz.underlying95 Tryz.underlying3 Kc (J0D bv)).1
     clear k0 k1
     have hq:=fun w=>Nj (w:=w)
     go_enter Tryz.func50,Tryz.ntmps50
     go_wp2_with fail
     clear hl hq s0 hW2 hW3 t0 t1 f1 c0 c1 c2 c3 c4 c5 c6 c7 hnt0 hlt hlt' hlt2
     clear m0 m1 m2 m3 m4 m5 m6 m7
     refine(Mm W3 ⟨2,mp,mn,mc,var,pos,ck,cp,cn,cc,row,vp,vn,vc2⟩ n 4 (HX.out.grow HE3.out.1.g)).mono ?_
     rintro _ w4 ⟨r4,rfl,g4,h4⟩
     have HN4:=ξ (HN3.out.grow g4)
     have HP4:=ξ (HP3.out.grow g4)
     have HE4:=ξ (HE3.out.1.grow g4)
     have GG:=ξ (J9 GG.out (J5 bt g4))
     clear g4
     rcases h4.cases with⟨rfl,k4⟩|⟨rfl,k4⟩
     rotate_left
     ·have H:=ξ (show ¬ ∃ S,Jn p (n :: N) S from fun⟨S,h⟩=>k4 (Mj h))
      clear h4 k4
      go_wp2_with fail
      go_ret
      exact⟨_,rfl,GG.out,.inr ⟨H.out,rfl,_,HE4.out⟩⟩
     have HPL:=ξ k4
     have HKN:=ξ (show n.kind=2 from HX.out.kind.symm)
     clear h4 k4
     have HN3:=HN4
     have m0:=HN3.out.at 0 rfl
     have m1:=HN3.out.at 1 rfl
     have m2:=HN3.out.at 2 rfl
     have m3:=HN3.out.at 3 rfl
     have m4:=HN3.out.at 4 rfl
     have m5:=HN3.out.at 5 rfl
     have m6:=HN3.out.at 6 rfl
     have m7:=HN3.out.at 7 rfl
     have p0:=HP4.out.at 0 rfl
     have p1:=HP4.out.at 1 rfl
     go_wp2_with fail
     clear m0 m1 m2 m3 m4 m5 m6 m7
     clear p0 p1 HN3
     refine(J0Y W0 w4 bt bv bs bm (some ⟨b,o,none⟩) 0 _ p ⟨2,mp,mn,mc,var,pos,ck,cp,cn,cc,row,vp,vn,vc2⟩ n N (nt - 1) HLN.out (HIH.out.less (by have:=HK.out;simp at this;omega)) HE4.out HR3.out (HS.out.go GG.out) (HX.out.grow HE4.out.g) HPV.out HFR.out HKN.out HPL.out).mono ?_
     rintro _ w5 ⟨r5,rfl,h5⟩
     have HRB:=ξ (show VisR p (n :: N) W0 w bt bv bs bm r5 w5 from VisR.from GG.out h5)
     clear h5
     obtain⟨t5,rfl⟩:=HRB.out.bool
     go_wp2_with fail
     go_ret
     exact⟨_,rfl,HRB.out⟩
    by_cases k3:kd=3
    ·subst k3
     have hl:=(K9 HE3.out.1.m Tryz.underlying95 Tryz.underlying3 Kc (J0E bv)).1
     clear k0 k1 k2
     have hq:=fun w=>Nj (w:=w)
     go_enter Tryz.func50,Tryz.ntmps50
     go_wp2_with fail
     clear hl hq s0 hW2 hW3 t0 t1 f1 c0 c1 c2 c3 c4 c5 c6 c7 hnt0 hlt hlt' hlt2
     clear m0 m1 m2 m3 m4 m5 m6 m7
     refine(Mm W3 ⟨3,mp,mn,mc,var,pos,ck,cp,cn,cc,row,vp,vn,vc2⟩ n 4 (HX.out.grow HE3.out.1.g)).mono ?_
     rintro _ w4 ⟨r4,rfl,g4,h4⟩
     have HN4:=ξ (HN3.out.grow g4)
     have HP4:=ξ (HP3.out.grow g4)
     have HE4:=ξ (HE3.out.1.grow g4)
     have GG:=ξ (J9 GG.out (J5 bt g4))
     clear g4
     rcases h4.cases with⟨rfl,k4⟩|⟨rfl,k4⟩
     rotate_left
     ·have H:=ξ (show ¬ ∃ S,Jn p (n :: N) S from fun⟨S,h⟩=>k4 (Mj h))
      clear h4 k4
      go_wp2_with fail
      go_ret
      exact⟨_,rfl,GG.out,.inr ⟨H.out,rfl,_,HE4.out⟩⟩
     have HPL:=ξ k4
     have HKN:=ξ (show n.kind=3 from HX.out.kind.symm)
     clear h4 k4
     have HN3:=HN4
     have m0:=HN3.out.at 0 rfl
     have m1:=HN3.out.at 1 rfl
     have m2:=HN3.out.at 2 rfl
     have m3:=HN3.out.at 3 rfl
     have m4:=HN3.out.at 4 rfl
     have m5:=HN3.out.at 5 rfl
     have m6:=HN3.out.at 6 rfl
     have m7:=HN3.out.at 7 rfl
     have p0:=HP4.out.at 0 rfl
     have p1:=HP4.out.at 1 rfl
     go_wp2_with fail
     clear m0 m1 m2 m3 m4 m5 m6 m7
     clear p0 p1 HN3
     refine(J0Z W0 w4 bt bv bs bm (some ⟨b,o,none⟩) 0 _ p ⟨3,mp,mn,mc,var,pos,ck,cp,cn,cc,row,vp,vn,vc2⟩ n N (nt - 1) HLN.out (HIH.out.less (by have:=HK.out;simp at this;omega)) HE4.out HR3.out (HS.out.go GG.out) (HX.out.grow HE4.out.g) HPV.out HFR.out HFN.out HKN.out HPL.out).mono ?_
     rintro _ w5 ⟨r5,rfl,h5⟩
     have HRB:=ξ (show VisR p (n :: N) W0 w bt bv bs bm r5 w5 from VisR.from GG.out h5)
     clear h5
     obtain⟨t5,rfl⟩:=HRB.out.bool
     go_wp2_with fail
     go_ret
     exact⟨_,rfl,HRB.out⟩
    have hl:=(Tz (P:=Tryz.prog) (z:=.nilFunc) HE3.out.1.m Tryz.underlying95 Tryz.underlying3 (Kc (n:=kd)) (by kernel_rfl) (J0F bv k0 k1 k2 k3)).1
    have H:=ξ (show ¬ ∃ S,Jn p (n :: N) S from fun⟨S,h⟩=>Tn (by rw[← HX.out.kind];exact k0) (by rw[← HX.out.kind];exact k1) (by rw[← HX.out.kind];exact k2) (by rw[← HX.out.kind];exact k3) (Mj h))
    have hq:=fun w=>Zf (w:=w)
    clear k0 k1 k2 k3
    go_enter Tryz.func50,Tryz.ntmps50
    go_wp2_with fail
    go_ret
    exact⟨_,rfl,GG.out,.inr ⟨H.out,rfl,_,HE3.out.1⟩⟩
   ·have hct':(ct == 1)=false:=by simpa using hct
    obtain⟨W3,hW3⟩:∃ z,W2.setCell ⟨bt,0,none⟩ (.slice (some ⟨b,o+8,none⟩) (nt - 1) (ct - 1))=z:=⟨_,rfl⟩
    have HE3:=K2.set (HE.out.grow G2.out) (.slice (some ⟨b,o+8,none⟩) (nt - 1) (ct - 1))
    rw[hW3] at HE3
    have HE3:=ξ HE3
    have HBT:=ξ (show bt < w.heap.size from HE.out.t.lt)
    have HU3:=ξ (show Upd bt W2 W3 from by rw[← hW3];exact J8 W2 bt 0 _)
    have HN3:=ξ (HN2.out.upd HU3.out (by have:=HBT.out;omega))
    have HP3:=ξ (HP2.out.upd HU3.out (by have:=HBT.out;omega))
    have HR3:=ξ (show J1 W0 (.slice (some ⟨b,o+8,none⟩) (nt - 1) (ct - 1)) N 4 from(HRE.out _ (.inl rfl)))
    have GG:=ξ (J9 (J5 bt G2.out) HE3.out.2)
    have HLN:=ξ (show nt - 1=N.length from by have:=HNT.out;simp at this;omega)
    have s0:W3.cell? ⟨bs,0,none⟩=some (.map (some bm)):=HE3.out.1.s.at 0 rfl
    unfold nodeA at HN3
    dsimp only at HN3
    have m0:=HN3.out.at 0 rfl
    have m1:=HN3.out.at 1 rfl
    have m2:=HN3.out.at 2 rfl
    have m3:=HN3.out.at 3 rfl
    have m4:=HN3.out.at 4 rfl
    have m5:=HN3.out.at 5 rfl
    have m6:=HN3.out.at 6 rfl
    have m7:=HN3.out.at 7 rfl
    by_cases k0:kd=0
    ·subst k0
     have hl:=(K9 HE3.out.1.m Tryz.underlying95 Tryz.underlying3 Kc (J0B bv)).1
     have hq:=fun w=>Nj (w:=w)
     go_enter Tryz.func50,Tryz.ntmps50
     go_wp2_with fail
     clear hl hq s0 hW2 hW3 t0 t1 f1 c0 c1 c2 c3 c4 c5 c6 c7 hnt0 hlt hlt' hlt2
     clear m0 m1 m2 m3 m4 m5 m6 m7
     refine(Mm W3 ⟨0,mp,mn,mc,var,pos,ck,cp,cn,cc,row,vp,vn,vc2⟩ n 4 (HX.out.grow HE3.out.1.g)).mono ?_
     rintro _ w4 ⟨r4,rfl,g4,h4⟩
     have HN4:=ξ (HN3.out.grow g4)
     have HP4:=ξ (HP3.out.grow g4)
     have HE4:=ξ (HE3.out.1.grow g4)
     have GG:=ξ (J9 GG.out (J5 bt g4))
     clear g4
     rcases h4.cases with⟨rfl,k4⟩|⟨rfl,k4⟩
     rotate_left
     ·have H:=ξ (show ¬ ∃ S,Jn p (n :: N) S from fun⟨S,h⟩=>k4 (Mj h))
      clear h4 k4
      go_wp2_with fail
      go_ret
      exact⟨_,rfl,GG.out,.inr ⟨H.out,rfl,_,HE4.out⟩⟩
     have HPL:=ξ k4
     have HKN:=ξ (show n.kind=0 from HX.out.kind.symm)
     clear h4 k4
     have HN3:=HN4
     have m0:=HN3.out.at 0 rfl
     have m1:=HN3.out.at 1 rfl
     have m2:=HN3.out.at 2 rfl
     have m3:=HN3.out.at 3 rfl
     have m4:=HN3.out.at 4 rfl
     have m5:=HN3.out.at 5 rfl
     have m6:=HN3.out.at 6 rfl
     have m7:=HN3.out.at 7 rfl
     have p0:=HP4.out.at 0 rfl
     have p1:=HP4.out.at 1 rfl
     go_wp2_with fail
     clear m0 m1 m2 m3 m4 m5 m6 m7
     clear p0 p1 HN3
     refine(J0W w4 _ p ⟨0,mp,mn,mc,var,pos,ck,cp,cn,cc,row,vp,vn,vc2⟩ n (HS.out.go GG.out).at (HX.out.grow HE4.out.g) HPV.out.ok HPV.out.wh HPV.out.n (by have:=HPV.out.m;omega) HFN.out).mono ?_
     rintro _ w5 ⟨r5,rfl,g5,h5⟩
     have HRB:=ξ (show VisR p (n :: N) W0 w bt bv bs bm r5 w5 from VisR.from GG.out (VisR.leaf (fun S=>Z5 HPL.out HKN.out) h5 g5 HE4.out HR3.out HLN.out))
     clear h5 g5
     obtain⟨t5,rfl⟩:=HRB.out.bool
     go_wp2_with fail
     go_ret
     exact⟨_,rfl,HRB.out⟩
    by_cases k1:kd=1
    ·subst k1
     have hl:=(K9 HE3.out.1.m Tryz.underlying95 Tryz.underlying3 Kc (J0C bv)).1
     clear k0
     have hq:=fun w=>Nj (w:=w)
     go_enter Tryz.func50,Tryz.ntmps50
     go_wp2_with fail
     clear hl hq s0 hW2 hW3 t0 t1 f1 c0 c1 c2 c3 c4 c5 c6 c7 hnt0 hlt hlt' hlt2
     clear m0 m1 m2 m3 m4 m5 m6 m7
     refine(Mm W3 ⟨1,mp,mn,mc,var,pos,ck,cp,cn,cc,row,vp,vn,vc2⟩ n 4 (HX.out.grow HE3.out.1.g)).mono ?_
     rintro _ w4 ⟨r4,rfl,g4,h4⟩
     have HN4:=ξ (HN3.out.grow g4)
     have HP4:=ξ (HP3.out.grow g4)
     have HE4:=ξ (HE3.out.1.grow g4)
     have GG:=ξ (J9 GG.out (J5 bt g4))
     clear g4
     rcases h4.cases with⟨rfl,k4⟩|⟨rfl,k4⟩
     rotate_left
     ·have H:=ξ (show ¬ ∃ S,Jn p (n :: N) S from fun⟨S,h⟩=>k4 (Mj h))
      clear h4 k4
      go_wp2_with fail
      go_ret
      exact⟨_,rfl,GG.out,.inr ⟨H.out,rfl,_,HE4.out⟩⟩
     have HPL:=ξ k4
     have HKN:=ξ (show n.kind=1 from HX.out.kind.symm)
     clear h4 k4
     have HN3:=HN4
     have m0:=HN3.out.at 0 rfl
     have m1:=HN3.out.at 1 rfl
     have m2:=HN3.out.at 2 rfl
     have m3:=HN3.out.at 3 rfl
     have m4:=HN3.out.at 4 rfl
     have m5:=HN3.out.at 5 rfl
     have m6:=HN3.out.at 6 rfl
     have m7:=HN3.out.at 7 rfl
     have p0:=HP4.out.at 0 rfl
     have p1:=HP4.out.at 1 rfl
     go_wp2_with fail
     clear m0 m1 m2 m3 m4 m5 m6 m7
     clear p0 p1 HN3
     refine(J0X w4 _ p ⟨1,mp,mn,mc,var,pos,ck,cp,cn,cc,row,vp,vn,vc2⟩ n (HS.out.go GG.out).at (HX.out.grow HE4.out.g) (by have:=HPV.out.n;omega)).mono ?_
     rintro _ w5 ⟨r5,rfl,g5,h5⟩
     have HRB:=ξ (show VisR p (n :: N) W0 w bt bv bs bm r5 w5 from VisR.from GG.out (VisR.leaf (fun S=>Z6 HPL.out HKN.out) h5 g5 HE4.out HR3.out HLN.out))
     clear h5 g5
     obtain⟨t5,rfl⟩:=HRB.out.bool
     go_wp2_with fail
     go_ret
     exact⟨_,rfl,HRB.out⟩
    by_cases k2:kd=2
    ·subst k2
     have hl:=(K9 HE3.out.1.m Tryz.underlying95 Tryz.underlying3 Kc (J0D bv)).1
     clear k0 k1
     have hq:=fun w=>Nj (w:=w)
     go_enter Tryz.func50,Tryz.ntmps50
     go_wp2_with fail
     clear hl hq s0 hW2 hW3 t0 t1 f1 c0 c1 c2 c3 c4 c5 c6 c7 hnt0 hlt hlt' hlt2
     clear m0 m1 m2 m3 m4 m5 m6 m7
     refine(Mm W3 ⟨2,mp,mn,mc,var,pos,ck,cp,cn,cc,row,vp,vn,vc2⟩ n 4 (HX.out.grow HE3.out.1.g)).mono ?_
     rintro _ w4 ⟨r4,rfl,g4,h4⟩
     have HN4:=ξ (HN3.out.grow g4)
     have HP4:=ξ (HP3.out.grow g4)
     have HE4:=ξ (HE3.out.1.grow g4)
     have GG:=ξ (J9 GG.out (J5 bt g4))
     clear g4
     rcases h4.cases with⟨rfl,k4⟩|⟨rfl,k4⟩
     rotate_left
     ·have H:=ξ (show ¬ ∃ S,Jn p (n :: N) S from fun⟨S,h⟩=>k4 (Mj h))
      clear h4 k4
      go_wp2_with fail
      go_ret
      exact⟨_,rfl,GG.out,.inr ⟨H.out,rfl,_,HE4.out⟩⟩
     have HPL:=ξ k4
     have HKN:=ξ (show n.kind=2 from HX.out.kind.symm)
     clear h4 k4
     have HN3:=HN4
     have m0:=HN3.out.at 0 rfl
     have m1:=HN3.out.at 1 rfl
     have m2:=HN3.out.at 2 rfl
     have m3:=HN3.out.at 3 rfl
     have m4:=HN3.out.at 4 rfl
     have m5:=HN3.out.at 5 rfl
     have m6:=HN3.out.at 6 rfl
     have m7:=HN3.out.at 7 rfl
     have p0:=HP4.out.at 0 rfl
     have p1:=HP4.out.at 1 rfl
     go_wp2_with fail
     clear m0 m1 m2 m3 m4 m5 m6 m7
     clear p0 p1 HN3
     refine(J0Y W0 w4 bt bv bs bm (some ⟨b,o+8,none⟩) (ct - 1) _ p ⟨2,mp,mn,mc,var,pos,ck,cp,cn,cc,row,vp,vn,vc2⟩ n N (nt - 1) HLN.out (HIH.out.less (by have:=HK.out;simp at this;omega)) HE4.out HR3.out (HS.out.go GG.out) (HX.out.grow HE4.out.g) HPV.out HFR.out HKN.out HPL.out).mono ?_
     rintro _ w5 ⟨r5,rfl,h5⟩
     have HRB:=ξ (show VisR p (n :: N) W0 w bt bv bs bm r5 w5 from VisR.from GG.out h5)
     clear h5
     obtain⟨t5,rfl⟩:=HRB.out.bool
     go_wp2_with fail
     go_ret
     exact⟨_,rfl,HRB.out⟩
    by_cases k3:kd=3
    ·subst k3
     have hl:=(K9 HE3.out.1.m Tryz.underlying95 Tryz.underlying3 Kc (J0E bv)).1
     clear k0 k1 k2
     have hq:=fun w=>Nj (w:=w)
     go_enter Tryz.func50,Tryz.ntmps50
     go_wp2_with fail
     clear hl hq s0 hW2 hW3 t0 t1 f1 c0 c1 c2 c3 c4 c5 c6 c7 hnt0 hlt hlt' hlt2
     clear m0 m1 m2 m3 m4 m5 m6 m7
     refine(Mm W3 ⟨3,mp,mn,mc,var,pos,ck,cp,cn,cc,row,vp,vn,vc2⟩ n 4 (HX.out.grow HE3.out.1.g)).mono ?_
     rintro _ w4 ⟨r4,rfl,g4,h4⟩
     have HN4:=ξ (HN3.out.grow g4)
     have HP4:=ξ (HP3.out.grow g4)
     have HE4:=ξ (HE3.out.1.grow g4)
     have GG:=ξ (J9 GG.out (J5 bt g4))
     clear g4
     rcases h4.cases with⟨rfl,k4⟩|⟨rfl,k4⟩
     rotate_left
     ·have H:=ξ (show ¬ ∃ S,Jn p (n :: N) S from fun⟨S,h⟩=>k4 (Mj h))
      clear h4 k4
      go_wp2_with fail
      go_ret
      exact⟨_,rfl,GG.out,.inr ⟨H.out,rfl,_,HE4.out⟩⟩
     have HPL:=ξ k4
     have HKN:=ξ (show n.kind=3 from HX.out.kind.symm)
     clear h4 k4
     have HN3:=HN4
     have m0:=HN3.out.at 0 rfl
     have m1:=HN3.out.at 1 rfl
     have m2:=HN3.out.at 2 rfl
     have m3:=HN3.out.at 3 rfl
     have m4:=HN3.out.at 4 rfl
     have m5:=HN3.out.at 5 rfl
     have m6:=HN3.out.at 6 rfl
     have m7:=HN3.out.at 7 rfl
     have p0:=HP4.out.at 0 rfl
     have p1:=HP4.out.at 1 rfl
     go_wp2_with fail
     clear m0 m1 m2 m3 m4 m5 m6 m7
     clear p0 p1 HN3
     refine(J0Z W0 w4 bt bv bs bm (some ⟨b,o+8,none⟩) (ct - 1) _ p ⟨3,mp,mn,mc,var,pos,ck,cp,cn,cc,row,vp,vn,vc2⟩ n N (nt - 1) HLN.out (HIH.out.less (by have:=HK.out;simp at this;omega)) HE4.out HR3.out (HS.out.go GG.out) (HX.out.grow HE4.out.g) HPV.out HFR.out HFN.out HKN.out HPL.out).mono ?_
     rintro _ w5 ⟨r5,rfl,h5⟩
     have HRB:=ξ (show VisR p (n :: N) W0 w bt bv bs bm r5 w5 from VisR.from GG.out h5)
     clear h5
     obtain⟨t5,rfl⟩:=HRB.out.bool
     go_wp2_with fail
     go_ret
     exact⟨_,rfl,HRB.out⟩
    have hl:=(Tz (P:=Tryz.prog) (z:=.nilFunc) HE3.out.1.m Tryz.underlying95 Tryz.underlying3 (Kc (n:=kd)) (by kernel_rfl) (J0F bv k0 k1 k2 k3)).1
    have H:=ξ (show ¬ ∃ S,Jn p (n :: N) S from fun⟨S,h⟩=>Tn (by rw[← HX.out.kind];exact k0) (by rw[← HX.out.kind];exact k1) (by rw[← HX.out.kind];exact k2) (by rw[← HX.out.kind];exact k3) (Mj h))
    have hq:=fun w=>Zf (w:=w)
    clear k0 k1 k2 k3
    go_enter Tryz.func50,Tryz.ntmps50
    go_wp2_with fail
    go_ret
    exact⟨_,rfl,GG.out,.inr ⟨H.out,rfl,_,HE3.out.1⟩⟩
theorem J2.arg {w0 w:World}{bt:Nat}{v:Value}{p:Prg}(h:Jv w0 v p)(g:Gr w0 w)(hb:w0.heap.size≤bt):J2 w bt v p:=fun w' k=>
 h.grow (show Gr w0 w' from Below.grown g k g.size (fun k e=>by cases e;exact hb))
def stepsE (bv:Nat):Array MapEntry:=#[{ key:=.int .i64 0,val:=.func (.func 43) #[] #[],born:=0 },{ key:=.int .i64 1,val:=.func (.func 45) #[] #[],born:=1 },
 { key:=.int .i64 2,val:=.func (.func 46) #[] #[.pointer (some ⟨bv,0,none⟩)],born:=2 },{ key:=.int .i64 3,val:=.func (.func 48) #[] #[.pointer (some ⟨bv,0,none⟩)],born:=3 }]
theorem J0V (w:World)(v:Value)(p:Prg)(N:List Jh)(pt:Option Addr)(nt ct:Nat)(hnt:nt=N.length)(hv:Jv w v p)(hno:J1 w (.slice pt nt ct) N 4)(hp:PvP p N.length)(hf:∀ n ∈ N,K1 n):
  Calls Tryz.prog 24 #[v,.slice pt nt ct] w (Ret w fun r _=>Jb (Jn p N []) r):=by
 have HV:=ξ hv
 have HNO:=ξ (And.intro hno hnt)
 have HPV:=ξ hp
 have HF:=ξ hf
 obtain⟨va,vc,vb,vd,rfl,hvs,hr⟩:=hv
 unfold prgV at HV ⊢
 clear hvs hr hno hp hf hnt
 have B0:=Ja.new w #[.slice va p.vars.length vc,.slice vb p.rows.length vd] 25
 have B1:=Ja.new (w.alloc (.cells #[.slice va p.vars.length vc,.slice vb p.rows.length vd] 25)) #[.slice pt nt ct] 26
 have B2:=Ja.new ((w.alloc (.cells #[.slice va p.vars.length vc,.slice vb p.rows.length vd] 25)).alloc (.cells #[.slice pt nt ct] 26)) #[.nilFunc] 60
 simp only[World.size_alloc] at B1 B2
 have HB:=ξ (show _∧Ja _ _ #[.slice va p.vars.length vc,.slice vb p.rows.length vd]∧Ja _ _ #[.slice pt nt ct]∧Ja _ _ #[.nilFunc] from⟨B0.1.trans (B1.1.trans B2.1),B0.2.grow (B1.1.trans B2.1),B1.2.grow B2.1,B2.2⟩)
 clear B0 B1 B2
 go_enter Tryz.func24,Tryz.ntmps24
 go_wp2_with fail
 generalize hbv:w.heap.size+1+1=bv at HB ⊢
 generalize hbt:w.heap.size+1=bt at HB ⊢
 generalize hbp:w.heap.size=bp at HB ⊢
 generalize ((w.alloc _).alloc _).alloc _=W at HB ⊢
 have HNE:=ξ (show w.heap.size≤bt∧bt≠bv∧bp≠bv∧w.heap.size≤bv∧bp≠bt from by omega)
 clear hbv hbt hbp
 have hmk:=run_makeMap (P:=Tryz.prog) 95 W
 have hs0:=Ks (P:=Tryz.prog) (w:=W) (es:=((stepsE bv).extract 0 0)) (c:=0) (t:=95) (key:=.int .i64 0) (.func (.func 43) #[] #[]) Tryz.underlying95 Tryz.underlying3 Kc rfl rfl
 have hs1:=Ks (P:=Tryz.prog) (w:=W) (es:=((stepsE bv).extract 0 1)) (c:=1) (t:=95) (key:=.int .i64 1) (.func (.func 45) #[] #[]) Tryz.underlying95 Tryz.underlying3 Kc rfl rfl
 have hs2:=Ks (P:=Tryz.prog) (w:=W) (es:=((stepsE bv).extract 0 2)) (c:=2) (t:=95) (key:=.int .i64 2) (.func (.func 46) #[] #[.pointer (some ⟨bv,0,none⟩)]) Tryz.underlying95 Tryz.underlying3 Kc rfl rfl
 have hs3:=Ks (P:=Tryz.prog) (w:=W) (es:=((stepsE bv).extract 0 3)) (c:=3) (t:=95) (key:=.int .i64 3) (.func (.func 48) #[] #[.pointer (some ⟨bv,0,none⟩)]) Tryz.underlying95 Tryz.underlying3 Kc rfl rfl
 simp only[stepsE,List.push_toArray,List.nil_append,List.cons_append,Array.push_empty,Nat.zero_add,Nat.reduceAdd,List.extract_toArray,List.extract_eq_take_drop,List.take,List.drop,Nat.sub_zero] at hs0 hs1 hs2 hs3
 have M1:=World.size_alloc W (.map (stepsE bv) 4)
 have gm:Gr W (W.alloc (.map (stepsE bv) 4)):=(Gr.refl _).alloc _
 have hma:K0 (W.alloc (.map (stepsE bv) 4)) W.heap.size (stepsL bv):=⟨_,_,(MapKept.heap_alloc W _).1,rfl⟩
 have C6:=Ja.new (W.alloc (.map (stepsE bv) 4)) #[.map (some W.heap.size)] 95
 rw[M1] at C6
 obtain⟨W6,hW6⟩:∃ z,(W.alloc (.map (stepsE bv) 4)).alloc (.cells #[.map (some W.heap.size)] 95)=z:=⟨_,rfl⟩
 rw[hW6] at C6
 have GM:=gm.trans C6.1
 obtain⟨W7,hW7⟩:∃ z,W6.setCell ⟨bv,0,none⟩ (.func (.func 50) #[] #[.pointer (some ⟨bt,0,none⟩),.pointer (some ⟨W.heap.size+1,0,none⟩)])=z:=⟨_,rfl⟩
 have hu:Upd bv W6 W7:=by rw[← hW7];exact J8 W6 bv 0 _
 have hbv:=HB.out.2.2.2.lt
 have hbp:=HB.out.2.1.lt
 have hbt:=HB.out.2.2.1.lt
 have HE:=ξ (show K2 w W7 bt bv (W.heap.size+1) W.heap.size (.slice pt nt ct) from by
  refine⟨by rw[← hW7];exact Gr.set (HB.out.1.trans GM) (by have:=HNE.out;omega) _,(HB.out.2.2.1.grow GM).upd hu HNE.out.2.1,?_,C6.2.upd hu (by omega),?_,HNE.out.2.1,by omega,by omega,HNE.out.1⟩
  ·have h:=(HB.out.2.2.2.grow GM).set 0 (visitF bt (W.heap.size+1))
   unfold visitF at h ⊢
   rw[hW7] at h
   simpa using h
  ·obtain⟨es,c,h1,h2⟩:=hma.grow C6.1
   exact⟨es,c,by rw[hu W.heap.size (by omega)];exact h1,h2⟩)
 have HP7:=ξ ((HB.out.2.1.grow GM).upd hu HNE.out.2.2.1)
 have f0:=Ja.f (HB.out.2.2.2.grow GM) 0
 have p0:=HP7.out.at 0 rfl
 have p1:=HP7.out.at 1 rfl
 have v0:W7.cell? ⟨bv,0,none⟩=some (.func (.func 50) #[] #[.pointer (some ⟨bt,0,none⟩),.pointer (some ⟨W.heap.size+1,0,none⟩)]):=HE.out.v.at 0 rfl
 have z0:W6.cell? ⟨bv,0,none⟩=some .nilFunc:=(HB.out.2.2.2.grow GM).at 0 rfl
 unfold stepsE at hW6
 clear M1 gm hma C6 hu hbv hbp hbt GM
 rw[hmk]
 go_wp2_with fail
 clear hmk hs0 hs1 hs2 hs3 hW6 hW7 f0 p0 p1 v0 z0
 generalize W.heap.size=bm at HE ⊢
 refine(J6t w bt bv (bm+1) bm (N.length+1) W7 _ p N pt ct nt (by omega) HNO.out.2 HE.out HNO.out.1 (J2.arg HV.out HE.out.g HNE.out.1) HPV.out HF.out).mono ?_
 rintro _ w8 ⟨r8,rfl,g8,h8⟩
 rcases h8 with⟨S,pt2,nt2,ct2,hpr,rfl,he2,hno2,hl2⟩|⟨hnp,rfl,tv2,he2⟩
 rotate_left
 ·have H:=ξ (show ¬ Jn p N [] from fun h=>hnp ⟨[],h⟩)
  have HE2:=ξ he2
  clear g8 hnp he2
  go_wp2_with fail
  go_ret
  exact⟨_,rfl,HE2.out.g,Jb.no H.out⟩
 have t0:=he2.t.at 0 rfl
 have HE2:=ξ he2
 cases S with
 | nil=>
  obtain rfl:nt2=0:=hl2
  have H:=ξ hpr
  clear g8 hpr he2 hno2
  go_wp2_with fail
  go_ret
  exact⟨_,rfl,HE2.out.g,Jb.yes H.out⟩
 | cons m S=>
  have H:=ξ (show ¬ Jn p N [] from fun h=>by have:=Tp hpr h;cases this)
  have hne:((nt2:Int) == 0)=false:=by simp;simp at hl2;omega
  clear g8 hpr he2 hno2 hl2
  go_wp2_with fail
  go_ret
  exact⟨_,rfl,HE2.out.g,Jb.no H.out⟩
def ChkP (p:Prg)(N:List Jh)(r:Value):Prop:=(¬ (Jr p∧Whole p)∧r = .int .i64 1)∨((Jr p∧Whole p)∧Jn p N []∧r = .int .i64 0)∨((Jr p∧Whole p)∧¬ Jn p N []∧r = .int .i64 13)
theorem Rd (w:World)(v:Value)(p:Prg)(N:List Jh)(pt:Option Addr)(nt ct:Nat)(hnt:nt=N.length)(hv:Jv w v p)(hno:J1 w (.slice pt nt ct) N 4)(hi:PrgI p)(hl:∀ r ∈ p.rows,r.name.length≤1000000)(hn:p.vars.length≤10)(hm:p.rows.length+N.length≤40)(hf:∀ n ∈ N,K1 n):
  Calls Tryz.prog 9 #[v,.slice pt nt ct] w (Ret w fun r _=>ChkP p N r):=by
 have HV:=ξ hv
 have HNO:=ξ (And.intro hno hnt)
 have HI:=ξ hi
 have HL:=ξ hl
 have HNM:=ξ (And.intro hn hm)
 have HF:=ξ hf
 obtain⟨va,vc,vb,vd,rfl,hvs,hr⟩:=hv
 unfold prgV at HV ⊢
 have B:=Ja.new w #[.slice va p.vars.length vc,.slice vb p.rows.length vd] 25
 have HB:=ξ B
 clear hvs hr hno hi hl hn hm hf hnt B
 go_enter Tryz.func9,Tryz.ntmps9
 go_wp2_with fail
 generalize w.heap.size=bp at HB ⊢
 generalize w.alloc _=W at HB ⊢
 refine(J10 W _ p (HV.out.grow HB.out.1) HI.out HL.out (by have:=HNM.out;omega) (by have:=HNM.out;omega)).mono ?_
 rintro _ w1 ⟨r1,rfl,g1,h1⟩
 have G:=ξ (HB.out.1.trans g1)
 have HP:=ξ (HB.out.2.grow g1)
 rcases h1.cases with⟨rfl,k1⟩|⟨rfl,k1⟩
 rotate_left
 ·have H:=ξ k1
  clear h1 k1 g1
  go_wp2_with fail
  go_ret
  exact⟨_,rfl,G.out,.inl ⟨H.out,rfl⟩⟩
 have H1:=ξ k1
 have p0:=HP.out.at 0 rfl
 have p1:=HP.out.at 1 rfl
 clear h1 k1 g1
 go_wp2_with fail
 clear p0 p1
 refine(J0V w1 _ p N pt nt ct HNO.out.2 (HV.out.grow G.out) (HNO.out.1.grow G.out) ⟨H1.out.1,H1.out.2,HNM.out.1,HNM.out.2⟩ HF.out).mono ?_
 rintro _ w2 ⟨r2,rfl,g2,h2⟩
 have G:=ξ (G.out.trans g2)
 rcases h2.cases with⟨rfl,k2⟩|⟨rfl,k2⟩
 ·have H:=ξ k2
  clear h2 k2 g2
  go_wp2_with fail
  go_ret
  exact⟨_,rfl,G.out,.inr (.inl ⟨H1.out,H.out,rfl⟩)⟩
 ·have H:=ξ k2
  clear h2 k2 g2
  go_wp2_with fail
  go_ret
  exact⟨_,rfl,G.out,.inr (.inr ⟨H1.out,H.out,rfl⟩)⟩
inductive Dep:List Jh→Nat→List Jh→Prop
 | leaf {n:Jh} {t:List Jh} (h0:n.kind=0):Dep (n :: t) 0 t
 | split {n:Jh} {t r s:List Jh} {d e:Nat} (h0:n.kind=2) (h1:Dep t d r) (h2:Dep r e s):Dep (n :: t) (1+max d e) s
theorem Dep.le {N S:List Jh}{d:Nat}(h:Dep N d S):d+S.length≤N.length:=by
 induction h with
 | leaf=>simp
 | split _ _ _ i1 i2=>simp only[List.length_cons];omega
def depF (bt bf:Nat):Value:=.func (.func 35) #[] #[.pointer (some ⟨bt,0,none⟩),.pointer (some ⟨bf,0,none⟩)]
structure Ma (W0 w:World)(bt bf:Nat)(tv:Value):Prop where
 g:Gr W0 w
 t:Ja w bt #[tv]
 f:Ja w bf #[depF bt bf]
 n:bt≠bf∧W0.heap.size≤bt
theorem Ma.set {W0 w:World}{bt bf:Nat}{tv:Value}(h:Ma W0 w bt bf tv)(u:Value):Ma W0 (w.setCell ⟨bt,0,none⟩ u) bt bf u∧w.grownBy (w.setCell ⟨bt,0,none⟩ u) (some bt):=by
 have hu:=J8 w bt 0 u
 refine⟨⟨Gr.set h.g (by have:=h.n.2;omega) _,?_,h.f.upd hu h.n.1.symm,h.n⟩,Jl.set bt w 0 u⟩
 have:=h.t.set 0 u
 simpa using this
def DepR (d:Nat)(S:List Jh)(W0 w:World)(bt bf:Nat)(r:Value)(w':World):Prop:=
 r = .tuple #[.int .i64 (d:Int),.bool true]∧w.grownBy w' (some bt)∧∃ pt nt ct,Ma W0 w' bt bf (.slice pt nt ct)∧J1 W0 (.slice pt nt ct) S 4∧nt=S.length
theorem J6o {N S:List Jh}{d:Nat}(W0:World)(bt bf:Nat)(h:Dep N d S):∀ (w:World) (pt:Option Addr) (ct nt:Nat),nt=N.length→Ma W0 w bt bf (.slice pt nt ct)→J1 W0 (.slice pt nt ct) N 4→N.length≤1000→
  Calls Tryz.prog 35 #[.pointer (some ⟨bt,0,none⟩),.pointer (some ⟨bf,0,none⟩)] w (fun e w'=>∃ r,e = .returned r∧DepR d S W0 w bt bf r w'):=by
 induction h with
 | @leaf n t h0=>
  intro w pt ct nt hnt he hno hle
  clear hle
  have HE:=ξ he
  obtain⟨b,o,x,rfl,hx,hc,hrest⟩:=Tl hno
  have HRE:=ξ hrest
  have HNT:=ξ hnt
  have t0:w.cell? ⟨bt,0,none⟩=some (.slice (some ⟨b,o,none⟩) nt ct):=he.t.at 0 rfl
  have hnt0:((nt:Int) == 0)=false:=by simp;simp at hnt;omega
  have c0:=hc w he.g 0 _ rfl
  obtain⟨kd,mp,mn,mc,var,pos,ck,cp,cn,cc,row,vp,vn,vc2⟩:=x
  have hkd:kd=0:=hx.kind.trans h0
  subst hkd
  rw[Nat.add_zero] at c0
  have hlt:0 < nt:=by simp at hnt;omega
  have hlt':(0:Int) < (nt:Int):=by omega
  have hlt2:(1:Int)≤(nt:Int):=by omega
  have f1:=Ja.f he.t 0
  clear he hno hx hc hrest hnt
  dsimp only at c0
  by_cases hct:ct=1
  ·subst hct
   obtain⟨W3,hW3⟩:∃ z,w.setCell ⟨bt,0,none⟩ (.slice (some ⟨b,o,none⟩) (nt - 1) 0)=z:=⟨_,rfl⟩
   have HE3:=Ma.set HE.out (.slice (some ⟨b,o,none⟩) (nt - 1) 0)
   rw[hW3] at HE3
   have HE3:=ξ HE3
   have HR3:=ξ (show J1 W0 (.slice (some ⟨b,o,none⟩) (nt - 1) 0) t 4 from(by have:=HRE.out (some ⟨b,o,none⟩) (.inr rfl);exact this))
   have HLN:=ξ (show nt - 1=t.length from by have:=HNT.out;simp at this;omega)
   go_enter Tryz.func35,Tryz.ntmps35
   go_wp2_with fail
   clear t0 hnt0 c0 hlt hlt' hlt2 f1 hW3
   try rw[Exit.noGoto_ret]
   refine bodyPost_ret (by simp[results,Tryz.results35,go_sem];rfl) rfl ?_
   exact⟨_,rfl,rfl,HE3.out.2,_,_,_,HE3.out.1,HR3.out,HLN.out⟩
  ·have hct':(ct == 1)=false:=by simpa using hct
   obtain⟨W3,hW3⟩:∃ z,w.setCell ⟨bt,0,none⟩ (.slice (some ⟨b,o+8,none⟩) (nt - 1) (ct - 1))=z:=⟨_,rfl⟩
   have HE3:=Ma.set HE.out (.slice (some ⟨b,o+8,none⟩) (nt - 1) (ct - 1))
   rw[hW3] at HE3
   have HE3:=ξ HE3
   have HR3:=ξ (show J1 W0 (.slice (some ⟨b,o+8,none⟩) (nt - 1) (ct - 1)) t 4 from(HRE.out _ (.inl rfl)))
   have HLN:=ξ (show nt - 1=t.length from by have:=HNT.out;simp at this;omega)
   go_enter Tryz.func35,Tryz.ntmps35
   go_wp2_with fail
   clear t0 hnt0 c0 hlt hlt' hlt2 f1 hW3
   try rw[Exit.noGoto_ret]
   refine bodyPost_ret (by simp[results,Tryz.results35,go_sem];rfl) rfl ?_
   exact⟨_,rfl,rfl,HE3.out.2,_,_,_,HE3.out.1,HR3.out,HLN.out⟩
 | @split n t r s d e h0 h1 h2 i1 i2=>
  intro w pt ct nt hnt he hno hle
  have HI1:=ξ i1
  have HI2:=ξ i2
  have HD1:=ξ h1.le
  have HD2:=ξ h2.le
  have HLE:=ξ hle
  clear i1 i2 h1 h2 hle
  have HE:=ξ he
  obtain⟨b,o,x,rfl,hx,hc,hrest⟩:=Tl hno
  have HRE:=ξ hrest
  have HNT:=ξ hnt
  have t0:w.cell? ⟨bt,0,none⟩=some (.slice (some ⟨b,o,none⟩) nt ct):=he.t.at 0 rfl
  have hnt0:((nt:Int) == 0)=false:=by simp;simp at hnt;omega
  have c0:=hc w he.g 0 _ rfl
  obtain⟨kd,mp,mn,mc,var,pos,ck,cp,cn,cc,row,vp,vn,vc2⟩:=x
  have hkd:kd=2:=hx.kind.trans h0
  subst hkd
  rw[Nat.add_zero] at c0
  have hlt:0 < nt:=by simp at hnt;omega
  have hlt':(0:Int) < (nt:Int):=by omega
  have hlt2:(1:Int)≤(nt:Int):=by omega
  have f1:=Ja.f he.t 0
  clear he hno hx hc hrest hnt
  dsimp only at c0
  by_cases hct:ct=1
  ·subst hct
   obtain⟨W3,hW3⟩:∃ z,w.setCell ⟨bt,0,none⟩ (.slice (some ⟨b,o,none⟩) (nt - 1) 0)=z:=⟨_,rfl⟩
   have HE3:=Ma.set HE.out (.slice (some ⟨b,o,none⟩) (nt - 1) 0)
   rw[hW3] at HE3
   have HE3:=ξ HE3
   have HR3:=ξ (show J1 W0 (.slice (some ⟨b,o,none⟩) (nt - 1) 0) t 4 from(by have:=HRE.out (some ⟨b,o,none⟩) (.inr rfl);exact this))
   have HLN:=ξ (show nt - 1=t.length from by have:=HNT.out;simp at this;omega)
   have f3:=HE3.out.1.f.at 0 rfl
   unfold depF at f3
   go_enter Tryz.func35,Tryz.ntmps35
   go_wp2_with fail
   clear t0 hnt0 c0 hlt hlt' hlt2 f1 hW3 f3
   refine(HI1.out W3 (some ⟨b,o,none⟩) 0 (nt - 1) HLN.out HE3.out.1 HR3.out (by have:=HLE.out;simp at this;omega)).mono ?_
   rintro _ w4 ⟨r4,rfl,rfl,g4,p4,n4,c4,he4,hno4,hl4⟩
   have HE4:=ξ he4
   have HNO4:=ξ (And.intro hno4 hl4)
   have GG:=ξ (J9 HE3.out.2 g4)
   have f4:=he4.f.at 0 rfl
   unfold depF at f4
   clear he4 hno4 hl4 g4
   go_wp2_with fail
   clear f4
   refine(HI2.out w4 p4 c4 n4 HNO4.out.2 HE4.out HNO4.out.1 (by have:=HD1.out;have:=HLE.out;simp at this;omega)).mono ?_
   rintro _ w5 ⟨r5,rfl,rfl,g5,p5,n5,c5,he5,hno5,hl5⟩
   have HE5:=ξ he5
   have HNO5:=ξ (And.intro hno5 hl5)
   have GG:=ξ (J9 GG.out g5)
   clear he5 hno5 hl5 g5
   have hmx:max (d:Int) (e:Int)=((max d e:Nat):Int):=by omega
   obtain⟨m,hm⟩:∃ m,max d e=m:=⟨_,rfl⟩
   rw[hm] at hmx
   have hmb:m≤1000:=by have:=HD1.out;have:=HD2.out;have:=HLE.out;simp at this;omega
   have hwr:IntKind.i64.wrap (1+(m:Int))=1+(m:Int):=by rw[IntKind.wrap_i64];omega
   have HM:=ξ hm
   clear hm
   go_wp2_with fail
   try rw[Exit.noGoto_ret]
   refine bodyPost_ret (by simp[results,Tryz.results35,go_sem];rfl) rfl ?_
   exact⟨_,rfl,by rw[HM.out];simp,GG.out,_,_,_,HE5.out,HNO5.out.1,HNO5.out.2⟩
  ·have hct':(ct == 1)=false:=by simpa using hct
   obtain⟨W3,hW3⟩:∃ z,w.setCell ⟨bt,0,none⟩ (.slice (some ⟨b,o+8,none⟩) (nt - 1) (ct - 1))=z:=⟨_,rfl⟩
   have HE3:=Ma.set HE.out (.slice (some ⟨b,o+8,none⟩) (nt - 1) (ct - 1))
   rw[hW3] at HE3
   have HE3:=ξ HE3
   have HR3:=ξ (show J1 W0 (.slice (some ⟨b,o+8,none⟩) (nt - 1) (ct - 1)) t 4 from(HRE.out _ (.inl rfl)))
   have HLN:=ξ (show nt - 1=t.length from by have:=HNT.out;simp at this;omega)
   have f3:=HE3.out.1.f.at 0 rfl
   unfold depF at f3
   go_enter Tryz.func35,Tryz.ntmps35
   go_wp2_with fail
   clear t0 hnt0 c0 hlt hlt' hlt2 f1 hW3 f3
   refine(HI1.out W3 (some ⟨b,o+8,none⟩) (ct - 1) (nt - 1) HLN.out HE3.out.1 HR3.out (by have:=HLE.out;simp at this;omega)).mono ?_
   rintro _ w4 ⟨r4,rfl,rfl,g4,p4,n4,c4,he4,hno4,hl4⟩
   have HE4:=ξ he4
   have HNO4:=ξ (And.intro hno4 hl4)
   have GG:=ξ (J9 HE3.out.2 g4)
   have f4:=he4.f.at 0 rfl
   unfold depF at f4
   clear he4 hno4 hl4 g4
   go_wp2_with fail
   clear f4
   refine(HI2.out w4 p4 c4 n4 HNO4.out.2 HE4.out HNO4.out.1 (by have:=HD1.out;have:=HLE.out;simp at this;omega)).mono ?_
   rintro _ w5 ⟨r5,rfl,rfl,g5,p5,n5,c5,he5,hno5,hl5⟩
   have HE5:=ξ he5
   have HNO5:=ξ (And.intro hno5 hl5)
   have GG:=ξ (J9 GG.out g5)
   clear he5 hno5 hl5 g5
   have hmx:max (d:Int) (e:Int)=((max d e:Nat):Int):=by omega
   obtain⟨m,hm⟩:∃ m,max d e=m:=⟨_,rfl⟩
   rw[hm] at hmx
   have hmb:m≤1000:=by have:=HD1.out;have:=HD2.out;have:=HLE.out;simp at this;omega
   have hwr:IntKind.i64.wrap (1+(m:Int))=1+(m:Int):=by rw[IntKind.wrap_i64];omega
   have HM:=ξ hm
   clear hm
   go_wp2_with fail
   try rw[Exit.noGoto_ret]
   refine bodyPost_ret (by simp[results,Tryz.results35,go_sem];rfl) rfl ?_
   exact⟨_,rfl,by rw[HM.out];simp,GG.out,_,_,_,HE5.out,HNO5.out.1,HNO5.out.2⟩
theorem J0T {N:List Jh}{d:Nat}(w:World)(pt:Option Addr)(nt ct:Nat)(hnt:nt=N.length)(hno:J1 w (.slice pt nt ct) N 4)(h:Dep N d [])(hle:N.length≤1000):
  Calls Tryz.prog 18 #[.slice pt nt ct] w (Ret w fun r _=>r = .tuple #[.int .i64 (d:Int),.bool true]):=by
 have HNO:=ξ (And.intro hno hnt)
 have HD:=ξ h
 have B0:=Ja.new w #[.slice pt nt ct] 26
 have B1:=Ja.new (w.alloc (.cells #[.slice pt nt ct] 26)) #[.nilFunc] 82
 simp only[World.size_alloc] at B1
 obtain⟨W,hW⟩:∃ z,(w.alloc (.cells #[.slice pt nt ct] 26)).alloc (.cells #[.nilFunc] 82)=z:=⟨_,rfl⟩
 rw[hW] at B1
 have HB:=ξ (show _∧Ja _ _ #[.slice pt nt ct]∧Ja _ _ #[.nilFunc] from⟨B0.1.trans B1.1,B0.2.grow B1.1,B1.2⟩)
 obtain⟨W2,hW2⟩:∃ z,W.setCell ⟨w.heap.size+1,0,none⟩ (.func (.func 35) #[] #[.pointer (some ⟨w.heap.size,0,none⟩),.pointer (some ⟨w.heap.size+1,0,none⟩)])=z:=⟨_,rfl⟩
 have hu:Upd (w.heap.size+1) W W2:=by rw[← hW2];exact J8 W _ 0 _
 have HE:=ξ (show Ma w W2 w.heap.size (w.heap.size+1) (.slice pt nt ct) from by
  refine⟨by rw[← hW2];exact Gr.set HB.out.1 (by omega) _,HB.out.2.1.upd hu (by omega),?_,by omega,Nat.le_refl _⟩
  have h:=HB.out.2.2.set 0 (depF w.heap.size (w.heap.size+1))
  unfold depF at h ⊢
  rw[hW2] at h
  simpa using h)
 have f0:=Ja.f HB.out.2.2 0
 have z0:W.cell? ⟨w.heap.size+1,0,none⟩=some .nilFunc:=HB.out.2.2.at 0 rfl
 have v0:W2.cell? ⟨w.heap.size+1,0,none⟩=some (.func (.func 35) #[] #[.pointer (some ⟨w.heap.size,0,none⟩),.pointer (some ⟨w.heap.size+1,0,none⟩)]):=HE.out.f.at 0 rfl
 clear hno hnt h B0 B1 hu
 go_enter Tryz.func18,Tryz.ntmps18
 go_wp2_with fail
 clear hW hW2 f0 z0 v0
 refine(J6o w _ _ HD.out W2 pt ct nt HNO.out.2 HE.out HNO.out.1 hle).mono ?_
 rintro _ w3 ⟨r3,rfl,rfl,g3,p3,n3,c3,he3,hno3,hl3⟩
 obtain rfl:n3=0:=hl3
 have G3:=ξ he3.g
 have t0:=he3.t.at 0 rfl
 clear g3 he3 hno3
 go_wp2_with fail
 try rw[Exit.noGoto_ret]
 refine bodyPost_ret (by simp[results,Tryz.results18,go_sem];rfl) rfl ?_
 exact⟨_,rfl,G3.out,rfl⟩
end Prf
end Go.Proofs.YtcjgimlcefhhmaaGreatDoor
