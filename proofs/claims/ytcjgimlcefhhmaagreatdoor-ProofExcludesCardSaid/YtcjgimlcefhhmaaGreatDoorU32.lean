/- Texts: LnE LnF. -/
import Derived.Test.YtcjgimlcefhhmaaGreatDoorU14
import Derived.Test.YtcjgimlcefhhmaaGreatDoorU28
import Derived.Test.YtcjgimlcefhhmaaGreatDoorU31
set_option linter.unusedVariables false
set_option linter.unusedSimpArgs false
set_option maxRecDepth 100000
set_option maxHeartbeats 12800000
namespace Go.Proofs.YtcjgimlcefhhmaaGreatDoor
namespace Prf
open Go.RowKit Go.Lib
theorem J3C (w:World)(bp bq vc c:Nat)(va q:Option Addr)(u1:Value)(p:Prg)(a:Nat→Rat)(i:Nat)(hb:Ja w bp #[.slice va p.vars.length vc,u1])(hq:Ja w bq #[.slice q p.vars.length c])(hv:K3 w (.slice va p.vars.length vc) p.vars)(ha:Ke w (.slice q p.vars.length c) p.vars.length a 80)(hi:i < p.vars.length)(hm:p.vars.length≤1000000):
  Calls Tryz.prog 145 (#[.int .i64 (i:Int)] ++ #[.pointer (some ⟨bq,0,none⟩),.pointer (some ⟨bp,0,none⟩)]) w (Ret w fun r w'=>∃ u,r = .tuple #[.int .i64 (kL p.vars a i),u]∧RatV w' u (a i) 80):=by
 show Calls _ _ #[.int .i64 (i:Int),.pointer (some ⟨bq,0,none⟩),.pointer (some ⟨bp,0,none⟩)] _ _
 obtain⟨b,o,x,rfl,hx,hc⟩:=Mn hv rfl hi
 have HXV:=ξ hx
 have HA:=ξ ha
 have HC:=ξ hc
 have B5:=box3 w (.bool false) (.slice none 0 0) (.slice none 0 0) 68
 have HB:=ξ B5
 have HP:=ξ (hb.grow B5.1)
 have HQ:=ξ (hq.grow B5.1)
 have z0:=HQ.out.at 0 rfl
 have hi':(i:Int) < (p.vars.length:Int):=by omega
 clear hb hq hv ha hx hc B5
 go_enter Tryz.func145,Tryz.ntmps145
 go_wp2_with fail
 clear z0
 generalize hb5:w.heap.size=b5 at HB ⊢
 generalize w.alloc _=W at HB HP HQ ⊢
 have HB5:=ξ (show w.heap.size≤b5 from by omega)
 have G:=ξ HB.out.1
 have T5:=ξ HB.out.2
 clear hb5 HB
 refine(l_at _ q p.vars.length c a 80 i (a i) (HA.out.grow G.out) (fun _ _=>by simp) (fun h=>absurd ⟨by omega,by omega⟩ h)).mono ?_
 rintro _ w1 ⟨r1,rfl,g1,h1⟩
 have H1:=ξ h1
 have G:=ξ (G.out.trans g1)
 have T5:=ξ (T5.out.grow g1)
 have HP:=ξ (HP.out.grow g1)
 have HQ:=ξ (HQ.out.grow g1)
 clear h1 g1
 go_wp2_with fail
 obtain⟨cs,hcs⟩:∃ c,sgn (a i).num=c:=⟨_,rfl⟩
 refine(Pu w1 r1 (a i) cs 80 H1.out hcs (by decide)).mono ?_
 rintro _ w2 ⟨_,rfl,g2,rfl⟩
 have G:=ξ (G.out.trans g2)
 have T5:=ξ (T5.out.grow g2)
 have HP:=ξ (HP.out.grow g2)
 have HQ:=ξ (HQ.out.grow g2)
 have HSG:=ξ (Rw hcs).1
 clear g2 hcs H1
 by_cases hneg:cs < 0
 ·have HK:=ξ (show kL p.vars a i=x.up from by
   unfold kL
   rw[HXV.out]
   simp only[if_pos (HSG.out.1 hneg)])
  go_wp2_with fail
  have y0:=HP.out.c 0 rfl
  have z0:=HQ.out.c 0 rfl
  have cc:=fun w' g=>(HC.out w' (G.out.trans g)).2.1
  have g0:Gr w2 w2.drew:=(Gr.refl _).drew
  have GZ:=ξ g0
  refine Jp [(0,true),(1,true),(2,true),(3,true),(4,true),(5,true),(6,true),(7,true),(8,false),(9,true),(10,false)] (by kernel_rfl) (by kernel_rfl) rfl (by kernel_rfl) (fun _ _ d _ _ h=>by cases d<;>exact h) ?_
  repeat(refine Jf (v:=?_) g0 rfl rfl (fun w' hg=>?_) (fun K hK=>?_);rotate_left;(go_simp;rfl);go_simp;refine hK _ _ ?_;clear hK K)
  refine Jd (args:=?_) rfl rfl rfl rfl rfl rfl (by kernel_rfl) (by kernel_rfl) ?_ (fun K hK=>?_)
  rotate_left
  ·go_simp;rfl
  refine(l_at _ q p.vars.length c a 80 i (a i) (HA.out.grow (G.out.trans GZ.out)) (fun _ _=>by simp) (fun h=>absurd ⟨by omega,by omega⟩ h)).mono ?_
  rintro _ w3 ⟨r1,rfl,g1,h1⟩
  refine⟨_,rfl,g1,?_⟩
  go_simp
  refine hK _ _ ?_
  clear hK K
  have GZ:=ξ (GZ.out.trans g1)
  have g4:=GZ.out
  repeat(refine Jf (v:=?_) g4 rfl rfl (fun w' hg=>?_) (fun K hK=>?_);rotate_left;(go_simp;rfl);go_simp;refine hK _ _ ?_;clear hK K)
  obtain⟨s8,p8,k8,c8,e8,m8,n8,rfl⟩:=h1.agg
  have T5:=T5.out.grow GZ.out
  have f0:=T5.load.1
  have f1:=T5.load.2.1
  have f2:=T5.load.2.2
  have f3:=T5.f0 0
  have f4:=T5.f0 1
  have f5:=T5.f0 2
  have HX:=ξ (show Gr w (set3 w3 b5 (.bool s8) (.slice p8 k8 c8) (.slice e8 m8 n8))∧Jk (set3 w3 b5 (.bool s8) (.slice p8 k8 c8) (.slice e8 m8 n8)) b5 (.bool s8) (.slice p8 k8 c8) (.slice e8 m8 n8)∧RatV (set3 w3 b5 (.bool s8) (.slice p8 k8 c8) (.slice e8 m8 n8)) (.agg #[.bool s8,.slice p8 k8 c8,.slice e8 m8 n8]) (a i) 80 from
   ⟨Ko (G.out.trans GZ.out) HB5.out _ _ _,T5.set _ _ _,h1.upd T5.noInt (upd3 _ _ _ _ _)⟩)
  clear h1 T5 y0 z0 cc
  refine Jj rfl rfl (fun K hK=>?_)
  go_simp
  refine⟨fun h=>Bool.noConfusion h,hK _ _ ?_⟩
  clear hK K
  unfold set3 at HX
  generalize ((w3.setCell _ _).setCell _ _).setCell _ _=W5 at HX ⊢
  refine Ji ?_
  clear f0 f1 f2 f3 f4 f5 g0 g1 g4
  go_wp2_with fail
  try rw[Exit.noGoto_ret]
  have T0_0:=HX.out.2.1.load.1
  have T0_1:=HX.out.2.1.load.2.1
  have T0_2:=HX.out.2.1.load.2.2
  refine bodyPost_ret (by simp[results,Tryz.results145,go_sem,T0_0,T0_1,T0_2];rfl) rfl ?_
  exact⟨_,rfl,HX.out.1,_,by rw[HK.out],HX.out.2.2⟩
 ·have hneg':0≤cs:=by omega
  have HK:=ξ (show kL p.vars a i=x.lo from by
   unfold kL
   rw[HXV.out]
   simp only[if_neg (fun h=>hneg (HSG.out.2 h))])
  clear hneg
  go_wp2_with fail
  have y0:=HP.out.c 0 rfl
  have z0:=HQ.out.c 0 rfl
  have cc:=fun w' g=>(HC.out w' (G.out.trans g)).1
  have g0:Gr w2 w2.drew:=(Gr.refl _).drew
  have GZ:=ξ g0
  refine Jp [(0,true),(1,true),(2,true),(3,true),(4,true),(5,true),(6,true),(7,true),(8,false),(9,true),(10,false)] (by kernel_rfl) (by kernel_rfl) rfl (by kernel_rfl) (fun _ _ d _ _ h=>by cases d<;>exact h) ?_
  repeat(refine Jf (v:=?_) g0 rfl rfl (fun w' hg=>?_) (fun K hK=>?_);rotate_left;(go_simp;rfl);go_simp;refine hK _ _ ?_;clear hK K)
  refine Jd (args:=?_) rfl rfl rfl rfl rfl rfl (by kernel_rfl) (by kernel_rfl) ?_ (fun K hK=>?_)
  rotate_left
  ·go_simp;rfl
  refine(l_at _ q p.vars.length c a 80 i (a i) (HA.out.grow (G.out.trans GZ.out)) (fun _ _=>by simp) (fun h=>absurd ⟨by omega,by omega⟩ h)).mono ?_
  rintro _ w3 ⟨r1,rfl,g1,h1⟩
  refine⟨_,rfl,g1,?_⟩
  go_simp
  refine hK _ _ ?_
  clear hK K
  have GZ:=ξ (GZ.out.trans g1)
  have g4:=GZ.out
  repeat(refine Jf (v:=?_) g4 rfl rfl (fun w' hg=>?_) (fun K hK=>?_);rotate_left;(go_simp;rfl);go_simp;refine hK _ _ ?_;clear hK K)
  obtain⟨s8,p8,k8,c8,e8,m8,n8,rfl⟩:=h1.agg
  have T5:=T5.out.grow GZ.out
  have f0:=T5.load.1
  have f1:=T5.load.2.1
  have f2:=T5.load.2.2
  have f3:=T5.f0 0
  have f4:=T5.f0 1
  have f5:=T5.f0 2
  have HX:=ξ (show Gr w (set3 w3 b5 (.bool s8) (.slice p8 k8 c8) (.slice e8 m8 n8))∧Jk (set3 w3 b5 (.bool s8) (.slice p8 k8 c8) (.slice e8 m8 n8)) b5 (.bool s8) (.slice p8 k8 c8) (.slice e8 m8 n8)∧RatV (set3 w3 b5 (.bool s8) (.slice p8 k8 c8) (.slice e8 m8 n8)) (.agg #[.bool s8,.slice p8 k8 c8,.slice e8 m8 n8]) (a i) 80 from
   ⟨Ko (G.out.trans GZ.out) HB5.out _ _ _,T5.set _ _ _,h1.upd T5.noInt (upd3 _ _ _ _ _)⟩)
  clear h1 T5 y0 z0 cc
  refine Jj rfl rfl (fun K hK=>?_)
  go_simp
  refine⟨fun h=>Bool.noConfusion h,hK _ _ ?_⟩
  clear hK K
  unfold set3 at HX
  generalize ((w3.setCell _ _).setCell _ _).setCell _ _=W5 at HX ⊢
  refine Ji ?_
  clear f0 f1 f2 f3 f4 f5 g0 g1 g4
  go_wp2_with fail
  try rw[Exit.noGoto_ret]
  have T0_0:=HX.out.2.1.load.1
  have T0_1:=HX.out.2.1.load.2.1
  have T0_2:=HX.out.2.1.load.2.2
  refine bodyPost_ret (by simp[results,Tryz.results145,go_sem,T0_0,T0_1,T0_2];rfl) rfl ?_
  exact⟨_,rfl,HX.out.1,_,by rw[HK.out],HX.out.2.2⟩
theorem Yj (w:World)(v:Value)(p:Prg)(q:Option Addr)(c:Nat)(a:Nat→Rat)(hp:Jv w v p)(ha:Ke w (.slice q p.vars.length c) p.vars.length a 80)(hk:Jr p)(hw:Whole p)
  (hz:∀ j,j≤p.vars.length→Sz 200 (sumQ (lTerm p.vars a) j)) (hz0:∀ j,Sz 200 (lTerm p.vars a j)):
  Calls Tryz.prog 91 #[v,.slice q p.vars.length c] w (Ret w fun r w'=>(Mb p.vars∧r = .tuple #[.agg #[.bool false,.slice none 0 0,.slice none 0 0],.bool false])∨(¬ Mb p.vars∧∃ u,r = .tuple #[u,.bool true]∧RatC w' u (leastS p.vars a))):=by
 have HA:=ξ ha
 have HK:=ξ hk
 have HW:=ξ hw
 have HZ:=ξ (And.intro hz hz0)
 have hn:=hk.1
 clear ha hk hw hz hz0
 obtain⟨va,vc,vb,vd,rfl,hv,hr⟩:=hp
 have HV:=ξ hv
 clear hv hr
 have B0:=Ja.new w #[.slice va p.vars.length vc,.slice vb p.rows.length vd] 25
 have B1:=Ja.new (w.alloc (.cells #[.slice va p.vars.length vc,.slice vb p.rows.length vd] 25)) #[.slice q p.vars.length c] 33
 have B2:=box3 ((w.alloc (.cells #[.slice va p.vars.length vc,.slice vb p.rows.length vd] 25)).alloc (.cells #[.slice q p.vars.length c] 33)) (.bool false) (.slice none 0 0) (.slice none 0 0) 68
 simp only[World.size_alloc] at B1 B2
 have HB:=ξ (show Gr w _∧Ja _ w.heap.size #[.slice va p.vars.length vc,.slice vb p.rows.length vd]∧Ja _ (w.heap.size+1) #[.slice q p.vars.length c]∧Jk _ (w.heap.size+1+1) (.bool false) (.slice none 0 0) (.slice none 0 0) from⟨B0.1.trans (B1.1.trans B2.1),B0.2.grow (B1.1.trans B2.1),B1.2.grow B2.1,B2.2⟩)
 clear B0 B1 B2
 unfold prgV
 go_enter Tryz.func91,Tryz.ntmps91
 go_wp2_with fail
 generalize hb5:w.heap.size+1+1=b5 at HB ⊢
 generalize hbq:w.heap.size+1=bq at HB ⊢
 generalize hbp:w.heap.size=bp at HB ⊢
 generalize ((w.alloc _).alloc _).alloc _=W at HB ⊢
 have G:=ξ HB.out.1
 have TP:=ξ HB.out.2.1
 have TQ:=ξ HB.out.2.2.1
 have T5:=ξ HB.out.2.2.2
 have HBB:=ξ (show w.heap.size≤b5 from by omega)
 clear HB hb5 hbq hbp
 go_loopw [11] (fun i w9=>∃ k:Nat,i = .int .i64 (k:Int)∧k≤p.vars.length∧(∀ (j:Nat) (x:VarM),j < k→p.vars[j]?=some x→x.lo≤x.up)∧Gr W w9) (fun i _=>p.vars.length - (RowKit.intOf i).toNat)
 case atStart=>exact⟨0,rfl,Nat.zero_le _,fun j x hj=>by omega,Gr.refl _⟩
 case round=>
  obtain⟨k,rfl,hk,hq,hg⟩:=hrel
  have HQ:=ξ hq
  have GL:=ξ hg
  clear hq hg
  by_cases hlt:k < p.vars.length
  ·have hlt':(k:Int) < (p.vars.length:Int):=by omega
   obtain⟨b,o,t,rfl,ht,hc⟩:=Mn (SlL.grow HV.out (G.out.trans GL.out)) rfl hlt
   obtain⟨c0,c1,c2,c3,c4⟩:=hc _ (Gr.refl _)
   have HT:=ξ ht
   have hop:=(HW.out t (List.mem_of_getElem? ht)).2
   rw[hop] at c2
   have hk1:IntKind.i64.wrap ((k:Int)+1)=(k:Int)+1:=by rw[IntKind.wrap_i64];omega
   have GX:=ξ (GL.out.trans (show Gr wr (wr.alloc (.cells #[.int .i64 t.lo,.int .i64 t.up,.bool false,.bool t.ig,.int .i64 t.cost] 62)) from(Gr.refl _).alloc _))
   clear hc ht hop
   by_cases hb:t.up < t.lo
   ·have H:=ξ (show Mb p.vars from⟨t,List.mem_of_getElem? HT.out,hb⟩)
    have T5:=ξ (T5.out.grow GX.out)
    have f0:=T5.out.load.1
    have f1:=T5.out.load.2.1
    have f2:=T5.out.load.2.2
    have f3:=T5.out.f0 0
    have f4:=T5.out.f0 1
    have f5:=T5.out.f0 2
    have HXX:=ξ (show Gr w (set3 _ b5 (.bool false) (.slice none 0 0) (.slice none 0 0))∧Jk (set3 _ b5 (.bool false) (.slice none 0 0) (.slice none 0 0)) b5 (.bool false) (.slice none 0 0) (.slice none 0 0) from⟨Ko (G.out.trans GX.out) HBB.out _ _ _,T5.out.set _ _ _⟩)
    go_wp2_with fail
    try rw[Exit.noGoto_ret]
    unfold set3 at HXX
    generalize (((wr.alloc _).setCell _ _).setCell _ _).setCell _ _=W5 at HXX ⊢
    clear f0 f1 f2 f3 f4 f5 c0 c1 c2 c3 c4
    have T0_0:=HXX.out.2.load.1
    have T0_1:=HXX.out.2.load.2.1
    have T0_2:=HXX.out.2.load.2.2
    refine bodyPost_ret (by simp[results,Tryz.results91,go_sem,T0_0,T0_1,T0_2];rfl) rfl ?_
    exact⟨_,rfl,HXX.out.1,.inl ⟨H.out,rfl⟩⟩
   ·have hb':t.lo≤t.up:=by omega
    have HBB:=ξ hb'
    clear hb
    go_wp2_with fail
    refine⟨⟨k+1,by go_num,by omega,fun j x hj hx=>?_,GX.out⟩,by simp[RowKit.intOf];omega⟩
    by_cases e:j=k
    ·subst e
     rw[HT.out] at hx
     cases hx
     exact HBB.out
    ·exact HQ.out j x (by omega) hx
  ·obtain rfl:k=p.vars.length:=by omega
   have HE:=ξ (show ¬ Mb p.vars from fun⟨v,hv,h⟩=>by
    obtain⟨i,hi,rfl⟩:=List.getElem_of_mem hv
    have:=HQ.out i _ hi (List.getElem?_eq_getElem hi)
    omega)
   have TP:=ξ (TP.out.grow GL.out)
   have TQ:=ξ (TQ.out.grow GL.out)
   have T5:=ξ (T5.out.grow GL.out)
   have G:=ξ (G.out.trans GL.out)
   have y0:=TP.out.at 0 rfl
   clear HQ GL
   go_wp2_with fail
   clear y0
   have HTF:=ξ (show Rt wr (.func (.func 145) #[] #[.pointer (some ⟨bq,0,none⟩),.pointer (some ⟨bp,0,none⟩)]) p.vars.length (kL p.vars a) a 80 from
    ⟨_,_,rfl,enters_of Tryz.func145 (by kernel_rfl) rfl,fun w' g i hi=>J3C w' bp bq vc c va q _ p a i (TP.out.grow g) (TQ.out.grow g) (SlL.grow HV.out (G.out.trans g)) (HA.out.grow (G.out.trans g)) hi (by omega)⟩)
   have HS:=ξ (show ∀ i,sumQ (fun j=>(kL p.vars a j:Rat) * a j) i=sumQ (lTerm p.vars a) i from fun i=>P1 fun j _=>(lT_k p.vars a j).symm)
   refine(Yn wr _ p.vars.length (kL p.vars a) a 80 HTF.out (fun i hi=>by
    obtain⟨r,h1,h2⟩:=Ut hi
    have:=HK.out.2.2.1 r h2
    unfold kL;rw[h1]
    show I64 (if a i < 0 then r.up else r.lo)
    split
    ·exact Js this.2.1
    ·exact Js this.1) (fun i hi=>by rw[HS.out];exact Sz.mono' (HZ.out.1 i hi) (by decide)) (fun i hi=>by rw[← lT_k];exact Sz.mono' (HZ.out.2 i) (by decide)) (by decide) (by omega)).mono ?_
   rintro _ w4 ⟨r4,rfl,g4,h4⟩
   rw[HS.out] at h4
   obtain⟨s8,p8,k8,c8,e8,m8,n8,rfl⟩:=h4.agg
   have h5:=T5.out.grow g4
   have f0:=h5.load.1
   have f1:=h5.load.2.1
   have f2:=h5.load.2.2
   have f3:=h5.f0 0
   have f4:=h5.f0 1
   have f5:=h5.f0 2
   have HX:=ξ (show Gr w (set3 w4 b5 (.bool s8) (.slice p8 k8 c8) (.slice e8 m8 n8))∧Jk (set3 w4 b5 (.bool s8) (.slice p8 k8 c8) (.slice e8 m8 n8)) b5 (.bool s8) (.slice p8 k8 c8) (.slice e8 m8 n8)∧RatC (set3 w4 b5 (.bool s8) (.slice p8 k8 c8) (.slice e8 m8 n8)) (.agg #[.bool s8,.slice p8 k8 c8,.slice e8 m8 n8]) (leastS p.vars a) from
    ⟨Ko (G.out.trans g4) HBB.out _ _ _,h5.set _ _ _,h4.upd h5.noInt (upd3 _ _ _ _ _)⟩)
   clear h4 g4 h5 HTF
   go_wp2_with fail
   clear f0 f1 f2 f3 f4 f5
   unfold set3 at HX
   generalize ((w4.setCell _ _).setCell _ _).setCell _ _=W5 at HX ⊢
   have T0_0:=HX.out.2.1.load.1
   have T0_1:=HX.out.2.1.load.2.1
   have T0_2:=HX.out.2.1.load.2.2
   refine bodyPost_ret (by simp[results,Tryz.results91,go_sem,T0_0,T0_1,T0_2];rfl) rfl ?_
   exact⟨_,rfl,HX.out.1,.inr ⟨HE.out,_,rfl,HX.out.2.2⟩⟩
def J1k (w:World)(v:Value)(n:Nat)(x:Nat→Rat):Prop:=∃ (f:Nat) (caps:Array Value),v = .func (.func f) #[] caps∧(∀ args w,(callFunc f args).run Tryz.prog w = .ok (.enter f args) w)∧
 ∀ w',Gr w w'→∀ i,i < n→Calls Tryz.prog f (#[.int .i64 (i:Int)] ++ caps) w' (Ret w' fun r w''=>RatC w'' r (x i))
theorem J2a (w:World)(v:Value)(n:Nat)(x:Nat→Rat)(hf:J1k w v n x)(hz:∀ i,i < n→Sz 80 (x i))(hn:n≤1000000):
  Calls Tryz.prog 92 #[.int .i64 (n:Int),v] w (Ret w fun r w'=>∃ b,r = .slice (some ⟨b,0,none⟩) n n∧w.heap.size≤b∧Jo w' b n x 80):=by
 obtain⟨f,caps,rfl,he,h5⟩:=hf
 have H5:=ξ h5
 have HZ:=ξ hz
 clear h5 hz
 go_enter Tryz.func92,Tryz.ntmps92
 go_wp2_with (at_make;refine Hold.hold ?_)
 refine Hold.go ?_
 refine Rk rfl _ _ 33 rfl (by kernel_rfl) n _ rfl rfl rfl (by omega) ?_
 intro W1 ho g1
 have HS0:=ξ (And.intro g1 ho)
 generalize hbo:w.heap.size=bo at HS0 ⊢
 have HBO:=ξ (show w.heap.size≤bo from by omega)
 clear ho g1 hbo
 go_wp2_with fail
 go_loopw [11] (fun i w9=>∃ k:Nat,i = .int .i64 (k:Int)∧k≤n∧Gr w w9∧Jo w9 bo n (fun j=>if j < k then x j else 0) 80) (fun i _=>n - (RowKit.intOf i).toNat)
 case atStart=>exact⟨0,rfl,Nat.zero_le _,HS0.out.1,HS0.out.2.congr fun j _=>by simp⟩
 case round=>
  clear HS0
  obtain⟨k,rfl,hk,hg,hq⟩:=hrel
  have G:=ξ hg
  have HS:=ξ hq
  clear hg hq
  by_cases hlt:k < n
  ·have hlt':(k:Int) < (n:Int):=by omega
   have hk1:IntKind.i64.wrap ((k:Int)+1)=(k:Int)+1:=by rw[IntKind.wrap_i64];omega
   go_wp2_with fail
   refine(H5.out wr G.out k hlt).mono ?_
   rintro _ w2 ⟨r2,rfl,g2,h2⟩
   have HS:=ξ (HS.out.grow g2)
   have G:=ξ (G.out.trans g2)
   obtain⟨s8,p8,k8,c8,e8,m8,n8,rfl⟩:=h2.agg
   obtain⟨t1,-,hc1⟩:=HS.out.at hlt
   obtain⟨f0,f1,f2⟩:=hc1 w2 (Gr.refl _)
   have f3:=HS.out.f (k * 3)
   have f4:=HS.out.f (k * 3+1)
   have f5:=HS.out.f (k * 3+2)
   have HNX:=ξ (show Gr w (setRat w2 bo k ⟨s8,p8,k8,c8,e8,m8,n8⟩)∧Jo (setRat w2 bo k ⟨s8,p8,k8,c8,e8,m8,n8⟩) bo n (fun j=>if j < k+1 then x j else 0) 80 from
    ⟨Qq G.out HBO.out _ _,HS.out.set hlt (t:=⟨s8,p8,k8,c8,e8,m8,n8⟩) (by
     show RatV w2 _ (if k < k+1 then x k else 0) 80
     rw[if_pos (by omega)]
     exact h2.v (HZ.out k hlt)) fun j hj hne=>by
     show(if j < k then x j else 0)=if j < k+1 then x j else 0
     by_cases h:j < k
     ·rw[if_pos h,if_pos (by omega)]
     ·rw[if_neg h,if_neg (by omega)]⟩)
   clear h2 g2 hc1
   go_wp2_with fail
   unfold setRat at HNX
   dsimp only at HNX
   generalize ((w2.setCell _ _).setCell _ _).setCell _ _=W5 at HNX ⊢
   clear f0 f1 f2 f3 f4 f5
   exact⟨⟨k+1,by go_num,by omega,HNX.out.1,HNX.out.2⟩,by simp[RowKit.intOf];omega⟩
  ·obtain rfl:k=n:=by omega
   go_wp2_with fail
   go_ret
   exact⟨_,rfl,G.out,bo,rfl,HBO.out,HS.out.congr fun j hj=>by rw[if_pos hj]⟩
theorem J28 (w:World)(bq bo n i:Nat)(a:Nat→Rat)(hq:Ja w bq #[.slice (some ⟨bo,0,none⟩) n n])(ho:Jo w bo n a 80)(hi:i < n)(hm:n≤1000000):
  Calls Tryz.prog 93 (#[.int .i64 (i:Int)] ++ #[.pointer (some ⟨bq,0,none⟩)]) w (Ret w fun r w'=>RatC w' r (- a i)):=by
 show Calls _ _ #[.int .i64 (i:Int),.pointer (some ⟨bq,0,none⟩)] _ _
 have B5:=box3 w (.bool false) (.slice none 0 0) (.slice none 0 0) 68
 have HB:=ξ B5
 have z0:=(hq.grow B5.1).at 0 rfl
 obtain⟨t0,hv0,hc0⟩:=(ho.grow B5.1).at hi
 obtain⟨e0,e1,e2⟩:=hc0 _ (Gr.refl _)
 have HV0:=ξ hv0
 have hi':(i:Int) < (n:Int):=by omega
 clear hq ho hc0 hv0 B5
 go_enter Tryz.func93,Tryz.ntmps93
 go_wp2_with fail
 clear z0 e0 e1 e2
 generalize hb5:w.heap.size=b5 at HB ⊢
 generalize w.alloc _=W at HB HV0 ⊢
 have HB5:=ξ (show w.heap.size≤b5 from by omega)
 clear hb5
 refine(Q0 W _ (a i) _ 80 HV0.out rfl (by decide)).mono ?_
 rintro _ w4 ⟨r4,rfl,g4,h4⟩
 obtain⟨s8,p8,k8,c8,e8,m8,n8,rfl⟩:=h4.agg
 have h5:=HB.out.2.grow g4
 have f0:=h5.load.1
 have f1:=h5.load.2.1
 have f2:=h5.load.2.2
 have f3:=h5.f0 0
 have f4:=h5.f0 1
 have f5:=h5.f0 2
 have HX:=ξ (show Gr w (set3 w4 b5 (.bool s8) (.slice p8 k8 c8) (.slice e8 m8 n8))∧Jk (set3 w4 b5 (.bool s8) (.slice p8 k8 c8) (.slice e8 m8 n8)) b5 (.bool s8) (.slice p8 k8 c8) (.slice e8 m8 n8)∧RatC (set3 w4 b5 (.bool s8) (.slice p8 k8 c8) (.slice e8 m8 n8)) (.agg #[.bool s8,.slice p8 k8 c8,.slice e8 m8 n8]) (- a i) from
  ⟨Ko (HB.out.1.trans g4) HB5.out _ _ _,h5.set _ _ _,h4.upd h5.noInt (upd3 _ _ _ _ _)⟩)
 clear h4 g4 h5
 go_wp2_with fail
 clear f0 f1 f2 f3 f4 f5
 unfold set3 at HX
 generalize ((w4.setCell _ _).setCell _ _).setCell _ _=W5 at HX ⊢
 have T0_0:=HX.out.2.1.load.1
 have T0_1:=HX.out.2.1.load.2.1
 have T0_2:=HX.out.2.1.load.2.2
 refine bodyPost_ret (by simp[results,Tryz.results93,go_sem,T0_0,T0_1,T0_2];rfl) rfl ?_
 exact⟨_,rfl,HX.out.1,HX.out.2.2⟩
def infNew:Nat→LateN.NewS:=fun _=>⟨68,#[.bool false,.slice none 0 0,.slice none 0 0],fun b => .pointer (some ⟨b,0,none⟩)⟩
theorem J20 {x y:Rat}{c:Int}(h:cmpQ x y=c):0 < c↔y < x:=R3 h
theorem J29 (w:World)(v:Value)(p:Prg)(q:Option Addr)(c:Nat)(y:List Rat)(hp:Jv w v p)(hy:Kx w (.slice q y.length c) y 4)(hc:Calm p y)(hk:Jr p)(hw:Whole p):
  Calls Tryz.prog 44 #[v,.slice q y.length c] w (Ret w fun r _=>Jb (Ms p y) r):=by
 have HY:=ξ hy
 have HC:=ξ hc
 have HK:=ξ hk
 have HW:=ξ hw
 have HP:=ξ hp
 have hn:=hk.1
 have hm:=hk.2.1
 have hnl:∀ r ∈ p.rows,r.name.length≤1000000:=fun r hr=>by have:=(hk.2.2.2 r hr).2.2.1;omega
 have hpi:PrgI p:=Jr.i HK.out
 clear hy hc hk hw
 obtain⟨va,vc,vb,vd,rfl,hv,hr⟩:=hp
 have HV:=ξ hv
 have HR:=ξ hr
 obtain⟨_,_,_,hvb1,hvb2⟩:=SlL.parts hv
 obtain⟨_,_,_,hrb1,hrb2⟩:=hr.parts
 clear hv hr
 have B0:=Ja.new w #[.slice va p.vars.length vc,.slice vb p.rows.length vd] 25
 have HB:=ξ B0
 unfold prgV
 clear B0
 unfold prgV at HP
 go_enter Tryz.func44,Tryz.ntmps44
 go_wp2_with fail
 generalize w.heap.size=bp at HB ⊢
 generalize w.alloc _=W at HB ⊢
 have G:=ξ HB.out.1
 have TP:=ξ HB.out.2
 clear HB
 refine(S4 W _ p (HP.out.grow G.out) hpi hnl (by omega) (by omega)).mono ?_
 rintro _ w1 ⟨r1,rfl,g1,h1⟩
 have G:=ξ (G.out.trans g1)
 have TP:=ξ (TP.out.grow g1)
 rcases h1.cases with⟨rfl,k1⟩|⟨rfl,k1⟩
 rotate_left
 ·exact absurd HK.out k1
 clear h1 k1 g1 hnl hpi
 have y0:=TP.out.at 0 rfl
 have y1:=TP.out.at 1 rfl
 go_wp2_with fail
 clear y0 y1
 refine(Yl w1 _ p q c y 4 (HP.out.grow G.out) (HY.out.grow G.out) (by decide) (by omega)).mono ?_
 rintro _ w2 ⟨r1,rfl,g1,h1⟩
 have G:=ξ (G.out.trans g1)
 have TP:=ξ (TP.out.grow g1)
 rcases h1.cases with⟨rfl,k1⟩|⟨rfl,k1⟩
 rotate_left
 ·have H:=ξ (show ¬ Ms p y from fun h=>k1 h.1)
  clear h1 k1 g1
  go_wp2_with fail
  try rw[Exit.noGoto_ret]
  go_ret
  exact⟨_,rfl,G.out,Jb.no H.out⟩
 have H1:=ξ k1
 clear h1 k1 g1
 have y0:=TP.out.at 0 rfl
 go_wp2_with fail
 clear y0
 go_loopw [23] (fun i w9=>∃ k:Nat,i = .int .i64 (k:Int)∧k≤p.vars.length∧(∀ (j:Nat) (x:VarM),j < k→p.vars[j]?=some x→x.lo≤x.up)∧Gr w2 w9) (fun i _=>p.vars.length - (RowKit.intOf i).toNat)
 case atStart=>exact⟨0,rfl,Nat.zero_le _,fun j x hj=>by omega,Gr.refl _⟩
 case round=>
  obtain⟨k,rfl,hk,hq,hg⟩:=hrel
  have HQ:=ξ hq
  have GL:=ξ hg
  clear hq hg
  by_cases hlt:k < p.vars.length
  ·have hlt':(k:Int) < (p.vars.length:Int):=by omega
   obtain⟨b,o,t,rfl,ht,hc⟩:=Mn (SlL.grow HV.out (G.out.trans GL.out)) rfl hlt
   obtain⟨c0,c1,c2,c3,c4⟩:=hc _ (Gr.refl _)
   have HT:=ξ ht
   have hop:=(HW.out t (List.mem_of_getElem? ht)).2
   rw[hop] at c2
   have hk1:IntKind.i64.wrap ((k:Int)+1)=(k:Int)+1:=by rw[IntKind.wrap_i64];omega
   have GX:=ξ (GL.out.trans (show Gr wr (wr.alloc (.cells #[.int .i64 t.lo,.int .i64 t.up,.bool false,.bool t.ig,.int .i64 t.cost] 62)) from(Gr.refl _).alloc _))
   clear hc ht hop
   by_cases hb:t.up < t.lo
   ·have H:=ξ (show Ms p y from⟨H1.out,.inl ⟨t,List.mem_of_getElem? HT.out,hb⟩⟩)
    go_wp2_with fail
    try rw[Exit.noGoto_ret]
    go_ret
    exact⟨_,rfl,G.out.trans GX.out,Jb.yes H.out⟩
   ·have hb':t.lo≤t.up:=by omega
    have HBB:=ξ hb'
    clear hb
    go_wp2_with fail
    refine⟨⟨k+1,by go_num,by omega,fun j x hj hx=>?_,GX.out⟩,by simp[RowKit.intOf];omega⟩
    by_cases e:j=k
    ·subst e
     rw[HT.out] at hx
     cases hx
     exact HBB.out
    ·exact HQ.out j x (by omega) hx
  ·obtain rfl:k=p.vars.length:=by omega
   have HE:=ξ (show ¬ Mb p.vars from fun⟨v,hv,h⟩=>by
    obtain⟨i,hi,rfl⟩:=List.getElem_of_mem hv
    have:=HQ.out i _ hi (List.getElem?_eq_getElem hi)
    omega)
   have TP:=ξ (TP.out.grow GL.out)
   have G:=ξ (G.out.trans GL.out)
   have y0:=TP.out.at 0 rfl
   have y1:=TP.out.at 1 rfl
   clear HQ GL
   go_wp2_with fail
   clear y0 y1
   refine(Yi wr _ p q c y (HP.out.grow G.out) (HY.out.grow G.out) HC.out HK.out).mono ?_
   rintro _ w3 ⟨r3,rfl,g3,bo,u,rfl,hbo,ho,hu⟩
   obtain⟨u0,rfl,hu⟩:=Pv hu
   have B7:=Ja.new w3 #[.slice (some ⟨bo,0,none⟩) p.vars.length p.vars.length] 33
   have B8:=box3 (w3.alloc (.cells #[.slice (some ⟨bo,0,none⟩) p.vars.length p.vars.length] 33)) (.bool u0.n) (.slice u0.p u0.k u0.c) (.slice u0.q u0.m u0.e) 68
   simp only[World.size_alloc] at B8
   have HB8:=ξ (show Gr w _∧Ja _ bp #[.slice va p.vars.length vc,.slice vb p.rows.length vd]∧Ja _ w3.heap.size #[.slice (some ⟨bo,0,none⟩) p.vars.length p.vars.length]∧Jk _ (w3.heap.size+1) (.bool u0.n) (.slice u0.p u0.k u0.c) (.slice u0.q u0.m u0.e)∧Jo _ bo p.vars.length (combA p y) 80∧RatC _ u0.v (combB p y) from
    ⟨G.out.trans (g3.trans (B7.1.trans B8.1)),TP.out.grow (g3.trans (B7.1.trans B8.1)),B7.2.grow B8.1,B8.2,ho.grow (B7.1.trans B8.1),hu.grow (B7.1.trans B8.1)⟩)
   clear ho hu g3 B7 B8 TP G hbo
   unfold RatM.v
   go_wp2_with fail
   generalize w3.heap.size+1=b8 at HB8 ⊢
   generalize w3.heap.size=b7 at HB8 ⊢
   generalize (w3.alloc _).alloc _=W3 at HB8 ⊢
   have g0:Gr W3 W3.drew:=(Gr.refl _).drew
   have HS:=ξ (show Gr w W3.drew∧Ja W3.drew bp #[.slice va p.vars.length vc,.slice vb p.rows.length vd]∧Ja W3.drew b7 #[.slice (some ⟨bo,0,none⟩) p.vars.length p.vars.length]∧Jk W3.drew b8 (.bool u0.n) (.slice u0.p u0.k u0.c) (.slice u0.q u0.m u0.e)∧Jo W3.drew bo p.vars.length (combA p y) 80∧RatC W3.drew u0.v (combB p y) from
    ⟨HB8.out.1.trans g0,HB8.out.2.1.grow g0,HB8.out.2.2.1.grow g0,HB8.out.2.2.2.1.grow g0,HB8.out.2.2.2.2.1.grow g0,HB8.out.2.2.2.2.2.grow g0⟩)
   clear g0 HB8
   have q0:∀ w',(Ja w' bp #[.slice va p.vars.length vc,.slice vb p.rows.length vd]∧Ja w' b7 #[.slice (some ⟨bo,0,none⟩) p.vars.length p.vars.length])→w'.cell? ⟨bp,0,none⟩=some (.slice va p.vars.length vc):=fun w' h=>h.1.at 0 rfl
   have q1:∀ w',(Ja w' bp #[.slice va p.vars.length vc,.slice vb p.rows.length vd]∧Ja w' b7 #[.slice (some ⟨bo,0,none⟩) p.vars.length p.vars.length])→w'.cell? ⟨bp,1,none⟩=some (.slice vb p.rows.length vd):=fun w' h=>h.1.at 1 rfl
   have q2:∀ w',(Ja w' bp #[.slice va p.vars.length vc,.slice vb p.rows.length vd]∧Ja w' b7 #[.slice (some ⟨bo,0,none⟩) p.vars.length p.vars.length])→w'.cell? ⟨b7,0,none⟩=some (.slice (some ⟨bo,0,none⟩) p.vars.length p.vars.length):=fun w' h=>h.2.at 0 rfl
   have HI0:Ja W3.drew bp #[.slice va p.vars.length vc,.slice vb p.rows.length vd]∧Ja W3.drew b7 #[.slice (some ⟨bo,0,none⟩) p.vars.length p.vars.length]:=⟨HS.out.2.1,HS.out.2.2.1⟩
   refine LateN.J6T (fun w'=>Ja w' bp #[.slice va p.vars.length vc,.slice vb p.rows.length vd]∧Ja w' b7 #[.slice (some ⟨bo,0,none⟩) p.vars.length p.vars.length]) HI0 (fun _ _ h g=>⟨h.1.grow g,h.2.grow g⟩) infNew 60 [0,1,2,3] [(4,0),(5,0),(6,1),(7,1),(8,1),(9,2),(10,0),(11,1)] (by kernel_rfl) (by kernel_rfl) rfl (by kernel_rfl) (fun _ _ d _ _ h=>by cases d<;>exact h) (fun _ _ d _ _ h=>by cases d<;>exact h) ?_
   clear HI0
   have hsz:W3.heap.size=W3.drew.heap.size:=rfl
   rw[hsz]
   clear hsz
   generalize W3.drew=W4 at HS ⊢
   have HL4:=ξ (show bp < W4.heap.size∧b7 < W4.heap.size∧b8 < W4.heap.size∧w.heap.size≤W4.heap.size from⟨HS.out.2.1.lt,HS.out.2.2.1.lt,HS.out.2.2.2.1.lt,HS.out.1.size⟩)
   repeat(refine LateN.J6N (v:=?_) rfl rfl (fun w' hg=>?_) (fun K hK=>?_);rotate_left;(go_simp;rfl);go_simp;refine hK _ ?_;clear hK K)
   refine LateN.J6M ⟨fun i hi=>?_,?_⟩
   ·simp at hi
    subst hi
    exact⟨_,rfl,rfl,fun w'=>by go_simp;exact⟨rfl,rfl⟩⟩
   refine LateN.Ux rfl rfl (fun K hK w5 g5=>?_)
   go_simp
   refine(J2a w5 _ p.vars.length (fun j => - combA p y j) ⟨_,_,rfl,enters_of Tryz.func93 (by kernel_rfl) rfl,fun w' g i hi=>J28 w' b7 bo p.vars.length i (combA p y) (HS.out.2.2.1.grow (g5.trans g)) (HS.out.2.2.2.2.1.grow (g5.trans g)) hi (by omega)⟩ (fun i hi=>Oe (HC.out.a _ i (Nat.le_refl _))) (by omega)).mono ?_
   rintro _ w6 ⟨_,rfl,g6,b9,rfl,-,h9⟩
   refine⟨fun _=>g6,⟨HS.out.2.1.grow (g5.trans g6),HS.out.2.2.1.grow (g5.trans g6)⟩,hK _ _ _ ?_⟩
   clear hK K
   have HS:=ξ (show Gr w w6∧Ja w6 bp _∧Ja w6 b7 _∧Jk w6 b8 _ _ _∧RatC w6 u0.v (combB p y) from⟨HS.out.1.trans (g5.trans g6),HS.out.2.1.grow (g5.trans g6),HS.out.2.2.1.grow (g5.trans g6),HS.out.2.2.2.1.grow (g5.trans g6),HS.out.2.2.2.2.2.grow (g5.trans g6)⟩)
   have H9:=ξ h9
   clear g5 g6 h9
   refine LateN.Ux rfl rfl (fun K hK w7 g7=>?_)
   go_simp
   refine(Yj w7 _ p _ _ (fun j => - combA p y j) (HP.out.grow (HS.out.1.trans g7)) ((H9.out.grow g7).read (by omega)) HK.out HW.out (fun j hj=>Sz.mono' (HC.out.l j hj) (by decide)) (fun j=>Sz.mono' (HC.out.l0 j) (by decide))).mono ?_
   rintro _ w8 ⟨r8,rfl,g8,h8⟩
   rcases h8 with⟨h,_⟩|⟨_,u1,rfl,h8⟩
   ·exact absurd h HE.out
   obtain⟨u2,rfl,h8⟩:=Pv h8
   refine⟨fun _=>g8,⟨HS.out.2.1.grow (g7.trans g8),HS.out.2.2.1.grow (g7.trans g8)⟩,hK _ _ _ ?_⟩
   clear hK K
   have HS:=ξ (show Gr w w8∧Ja w8 bp _∧Ja w8 b7 _∧Jk w8 b8 _ _ _∧RatC w8 u0.v (combB p y) from⟨HS.out.1.trans (g7.trans g8),HS.out.2.1.grow (g7.trans g8),HS.out.2.2.1.grow (g7.trans g8),HS.out.2.2.2.1.grow (g7.trans g8),HS.out.2.2.2.2.grow (g7.trans g8)⟩)
   have H8:=ξ h8
   clear g7 g8 h8 H9
   unfold RatM.v
   refine LateN.Rl (v:=?_) rfl rfl (fun w' hg=>?_) (fun K hK=>?_)
   rotate_left
   ·go_simp
    rfl
   go_simp
   refine hK _ _ ?_
   clear hK K
   refine LateN.Rl (v:=?_) rfl rfl (fun w' hg=>?_) (fun K hK=>?_)
   rotate_left
   ·go_simp
    rfl
   go_simp
   refine hK _ _ ?_
   clear hK K
   refine LateN.Rl (v:=?_) rfl rfl (fun w' hg=>?_) (fun K hK=>?_)
   rotate_left
   ·go_simp
    rfl
   go_simp
   refine hK _ _ ?_
   clear hK K
   refine LateN.J6K rfl (fun K w9 b10 g9 f10 n10 hK=>?_)
   have N10:=ξ (show W4.heap.size≤b10 from Nat.le_of_not_lt fun h=>n10 (.inl (.inl h)))
   unfold infNew
   go_simp
   refine hK _ _ ?_
   clear hK K
   refine LateN.Ux rfl rfl (fun K hK w11 g11=>?_)
   have T10:=ξ (show Jk w11 b10 (.bool false) (.slice none 0 0) (.slice none 0 0) from⟨_,J0.grow f10 g11⟩)
   have HNB:=ξ (show w.heap.size≤b10∧bp≠b10∧b7≠b10∧b8≠b10 from by
    have h1:=N10.out
    have h2:=HL4.out
    exact⟨by omega,by omega,by omega,by omega⟩)
   have HS:=ξ (show Gr w w11∧Ja w11 bp _∧Ja w11 b7 _∧Jk w11 b8 _ _ _∧RatC w11 u0.v (combB p y)∧RatC w11 u2.v _ from⟨HS.out.1.trans (g9.trans g11),HS.out.2.1.grow (g9.trans g11),HS.out.2.2.1.grow (g9.trans g11),HS.out.2.2.2.1.grow (g9.trans g11),HS.out.2.2.2.2.grow (g9.trans g11),H8.out.grow (g9.trans g11)⟩)
   clear g9 g11 f10 n10 H8
   have f0:=T10.out.load.1
   have f1:=T10.out.load.2.1
   have f2:=T10.out.load.2.2
   have f3:=T10.out.f0 0
   have f4:=T10.out.f0 1
   have f5:=T10.out.f0 2
   have HX:=ξ (show Gr w (set3 w11 b10 (.bool u2.n) (.slice u2.p u2.k u2.c) (.slice u2.q u2.m u2.e))∧(Ja (set3 w11 b10 (.bool u2.n) (.slice u2.p u2.k u2.c) (.slice u2.q u2.m u2.e)) bp _∧Ja (set3 w11 b10 (.bool u2.n) (.slice u2.p u2.k u2.c) (.slice u2.q u2.m u2.e)) b7 _)∧Jk (set3 w11 b10 (.bool u2.n) (.slice u2.p u2.k u2.c) (.slice u2.q u2.m u2.e)) b8 _ _ _∧Jk (set3 w11 b10 (.bool u2.n) (.slice u2.p u2.k u2.c) (.slice u2.q u2.m u2.e)) b10 (.bool u2.n) (.slice u2.p u2.k u2.c) (.slice u2.q u2.m u2.e)∧RatC (set3 w11 b10 (.bool u2.n) (.slice u2.p u2.k u2.c) (.slice u2.q u2.m u2.e)) u0.v (combB p y)∧RatC (set3 w11 b10 (.bool u2.n) (.slice u2.p u2.k u2.c) (.slice u2.q u2.m u2.e)) u2.v _ from by
    have hu:=upd3 w11 b10 (.bool u2.n) (.slice u2.p u2.k u2.c) (.slice u2.q u2.m u2.e)
    have k:=HNB.out
    obtain⟨s1,s2,s3,s4,s5,s6⟩:=HS.out
    exact⟨Ko s1 k.1 _ _ _,⟨s2.upd hu k.2.1,s3.upd hu k.2.2.1⟩,s4.upd hu k.2.2.2,T10.out.set _ _ _,s5.upd T10.out.noInt hu,s6.upd T10.out.noInt hu⟩)
   go_simp
   unfold set3 at HX
   refine⟨fun h=>Bool.noConfusion h,HX.out.2.1,hK _ _ _ ?_⟩
   clear hK K f0 f1 f2 f3 f4 f5
   generalize ((w11.setCell _ _).setCell _ _).setCell _ _=W12 at HX ⊢
   refine LateN.Rl (v:=?_) rfl rfl (fun w' hg=>?_) (fun K hK=>?_)
   rotate_left
   ·go_simp
    rfl
   go_simp
   refine hK _ _ ?_
   clear hK K
   refine LateN.J6L ?_
   clear q0 q1 q2
   go_wp2_with fail
   have d0:=HX.out.2.2.2.1.c0
   have d1:=HX.out.2.2.2.1.c1
   have d2:=HX.out.2.2.2.1.c2
   have d3:=HX.out.2.2.1.c0
   have d4:=HX.out.2.2.1.c1
   have d5:=HX.out.2.2.1.c2
   have g0:Gr W12 W12.drew:=(Gr.refl _).drew
   have GZ:=ξ g0
   refine Jp [(0,true),(1,true),(2,true),(3,true),(4,false),(5,false),(6,true),(7,true),(8,true)] (by kernel_rfl) (by kernel_rfl) rfl (by kernel_rfl) (fun _ _ d _ _ h=>by cases d<;>exact h) ?_
   repeat(refine Jf (v:=?_) g0 rfl rfl (fun w' hg=>?_) (fun K hK=>?_);rotate_left;(go_simp;rfl);go_simp;refine hK _ _ ?_;clear hK K)
   refine Jd (args:=?_) rfl rfl rfl rfl rfl rfl (by kernel_rfl) (by kernel_rfl) ?_ (fun K hK=>?_)
   rotate_left
   ·go_simp;rfl
   refine(Q0 _ _ (combB p y) _ 80 (RatC.v (HX.out.2.2.2.2.1.grow GZ.out) (HC.out.b _ (Nat.le_refl _))) rfl (by decide)).mono ?_
   rintro _ w13 ⟨r13,rfl,g13,h13⟩
   refine⟨_,rfl,g13,?_⟩
   go_simp
   refine hK _ _ ?_
   clear hK K
   have GZ:=ξ (GZ.out.trans g13)
   obtain⟨cs,hcs⟩:∃ c,cmpQ (leastS p.vars (fun j => - combA p y j)) (- combB p y)=c:=⟨_,rfl⟩
   refine Jd (args:=?_) rfl rfl rfl rfl rfl rfl (by kernel_rfl) (by kernel_rfl) ?_ (fun K hK=>?_)
   rotate_left
   ·go_simp;rfl
   refine(Tq _ _ _ (leastS p.vars (fun j => - combA p y j)) (- combB p y) cs 80 80 (RatC.v (HX.out.2.2.2.2.2.grow GZ.out) (HC.out.l _ (Nat.le_refl _))) (h13.v (Oe (HC.out.b _ (Nat.le_refl _)))) hcs (by decide) (by decide)).mono ?_
   rintro _ w14 ⟨_,rfl,g14,rfl⟩
   refine⟨_,rfl,g14,?_⟩
   go_simp
   refine hK _ _ ?_
   clear hK K
   have GZ:=ξ (GZ.out.trans g14)
   have g4:=GZ.out
   have HSG:=ξ (J20 hcs)
   repeat(refine Jf (v:=?_) g4 rfl rfl (fun w' hg=>?_) (fun K hK=>?_);rotate_left;(go_simp;rfl);go_simp;refine hK _ _ ?_;clear hK K)
   refine Ji ?_
   clear d0 d1 d2 d3 d4 d5 g0 g4 g13 g14 h13 hcs
   go_wp2_with fail
   go_ret
   refine⟨_,rfl,HX.out.1.trans GZ.out,decide (0 < cs),rfl,?_⟩
   rw[decide_eq_true_eq,HSG.out]
   exact⟨fun h=>⟨H1.out,.inr (by grind)⟩,fun h=>by
    rcases h.2 with h|h
    ·exact absurd h HE.out
    ·grind⟩
end Prf
end Go.Proofs.YtcjgimlcefhhmaaGreatDoor
