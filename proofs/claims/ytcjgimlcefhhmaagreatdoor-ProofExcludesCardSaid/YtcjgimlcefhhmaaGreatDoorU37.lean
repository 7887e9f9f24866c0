/- Texts: CuE CuF CuG CuI. -/
import Derived.Test.YtcjgimlcefhhmaaGreatDoorU33
import Derived.Test.YtcjgimlcefhhmaaGreatDoorU35
import Derived.Test.YtcjgimlcefhhmaaGreatDoorU36
set_option linter.unusedVariables false
set_option linter.unusedSimpArgs false
set_option maxRecDepth 100000
set_option maxHeartbeats 12800000
namespace Go.Proofs.YtcjgimlcefhhmaaGreatDoor
namespace Prf
open Go.RowKit Go.Lib
theorem X1:∀ (l:List Int) (a v:Int),IncI a (l ++ [v])↔IncI a l∧(l.getLast?.getD a) < v
 | [],a,v=>by simp[IncI]
 | x :: l,a,v=>by
  have:=X1 l x v
  rw[List.cons_append]
  unfold IncI
  rw[this,List.getLast?_cons,Option.getD_some,and_assoc]
def Nx (p:Prg)(c:CutS):Prop:=c.row=0∧c.vars.length=0∧c.mult.length≤p.rows.length
def M6 (p:Prg)(c:CutS):Prop:=(c.mult.length=0∧0≤c.row∧c.row < (p.rows.length:Int)∧0 < c.vars.length)∧IncI (-1) c.vars∧∀ z ∈ c.vars,Kw p z
theorem J2Z {p:Prg}{c:CutS}(h:c.kind=0):Ln p c↔Nx p c:=by
 unfold Ln Nx
 simp only[List.length_eq_zero_iff]
 constructor
 ·rintro(⟨_,a,b,d⟩|⟨h1,_⟩)
  ·exact⟨a,b,d⟩
  ·omega
 ·rintro⟨a,b,d⟩;exact .inl ⟨h,a,b,d⟩
theorem J30 {p:Prg}{c:CutS}(h:c.kind=1):Ln p c↔M6 p c:=by
 unfold Ln M6
 simp only[List.length_eq_zero_iff,List.length_pos_iff]
 constructor
 ·rintro(⟨h1,_⟩|⟨_,a,b,d,e,f,g⟩)
  ·omega
  ·exact⟨⟨a,b,d,e⟩,f,g⟩
 ·rintro⟨⟨a,b,d,e⟩,f,g⟩;exact .inr ⟨h,a,b,d,e,f,g⟩
theorem J31 {p:Prg}{c:CutS}(h:c.kind≠0)(h1:c.kind≠1):¬ Ln p c:=by
 rintro(⟨a,_⟩|⟨a,_⟩)
 ·exact h a
 ·exact h1 a
theorem J1M (w:World)(bc bp cm cv vc vd:Nat)(pm pv va vb:Option Addr)(p:Prg)(c:CutS)(hc:Ja w bc #[.int .i64 c.kind,.slice pm c.mult.length cm,.int .i64 c.row,.slice pv c.vars.length cv])(hb:Ja w bp #[.slice va p.vars.length vc,.slice vb p.rows.length vd]):
  Calls Tryz.prog 257 #[.pointer (some ⟨bc,0,none⟩),.pointer (some ⟨bp,0,none⟩)] w (Ret w fun r _=>Jb (Nx p c) r):=by
 have y1:=hb.at 1 rfl
 obtain⟨rw',hrw⟩:∃ z,c.row=z:=⟨_,rfl⟩
 have x2:w.cell? ⟨bc,2,none⟩=some (.int .i64 rw'):=by rw[← hrw];exact hc.at 2 rfl
 have HRW:=ξ hrw
 obtain⟨nv,hnv⟩:∃ z,c.vars.length=z:=⟨_,rfl⟩
 have HNV:=ξ hnv
 obtain⟨nm,hnm⟩:∃ z,c.mult.length=z:=⟨_,rfl⟩
 have HNM:=ξ hnm
 have x3:w.cell? ⟨bc,3,none⟩=some (.slice pv nv cv):=by rw[← hnv];exact hc.at 3 rfl
 have x1:w.cell? ⟨bc,1,none⟩=some (.slice pm nm cm):=by rw[← hnm];exact hc.at 1 rfl
 clear hc hb hrw hnv hnm
 by_cases h0:rw'=0
 ·subst h0
  by_cases h1:nv=0
  ·subst h1
   by_cases h2:(nm:Int)≤(p.rows.length:Int)
   ·have H:=ξ (show Nx p c from⟨HRW.out,HNV.out,by rw[HNM.out];omega⟩)
    go_enter Tryz.func257,Tryz.ntmps257
    go_wp2_with fail
    go_ret
    exact⟨_,rfl,Gr.refl _,Jb.yes H.out⟩
   ·have H:=ξ (show ¬ Nx p c from fun h=>by(have:=h.2.2;rw[HNM.out] at this;omega))
    go_enter Tryz.func257,Tryz.ntmps257
    go_wp2_with fail
    go_ret
    exact⟨_,rfl,Gr.refl _,Jb.no H.out⟩
  ·have e1:((nv:Int) == 0)=false:=by simpa using h1
   have H:=ξ (show ¬ Nx p c from fun h=>by(have:=h.2.1;rw[HNV.out] at this;omega))
   go_enter Tryz.func257,Tryz.ntmps257
   go_wp2_with fail
   go_ret
   exact⟨_,rfl,Gr.refl _,Jb.no H.out⟩
 ·have e1:(rw' == 0)=false:=by simpa using h0
  have H:=ξ (show ¬ Nx p c from fun h=>h0 (by rw[← HRW.out];exact h.1))
  go_enter Tryz.func257,Tryz.ntmps257
  go_wp2_with fail
  go_ret
  exact⟨_,rfl,Gr.refl _,Jb.no H.out⟩
def BIs (b:Bool)(P:Prop):Prop:=b=true↔P
def FmG (p:Prg)(c:CutS):Prop:=c.mult.length=0∧0≤c.row∧c.row < (p.rows.length:Int)∧0 < c.vars.length
def FmK (p:Prg)(c:CutS)(k:Nat):Prop:=FmG p c∧IncI (-1) (c.vars.take k)∧∀ z ∈ c.vars.take k,Kw p z
def FmL (c:CutS)(k:Nat):Int:=(c.vars.take k).getLast?.getD (-1)
def FmN (p:Prg)(c:CutS)(k:Nat)(z:Int):Prop:=FmL c k < z∧Kw p z
def Ju (p:Prg)(c:CutS)(k:Nat)(vl vg:Value):Prop:=∃ g:Bool,vl = .int .i64 (FmL c k)∧vg = .bool g∧BIs g (FmK p c k)
theorem Ju.start {p:Prg}{c:CutS}{g:Bool}(h:BIs g (FmG p c)):Ju p c 0 (.int .i64 (-1)) (.bool g):=
 ⟨g,by simp[FmL],rfl,Iff.trans h ⟨fun h=>⟨h,by simp[IncI],by simp⟩,fun h=>h.1⟩⟩
theorem Ju.next {p:Prg}{c:CutS}{k:Nat}{g:Bool}{z:Int}(hz:c.vars[k]?=some z)(h:BIs g (FmK p c k))(g':Bool)(h':g'=true↔g=true∧FmN p c k z):Ju p c (k+1) (.int .i64 z) (.bool g'):=by
 have ht:c.vars.take (k+1)=c.vars.take k ++ [z]:=by rw[List.take_add_one,hz];rfl
 refine⟨g',by unfold FmL;rw[ht];simp,rfl,?_⟩
 unfold BIs at h ⊢
 unfold FmK at h ⊢
 unfold FmN FmL at h'
 rw[h',h,ht,X1]
 simp only[List.mem_append,List.mem_singleton]
 constructor
 ·rintro⟨⟨a,b,d⟩,e,f⟩
  exact⟨a,⟨b,e⟩,fun y hy=>hy.elim (d y) fun e=>by rw[e];exact f⟩
 ·rintro⟨a,⟨b,e⟩,d⟩
  exact⟨⟨a,b,fun y hy=>d y (.inl hy)⟩,e,d z (.inr rfl)⟩
theorem Ju.nextF {p:Prg}{c:CutS}{k:Nat}{z:Int}(hz:c.vars[k]?=some z)(h:BIs false (FmK p c k)):Ju p c (k+1) (.int .i64 z) (.bool false):=Ju.next hz h false (by simp)
theorem Ju.nextT {p:Prg}{c:CutS}{k:Nat}{z:Int}(hz:c.vars[k]?=some z)(h:BIs true (FmK p c k))(h2:FmN p c k z):Ju p c (k+1) (.int .i64 z) (.bool true):=Ju.next hz h true (by simp[h2])
theorem Ju.nextN {p:Prg}{c:CutS}{k:Nat}{z:Int}(hz:c.vars[k]?=some z)(h:BIs true (FmK p c k))(h2:¬ FmN p c k z):Ju p c (k+1) (.int .i64 z) (.bool false):=Ju.next hz h false (by simp[h2])
theorem J1N (w:World)(bc bp cm cv vc vd:Nat)(pm pv va vb:Option Addr)(p:Prg)(c:CutS)(hc:Ja w bc #[.int .i64 c.kind,.slice pm c.mult.length cm,.int .i64 c.row,.slice pv c.vars.length cv])(hb:Ja w bp #[.slice va p.vars.length vc,.slice vb p.rows.length vd])
  (hp:Jv w (.agg #[.slice va p.vars.length vc,.slice vb p.rows.length vd]) p) (hv:K5 w (.slice pv c.vars.length cv) c.vars) (hcv:c.vars.length≤1000):
  Calls Tryz.prog 258 #[.pointer (some ⟨bc,0,none⟩),.pointer (some ⟨bp,0,none⟩)] w (Ret w fun r _=>Jb (M6 p c) r):=by
 have HB:=ξ hb
 have HP:=ξ hp
 obtain⟨rw',hrw⟩:∃ z,c.row=z:=⟨_,rfl⟩
 have HRW:=ξ hrw
 obtain⟨nv,hnv⟩:∃ z,c.vars.length=z:=⟨_,rfl⟩
 have HNV:=ξ hnv
 obtain⟨nm,hnm⟩:∃ z,c.mult.length=z:=⟨_,rfl⟩
 have HNM:=ξ hnm
 have HV:=ξ (show K5 w (.slice pv nv cv) c.vars from by rw[← hnv];exact hv)
 have x1:∀ w',Gr w w'→w'.cell? ⟨bc,1,none⟩=some (.slice pm nm cm):=by rw[← hnm];exact hc.c 1 rfl
 have x2:∀ w',Gr w w'→w'.cell? ⟨bc,2,none⟩=some (.int .i64 rw'):=by rw[← hrw];exact hc.c 2 rfl
 have x3:∀ w',Gr w w'→w'.cell? ⟨bc,3,none⟩=some (.slice pv nv cv):=by rw[← hnv];exact hc.c 3 rfl
 have y1:=hb.c 1 rfl
 rw[hnv] at hcv
 clear hc hb hp hv hrw hnv hnm
 go_enter Tryz.func258,Tryz.ntmps258
 go_wp2_with fail
 have g0:Gr w w.drew:=(Gr.refl _).drew
 by_cases h0:nm=0
 ·subst h0
  by_cases h1:0≤rw'
  ·by_cases h2:rw' < (p.rows.length:Int)
   ·by_cases h3:(0:Int) < (nv:Int)
    ·have e2:decide (0 < nv)=true:=decide_eq_true (by omega)
     have HG:=ξ (show BIs true (FmG p c) from by unfold BIs FmG;exact(by rw[HNM.out,HRW.out,HNV.out];simp;omega))
     refine Jp [(0,true),(1,true),(2,true),(3,true),(4,true),(5,true),(6,true),(7,true),(8,true),(9,true),(10,true),(11,true),(12,true),(13,true),(14,true),(15,true),(16,true),(17,true),(18,true),(19,true),(20,true),(21,true),(22,true),(23,true),(24,true)] (by kernel_rfl) (by kernel_rfl) rfl (by kernel_rfl) (fun _ _ d _ _ h=>by cases d<;>exact h) ?_
     generalize w.drew=W at g0 ⊢
     repeat(first|(refine Ka rfl rfl ?_;go_simp)|(refine Jf (v:=?_) g0 rfl rfl (fun w' hg=>?_) (fun K hK=>?_);rotate_left;(go_simp;rfl);go_simp;refine hK _ _ ?_;clear hK K))
     refine Ji ?_
     have G:=ξ g0
     have y3:=x3 W g0
     clear x1 x2 x3 y1 g0
     go_wp2_with fail
     clear y3
     go_loopw [3,4,33] (fun vl vg i w9=>∃ k:Nat,i = .int .i64 (k:Int)∧k≤nv∧Ju p c k vl vg∧Gr w w9) (fun _ _ i _=>nv - (RowKit.intOf i).toNat)
     case atStart=>exact⟨0,rfl,Nat.zero_le _,Ju.start HG.out,G.out⟩
     case round=>
      clear G
      obtain⟨k,rfl,hk,⟨g,rfl,rfl,hg⟩,hgr⟩:=hrel
      have HGG:=ξ hg
      have G:=ξ hgr
      clear hg hgr
      by_cases hlt:k < nv
      ·have hlt':(k:Int) < (nv:Int):=by omega
       have hk1:IntKind.i64.wrap ((k:Int)+1)=(k:Int)+1:=by rw[IntKind.wrap_i64];omega
       obtain⟨b,o,z,rfl,hz,hcz⟩:=L2 HV.out HNV.out (show k < nv from hlt)
       have HZ:=ξ hz
       have z0:=hcz wr G.out
       obtain⟨lv,hlv⟩:∃ z,FmL c k=z:=⟨_,rfl⟩
       have HLV:=ξ hlv
       rw[hlv]
       clear hz hcz hlv
       cases g
       ·go_wp2_with fail
        exact⟨⟨k+1,by go_num,by omega,Ju.nextF HZ.out HGG.out,G.out⟩,by simp[RowKit.intOf];omega⟩
       ·by_cases h1:lv < z
        ·have q0:=(HB.out.grow G.out).at 0 rfl
         have q1:=(HB.out.grow G.out).at 1 rfl
         have HL1:=ξ h1
         go_wp2_with fail
         clear q0 q1
         refine(Pg wr _ p z (HP.out.grow G.out)).mono ?_
         rintro _ w2 ⟨r2,rfl,g2,h2⟩
         have G:=ξ (G.out.trans g2)
         clear g2
         rcases h2.cases with⟨rfl,k2⟩|⟨rfl,k2⟩
         ·have HN:=ξ (show FmN p c k z from⟨by rw[HLV.out];exact HL1.out,k2⟩)
          clear h2 k2
          go_wp2_with fail
          exact⟨⟨k+1,by go_num,by omega,Ju.nextT HZ.out HGG.out HN.out,G.out⟩,by simp[RowKit.intOf];omega⟩
         ·have HN:=ξ (show ¬ FmN p c k z from fun h=>k2 h.2)
          clear h2 k2
          go_wp2_with fail
          exact⟨⟨k+1,by go_num,by omega,Ju.nextN HZ.out HGG.out HN.out,G.out⟩,by simp[RowKit.intOf];omega⟩
        ·have h1':z≤lv:=by omega
         have HN:=ξ (show ¬ FmN p c k z from fun h=>h1 (by rw[← HLV.out];exact h.1))
         clear h1
         go_wp2_with fail
         exact⟨⟨k+1,by go_num,by omega,Ju.nextN HZ.out HGG.out HN.out,G.out⟩,by simp[RowKit.intOf];omega⟩
      ·obtain rfl:k=nv:=by omega
       go_wp2_with fail
       go_ret
       refine⟨_,rfl,G.out,g,rfl,?_⟩
       have h:=HGG.out
       unfold BIs FmK FmG at h
       unfold M6
       rw[h,← HNV.out,List.take_length]
    ·have e2:decide (0 < nv)=false:=decide_eq_false (by omega)
     have HX:=ξ h3
     clear h3
     have HG:=ξ (show BIs false (FmG p c) from by unfold BIs FmG;exact(by have hx:=HX.out;rw[HNM.out,HRW.out,HNV.out];simp;omega))
     refine Jp [(0,true),(1,true),(2,true),(3,true),(4,true),(5,true),(6,true),(7,true),(8,true),(9,true),(10,true),(11,true),(12,true),(13,true),(14,true),(15,true),(16,true),(17,true),(18,true),(19,true),(20,true),(21,true),(22,true),(23,true),(24,true)] (by kernel_rfl) (by kernel_rfl) rfl (by kernel_rfl) (fun _ _ d _ _ h=>by cases d<;>exact h) ?_
     generalize w.drew=W at g0 ⊢
     repeat(first|(refine Ka rfl rfl ?_;go_simp)|(refine Jf (v:=?_) g0 rfl rfl (fun w' hg=>?_) (fun K hK=>?_);rotate_left;(go_simp;rfl);go_simp;refine hK _ _ ?_;clear hK K))
     refine Ji ?_
     have G:=ξ g0
     have y3:=x3 W g0
     clear x1 x2 x3 y1 g0
     go_wp2_with fail
     clear y3
     go_loopw [3,4,33] (fun vl vg i w9=>∃ k:Nat,i = .int .i64 (k:Int)∧k≤nv∧Ju p c k vl vg∧Gr w w9) (fun _ _ i _=>nv - (RowKit.intOf i).toNat)
     case atStart=>exact⟨0,rfl,Nat.zero_le _,Ju.start HG.out,G.out⟩
     case round=>
      clear G
      obtain⟨k,rfl,hk,⟨g,rfl,rfl,hg⟩,hgr⟩:=hrel
      have HGG:=ξ hg
      have G:=ξ hgr
      clear hg hgr
      by_cases hlt:k < nv
      ·have hlt':(k:Int) < (nv:Int):=by omega
       have hk1:IntKind.i64.wrap ((k:Int)+1)=(k:Int)+1:=by rw[IntKind.wrap_i64];omega
       obtain⟨b,o,z,rfl,hz,hcz⟩:=L2 HV.out HNV.out (show k < nv from hlt)
       have HZ:=ξ hz
       have z0:=hcz wr G.out
       obtain⟨lv,hlv⟩:∃ z,FmL c k=z:=⟨_,rfl⟩
       have HLV:=ξ hlv
       rw[hlv]
       clear hz hcz hlv
       cases g
       ·go_wp2_with fail
        exact⟨⟨k+1,by go_num,by omega,Ju.nextF HZ.out HGG.out,G.out⟩,by simp[RowKit.intOf];omega⟩
       ·by_cases h1:lv < z
        ·have q0:=(HB.out.grow G.out).at 0 rfl
         have q1:=(HB.out.grow G.out).at 1 rfl
         have HL1:=ξ h1
         go_wp2_with fail
         clear q0 q1
         refine(Pg wr _ p z (HP.out.grow G.out)).mono ?_
         rintro _ w2 ⟨r2,rfl,g2,h2⟩
         have G:=ξ (G.out.trans g2)
         clear g2
         rcases h2.cases with⟨rfl,k2⟩|⟨rfl,k2⟩
         ·have HN:=ξ (show FmN p c k z from⟨by rw[HLV.out];exact HL1.out,k2⟩)
          clear h2 k2
          go_wp2_with fail
          exact⟨⟨k+1,by go_num,by omega,Ju.nextT HZ.out HGG.out HN.out,G.out⟩,by simp[RowKit.intOf];omega⟩
         ·have HN:=ξ (show ¬ FmN p c k z from fun h=>k2 h.2)
          clear h2 k2
          go_wp2_with fail
          exact⟨⟨k+1,by go_num,by omega,Ju.nextN HZ.out HGG.out HN.out,G.out⟩,by simp[RowKit.intOf];omega⟩
        ·have h1':z≤lv:=by omega
         have HN:=ξ (show ¬ FmN p c k z from fun h=>h1 (by rw[← HLV.out];exact h.1))
         clear h1
         go_wp2_with fail
         exact⟨⟨k+1,by go_num,by omega,Ju.nextN HZ.out HGG.out HN.out,G.out⟩,by simp[RowKit.intOf];omega⟩
      ·obtain rfl:k=nv:=by omega
       go_wp2_with fail
       go_ret
       refine⟨_,rfl,G.out,g,rfl,?_⟩
       have h:=HGG.out
       unfold BIs FmK FmG at h
       unfold M6
       rw[h,← HNV.out,List.take_length]
   ·have e2:decide (rw' < (p.rows.length:Int))=false:=decide_eq_false h2
    have HX:=ξ h2
    have HG:=ξ (show BIs false (FmG p c) from by unfold BIs FmG;exact(by have hx:=HX.out;rw[HNM.out,HRW.out,HNV.out];simp;omega))
    refine Jp [(0,true),(1,true),(2,true),(3,true),(4,true),(5,true),(6,true),(7,true),(8,true),(9,true),(10,true),(11,true),(12,true),(13,true),(14,true),(15,true),(16,true),(17,true),(18,true),(19,true),(20,true),(21,true),(22,true),(23,true),(24,true)] (by kernel_rfl) (by kernel_rfl) rfl (by kernel_rfl) (fun _ _ d _ _ h=>by cases d<;>exact h) ?_
    generalize w.drew=W at g0 ⊢
    repeat(first|(refine Ka rfl rfl ?_;go_simp)|(refine Jf (v:=?_) g0 rfl rfl (fun w' hg=>?_) (fun K hK=>?_);rotate_left;(go_simp;rfl);go_simp;refine hK _ _ ?_;clear hK K))
    refine Ji ?_
    have G:=ξ g0
    have y3:=x3 W g0
    clear x1 x2 x3 y1 g0
    go_wp2_with fail
    clear y3
    go_loopw [3,4,33] (fun vl vg i w9=>∃ k:Nat,i = .int .i64 (k:Int)∧k≤nv∧Ju p c k vl vg∧Gr w w9) (fun _ _ i _=>nv - (RowKit.intOf i).toNat)
    case atStart=>exact⟨0,rfl,Nat.zero_le _,Ju.start HG.out,G.out⟩
    case round=>
     clear G
     obtain⟨k,rfl,hk,⟨g,rfl,rfl,hg⟩,hgr⟩:=hrel
     have HGG:=ξ hg
     have G:=ξ hgr
     clear hg hgr
     by_cases hlt:k < nv
     ·have hlt':(k:Int) < (nv:Int):=by omega
      have hk1:IntKind.i64.wrap ((k:Int)+1)=(k:Int)+1:=by rw[IntKind.wrap_i64];omega
      obtain⟨b,o,z,rfl,hz,hcz⟩:=L2 HV.out HNV.out (show k < nv from hlt)
      have HZ:=ξ hz
      have z0:=hcz wr G.out
      obtain⟨lv,hlv⟩:∃ z,FmL c k=z:=⟨_,rfl⟩
      have HLV:=ξ hlv
      rw[hlv]
      clear hz hcz hlv
      cases g
      ·go_wp2_with fail
       exact⟨⟨k+1,by go_num,by omega,Ju.nextF HZ.out HGG.out,G.out⟩,by simp[RowKit.intOf];omega⟩
      ·by_cases h1:lv < z
       ·have q0:=(HB.out.grow G.out).at 0 rfl
        have q1:=(HB.out.grow G.out).at 1 rfl
        have HL1:=ξ h1
        go_wp2_with fail
        clear q0 q1
        refine(Pg wr _ p z (HP.out.grow G.out)).mono ?_
        rintro _ w2 ⟨r2,rfl,g2,h2⟩
        have G:=ξ (G.out.trans g2)
        clear g2
        rcases h2.cases with⟨rfl,k2⟩|⟨rfl,k2⟩
        ·have HN:=ξ (show FmN p c k z from⟨by rw[HLV.out];exact HL1.out,k2⟩)
         clear h2 k2
         go_wp2_with fail
         exact⟨⟨k+1,by go_num,by omega,Ju.nextT HZ.out HGG.out HN.out,G.out⟩,by simp[RowKit.intOf];omega⟩
        ·have HN:=ξ (show ¬ FmN p c k z from fun h=>k2 h.2)
         clear h2 k2
         go_wp2_with fail
         exact⟨⟨k+1,by go_num,by omega,Ju.nextN HZ.out HGG.out HN.out,G.out⟩,by simp[RowKit.intOf];omega⟩
       ·have h1':z≤lv:=by omega
        have HN:=ξ (show ¬ FmN p c k z from fun h=>h1 (by rw[← HLV.out];exact h.1))
        clear h1
        go_wp2_with fail
        exact⟨⟨k+1,by go_num,by omega,Ju.nextN HZ.out HGG.out HN.out,G.out⟩,by simp[RowKit.intOf];omega⟩
     ·obtain rfl:k=nv:=by omega
      go_wp2_with fail
      go_ret
      refine⟨_,rfl,G.out,g,rfl,?_⟩
      have h:=HGG.out
      unfold BIs FmK FmG at h
      unfold M6
      rw[h,← HNV.out,List.take_length]
  ·have e2:decide (0≤rw')=false:=decide_eq_false h1
   have HX:=ξ h1
   have HG:=ξ (show BIs false (FmG p c) from by unfold BIs FmG;exact(by have hx:=HX.out;rw[HNM.out,HRW.out,HNV.out];simp;omega))
   refine Jp [(0,true),(1,true),(2,true),(3,true),(4,true),(5,true),(6,true),(7,true),(8,true),(9,true),(10,true),(11,true),(12,true),(13,true),(14,true),(15,true),(16,true),(17,true),(18,true),(19,true),(20,true),(21,true),(22,true),(23,true),(24,true)] (by kernel_rfl) (by kernel_rfl) rfl (by kernel_rfl) (fun _ _ d _ _ h=>by cases d<;>exact h) ?_
   generalize w.drew=W at g0 ⊢
   repeat(first|(refine Ka rfl rfl ?_;go_simp)|(refine Jf (v:=?_) g0 rfl rfl (fun w' hg=>?_) (fun K hK=>?_);rotate_left;(go_simp;rfl);go_simp;refine hK _ _ ?_;clear hK K))
   refine Ji ?_
   have G:=ξ g0
   have y3:=x3 W g0
   clear x1 x2 x3 y1 g0
   go_wp2_with fail
   clear y3
   go_loopw [3,4,33] (fun vl vg i w9=>∃ k:Nat,i = .int .i64 (k:Int)∧k≤nv∧Ju p c k vl vg∧Gr w w9) (fun _ _ i _=>nv - (RowKit.intOf i).toNat)
   case atStart=>exact⟨0,rfl,Nat.zero_le _,Ju.start HG.out,G.out⟩
   case round=>
    clear G
    obtain⟨k,rfl,hk,⟨g,rfl,rfl,hg⟩,hgr⟩:=hrel
    have HGG:=ξ hg
    have G:=ξ hgr
    clear hg hgr
    by_cases hlt:k < nv
    ·have hlt':(k:Int) < (nv:Int):=by omega
     have hk1:IntKind.i64.wrap ((k:Int)+1)=(k:Int)+1:=by rw[IntKind.wrap_i64];omega
     obtain⟨b,o,z,rfl,hz,hcz⟩:=L2 HV.out HNV.out (show k < nv from hlt)
     have HZ:=ξ hz
     have z0:=hcz wr G.out
     obtain⟨lv,hlv⟩:∃ z,FmL c k=z:=⟨_,rfl⟩
     have HLV:=ξ hlv
     rw[hlv]
     clear hz hcz hlv
     cases g
     ·go_wp2_with fail
      exact⟨⟨k+1,by go_num,by omega,Ju.nextF HZ.out HGG.out,G.out⟩,by simp[RowKit.intOf];omega⟩
     ·by_cases h1:lv < z
      ·have q0:=(HB.out.grow G.out).at 0 rfl
       have q1:=(HB.out.grow G.out).at 1 rfl
       have HL1:=ξ h1
       go_wp2_with fail
       clear q0 q1
       refine(Pg wr _ p z (HP.out.grow G.out)).mono ?_
       rintro _ w2 ⟨r2,rfl,g2,h2⟩
       have G:=ξ (G.out.trans g2)
       clear g2
       rcases h2.cases with⟨rfl,k2⟩|⟨rfl,k2⟩
       ·have HN:=ξ (show FmN p c k z from⟨by rw[HLV.out];exact HL1.out,k2⟩)
        clear h2 k2
        go_wp2_with fail
        exact⟨⟨k+1,by go_num,by omega,Ju.nextT HZ.out HGG.out HN.out,G.out⟩,by simp[RowKit.intOf];omega⟩
       ·have HN:=ξ (show ¬ FmN p c k z from fun h=>k2 h.2)
        clear h2 k2
        go_wp2_with fail
        exact⟨⟨k+1,by go_num,by omega,Ju.nextN HZ.out HGG.out HN.out,G.out⟩,by simp[RowKit.intOf];omega⟩
      ·have h1':z≤lv:=by omega
       have HN:=ξ (show ¬ FmN p c k z from fun h=>h1 (by rw[← HLV.out];exact h.1))
       clear h1
       go_wp2_with fail
       exact⟨⟨k+1,by go_num,by omega,Ju.nextN HZ.out HGG.out HN.out,G.out⟩,by simp[RowKit.intOf];omega⟩
    ·obtain rfl:k=nv:=by omega
     go_wp2_with fail
     go_ret
     refine⟨_,rfl,G.out,g,rfl,?_⟩
     have h:=HGG.out
     unfold BIs FmK FmG at h
     unfold M6
     rw[h,← HNV.out,List.take_length]
 ·have e1:((nm:Int) == 0)=false:=by simpa using h0
  have HX:=ξ h0
  clear h0
  have HG:=ξ (show BIs false (FmG p c) from by unfold BIs FmG;exact(by have hx:=HX.out;rw[HNM.out,HRW.out,HNV.out];simp;omega))
  refine Jp [(0,true),(1,true),(2,true),(3,true),(4,true),(5,true),(6,true),(7,true),(8,true),(9,true),(10,true),(11,true),(12,true),(13,true),(14,true),(15,true),(16,true),(17,true),(18,true),(19,true),(20,true),(21,true),(22,true),(23,true),(24,true)] (by kernel_rfl) (by kernel_rfl) rfl (by kernel_rfl) (fun _ _ d _ _ h=>by cases d<;>exact h) ?_
  generalize w.drew=W at g0 ⊢
  repeat(first|(refine Ka rfl rfl ?_;go_simp)|(refine Jf (v:=?_) g0 rfl rfl (fun w' hg=>?_) (fun K hK=>?_);rotate_left;(go_simp;rfl);go_simp;refine hK _ _ ?_;clear hK K))
  refine Ji ?_
  have G:=ξ g0
  have y3:=x3 W g0
  clear x1 x2 x3 y1 g0
  go_wp2_with fail
  clear y3
  go_loopw [3,4,33] (fun vl vg i w9=>∃ k:Nat,i = .int .i64 (k:Int)∧k≤nv∧Ju p c k vl vg∧Gr w w9) (fun _ _ i _=>nv - (RowKit.intOf i).toNat)
  case atStart=>exact⟨0,rfl,Nat.zero_le _,Ju.start HG.out,G.out⟩
  case round=>
   clear G
   obtain⟨k,rfl,hk,⟨g,rfl,rfl,hg⟩,hgr⟩:=hrel
   have HGG:=ξ hg
   have G:=ξ hgr
   clear hg hgr
   by_cases hlt:k < nv
   ·have hlt':(k:Int) < (nv:Int):=by omega
    have hk1:IntKind.i64.wrap ((k:Int)+1)=(k:Int)+1:=by rw[IntKind.wrap_i64];omega
    obtain⟨b,o,z,rfl,hz,hcz⟩:=L2 HV.out HNV.out (show k < nv from hlt)
    have HZ:=ξ hz
    have z0:=hcz wr G.out
    obtain⟨lv,hlv⟩:∃ z,FmL c k=z:=⟨_,rfl⟩
    have HLV:=ξ hlv
    rw[hlv]
    clear hz hcz hlv
    cases g
    ·go_wp2_with fail
     exact⟨⟨k+1,by go_num,by omega,Ju.nextF HZ.out HGG.out,G.out⟩,by simp[RowKit.intOf];omega⟩
    ·by_cases h1:lv < z
     ·have q0:=(HB.out.grow G.out).at 0 rfl
      have q1:=(HB.out.grow G.out).at 1 rfl
      have HL1:=ξ h1
      go_wp2_with fail
      clear q0 q1
      refine(Pg wr _ p z (HP.out.grow G.out)).mono ?_
      rintro _ w2 ⟨r2,rfl,g2,h2⟩
      have G:=ξ (G.out.trans g2)
      clear g2
      rcases h2.cases with⟨rfl,k2⟩|⟨rfl,k2⟩
      ·have HN:=ξ (show FmN p c k z from⟨by rw[HLV.out];exact HL1.out,k2⟩)
       clear h2 k2
       go_wp2_with fail
       exact⟨⟨k+1,by go_num,by omega,Ju.nextT HZ.out HGG.out HN.out,G.out⟩,by simp[RowKit.intOf];omega⟩
      ·have HN:=ξ (show ¬ FmN p c k z from fun h=>k2 h.2)
       clear h2 k2
       go_wp2_with fail
       exact⟨⟨k+1,by go_num,by omega,Ju.nextN HZ.out HGG.out HN.out,G.out⟩,by simp[RowKit.intOf];omega⟩
     ·have h1':z≤lv:=by omega
      have HN:=ξ (show ¬ FmN p c k z from fun h=>h1 (by rw[← HLV.out];exact h.1))
      clear h1
      go_wp2_with fail
      exact⟨⟨k+1,by go_num,by omega,Ju.nextN HZ.out HGG.out HN.out,G.out⟩,by simp[RowKit.intOf];omega⟩
   ·obtain rfl:k=nv:=by omega
    go_wp2_with fail
    go_ret
    refine⟨_,rfl,G.out,g,rfl,?_⟩
    have h:=HGG.out
    unfold BIs FmK FmG at h
    unfold M6
    rw[h,← HNV.out,List.take_length]
theorem Ze {w:World}(f:FuncId)(caps:Array Value):(binOp .neq 27 (.func (.func f) #[] caps) .nilFunc).run Tryz.prog w = .ok (.bool true) w:=by
 have h:=Tryz.underlying27
 have h1:(Op.equal 27 (.func (.func f) #[] caps) .nilFunc).run Tryz.prog w = .ok false w:=by
  have h2:∀ d:Nat,(Op.equalIn (d+1) 27 (.func (.func f) #[] caps) .nilFunc).run Tryz.prog w = .ok false w:=fun d=>by simp[Op.equalIn,run_underlying h]
  exact h2 9999
 simp only[binOp]
 simp[h1]
theorem J4a {w:World}:(binOp .neq 27 .nilFunc .nilFunc).run Tryz.prog w = .ok (.bool false) w:=by
 have h:=Tryz.underlying27
 have h1:(Op.equal 27 .nilFunc .nilFunc).run Tryz.prog w = .ok true w:=by
  have h2:∀ d:Nat,(Op.equalIn (d+1) 27 .nilFunc .nilFunc).run Tryz.prog w = .ok true w:=fun d=>by simp[Op.equalIn,run_underlying h]
  exact h2 9999
 simp only[binOp]
 simp[h1]
theorem Nj {w:World}(f:FuncId)(caps:Array Value):(binOp .neq 91 (.func (.func f) #[] caps) .nilFunc).run Tryz.prog w = .ok (.bool true) w:=by
 have h:=Tryz.underlying91
 have h1:(Op.equal 91 (.func (.func f) #[] caps) .nilFunc).run Tryz.prog w = .ok false w:=by
  have h2:∀ d:Nat,(Op.equalIn (d+1) 91 (.func (.func f) #[] caps) .nilFunc).run Tryz.prog w = .ok false w:=fun d=>by simp[Op.equalIn,run_underlying h]
  exact h2 9999
 simp only[binOp]
 simp[h1]
theorem Zf {w:World}:(binOp .neq 91 .nilFunc .nilFunc).run Tryz.prog w = .ok (.bool false) w:=by
 have h:=Tryz.underlying91
 have h1:(Op.equal 91 .nilFunc .nilFunc).run Tryz.prog w = .ok true w:=by
  have h2:∀ d:Nat,(Op.equalIn (d+1) 91 .nilFunc .nilFunc).run Tryz.prog w = .ok true w:=fun d=>by simp[Op.equalIn,run_underlying h]
  exact h2 9999
 simp only[binOp]
 simp[h1]
theorem Kc {n:Int}:MapKept.IsKey (.int .i64) (.int .i64 n):=by unfold MapKept.IsKey;trivial
def two01 (f g:Value):List (Value × Value):=[(.int .i64 0,f),(.int .i64 1,g)]
theorem J0R (f g:Value):fkv (.int .i64) (.int .i64 0) (two01 f g)=some (some f):=rfl
theorem J0S (f g:Value):fkv (.int .i64) (.int .i64 1) (two01 f g)=some (some g):=rfl
theorem Ox {a b:Int}(h:a≠b):Instr.sameNow (.int .i64) (.int .i64 a) (.int .i64 b)=some false:=by
 have:(a == b)=false:=by simpa using h
 simp[Instr.sameNow,this]
theorem J6j (f g:Value){n:Int}(h0:n≠0)(h1:n≠1):fkv (.int .i64) (.int .i64 n) (two01 f g)=some none:=by
 unfold two01 fkv
 rw[Ox h0]
 simp only[]
 unfold fkv
 rw[Ox h1]
 rfl
theorem Xp (f:Value):Instr.findNow (.int .i64) (.int .i64 1) [{ key:=.int .i64 0,val:=f,born:=0 }] 0=some none:=rfl
theorem J1L (w:World)(v u:Value)(p:Prg)(c:CutS)(hp:Jv w v p)(hc:Lm w u c 4)(hcv:c.vars.length≤1000):
  Calls Tryz.prog 207 #[v,u] w (Ret w fun r _=>Jb (Ln p c) r):=by
 have HP:=ξ hp
 obtain⟨pm,nm,cm,pv,nv,cv,rfl,hmu,hva,rfl,rfl⟩:=hc.parts
 have HVA:=ξ hva
 clear hc hmu hva
 obtain⟨va,vc,vb,vd,rfl,hv,hr⟩:=hp
 have B0:=Ja.new w #[.slice va p.vars.length vc,.slice vb p.rows.length vd] 25
 have B1:=Ja.new (w.alloc (.cells #[.slice va p.vars.length vc,.slice vb p.rows.length vd] 25)) #[.int .i64 c.kind,.slice pm c.mult.length cm,.int .i64 c.row,.slice pv c.vars.length cv] 45
 simp only[World.size_alloc] at B1
 have HB:=ξ (show _∧Ja _ _ #[.slice va p.vars.length vc,.slice vb p.rows.length vd]∧Ja _ _ #[.int .i64 c.kind,.slice pm c.mult.length cm,.int .i64 c.row,.slice pv c.vars.length cv] from⟨B0.1.trans B1.1,B0.2.grow B1.1,B1.2⟩)
 clear hv hr B0 B1
 unfold prgV at HP ⊢
 go_enter Tryz.func207,Tryz.ntmps207
 go_wp2_with fail
 generalize hbc:w.heap.size+1=bc at HB ⊢
 generalize hbp:w.heap.size=bp at HB ⊢
 generalize (w.alloc _).alloc _=W at HB ⊢
 clear hbc hbp
 have hmk:=run_makeMap (P:=Tryz.prog) 267 W
 have hs0:=Ks (P:=Tryz.prog) (w:=W) (es:=#[]) (c:=0) (t:=267) (key:=.int .i64 0) (.func (.func 257) #[] #[.pointer (some ⟨bc,0,none⟩),.pointer (some ⟨bp,0,none⟩)]) Tryz.underlying267 Tryz.underlying3 Kc rfl rfl
 have hs1:=Ks (P:=Tryz.prog) (w:=W) (es:=#[{ key:=.int .i64 0,val:=.func (.func 257) #[] #[.pointer (some ⟨bc,0,none⟩),.pointer (some ⟨bp,0,none⟩)],born:=0 }]) (c:=1) (t:=267) (key:=.int .i64 1) (.func (.func 258) #[] #[.pointer (some ⟨bc,0,none⟩),.pointer (some ⟨bp,0,none⟩)]) Tryz.underlying267 Tryz.underlying3 Kc (Xp _) rfl
 simp only[List.push_toArray,List.nil_append,List.cons_append,Array.push_empty,Nat.zero_add,Nat.reduceAdd] at hs0 hs1
 have gm:Gr W (W.alloc (.map #[{ key:=.int .i64 0,val:=.func (.func 257) #[] #[.pointer (some ⟨bc,0,none⟩),.pointer (some ⟨bp,0,none⟩)],born:=0 },{ key:=.int .i64 1,val:=.func (.func 258) #[] #[.pointer (some ⟨bc,0,none⟩),.pointer (some ⟨bp,0,none⟩)],born:=1 }] 2)):=(Gr.refl _).alloc _
 have HM:=ξ (show K0 (W.alloc (.map #[{ key:=.int .i64 0,val:=.func (.func 257) #[] #[.pointer (some ⟨bc,0,none⟩),.pointer (some ⟨bp,0,none⟩)],born:=0 },{ key:=.int .i64 1,val:=.func (.func 258) #[] #[.pointer (some ⟨bc,0,none⟩),.pointer (some ⟨bp,0,none⟩)],born:=1 }] 2)) W.heap.size (two01 (.func (.func 257) #[] #[.pointer (some ⟨bc,0,none⟩),.pointer (some ⟨bp,0,none⟩)]) (.func (.func 258) #[] #[.pointer (some ⟨bc,0,none⟩),.pointer (some ⟨bp,0,none⟩)])) from⟨_,_,(MapKept.heap_alloc W _).1,rfl⟩)
 obtain⟨kd,hkd⟩:∃ z,c.kind=z:=⟨_,rfl⟩
 have HKD:=ξ hkd
 have x0:(W.alloc (.map #[{ key:=.int .i64 0,val:=.func (.func 257) #[] #[.pointer (some ⟨bc,0,none⟩),.pointer (some ⟨bp,0,none⟩)],born:=0 },{ key:=.int .i64 1,val:=.func (.func 258) #[] #[.pointer (some ⟨bc,0,none⟩),.pointer (some ⟨bp,0,none⟩)],born:=1 }] 2)).cell? ⟨bc,0,none⟩=some (.int .i64 kd):=by rw[← hkd];exact(HB.out.2.2.grow gm).at 0 rfl
 have HBC:=ξ (HB.out.2.2.grow gm)
 have HBP:=ξ (HB.out.2.1.grow gm)
 have GM:=ξ (HB.out.1.trans gm)
 clear hkd gm
 by_cases h0:kd=0
 ·subst h0
  have hl:=(K9 HM.out Tryz.underlying267 Tryz.underlying3 Kc (J0R _ _)).1
  have hq:=fun w=>Ze (w:=w)
  rw[hmk]
  go_wp2_with fail
  clear hl x0 hmk hs0 hs1 hq
  generalize W.alloc _=W1 at HBC HBP GM ⊢
  refine(J1M W1 bc bp cm cv vc vd pm pv va vb p c HBC.out HBP.out).mono ?_
  rintro _ w2 ⟨r2,rfl,g2,h2⟩
  have G:=ξ (GM.out.trans g2)
  have H:=ξ (show Jb (Ln p c) r2 from h2.iff (J2Z HKD.out).symm)
  clear h2 g2
  obtain⟨t,rfl,ht⟩:=H.out
  go_wp2_with fail
  go_ret
  exact⟨_,rfl,G.out,H.out⟩
 by_cases h1:kd=1
 ·subst h1
  have hl:=(K9 HM.out Tryz.underlying267 Tryz.underlying3 Kc (J0S _ _)).1
  clear h0
  have hq:=fun w=>Ze (w:=w)
  rw[hmk]
  go_wp2_with fail
  clear hl x0 hmk hs0 hs1 hq
  generalize W.alloc _=W1 at HBC HBP GM ⊢
  refine(J1N W1 bc bp cm cv vc vd pm pv va vb p c HBC.out HBP.out (HP.out.grow GM.out) (HVA.out.grow GM.out) hcv).mono ?_
  rintro _ w2 ⟨r2,rfl,g2,h2⟩
  have G:=ξ (GM.out.trans g2)
  have H:=ξ (show Jb (Ln p c) r2 from h2.iff (J30 HKD.out).symm)
  clear h2 g2
  obtain⟨t,rfl,ht⟩:=H.out
  go_wp2_with fail
  go_ret
  exact⟨_,rfl,G.out,H.out⟩
 ·have hl:=(Tz (P:=Tryz.prog) (z:=.nilFunc) HM.out Tryz.underlying267 Tryz.underlying3 (Kc (n:=kd)) (by kernel_rfl) (J6j _ _ h0 h1)).1
  have H:=ξ (show ¬ Ln p c from J31 (by rw[HKD.out];exact h0) (by rw[HKD.out];exact h1))
  have hq:=fun w=>J4a (w:=w)
  clear h0 h1
  rw[hmk]
  go_wp2_with fail
  go_ret
  exact⟨_,rfl,GM.out,Jb.no H.out⟩
theorem Rr.derive {p:Prg}{c:CutS}{base:Nat}{r:Value}{w:World}(hf:Ln p c)(h0:c.kind=0)(h:Rr p c.mult base r w):Qa p c base r w:=by
 rcases h with⟨h1,x,rfl,h2,h3⟩|⟨h1,e,he,rfl⟩
 ·exact .inl ⟨_,x,⟨hf,.inl ⟨h0,h1,rfl⟩⟩,rfl,h2,h3⟩
 ·refine .inr ⟨fun rs h=>?_,e,he,rfl⟩
  rcases h.2 with⟨_,h2,_⟩|⟨h2,_⟩
  ·exact h1 h2
  ·omega
theorem J1K (w:World)(v u:Value)(p:Prg)(c:CutS)(hp:Jv w v p)(hc:Lm w u c 4)(hcl:c.mult.length≤16)(hcs:∀ x ∈ c.mult,Sz 4 x)(hcv:c.vars.length≤1000)(hk:Jr p)(hw:Whole p)(hn:p.vars.length≤10)(hm:p.rows.length≤40):
  Calls Tryz.prog 148 #[v,u] w (Ret w (Qa p c w.heap.size)):=by
 have HK:=ξ hk
 have HW:=ξ hw
 have HP:=ξ hp
 have HCA:=ξ hc
 have HCM:=ξ (Vo hcs hcl hk.2.2.2 hk.2.2.1 hm hn)
 clear hk hw hcs
 obtain⟨pm,nm,cm,pv,nv,cv,rfl,hmu,hva,rfl,rfl⟩:=hc.parts
 clear hc hmu hva
 obtain⟨va,vc,vb,vd,rfl,hv,hr⟩:=hp
 obtain⟨kd,hkd⟩:∃ z,c.kind=z:=⟨_,rfl⟩
 have HKD:=ξ hkd
 rw[hkd] at HCA ⊢
 have B0:=Ja.new w #[.slice va p.vars.length vc,.slice vb p.rows.length vd] 25
 have B1:=Ja.new (w.alloc (.cells #[.slice va p.vars.length vc,.slice vb p.rows.length vd] 25)) #[.int .i64 kd,.slice pm c.mult.length cm,.int .i64 c.row,.slice pv c.vars.length cv] 45
 have B2:=Ja.new ((w.alloc (.cells #[.slice va p.vars.length vc,.slice vb p.rows.length vd] 25)).alloc (.cells #[.int .i64 kd,.slice pm c.mult.length cm,.int .i64 c.row,.slice pv c.vars.length cv] 45)) rowZ 42
 simp only[World.size_alloc] at B1 B2
 unfold rowZ at B2
 have HB:=ξ (show _∧Ja _ _ #[.slice va p.vars.length vc,.slice vb p.rows.length vd]∧Ja _ _ #[.int .i64 kd,.slice pm c.mult.length cm,.int .i64 c.row,.slice pv c.vars.length cv]∧Ja _ _ #[.string ⟨#[]⟩,.int .i64 0,.int .i64 0,.slice none 0 0,.int .i64 0] from⟨B0.1.trans (B1.1.trans B2.1),B0.2.grow (B1.1.trans B2.1),B1.2.grow B2.1,B2.2⟩)
 clear hv hr B0 B1 B2 hkd
 unfold prgV at HP ⊢
 go_enter Tryz.func148,Tryz.ntmps148
 go_wp2_with fail
 generalize hb4:w.heap.size+1+1=b4 at HB ⊢
 generalize hbc:w.heap.size+1=bc at HB ⊢
 generalize hbp:w.heap.size=bp at HB ⊢
 generalize ((w.alloc _).alloc _).alloc _=W at HB ⊢
 have HB4:=ξ (show w.heap.size≤b4 from by omega)
 clear hb4 hbc hbp
 have hmk:=run_makeMap (P:=Tryz.prog) 222 W
 have hs0:=Ks (P:=Tryz.prog) (w:=W) (es:=#[]) (c:=0) (t:=222) (key:=.int .i64 0) (.func (.func 205) #[] #[]) Tryz.underlying222 Tryz.underlying3 Kc rfl rfl
 have hs1:=Ks (P:=Tryz.prog) (w:=W) (es:=#[{ key:=.int .i64 0,val:=.func (.func 205) #[] #[],born:=0 }]) (c:=1) (t:=222) (key:=.int .i64 1) (.func (.func 206) #[] #[]) Tryz.underlying222 Tryz.underlying3 Kc (Xp _) rfl
 simp only[List.push_toArray,List.nil_append,List.cons_append,Array.push_empty,Nat.zero_add,Nat.reduceAdd] at hs0 hs1
 have gm:Gr W (W.alloc (.map #[{ key:=.int .i64 0,val:=.func (.func 205) #[] #[],born:=0 },{ key:=.int .i64 1,val:=.func (.func 206) #[] #[],born:=1 }] 2)):=(Gr.refl _).alloc _
 have HM:=ξ (show K0 (W.alloc (.map #[{ key:=.int .i64 0,val:=.func (.func 205) #[] #[],born:=0 },{ key:=.int .i64 1,val:=.func (.func 206) #[] #[],born:=1 }] 2)) W.heap.size (two01 (.func (.func 205) #[] #[]) (.func (.func 206) #[] #[])) from⟨_,_,(MapKept.heap_alloc W _).1,rfl⟩)
 have TC:=ξ (HB.out.2.2.1.grow gm)
 have TP:=ξ (HB.out.2.1.grow gm)
 have T4:=ξ (HB.out.2.2.2.grow gm)
 have G:=ξ (HB.out.1.trans gm)
 have x0:=TC.out.at 0 rfl
 have x1:=TC.out.at 1 rfl
 have x2:=TC.out.at 2 rfl
 have x3:=TC.out.at 3 rfl
 have y0:=TP.out.at 0 rfl
 have y1:=TP.out.at 1 rfl
 clear gm HB
 rw[hmk]
 go_wp2_with fail
 clear hmk hs0 hs1 x0 x1 x2 x3 y0 y1
 generalize W.heap.size=bm at HM ⊢
 generalize W.alloc _=W1 at HM TC TP T4 G ⊢
 refine(J1L W1 _ _ p c (HP.out.grow G.out) (by have h:=HCA.out.grow G.out;exact h) hcv).mono ?_
 rintro _ w3 ⟨r3,rfl,g3,h3⟩
 have TC:=ξ (TC.out.grow g3)
 have TP:=ξ (TP.out.grow g3)
 have T4:=ξ (T4.out.grow g3)
 have G:=ξ (G.out.trans g3)
 rcases h3.cases with⟨rfl,k3⟩|⟨rfl,k3⟩
 rotate_left
 ·have H:=ξ (show ∀ rs,¬ Kz p c rs from fun rs h=>k3 h.1)
  clear h3 k3 g3
  have c0:=T4.out.at 0 rfl
  have c1:=T4.out.at 1 rfl
  have c2:=T4.out.at 2 rfl
  have c3:=T4.out.at 3 rfl
  have c4:=T4.out.at 4 rfl
  have f0:=Ja.f (T4.out) 0
  have f1:=Ja.f (T4.out) 1
  have f2:=Ja.f (T4.out) 2
  have f3:=Ja.f (T4.out) 3
  have f4:=Ja.f (T4.out) 4
  have HXX:=ξ (fill5 (.string ⟨#[]⟩) (.int .i64 0) (.int .i64 0) (.slice none 0 0) (.int .i64 0) (T4.out) (G.out) HB4.out)
  go_wp2_with fail
  try rw[Exit.noGoto_ret]
  generalize ((((w3.setCell _ _).setCell _ _).setCell _ _).setCell _ _).setCell _ _=W5 at HXX ⊢
  clear c0 c1 c2 c3 c4 f0 f1 f2 f3 f4
  have z0:=HXX.out.2.1.at 0 rfl
  have z1:=HXX.out.2.1.at 1 rfl
  have z2:=HXX.out.2.1.at 2 rfl
  have z3:=HXX.out.2.1.at 3 rfl
  have z4:=HXX.out.2.1.at 4 rfl
  refine bodyPost_ret (by simp[results,Tryz.results148,go_sem,z0,z1,z2,z3,z4];rfl) rfl ?_
  exact⟨_,rfl,HXX.out.1,.inr ⟨H.out,1,by first|decide|exact HEE.out,rfl⟩⟩
 have HF:=ξ k3
 clear h3 k3
 by_cases h0:kd=0
 ·subst h0
  have hl:=(K9 (HM.out.grow g3) Tryz.underlying222 Tryz.underlying3 Kc (J0R _ _)).1
  have x0':=TC.out.at 0 rfl
  have x1':=TC.out.at 1 rfl
  have x2':=TC.out.at 2 rfl
  have x3':=TC.out.at 3 rfl
  have y0':=TP.out.at 0 rfl
  have y1':=TP.out.at 1 rfl
  go_wp2_with fail
  clear hl x0' x1' x2' x3' y0' y1'
  refine(J1O w3 _ _ p c (HP.out.grow G.out) (by have h:=HCA.out.grow G.out;exact h) HCM.out HK.out HW.out hn).mono ?_
  rintro _ w4 ⟨r4,rfl,g4,h4⟩
  have h4:=h4.derive HF.out HKD.out
  have hlt4:=T4.out.lt
  have hsz4:=G.out.size
  have T4:=ξ (T4.out.grow g4)
  have G:=ξ (G.out.trans g4)
  clear g4 g3
  rcases h4 with⟨rs,x,hd,rfl,hxs,hxt⟩|⟨hno,e,he,rfl⟩
  ·have HX:=ξ (And.intro hd (And.intro hxs hxt))
   have HLT:=ξ (show b4 < w3.heap.size∧w.heap.size≤w3.heap.size from⟨hlt4,hsz4⟩)
   have c0:=T4.out.at 0 rfl
   have c1:=T4.out.at 1 rfl
   have c2:=T4.out.at 2 rfl
   have c3:=T4.out.at 3 rfl
   have c4:=T4.out.at 4 rfl
   have f0:=Ja.f T4.out 0
   have f1:=Ja.f T4.out 1
   have f2:=Ja.f T4.out 2
   have f3:=Ja.f T4.out 3
   have f4:=Ja.f T4.out 4
   have hf:=fill5 (.string ⟨x.name.toArray⟩) (.int .i64 x.group) (.int .i64 x.kind) (.slice x.tp x.terms.length x.tc) (.int .i64 x.bound) T4.out G.out HB4.out
   have HXX:=ξ (show _∧_∧Jz _ w3.heap.size (.slice x.tp x.terms.length x.tc) x.terms from⟨hf.1,hf.2.1,HX.out.2.2.same hf.2.2 (by simp[World.setCell]) (fun e=>by
    have h1:=(World.ownsRow.lt HX.out.2.2.1 _ e).1
    have h2:=HLT.out
    omega) rfl rfl rfl⟩)
   clear hf hd hxs hxt
   unfold rowV
   go_wp2_with fail
   try rw[Exit.noGoto_ret]
   generalize ((((w4.setCell _ _).setCell _ _).setCell _ _).setCell _ _).setCell _ _=W5 at HXX ⊢
   clear c0 c1 c2 c3 c4 f0 f1 f2 f3 f4
   have z0:=HXX.out.2.1.at 0 rfl
   have z1:=HXX.out.2.1.at 1 rfl
   have z2:=HXX.out.2.1.at 2 rfl
   have z3:=HXX.out.2.1.at 3 rfl
   have z4:=HXX.out.2.1.at 4 rfl
   refine bodyPost_ret (by simp[results,Tryz.results148,go_sem,z0,z1,z2,z3,z4];rfl) rfl ?_
   exact⟨_,rfl,HXX.out.1,.inl ⟨rs,x,HX.out.1,rfl,HX.out.2.1,HXX.out.2.2.lower HLT.out.2⟩⟩
  ·have H:=ξ hno
   have HEE:=ξ he
   clear hno he
   unfold rowZ
   have c0:=T4.out.at 0 rfl
   have c1:=T4.out.at 1 rfl
   have c2:=T4.out.at 2 rfl
   have c3:=T4.out.at 3 rfl
   have c4:=T4.out.at 4 rfl
   have f0:=Ja.f (T4.out) 0
   have f1:=Ja.f (T4.out) 1
   have f2:=Ja.f (T4.out) 2
   have f3:=Ja.f (T4.out) 3
   have f4:=Ja.f (T4.out) 4
   have HXX:=ξ (fill5 (.string ⟨#[]⟩) (.int .i64 0) (.int .i64 0) (.slice none 0 0) (.int .i64 0) (T4.out) (G.out) HB4.out)
   go_wp2_with fail
   try rw[Exit.noGoto_ret]
   generalize ((((w4.setCell _ _).setCell _ _).setCell _ _).setCell _ _).setCell _ _=W5 at HXX ⊢
   clear c0 c1 c2 c3 c4 f0 f1 f2 f3 f4
   have z0:=HXX.out.2.1.at 0 rfl
   have z1:=HXX.out.2.1.at 1 rfl
   have z2:=HXX.out.2.1.at 2 rfl
   have z3:=HXX.out.2.1.at 3 rfl
   have z4:=HXX.out.2.1.at 4 rfl
   refine bodyPost_ret (by simp[results,Tryz.results148,go_sem,z0,z1,z2,z3,z4];rfl) rfl ?_
   exact⟨_,rfl,HXX.out.1,.inr ⟨H.out,e,by first|decide|exact HEE.out,rfl⟩⟩
 ·have h1:kd=1:=by
   rcases HF.out with h|h
   ·exact absurd (by rw[← HKD.out];exact h.1) h0
   ·rw[← HKD.out];exact h.1
  subst h1
  clear h0
  have hl:=(K9 (HM.out.grow g3) Tryz.underlying222 Tryz.underlying3 Kc (J0S _ _)).1
  have x0':=TC.out.at 0 rfl
  have x1':=TC.out.at 1 rfl
  have x2':=TC.out.at 2 rfl
  have x3':=TC.out.at 3 rfl
  have y0':=TP.out.at 0 rfl
  have y1':=TP.out.at 1 rfl
  go_wp2_with fail
  clear hl x0' x1' x2' x3' y0' y1'
  refine(J1I w3 _ _ p c (HP.out.grow G.out) (by have h:=HCA.out.grow G.out;exact h) HF.out HKD.out hcv HK.out HW.out hn).mono ?_
  rintro _ w4 ⟨r4,rfl,g4,h4⟩
  have hlt4:=T4.out.lt
  have hsz4:=G.out.size
  have T4:=ξ (T4.out.grow g4)
  have G:=ξ (G.out.trans g4)
  clear g4 g3
  rcases h4 with⟨rs,x,hd,rfl,hxs,hxt⟩|⟨hno,e,he,rfl⟩
  ·have HX:=ξ (And.intro hd (And.intro hxs hxt))
   have HLT:=ξ (show b4 < w3.heap.size∧w.heap.size≤w3.heap.size from⟨hlt4,hsz4⟩)
   have c0:=T4.out.at 0 rfl
   have c1:=T4.out.at 1 rfl
   have c2:=T4.out.at 2 rfl
   have c3:=T4.out.at 3 rfl
   have c4:=T4.out.at 4 rfl
   have f0:=Ja.f T4.out 0
   have f1:=Ja.f T4.out 1
   have f2:=Ja.f T4.out 2
   have f3:=Ja.f T4.out 3
   have f4:=Ja.f T4.out 4
   have hf:=fill5 (.string ⟨x.name.toArray⟩) (.int .i64 x.group) (.int .i64 x.kind) (.slice x.tp x.terms.length x.tc) (.int .i64 x.bound) T4.out G.out HB4.out
   have HXX:=ξ (show _∧_∧Jz _ w3.heap.size (.slice x.tp x.terms.length x.tc) x.terms from⟨hf.1,hf.2.1,HX.out.2.2.same hf.2.2 (by simp[World.setCell]) (fun e=>by
    have h1:=(World.ownsRow.lt HX.out.2.2.1 _ e).1
    have h2:=HLT.out
    omega) rfl rfl rfl⟩)
   clear hf hd hxs hxt
   unfold rowV
   go_wp2_with fail
   try rw[Exit.noGoto_ret]
   generalize ((((w4.setCell _ _).setCell _ _).setCell _ _).setCell _ _).setCell _ _=W5 at HXX ⊢
   clear c0 c1 c2 c3 c4 f0 f1 f2 f3 f4
   have z0:=HXX.out.2.1.at 0 rfl
   have z1:=HXX.out.2.1.at 1 rfl
   have z2:=HXX.out.2.1.at 2 rfl
   have z3:=HXX.out.2.1.at 3 rfl
   have z4:=HXX.out.2.1.at 4 rfl
   refine bodyPost_ret (by simp[results,Tryz.results148,go_sem,z0,z1,z2,z3,z4];rfl) rfl ?_
   exact⟨_,rfl,HXX.out.1,.inl ⟨rs,x,HX.out.1,rfl,HX.out.2.1,HXX.out.2.2.lower HLT.out.2⟩⟩
  ·have H:=ξ hno
   have HEE:=ξ he
   clear hno he
   unfold rowZ
   have c0:=T4.out.at 0 rfl
   have c1:=T4.out.at 1 rfl
   have c2:=T4.out.at 2 rfl
   have c3:=T4.out.at 3 rfl
   have c4:=T4.out.at 4 rfl
   have f0:=Ja.f (T4.out) 0
   have f1:=Ja.f (T4.out) 1
   have f2:=Ja.f (T4.out) 2
   have f3:=Ja.f (T4.out) 3
   have f4:=Ja.f (T4.out) 4
   have HXX:=ξ (fill5 (.string ⟨#[]⟩) (.int .i64 0) (.int .i64 0) (.slice none 0 0) (.int .i64 0) (T4.out) (G.out) HB4.out)
   go_wp2_with fail
   try rw[Exit.noGoto_ret]
   generalize ((((w4.setCell _ _).setCell _ _).setCell _ _).setCell _ _).setCell _ _=W5 at HXX ⊢
   clear c0 c1 c2 c3 c4 f0 f1 f2 f3 f4
   have z0:=HXX.out.2.1.at 0 rfl
   have z1:=HXX.out.2.1.at 1 rfl
   have z2:=HXX.out.2.1.at 2 rfl
   have z3:=HXX.out.2.1.at 3 rfl
   have z4:=HXX.out.2.1.at 4 rfl
   refine bodyPost_ret (by simp[results,Tryz.results148,go_sem,z0,z1,z2,z3,z4];rfl) rfl ?_
   exact⟨_,rfl,HXX.out.1,.inr ⟨H.out,e,by first|decide|exact HEE.out,rfl⟩⟩
theorem J1H (w:World)(v u:Value)(p:Prg)(c:CutS)(hp:Jv w v p)(hc:Lm w u c 4)(hcl:c.mult.length≤16)(hcs:∀ x ∈ c.mult,Sz 4 x)(hcv:c.vars.length≤1000)(hk:Jr p)(hw:Whole p)(hn:p.vars.length≤10)(hm:p.rows.length≤40):
  Calls Tryz.prog 96 #[v,u] w (Ret w (Qa p c w.heap.size)):=by
 have HK:=ξ hk
 have HW:=ξ hw
 have HP:=ξ hp
 have HCA:=ξ hc
 have HCS:=ξ hcs
 clear hk hw hcs
 obtain⟨pm,nm,cm,pv,nv,cv,rfl,hmu,hva,rfl,rfl⟩:=hc.parts
 clear hc hmu hva
 obtain⟨va,vc,vb,vd,rfl,hv,hr⟩:=hp
 have B0:=Ja.new w #[.slice va p.vars.length vc,.slice vb p.rows.length vd] 25
 have B1:=Ja.new (w.alloc (.cells #[.slice va p.vars.length vc,.slice vb p.rows.length vd] 25)) #[.int .i64 c.kind,.slice pm c.mult.length cm,.int .i64 c.row,.slice pv c.vars.length cv] 45
 have B2:=Ja.new ((w.alloc (.cells #[.slice va p.vars.length vc,.slice vb p.rows.length vd] 25)).alloc (.cells #[.int .i64 c.kind,.slice pm c.mult.length cm,.int .i64 c.row,.slice pv c.vars.length cv] 45)) rowZ 42
 simp only[World.size_alloc] at B1 B2
 unfold rowZ at B2
 have HB:=ξ (show _∧Ja _ _ #[.slice va p.vars.length vc,.slice vb p.rows.length vd]∧Ja _ _ #[.int .i64 c.kind,.slice pm c.mult.length cm,.int .i64 c.row,.slice pv c.vars.length cv]∧Ja _ _ #[.string ⟨#[]⟩,.int .i64 0,.int .i64 0,.slice none 0 0,.int .i64 0] from⟨B0.1.trans (B1.1.trans B2.1),B0.2.grow (B1.1.trans B2.1),B1.2.grow B2.1,B2.2⟩)
 clear hv hr B0 B1 B2
 unfold prgV at HP ⊢
 go_enter Tryz.func96,Tryz.ntmps96
 go_wp2_with fail
 generalize hb4:w.heap.size+1+1=b4 at HB ⊢
 generalize hbc:w.heap.size+1=bc at HB ⊢
 generalize hbp:w.heap.size=bp at HB ⊢
 generalize ((w.alloc _).alloc _).alloc _=W at HB ⊢
 have HB4:=ξ (show w.heap.size≤b4 from by omega)
 have TC:=ξ HB.out.2.2.1
 have TP:=ξ HB.out.2.1
 have T4:=ξ HB.out.2.2.2
 have G:=ξ HB.out.1
 clear hb4 hbc hbp HB
 refine(S4 W _ p (HP.out.grow G.out) (Jr.i HK.out) (Jr.nl HK.out) (by omega) (by omega)).mono ?_
 rintro _ w1 ⟨r1,rfl,g1,h1⟩
 rcases h1.cases with⟨rfl,k1⟩|⟨rfl,k1⟩
 rotate_left
 ·exact absurd HK.out k1
 have TC:=ξ (TC.out.grow g1)
 have TP:=ξ (TP.out.grow g1)
 have T4:=ξ (T4.out.grow g1)
 have G:=ξ (G.out.trans g1)
 have x0:=TC.out.at 0 rfl
 have x1:=TC.out.at 1 rfl
 have x2:=TC.out.at 2 rfl
 have x3:=TC.out.at 3 rfl
 have y0:=TP.out.at 0 rfl
 have y1:=TP.out.at 1 rfl
 clear h1 k1 g1
 go_wp2_with fail
 clear x0 x1 x2 x3 y0 y1
 refine(J1K w1 _ _ p c (HP.out.grow G.out) (HCA.out.grow G.out) hcl HCS.out hcv HK.out HW.out hn hm).mono ?_
 rintro _ w4 ⟨r4,rfl,g4,h4⟩
 have hlt4:=T4.out.lt
 have hsz4:=G.out.size
 have T4:=ξ (T4.out.grow g4)
 have G:=ξ (G.out.trans g4)
 clear g4
 rcases h4 with⟨rs,x,hd,rfl,hxs,hxt⟩|⟨hno,e,he,rfl⟩
 ·have HX:=ξ (And.intro hd (And.intro hxs hxt))
  have HLT:=ξ (show b4 < w1.heap.size∧w.heap.size≤w1.heap.size from⟨hlt4,hsz4⟩)
  have c0:=T4.out.at 0 rfl
  have c1:=T4.out.at 1 rfl
  have c2:=T4.out.at 2 rfl
  have c3:=T4.out.at 3 rfl
  have c4:=T4.out.at 4 rfl
  have f0:=Ja.f T4.out 0
  have f1:=Ja.f T4.out 1
  have f2:=Ja.f T4.out 2
  have f3:=Ja.f T4.out 3
  have f4:=Ja.f T4.out 4
  have hf:=fill5 (.string ⟨x.name.toArray⟩) (.int .i64 x.group) (.int .i64 x.kind) (.slice x.tp x.terms.length x.tc) (.int .i64 x.bound) T4.out G.out HB4.out
  have HXX:=ξ (show _∧_∧Jz _ w1.heap.size (.slice x.tp x.terms.length x.tc) x.terms from⟨hf.1,hf.2.1,HX.out.2.2.same hf.2.2 (by simp[World.setCell]) (fun e=>by
   have h1:=(World.ownsRow.lt HX.out.2.2.1 _ e).1
   have h2:=HLT.out
   omega) rfl rfl rfl⟩)
  clear hf hd hxs hxt
  unfold rowV
  go_wp2_with fail
  try rw[Exit.noGoto_ret]
  generalize ((((w4.setCell _ _).setCell _ _).setCell _ _).setCell _ _).setCell _ _=W5 at HXX ⊢
  clear c0 c1 c2 c3 c4 f0 f1 f2 f3 f4
  have z0:=HXX.out.2.1.at 0 rfl
  have z1:=HXX.out.2.1.at 1 rfl
  have z2:=HXX.out.2.1.at 2 rfl
  have z3:=HXX.out.2.1.at 3 rfl
  have z4:=HXX.out.2.1.at 4 rfl
  refine bodyPost_ret (by simp[results,Tryz.results96,go_sem,z0,z1,z2,z3,z4];rfl) rfl ?_
  exact⟨_,rfl,HXX.out.1,.inl ⟨rs,x,HX.out.1,rfl,HX.out.2.1,HXX.out.2.2.lower HLT.out.2⟩⟩
 ·have H:=ξ hno
  have HEE:=ξ he
  clear hno he
  unfold rowZ
  have c0:=T4.out.at 0 rfl
  have c1:=T4.out.at 1 rfl
  have c2:=T4.out.at 2 rfl
  have c3:=T4.out.at 3 rfl
  have c4:=T4.out.at 4 rfl
  have f0:=Ja.f (T4.out) 0
  have f1:=Ja.f (T4.out) 1
  have f2:=Ja.f (T4.out) 2
  have f3:=Ja.f (T4.out) 3
  have f4:=Ja.f (T4.out) 4
  have HXX:=ξ (fill5 (.string ⟨#[]⟩) (.int .i64 0) (.int .i64 0) (.slice none 0 0) (.int .i64 0) (T4.out) (G.out) HB4.out)
  go_wp2_with fail
  try rw[Exit.noGoto_ret]
  generalize ((((w4.setCell _ _).setCell _ _).setCell _ _).setCell _ _).setCell _ _=W5 at HXX ⊢
  clear c0 c1 c2 c3 c4 f0 f1 f2 f3 f4
  have z0:=HXX.out.2.1.at 0 rfl
  have z1:=HXX.out.2.1.at 1 rfl
  have z2:=HXX.out.2.1.at 2 rfl
  have z3:=HXX.out.2.1.at 3 rfl
  have z4:=HXX.out.2.1.at 4 rfl
  refine bodyPost_ret (by simp[results,Tryz.results96,go_sem,z0,z1,z2,z3,z4];rfl) rfl ?_
  exact⟨_,rfl,HXX.out.1,.inr ⟨H.out,e,by first|decide|exact HEE.out,rfl⟩⟩
def AddN (p:Prg)(c:CutS)(w0:World)(r:Value)(w:World):Prop:=
 (∃ (rs:RowS) (pv:Value),Kz p c rs∧r = .tuple #[pv,.int .i64 0]∧Lc w w0.heap.size pv (addRow p rs))∨((∀ rs,¬ Kz p c rs)∧∃ e:Int,e≠0∧r = .tuple #[.agg #[.slice none 0 0,.slice none 0 0],.int .i64 e])
theorem J1G (w:World)(v u:Value)(p:Prg)(c:CutS)(hp:Jv w v p)(hc:Lm w u c 4)(hcl:c.mult.length≤16)(hcs:∀ x ∈ c.mult,Sz 4 x)(hcv:c.vars.length≤1000)(hk:Jr p)(hw:Whole p)(hn:p.vars.length≤10)(hm:p.rows.length≤40)(htl:∀ r ∈ p.rows,r.terms.length≤1000000):
  Calls Tryz.prog 49 #[v,u] w (Ret w (AddN p c w)):=by
 have HK:=ξ hk
 have HW:=ξ hw
 have HP:=ξ hp
 have HC:=ξ hc
 have HCS:=ξ hcs
 have HTL:=ξ htl
 clear hk hw hcs htl
 obtain⟨pm,nm,cm,pv,nv,cv,rfl,-,-,rfl,rfl⟩:=hc.parts
 clear hc
 obtain⟨va,vc,vb,vd,rfl,hv,hr⟩:=hp
 have B0:=Ja.new w #[.slice va p.vars.length vc,.slice vb p.rows.length vd] 25
 have B1:=Ja.new (w.alloc (.cells #[.slice va p.vars.length vc,.slice vb p.rows.length vd] 25)) #[.int .i64 c.kind,.slice pm c.mult.length cm,.int .i64 c.row,.slice pv c.vars.length cv] 45
 have B2:=Ja.new ((w.alloc (.cells #[.slice va p.vars.length vc,.slice vb p.rows.length vd] 25)).alloc (.cells #[.int .i64 c.kind,.slice pm c.mult.length cm,.int .i64 c.row,.slice pv c.vars.length cv] 45)) #[.slice none 0 0,.slice none 0 0] 25
 simp only[World.size_alloc] at B1 B2
 have HB:=ξ (show _∧Ja _ _ #[.slice va p.vars.length vc,.slice vb p.rows.length vd]∧Ja _ _ #[.int .i64 c.kind,.slice pm c.mult.length cm,.int .i64 c.row,.slice pv c.vars.length cv]∧Ja _ _ #[.slice none 0 0,.slice none 0 0] from⟨B0.1.trans (B1.1.trans B2.1),B0.2.grow (B1.1.trans B2.1),B1.2.grow B2.1,B2.2⟩)
 clear hv hr B0 B1 B2
 unfold prgV at HP ⊢
 go_enter Tryz.func49,Tryz.ntmps49
 go_wp2_with fail
 generalize hb4:w.heap.size+1+1=b4 at HB ⊢
 generalize hbc:w.heap.size+1=bc at HB ⊢
 generalize hbp:w.heap.size=bp at HB ⊢
 generalize ((w.alloc _).alloc _).alloc _=W at HB ⊢
 have HB4:=ξ (show w.heap.size≤b4 from by omega)
 clear hb4 hbc hbp
 have G:=ξ HB.out.1
 have TP:=ξ HB.out.2.1
 have TC:=ξ HB.out.2.2.1
 have T4:=ξ HB.out.2.2.2
 clear HB
 have x0:=TC.out.at 0 rfl
 have x1:=TC.out.at 1 rfl
 have x2:=TC.out.at 2 rfl
 have x3:=TC.out.at 3 rfl
 have y0:=TP.out.at 0 rfl
 have y1:=TP.out.at 1 rfl
 try go_wp2_with fail
 clear x0 x1 x2 x3 y0 y1
 refine(J1H W _ _ p c (HP.out.grow G.out) (HC.out.grow G.out) hcl HCS.out hcv HK.out HW.out hn hm).mono ?_
 rintro _ w1 ⟨r1,rfl,g1,h1⟩
 have HLW:=ξ (show b4 < W.heap.size∧w.heap.size≤W.heap.size∧W.heap.size≤w1.heap.size from⟨T4.out.lt,G.out.size,g1.size⟩)
 have G:=ξ (G.out.trans g1)
 have TP:=ξ (TP.out.grow g1)
 have T4:=ξ (T4.out.grow g1)
 clear g1 TC
 rcases h1 with⟨rs,x,hd,rfl,hxs,hxt⟩|⟨hno,e,he,rfl⟩
 rotate_left
 ·have H:=ξ hno
  have HE:=ξ he
  have heb:(e != 0)=true:=by simpa using he
  have heb2:(e == 0)=false:=by simpa using he
  have g6:Gr w1 (w1.alloc (.cells rowZ 42)):=(Gr.refl _).alloc _
  have G:=ξ (G.out.trans g6)
  have T4:=ξ (T4.out.grow g6)
  have c0:=T4.out.at 0 rfl
  have c1:=T4.out.at 1 rfl
  have f0:=Ja.f T4.out 0
  have f1:=Ja.f T4.out 1
  have HXX:=ξ (fill2 (.slice none 0 0) (.slice none 0 0) T4.out G.out HB4.out)
  clear hno he g6
  unfold rowZ at c0 c1 f0 f1 HXX ⊢
  go_wp2_with fail
  try rw[Exit.noGoto_ret]
  generalize ((w1.alloc _).setCell _ _).setCell _ _=W5 at HXX ⊢
  clear c0 c1 f0 f1
  have z0:=HXX.out.2.1.at 0 rfl
  have z1:=HXX.out.2.1.at 1 rfl
  refine bodyPost_ret (by simp[results,Tryz.results49,go_sem,z0,z1];rfl) rfl ?_
  exact⟨_,rfl,HXX.out.1,.inr ⟨H.out,e,HE.out,rfl⟩⟩
 ·have HD:=ξ (And.intro hd hxs)
  have B6:=Ja.new w1 #[.string ⟨x.name.toArray⟩,.int .i64 x.group,.int .i64 x.kind,.slice x.tp x.terms.length x.tc,.int .i64 x.bound] 42
  have HXT:=ξ (hxt.1.grow B6.1)
  have HXB:=ξ (World.ownsRow.lt hxt.1)
  have G:=ξ (G.out.trans B6.1)
  have TP:=ξ (TP.out.grow B6.1)
  have T4:=ξ (T4.out.grow B6.1)
  have T6:=ξ B6.2
  have HL0:=ξ (show w1.heap.size≤w1.heap.size from Nat.le_refl _)
  have HL6:=ξ (show b4≠w1.heap.size from by have:=HLW.out;omega)
  have y0:=TP.out.at 0 rfl
  have y1:=TP.out.at 1 rfl
  have h40:¬ (4000:Int)≤(p.rows.length:Int):=by omega
  have h41:¬ 4000≤p.rows.length:=by omega
  clear hd hxs hxt B6
  unfold rowV
  go_wp2_with fail
  clear y0 y1 h40 h41
  have HL1:=ξ (show w1.heap.size < (w1.alloc (.cells #[.string ⟨x.name.toArray⟩,.int .i64 x.group,.int .i64 x.kind,.slice x.tp x.terms.length x.tc,.int .i64 x.bound] 42)).heap.size from by rw[World.size_alloc];omega)
  generalize hb6:w1.heap.size=b6 at T6 HL6 HL1 HLW HXB ⊢
  generalize w1.alloc _=w2 at T6 G TP T4 HXT HL1 ⊢
  clear hb6
  refine(J3E w2 _ p (HP.out.grow G.out) (by omega) (by omega) HTL.out).mono ?_
  rintro _ w3 ⟨r3,rfl,g3,va3,vc3,vb3,vd3,T,rfl,ho,hor,hT,htt,hsep⟩
  have B8:=Ja.new w3 #[.slice va3 p.vars.length vc3,.slice vb3 p.rows.length vd3] 25
  have HTLN:=ξ (show T.length=p.rows.length from by have:=congrArg List.length hT;simpa using this)
  have HTM:=ξ hT
  have HLR:=ξ (World.ownsRow.lt hor)
  have HLV:=ξ (World.ownsRow.lt ho)
  have HLT:=ξ (show ∀ y ∈ T,∀ k,(tv y).ownBlock=some k→w2.heap.size≤k∧k < w3.heap.size from fun y hy=>World.ownsRow.lt (htt y hy))
  have HSEP:=ξ hsep
  have HO:=ξ (ho.grow B8.1)
  have HOR:=ξ (hor.grow B8.1)
  have HTT:=ξ (show ∀ y ∈ T,K6 _ w2.heap.size y from fun y hy=>(htt y hy).grow B8.1)
  have HXT:=ξ (HXT.out.grow (g3.trans B8.1))
  have HGS:=ξ (show w2.heap.size≤w3.heap.size∧w.heap.size≤w2.heap.size from⟨g3.size,G.out.size⟩)
  have G:=ξ (G.out.trans (g3.trans B8.1))
  have T4:=ξ (T4.out.grow (g3.trans B8.1))
  have T6:=ξ (T6.out.grow (g3.trans B8.1))
  have T8:=ξ B8.2
  have t0:=T6.out.at 0 rfl
  have t1:=T6.out.at 1 rfl
  have t2:=T6.out.at 2 rfl
  have t3:=T6.out.at 3 rfl
  have t4:=T6.out.at 4 rfl
  have q1:=T8.out.at 1 rfl
  clear ho hor hT htt hsep g3 B8 TP
  unfold prgV
  go_wp2_with (at_builtin;refine Hold.hold ?_)
  clear t0 t1 t2 t3 t4 q1
  have hsz:(w3.alloc (.cells #[.slice va3 p.vars.length vc3,.slice vb3 p.rows.length vd3] 25)).heap.size=w3.heap.size+1:=World.size_alloc ..
  have HS3:=ξ hsz
  rw[← hsz]
  clear hsz
  generalize w3.heap.size=b8 at T8 HLR HLV HLT HGS HS3 ⊢
  generalize w3.alloc _=w4 at T8 HO HOR HTT HXT G T4 HS3 ⊢
  have BS:=SlL.new (enc:=encRow) (sz:=5) w4 42 L1 [x] #[.string ⟨x.name.toArray⟩,.int .i64 x.group,.int .i64 x.kind,.slice x.tp x.terms.length x.tc,.int .i64 x.bound] 1 rfl rfl (by decide)
  have HBS:=ξ BS.2
  have T8:=ξ (T8.out.grow BS.1)
  have T4:=ξ (T4.out.grow BS.1)
  have HO:=ξ (HO.out.grow BS.1)
  have HOR:=ξ (HOR.out.grow BS.1)
  have HTT:=ξ (show ∀ y ∈ T,K6 _ w2.heap.size y from fun y hy=>(HTT.out y hy).grow BS.1)
  have HXT:=ξ (HXT.out.grow BS.1)
  have G:=ξ (G.out.trans BS.1)
  have HS4:=ξ (show b8 < (w4.alloc (.cells #[.string ⟨x.name.toArray⟩,.int .i64 x.group,.int .i64 x.kind,.slice x.tp x.terms.length x.tc,.int .i64 x.bound] 42)).heap.size from by have:=HS3.out;rw[World.size_alloc];omega)
  clear BS
  generalize w4.heap.size=bs at HBS ⊢
  generalize w4.alloc _=w5 at T8 HO HOR HTT HXT G T4 HBS HS4 ⊢
  refine Hold.go ?_
  refine wpList_plain rfl (fun K hK=>?_)
  refine O7 _ _ 23 42 _ 64 rfl Tryz.underlying23 Tx rfl (by decide) L1 Si w2.heap.size (.slice vb3 p.rows.length vd3) _ T [x] rfl HOR.out rfl HBS.out (by have:=HTLN.out;simp;omega) (by have:=HTLN.out;simp;omega) (by have:=HGS.out;have:=HS4.out;omega) (by simp) ?_
  intro rv' w6 h1 h2 h3
  have hG6:Gr w w6:=OwnL.gr (OwnL.low HOR.out HGS.out.2) G.out h2
  have c8:=Kt T8.out (h2.block b8 T8.out.lt (fun e=>by have:=(HLR.out _ e.symm).2;omega))
  have c4:=Kt T4.out (h2.block b4 T4.out.lt (fun e=>by have:=(HLR.out _ e.symm).1;have:=HLW.out;have:=HL1.out;omega))
  have k0:OwnL w6 w2.heap.size 62 5 encVar (.slice va3 p.vars.length vc3) p.vars:=OwnL.keptR HO.out h2 fun b hb=>(HSEP.out b hb).1
  have k1:∀ y ∈ T,K6 w6 w2.heap.size y:=fun y hy=>OwnL.keptR (HTT.out y hy) h2 fun b hb=>(HSEP.out b hb).2 y hy
  have k2:OwnL w6 W.heap.size 75 2 encTerm (.slice x.tp x.terms.length x.tc) x.terms:=OwnL.keptR HXT.out h2 fun b hb e=>by have:=(HLR.out _ hb).1;have:=(HXB.out _ e).2;have:=HL1.out;omega
  have hbr:∀ k,rv'.ownBlock=some k→w2.heap.size≤k∧k≠b8:=fun k hk'=>by
   rcases h3 with h3|h3
   ·rw[h3] at hk'
    have:=HLR.out _ hk'
    exact⟨this.1,by omega⟩
   ·rw[h3] at hk'
    obtain rfl:=Option.some.inj hk'
    have:=HS4.out
    have:=HGS.out
    exact⟨by omega,by omega⟩
  obtain⟨pr,cr,hrv,-,-⟩:=h1.read.parts
  rw[show(T ++ [x]).length=p.rows.length+1 from by have:=HTLN.out;simp;omega] at hrv
  subst hrv
  have q1:=c8.at 1 rfl
  have q2:=Ja.f c8 1
  have hu:=J8 w6 b8 1 (.slice pr (p.rows.length+1) cr)
  have H7:=ξ (show Gr w (w6.setCell ⟨b8,1,none⟩ (.slice pr (p.rows.length+1) cr))∧Ja (w6.setCell ⟨b8,1,none⟩ (.slice pr (p.rows.length+1) cr)) b8 #[.slice va3 p.vars.length vc3,.slice pr (p.rows.length+1) cr]∧Ja (w6.setCell ⟨b8,1,none⟩ (.slice pr (p.rows.length+1) cr)) b4 #[.slice none 0 0,.slice none 0 0]∧
    OwnL (w6.setCell ⟨b8,1,none⟩ (.slice pr (p.rows.length+1) cr)) w2.heap.size 62 5 encVar (.slice va3 p.vars.length vc3) p.vars∧OwnL (w6.setCell ⟨b8,1,none⟩ (.slice pr (p.rows.length+1) cr)) w2.heap.size 42 5 encRow (.slice pr (p.rows.length+1) cr) (T ++ [x])∧
    (∀ y ∈ T,K6 (w6.setCell ⟨b8,1,none⟩ (.slice pr (p.rows.length+1) cr)) w2.heap.size y)∧OwnL (w6.setCell ⟨b8,1,none⟩ (.slice pr (p.rows.length+1) cr)) W.heap.size 75 2 encTerm (.slice x.tp x.terms.length x.tc) x.terms from by
   have n8:=HGS.out
   have nl:=HLW.out
   have n1:=HL1.out
   have o8x:(Value.slice x.tp x.terms.length x.tc).ownBlock≠some b8:=fun e=>by have h:=HXB.out _ e;have n0:=HL0.out;omega
   refine⟨Gr.set hG6 (by omega) _,?_,c4.upd hu (by omega),k0.other (fun e=>by have:=(HLV.out _ e).2;omega),h1.other (fun e=>(hbr _ e).2 rfl),fun y hy=>OwnL.other (k1 y hy) (fun e=>by have:=(HLT.out y hy _ e).2;omega),k2.other o8x⟩
   have:=c8.set 1 (.slice pr (p.rows.length+1) cr)
   simpa using this)
  clear h1 h2 h3 hG6 c8 c4 k0 k1 k2 hu
  have HBR:=ξ hbr
  clear hbr
  refine hK _ _ ?_
  clear hK K
  have hne1:¬ b4=b8:=by have:=HGS.out;have:=HLW.out;have:=HL1.out;omega
  have hne2:¬ b8=b4:=fun e=>hne1 e.symm
  have d0:=H7.out.2.1.at 0 rfl
  have d1:=H7.out.2.1.at 1 rfl
  have e0:=H7.out.2.2.1.at 0 rfl
  have e1:=H7.out.2.2.1.at 1 rfl
  have f0:=Ja.f H7.out.2.2.1 0
  have f1:=Ja.f H7.out.2.2.1 1
  have hf:=fill2 (.slice va3 p.vars.length vc3) (.slice pr (p.rows.length+1) cr) H7.out.2.2.1 H7.out.1 HB4.out
  have o4v:(Value.slice va3 p.vars.length vc3).ownBlock≠some b4:=fun e=>by have:=(HLV.out _ e).1;have:=HLW.out;have:=HL1.out;omega
  have o4r:(Value.slice pr (p.rows.length+1) cr).ownBlock≠some b4:=fun e=>by have:=(HBR.out _ e).1;have:=HLW.out;have:=HL1.out;omega
  have o4x:(Value.slice x.tp x.terms.length x.tc).ownBlock≠some b4:=fun e=>by have:=(HXB.out _ e).1;have:=HLW.out;omega
  have o4t:∀ y ∈ T,(tv y).ownBlock≠some b4:=fun y hy e=>by have h0:=(HLT.out y hy _ e).1;have h1:=HLW.out;have h2:=HL1.out;omega
  have H8:=ξ (And.intro hf.1 (And.intro hf.2.1 (And.intro (OwnL.fill H7.out.2.2.2.1 o4v (.slice va3 p.vars.length vc3) (.slice pr (p.rows.length+1) cr)) (And.intro (OwnL.fill H7.out.2.2.2.2.1 o4r (.slice va3 p.vars.length vc3) (.slice pr (p.rows.length+1) cr)) (And.intro (show ∀ y ∈ T,K6 _ w2.heap.size y from fun y hy=>OwnL.fill (H7.out.2.2.2.2.2.1 y hy) (o4t y hy) (.slice va3 p.vars.length vc3) (.slice pr (p.rows.length+1) cr)) (OwnL.fill H7.out.2.2.2.2.2.2 o4x (.slice va3 p.vars.length vc3) (.slice pr (p.rows.length+1) cr)))))))
  clear hf o4v o4r o4x o4t
  go_wp2_with fail
  clear d0 d1 e0 e1 f0 f1 q1 q2 hne1 hne2
  try rw[Exit.noGoto_ret]
  generalize ((w6.setCell _ _).setCell _ _).setCell _ _=W9 at H8 ⊢
  have z0:=H8.out.2.1.at 0 rfl
  have z1:=H8.out.2.1.at 1 rfl
  refine bodyPost_ret (by simp[results,Tryz.results49,go_sem,z0,z1];rfl) rfl ?_
  have el:(addRow p rs).rows.length=p.rows.length+1:=by simp[addRow]
  refine⟨_,rfl,H8.out.1,.inl ⟨rs,_,HD.out.1,rfl,va3,vc3,pr,cr,T ++ [x],?_,OwnL.low H8.out.2.2.1 HGS.out.2,?_,?_,fun y hy=>?_⟩⟩
  ·unfold prgV;rw[el];rfl
  ·rw[el];exact OwnL.low H8.out.2.2.2.1 HGS.out.2
  ·rw[List.map_append,HTM.out,List.map_cons,List.map_nil,HD.out.2];rfl
  ·rcases List.mem_append.1 hy with hy|hy
   ·exact OwnL.low (H8.out.2.2.2.2.1 y hy) HGS.out.2
   ·obtain rfl:=List.mem_singleton.1 hy
    exact OwnL.low H8.out.2.2.2.2.2 HLW.out.2.1
end Prf
end Go.Proofs.YtcjgimlcefhhmaaGreatDoor
