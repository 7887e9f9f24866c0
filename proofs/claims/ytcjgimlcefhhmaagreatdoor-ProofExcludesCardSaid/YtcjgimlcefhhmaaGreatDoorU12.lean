/- Texts: NumC. -/
import Derived.Laws.Concat
import Derived.Test.YtcjgimlcefhhmaaGreatDoorU11
set_option linter.unusedVariables false
set_option linter.unusedSimpArgs false
set_option maxRecDepth 100000
set_option maxHeartbeats 12800000
namespace Go.Proofs.YtcjgimlcefhhmaaGreatDoor
open Go.RowKit Go.Sort Go.Lib
def sliceLen:Value→Nat
 | .slice _ n _=>n
 | _=>0
theorem OwnS.len {w:World}{base:Nat}{v:Value}{l:List (List UInt8)}(h:OwnS w base v l):sliceLen v=l.length:=by
 rcases h.2 with⟨rfl,h2⟩|⟨g,cap,cur,rfl,_⟩
 ·exact h2.symm
 ·rfl
theorem J68 (w:World)(c:Nat)(hc:c≤1000):
  Calls Tryz.prog 237 #[.string ⟨#[48]⟩,.int .i64 c] w (Ret w fun r _=>r = .string ⟨(List.replicate c 48).toArray⟩):=by
 refine(Tryz.strings_Repeat ⟨#[48]⟩ c w (by omega) (by show 1 * c≤_;omega)).mono ?_
 rintro _ w1 ⟨rfl,g⟩
 refine⟨_,rfl,g,?_⟩
 rw[← J0k]
theorem Yf {α:Type}:∀ xs:List (List α),[].intercalate xs=xs.flatten
 | []=>rfl
 | [x]=>by simp[List.intercalate]
 | x :: y :: l=>by
  have ih:=Yf (y :: l)
  simp only[List.intercalate,List.intersperse,List.flatten_cons] at ih ⊢
  rw[ih];simp
theorem Yg (ls:List (List UInt8)):Lib.join ((ls.map fun l=>(⟨l.toArray⟩:ByteArray)).map (·.data.toList)) []=ls.flatten:=by
 rw[Lib.join,Yf,List.map_map]
 congr 1
 rw[List.map_congr_left (g:=id) (fun x _=>by simp)]
 simp
theorem J1T (w:World)(z:Nat)(s:List UInt8)(t:TypeId):(w.alloc (.cells #[.string (⟨Array.replicate z 48⟩ ++ ⟨s.toArray⟩)] t)).cell? ⟨w.heap.size,0,none⟩=some (encStr (List.replicate z 48 ++ s)):=by
 have h:=ByteArray.mk_append_mk (List.replicate z 48) s
 rw[show(List.replicate z (48:UInt8)).toArray=Array.replicate z 48 by simp] at h
 rw[h]
 unfold World.cell?
 simp only[heap_alloc_new w _]
 rfl
theorem J1S (w:World)(a:Value)(t:TypeId):(w.alloc (.cells #[a] t)).cell? ⟨w.heap.size,0,none⟩=some a:=by
 unfold World.cell?
 simp only[heap_alloc_new w _]
 rfl
theorem Th (w:World)(v:Value)(l:List Nat)(h:NatL w v l)(hlen:l.length≤1000000)(htab:Tab w):
  Calls Tryz.prog 182 #[v] w (Ret w fun r _=>r = .string ⟨(Lib.decDigits (nval l)).toArray⟩):=by
 have HA:=ξ h
 have HT:=ξ htab
 obtain⟨N,hN⟩:∃ N,nval l=N:=⟨_,rfl⟩
 have HN:=ξ hN
 rw[hN]
 clear h htab hN
 go_enter Tryz.func182,Tryz.ntmps182
 go_wp2_with fail
 refine(Lg _ v l HA.out).mono ?_
 rintro _ _ ⟨⟨p,k,rfl,hm⟩,rfl⟩
 rw[K7,HN.out] at hm
 have Hm:=ξ hm
 clear hm
 go_wp2_with fail
 go_loopw [0,3] (fun va vp w1=>∃ (m:Nat) (ps:List (List UInt8)),NatL w1 va (digs m)∧OwnS w1 w.heap.size vp ps∧Own w.heap.size w w1∧Lf N m ps∧m≤N∧ps.length≤2000001) (fun _ vp _=>N+1 - sliceLen vp)
 case atStart=>exact⟨N,[],Hm.out,OwnS.nil _ _,Own.refl _ _,Lf.start N,Nat.le_refl _,by decide⟩
 case round=>
  obtain⟨m,ps,hva,hown,ho,hp,hmN,hpc⟩:=hrel
  have Hva:=ξ hva
  have Hown:=ξ hown
  have Ho:=ξ ho
  have Hp:=ξ hp
  have Hb:=ξ (show w.heap.size≤wr.heap.size from ho.size)
  have hmL:(digs m).length≤1000000:=Nat.le_trans (Om hmN) (by rw[← HN.out];exact Nat.le_trans (Nc HA.out.dig) hlen)
  obtain⟨pa,ca,rfl,a1,a2,-⟩:=hva.parts
  obtain⟨n,hn⟩:∃ n,(digs m).length=n:=⟨_,rfl⟩
  have Hn:=ξ hn
  rw[hn] at Hva hmL a1 ⊢
  clear hva hown ho hp hn
  by_cases hm:m=0
  ·have hn0:n=0:=by rw[← Hn.out,hm];simp[J7.2]
   subst hn0
   subst hm
   rcases Hp.out.stop with⟨rfl,h0⟩|⟨hne,hd⟩
   ·have hl:=Hown.out.len
    rcases Hown.out.2 with⟨rfl,h2⟩|⟨g,cap,cur,rfl,_⟩
    ·go_wp2_with fail
     go_ret
     exact⟨_,rfl,Ho.out.gr,by rw[h0,N0 (by decide)];rfl⟩
    ·go_wp2_with fail
     go_ret
     exact⟨_,rfl,Ho.out.gr,by rw[h0,N0 (by decide)];rfl⟩
   ·have hv:u3≠.slice none 0 0:=fun e=>by
     have:=Hown.out.len
     rw[e] at this
     exact hne (List.eq_nil_of_length_eq_zero this.symm)
    obtain⟨g,cap,rfl,hb,hlt,hcap,hmax,hlen2,hH⟩:=Lib.holds_of_ownsRow Hown.out hv
    have hbelow:=Hown.out
    obtain⟨j,hj⟩:∃ j,ps.length=j:=⟨_,rfl⟩
    have hR:=Tryz.slices_Reverse_string g 0 cap ps wr hH (by omega)
    have hj0:j≠0:=by rw[← hj];exact fun e=>hne (List.eq_nil_of_length_eq_zero e)
    have hown2:∀ q,(putRow encStr (Sort.ahead wr q) g 0 ps.reverse.toArray).ownsRow w.heap.size 9 1 (.slice (some ⟨g,0,none⟩) j cap) j (ps.reverse.map encStr):=fun q=>by
     have h:=Lib.ownsRow_putRow (k:=j) (q:=q) (ys:=ps.reverse) Hown.out (by simp) (by omega)
     rwa [List.take_of_length_le (by simp[hj])] at h
    have hbel:∀ q,Below w.heap.size w (putRow encStr (Sort.ahead wr q) g 0 ps.reverse.toArray):=fun q=>Lib.below_putRow Ho.out hb
    rw[hj] at hR hcap hpc
    simp only[hj] at hv ⊢
    have HR:=ξ hR
    have HO:=ξ hown2
    have HB:=ξ hbel
    have Hd:=ξ hd
    have Hj:=ξ hj
    clear hR hown2 hbel hbelow hH hd hj hv hlen2 hne hmax
    go_wp2_with fail
    refine HR.out.mono ?_
    rintro _ _ ⟨rfl,q,rfl⟩
    have hO:=HO.out q
    have hB:=HB.out q
    generalize putRow encStr (Sort.ahead wr q) g 0 ps.reverse.toArray=w1 at hO hB
    have hJ:=Tryz.strings_Join g 0 cap (ps.reverse.map fun l=>⟨l.toArray⟩) ⟨#[]⟩ w1 (fun i x hx=>by
     have hi:i < ps.length:=by have:=(List.getElem?_eq_some_iff.1 hx).1;simpa using this
     have h2:(ps.reverse.map encStr)[i]?=some (.string x):=by
      rw[List.getElem?_map] at hx ⊢
      obtain⟨y,hy,rfl⟩:=Option.map_eq_some_iff.1 hx
      rw[hy];rfl
     have h4:=World.ownsRow.cells hO (g:=g) rfl i _ h2
     rw[Qd] at h4;exact h4) (hO.lt g rfl).2 (by simp[Hj.out];omega) (by simp[Hj.out];omega) (by
     have e:Lib.join ((ps.reverse.map fun l=>(⟨l.toArray⟩:ByteArray)).map (·.data.toList)) []=decDigits N:=by
      rw[Hd.out];exact Yg _
     rw[show(⟨#[]⟩:ByteArray).data.toList=[] from rfl,e]
     refine Nat.le_trans (Qi (L:=l.length) ?_) (by omega)
     rw[← HN.out];exact Lh l HA.out.dig)
    rw[show(ps.reverse.map fun l=>(⟨l.toArray⟩:ByteArray)).length=j by simp[Hj.out],show(⟨#[]⟩:ByteArray).data.toList=[] from rfl,
     show Lib.join ((ps.reverse.map fun l=>(⟨l.toArray⟩:ByteArray)).map (·.data.toList)) []=decDigits N by rw[Hd.out];exact Yg _] at hJ
    have HJ:=ξ hJ
    have HB1:=ξ hB
    clear hJ hO hB
    go_wp2_with fail
    refine HJ.out.mono ?_
    rintro _ w2 ⟨rfl,gj⟩
    go_wp2_with fail
    go_ret
    exact⟨_,rfl,Below.trans HB1.out (Below.mono gj HB1.out.size),rfl⟩
  ·have hm0:0 < m:=by omega
   have hn0:0 < n:=by rw[← Hn.out];exact List.length_pos_iff.2 (fun e=>hm (J7.1 e))
   have hpl:=Hp.out.few hm0
   go_wp2_with fail
   have hpb:ps.length < 2 * l.length:=Hp.out.bound hm0 (by rw[← HN.out];exact Lh l HA.out.dig)
   refine(Zd _ _ _ 1000000000 Hva.out (by rw[Hn.out];omega) (fun e=>hm (J7.1 e)) (by decide) (by decide)).mono ?_
   rintro _ w1 ⟨_,rfl,g1,gx,nx,hgx,rfl,hx⟩
   rw[Je] at hx ⊢
   obtain⟨r,hr⟩:∃ r,m % 1000000000=r:=⟨_,rfl⟩
   obtain⟨q,hq⟩:∃ q,m / 1000000000=q:=⟨_,rfl⟩
   have hr9:r < 1000000000:=by rw[← hr];exact Nat.mod_lt _ (by decide)
   rw[hq] at hx
   rw[hr]
   have Hx:=ξ hx
   have Hr:=ξ hr
   have Hq:=ξ hq
   have hnx:(digs q).length=nx:=by obtain⟨p',c',e,_⟩:=hx.parts;injection e with _ e _;exact e.symm
   have Hnx:=ξ hnx
   have G1:=ξ g1
   clear hx hr hq hnx g1
   go_wp2_with fail
   refine(J67 w1 r (by omega) (HT.out.grow (Ho.out.gr.trans G1.out))).mono ?_
   rintro _ w2 ⟨_,rfl,g2,rfl⟩
   have G2:=ξ (G1.out.trans g2)
   clear G1
   have hsl:(decDigits r).length≤9:=Sa 8 r (by simpa using hr9)
   obtain⟨s,hs⟩:∃ s,decDigits r=s:=⟨_,rfl⟩
   rw[hs] at hsl ⊢
   have Hs:=ξ hs
   clear hs
   by_cases hq:q=0
   ·have hnx0:nx=0:=by rw[← Hnx.out,hq];simp[J7.2]
    subst hnx0
    have GX:=ξ g2
    clear g2
    go_wp2_with (at_builtin;go_must (refine J19 rfl _ _ rfl w.heap.size _ ps s w2.heap.size 1 rfl (Hown.out.grow (G2.out.trans ((Gr.refl w2).alloc _))) rfl (J1S _ _ _) (by omega) (Nat.le_trans Hb.out (Nat.le_trans G2.out.size (by simp))) ?_;intro v' w' hown' hgrown))
    have hg:=hgrown
    have Hg2:Own w.heap.size w w':=(Ho.out.trans (Own.of_gr (G2.out.trans ((Gr.refl w2).alloc _)) Hb.out)).trans (Own.grown hg (Nat.le_trans Hb.out (Nat.le_trans G2.out.size (by simp))) (fun k hk=>(Hown.out.lt k hk).1))
    have hx':NatL w' (.slice (some ⟨gx,0,none⟩) 0 0) (digs q):=NatL.kept (Hx.out.grow (GX.out.trans ((Gr.refl w2).alloc _))) (fun k hk=>Zj (Hown.out.lt k hk).2 hgx) hg
    have hps:=Hp.out.step hm0
    rw[Hq.out,Hr.out] at hps
    refine⟨⟨q,ps ++ [s],hx',hown',Hg2,?_,?_,?_⟩,?_⟩
    ·rw[show s=part q r from ?_]
     ·exact hps
     ·rw[part,if_pos hq,Hs.out]
    ·exact Nat.le_trans (by rw[← Hq.out];exact Nat.div_le_self _ _) hmN
    ·rw[List.length_append];simp;omega
    ·rw[hown'.len,Hown.out.len,List.length_append];simp;omega
   ·have hnx0:0 < nx:=by rw[← Hnx.out];exact List.length_pos_iff.2 (fun e=>hq (J7.1 e))
    have hnxb:nx≤1000000:=by
     rw[← Hnx.out]
     refine Nat.le_trans (Om (Nat.le_trans ?_ hmN)) (by rw[← HN.out];exact Nat.le_trans (Nc HA.out.dig) hlen)
     rw[← Hq.out];exact Nat.div_le_self _ _
    obtain⟨z,hz⟩:∃ z:Nat,9 - s.length=z:=⟨_,rfl⟩
    have Ez:=ξ (show(9:Int) - (s.length:Int)=(z:Int) by omega)
    have Hz:=ξ hz
    have hzl:z+s.length≤9223372036854775807:=by omega
    clear hz
    have GX0:=ξ g2
    clear g2
    go_wp2_with fail
    rw[Ez.out]
    refine(J68 w2 z (by rw[← Hz.out];omega)).mono ?_
    rintro _ w3 ⟨_,rfl,g3,rfl⟩
    have G2:=ξ (G2.out.trans g3)
    have GX:=ξ (GX0.out.trans g3)
    clear g3 GX0
    have Hpad:=ξ (show List.replicate z 48 ++ s=padD 9 r by rw[Zy 8 r (by simpa using hr9),Hs.out,← Hz.out])
    go_wp2_with (at_builtin;go_must (refine J19 rfl _ _ rfl w.heap.size _ ps (List.replicate z 48 ++ s) w3.heap.size 1 rfl (Hown.out.grow (G2.out.trans ((Gr.refl w3).alloc _))) rfl (J1T _ _ _ _) (by omega) (Nat.le_trans Hb.out (Nat.le_trans G2.out.size (by simp))) ?_;intro v' w' hown' hgrown))
    have hg:=hgrown
    have Hg2:Own w.heap.size w w':=(Ho.out.trans (Own.of_gr (G2.out.trans ((Gr.refl w3).alloc _)) Hb.out)).trans (Own.grown hg (Nat.le_trans Hb.out (Nat.le_trans G2.out.size (by simp))) (fun k hk=>(Hown.out.lt k hk).1))
    have hx':NatL w' (.slice (some ⟨gx,0,none⟩) nx nx) (digs q):=NatL.kept (Hx.out.grow (GX.out.trans ((Gr.refl w3).alloc _))) (fun k hk=>Zj (Hown.out.lt k hk).2 hgx) hg
    have hps:=Hp.out.step hm0
    rw[Hq.out,Hr.out] at hps
    refine⟨⟨q,ps ++ [List.replicate z 48 ++ s],hx',hown',Hg2,?_,?_,?_⟩,?_⟩
    ·rw[show List.replicate z 48 ++ s=part q r from ?_]
     ·exact hps
     ·rw[part,if_neg hq,Hpad.out]
    ·exact Nat.le_trans (by rw[← Hq.out];exact Nat.div_le_self _ _) hmN
    ·rw[List.length_append];simp;omega
    ·rw[hown'.len,Hown.out.len,List.length_append];simp;omega
end Go.Proofs.YtcjgimlcefhhmaaGreatDoor
