/- Texts: NumC. -/
import Derived.Test.YtcjgimlcefhhmaaGreatDoorC9
set_option linter.unusedVariables false
set_option linter.unusedSimpArgs false
set_option maxRecDepth 100000
set_option maxHeartbeats 12800000
namespace Go.Proofs.YtcjgimlcefhhmaaGreatDoor
open Go.RowKit Go.Sort Go.Lib
def sliceLen:Value→Nat
 | .slice _ n _=>n
 | _=>0
theorem OwnS.len {w:World}{base:Nat}{v:Value}{l:List (List UInt8)}(h:OwnS w base v l):sliceLen v=l.length:=by
 rcases h.2 with⟨rfl,a⟩|⟨g,b,c,rfl,_⟩
 ·exact a.symm
 ·rfl
theorem J6g (w:World)(c:Nat)(a:c≤1000):
  Calls Tryz.prog 237 #[.string ⟨#[48]⟩,.int .i64 c] w (Ret w fun r _=>r = .string ⟨(List.replicate c 48).toArray⟩):=by
 refine(Tryz.strings_Repeat ⟨#[48]⟩ c w (by omega) (by show 1 * c≤_;omega)).mono ?_;rintro _ b ⟨rfl,g⟩;refine⟨_,rfl,g,?_⟩;rw[← J0R]
theorem Yy {α:Type}:∀ xs:List (List α),[].intercalate xs=xs.flatten
 | []=>rfl
 | [x]=>by simp[List.intercalate]
 | x :: y :: l=>by
  have a:=Yy (y :: l);simp only[List.intercalate,List.intersperse,List.flatten_cons] at a ⊢;rw[a];simp
theorem Yz (a:List (List UInt8)):Lib.join ((a.map fun l=>(⟨l.toArray⟩:ByteArray)).map (·.data.toList)) []=a.flatten:=by
 rw[Lib.join,Yy,List.map_map];congr 1;rw[List.map_congr_left (g:=id) (fun x _=>by simp)];simp
theorem J2r (w:World)(z:Nat)(s:List UInt8)(t:TypeId):(w.alloc (.cells #[.string (⟨Array.replicate z 48⟩ ++ ⟨s.toArray⟩)] t)).cell? ⟨w.heap.size,0,none⟩=some (encStr (List.replicate z 48 ++ s)):=by
 have h:=ByteArray.mk_append_mk (List.replicate z 48) s;rw[show(List.replicate z (48:UInt8)).toArray=Array.replicate z 48 by simp] at h;rw[h];unfold World.cell?;simp only[heap_alloc_new w _];rfl
theorem J2q (w:World)(a:Value)(t:TypeId):(w.alloc (.cells #[a] t)).cell? ⟨w.heap.size,0,none⟩=some a:=by
 unfold World.cell?;simp only[heap_alloc_new w _];rfl
theorem Uh (w:World)(v:Value)(l:List Nat)(h:NatL w v l)(b2:l.length≤1000000)(b9:Tab w):
  Calls Tryz.prog 182 #[v] w (Ret w fun r _=>r = .string ⟨(Lib.decDigits (nval l)).toArray⟩):=by
 obtain⟨F,HT⟩:=Z2 h b9;obtain⟨N,hN⟩:∃ N,nval l=N:=⟨_,rfl⟩
 have G:=Z hN;rw[hN];clear h b9 hN;go_enter Tryz.func182,Tryz.ntmps182;go_wp2_with fail;refine(L3 _ v l F.o).mono ?_;rintro _ _ ⟨⟨p,k,rfl,f⟩,rfl⟩;rw[Lh,G.o] at f;have Hm:=Z f;clear f;go_wp2_with fail;go_loopw [0,3] (fun va vp u=>∃ (m:Nat) (a:List (List UInt8)),NatL u va (digs m)∧OwnS u w.heap.size vp a∧Own w.heap.size w u∧L0 N m a∧m≤N∧a.length≤2000001) (fun _ vp _=>N+1 - sliceLen vp)
 case atStart=>exact⟨N,[],Hm.o,OwnS.nil _ _,Own.refl _ _,L0.start N,Nat.le_refl _,by decide⟩
 case round=>
  obtain⟨m,a,a5,b6,ho,hp,S,c6⟩:=hrel;obtain⟨a9,b,B,H,A⟩:=Z5 a5 b6 ho hp (show w.heap.size≤wr.heap.size from ho.size);have c4:(digs m).length≤1000000:=Nat.le_trans (Pf S) (by rw[← G.o];exact Nat.le_trans (M4 F.o.dig) b2);obtain⟨pa,ca,rfl,a1,a2,-⟩:=a5.parts;obtain⟨n,hn⟩:∃ n,(digs m).length=n:=⟨_,rfl⟩
  have Hn:=Z hn;rw[hn] at a9 c4 a1 ⊢;clear a5 b6 ho hp hn;by_cases f:m=0
  ·have b3:n=0:=by rw[← Hn.o,f];simp[Ka.2]
   subst b3;subst f;rcases H.o.stop with⟨rfl,h0⟩|⟨a4,hd⟩
   ·have hl:=b.o.len;rcases b.o.2 with⟨rfl,h2⟩|⟨g,P,c8,rfl,_⟩
    ·go_wp2_with fail;go_ret;exact⟨_,rfl,B.o.gr,by rw[h0,Pe (by decide)];rfl⟩
    ·go_wp2_with fail;go_ret;exact⟨_,rfl,B.o.gr,by rw[h0,Pe (by decide)];rfl⟩
   ·have hv:u3≠.slice none 0 0:=fun e=>by
     have:=b.o.len;rw[e] at this;exact a4 (List.eq_nil_of_length_eq_zero this.symm)
    obtain⟨g,P,rfl,hb,d0,c2,c5,c3,hH⟩:=Lib.holds_of_ownsRow b.o hv;have c1:=b.o;obtain⟨j,C⟩:∃ j,a.length=j:=⟨_,rfl⟩
    have hR:=Tryz.slices_Reverse_string g 0 P a wr hH (by omega);have c9:j≠0:=by rw[← C];exact fun e=>a4 (List.eq_nil_of_length_eq_zero e)
    have b7:∀ q,(putRow encStr (Sort.ahead wr q) g 0 a.reverse.toArray).ownsRow w.heap.size 9 1 (.slice (some ⟨g,0,none⟩) j P) j (a.reverse.map encStr):=fun q=>by
     have h:=Lib.ownsRow_putRow (k:=j) (q:=q) (ys:=a.reverse) b.o (by simp) (by omega)
     rwa [List.take_of_length_le (by simp[C])] at h
    have b0:∀ q,Below w.heap.size w (putRow encStr (Sort.ahead wr q) g 0 a.reverse.toArray):=fun q=>Lib.below_putRow B.o hb;rw[C] at hR c2 c6;simp only[C] at hv ⊢;obtain⟨HR,HO,HB,Hd,Y⟩:=Z5 hR b7 b0 hd C;clear hR b7 b0 c1 hH hd C hv c3 a4 c5;go_wp2_with fail;refine HR.o.mono ?_;rintro _ _ ⟨rfl,q,rfl⟩;have Q:=HO.o q;have hB:=HB.o q;generalize putRow encStr (Sort.ahead wr q) g 0 a.reverse.toArray=u at Q hB;have hJ:=Tryz.strings_Join g 0 P (a.reverse.map fun l=>⟨l.toArray⟩) ⟨#[]⟩ u (fun i x d=>by
     have hi:i < a.length:=by have:=(List.getElem?_eq_some_iff.1 d).1;simpa using this
     have h2:(a.reverse.map encStr)[i]?=some (.string x):=by
      rw[List.getElem?_map] at d ⊢;obtain⟨y,hy,rfl⟩:=Option.map_eq_some_iff.1 d;rw[hy];rfl
     have h4:=World.ownsRow.cells Q (g:=g) rfl i _ h2;rw[Q0] at h4;exact h4) (Q.lt g rfl).2 (by simp[Y.o];omega) (by simp[Y.o];omega) (by
     have e:Lib.join ((a.reverse.map fun l=>(⟨l.toArray⟩:ByteArray)).map (·.data.toList)) []=decDigits N:=by
      rw[Hd.o];exact Yz _
     rw[show(⟨#[]⟩:ByteArray).data.toList=[] from rfl,e];refine Nat.le_trans (Q4 (L:=l.length) ?_) (by omega);rw[← G.o];exact Ln l F.o.dig)
    rw[show(a.reverse.map fun l=>(⟨l.toArray⟩:ByteArray)).length=j by simp[Y.o],show(⟨#[]⟩:ByteArray).data.toList=[] from rfl,
     show Lib.join ((a.reverse.map fun l=>(⟨l.toArray⟩:ByteArray)).map (·.data.toList)) []=decDigits N by rw[Hd.o];exact Yz _] at hJ
    obtain⟨HJ,a8⟩:=Z2 hJ hB;clear hJ Q hB;go_wp2_with fail;refine HJ.o.mono ?_;rintro _ E ⟨rfl,gj⟩;go_wp2_with fail;go_ret;exact⟨_,rfl,Below.trans a8.o (Below.mono gj a8.o.size),rfl⟩
  ·have R:0 < m:=by omega
   have b3:0 < n:=by rw[← Hn.o];exact List.length_pos_iff.2 (fun e=>f (Ka.1 e))
   have d3:=H.o.few R;go_wp2_with fail;have d2:a.length < 2 * l.length:=H.o.bound R (by rw[← G.o];exact Ln l F.o.dig);refine(Zy _ _ _ 1000000000 a9.o (by rw[Hn.o];omega) (fun e=>f (Ka.1 e)) (by decide) (by decide)).mono ?_;rintro _ u ⟨_,rfl,g1,gx,D,b1,rfl,d⟩;rw[Jf] at d ⊢;obtain⟨r,T⟩:∃ r,m % 1000000000=r:=⟨_,rfl⟩
   obtain⟨q,o⟩:∃ q,m / 1000000000=q:=⟨_,rfl⟩
   have b8:r < 1000000000:=by rw[← T];exact Nat.mod_lt _ (by decide)
   rw[o] at d;rw[T];obtain⟨Hx,Hr,I⟩:=Z3 d T o;have b4:(digs q).length=D:=by obtain⟨p',c',e,_⟩:=d.parts;injection e with _ e _;exact e.symm
   obtain⟨a0,V⟩:=Z2 b4 g1;clear d T o b4 g1;go_wp2_with fail;refine(J6f u r (by omega) (HT.o.grow (B.o.gr.trans V.o))).mono ?_;rintro _ E ⟨_,rfl,J,rfl⟩;have c:=Z (V.o.trans J);clear V;have c7:(decDigits r).length≤9:=S3 8 r (by simpa using b8);obtain⟨s,hs⟩:∃ s,decDigits r=s:=⟨_,rfl⟩
   rw[hs] at c7 ⊢;have Hs:=Z hs;clear hs;by_cases o:q=0
   ·have b5:D=0:=by rw[← a0.o,o];simp[Ka.2]
    subst b5;have W:=Z J;clear J;go_wp2_with (at_builtin;go_must (refine J1I rfl _ _ rfl w.heap.size _ a s E.heap.size 1 rfl (b.o.grow (c.o.trans ((Gr.refl E).alloc _))) rfl (J2q _ _ _) (by omega) (Nat.le_trans A.o (Nat.le_trans c.o.size (by simp))) ?_;intro v' w' M a3));have K:=a3;have X:Own w.heap.size w w':=(B.o.trans (Own.of_gr (c.o.trans ((Gr.refl E).alloc _)) A.o)).trans (Own.grown K (Nat.le_trans A.o (Nat.le_trans c.o.size (by simp))) (fun k t=>(b.o.lt k t).1));have a6:NatL w' (.slice (some ⟨gx,0,none⟩) 0 0) (digs q):=NatL.kept (Hx.o.grow (W.o.trans ((Gr.refl E).alloc _))) (fun k t=>J02 (b.o.lt k t).2 b1) K;have O:=H.o.step R;rw[I.o,Hr.o] at O;refine⟨⟨q,a ++ [s],a6,M,X,?_,?_,?_⟩,?_⟩
    ·rw[show s=part q r from ?_]
     ·exact O
     ·rw[part,if_pos o,Hs.o]
    ·exact Nat.le_trans (by rw[← I.o];exact Nat.div_le_self _ _) S
    ·rw[List.length_append];simp;omega
    ·rw[M.len,b.o.len,List.length_append];simp;omega
   ·have b5:0 < D:=by rw[← a0.o];exact List.length_pos_iff.2 (fun e=>o (Ka.1 e))
    have d1:D≤1000000:=by
     rw[← a0.o];refine Nat.le_trans (Pf (Nat.le_trans ?_ S)) (by rw[← G.o];exact Nat.le_trans (M4 F.o.dig) b2);rw[← I.o];exact Nat.div_le_self _ _
    obtain⟨z,hz⟩:∃ z:Nat,9 - s.length=z:=⟨_,rfl⟩
    obtain⟨Ez,Hz⟩:=Z2 (show(9:Int) - (s.length:Int)=(z:Int) by omega) hz;have d4:z+s.length≤9223372036854775807:=by omega
    clear hz;have a7:=Z J;clear J;go_wp2_with fail;rw[Ez.o];refine(J6g E z (by rw[← Hz.o];omega)).mono ?_;rintro _ U ⟨_,rfl,g3,rfl⟩;obtain⟨c,W⟩:=Z2 (c.o.trans g3) (a7.o.trans g3);clear g3 a7;have c0:=Z (show List.replicate z 48 ++ s=padD 9 r by rw[J0f 8 r (by simpa using b8),Hs.o,← Hz.o]);go_wp2_with (at_builtin;go_must (refine J1I rfl _ _ rfl w.heap.size _ a (List.replicate z 48 ++ s) U.heap.size 1 rfl (b.o.grow (c.o.trans ((Gr.refl U).alloc _))) rfl (J2r _ _ _ _) (by omega) (Nat.le_trans A.o (Nat.le_trans c.o.size (by simp))) ?_;intro v' w' M a3));have K:=a3;have X:Own w.heap.size w w':=(B.o.trans (Own.of_gr (c.o.trans ((Gr.refl U).alloc _)) A.o)).trans (Own.grown K (Nat.le_trans A.o (Nat.le_trans c.o.size (by simp))) (fun k t=>(b.o.lt k t).1));have a6:NatL w' (.slice (some ⟨gx,0,none⟩) D D) (digs q):=NatL.kept (Hx.o.grow (W.o.trans ((Gr.refl U).alloc _))) (fun k t=>J02 (b.o.lt k t).2 b1) K;have O:=H.o.step R;rw[I.o,Hr.o] at O;refine⟨⟨q,a ++ [List.replicate z 48 ++ s],a6,M,X,?_,?_,?_⟩,?_⟩
    ·rw[show List.replicate z 48 ++ s=part q r from ?_]
     ·exact O
     ·rw[part,if_neg o,c0.o]
    ·exact Nat.le_trans (by rw[← I.o];exact Nat.div_le_self _ _) S
    ·rw[List.length_append];simp;omega
    ·rw[M.len,b.o.len,List.length_append];simp;omega
end Go.Proofs.YtcjgimlcefhhmaaGreatDoor
