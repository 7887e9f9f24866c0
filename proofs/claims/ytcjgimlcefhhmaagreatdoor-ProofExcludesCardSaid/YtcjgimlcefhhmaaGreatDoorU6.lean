/- Texts: LeafG LeafH LeafI LeafJ LeafK. -/
import Derived.Test.YtcjgimlcefhhmaaGreatDoorU4
import Derived.Test.YtcjgimlcefhhmaaGreatDoorU5
set_option linter.unusedVariables false
set_option linter.unusedSimpArgs false
set_option maxRecDepth 100000
set_option maxHeartbeats 12800000
namespace Go.Proofs.YtcjgimlcefhhmaaGreatDoor
open Go.RowKit
theorem NatL.two (w:World)(e f:Int)(x y:Nat)(he:e=x)(hf:f=y)(hx:x < BB)(hy:y < BB)(t:TypeId):
  NatL (w.alloc (.cells #[.int .u32 e,.int .u32 f] t)) (.slice (some ⟨w.heap.size,0,none⟩) 2 2) [x,y]:=by
 subst he hf
 refine⟨Dig.cons hx (Dig.cons hy Dig.nil),_,2,rfl,by simp,by omega,.inr ⟨w.heap.size,0,rfl,fun i hi=>?_⟩⟩
 have:i=0∨i=1:=by have:i < 2:=by simpa using hi
                  omega
 rcases this with rfl|rfl<;>simp[go_sem,gd]
theorem Zp {n:Nat}(h:n < 18446744073709551616):nval [n % BB,n / BB % BB]=n:=by
 simp only[nval,Jc];omega
theorem L3 (w:World)(n:Nat)(h:n < 18446744073709551616):
  Calls Tryz.prog 175 #[.int .u64 n] w (Ret w fun r w'=>NatL w' r (digs n)):=by
 have hn:n≤18446744073709551615:=by omega
 have E1:=ξ (show(n:Int) % 4294967296=((n % BB:Nat):Int) by rw[Jc];omega)
 have E2:=ξ (show(n:Int) / 4294967296=((n / BB % BB:Nat):Int) by rw[Jc];omega)
 have HV:=ξ (Zp h)
 clear h
 go_enter Tryz.func175,Tryz.ntmps175
 go_wp2_with fail
 refine(Qv _ _ _ (NatL.two w _ _ _ _ E1.out E2.out (Nat.mod_lt _ Jt) (Nat.mod_lt _ Jt) _) (by simp)).mono ?_
 rintro _ w1 ⟨r,rfl,g,hr⟩
 rw[HV.out] at hr
 have Hr:=ξ hr
 clear hr
 go_wp2_with fail
 go_ret
 exact⟨_,rfl,((Gr.refl w).alloc _).trans g,Hr.out⟩
theorem J0h (w:World)(n:Nat)(h:n < 18446744073709551616):
  Calls Tryz.prog 106 #[.int .u64 n] w (Ret w fun r w'=>NatL w' r (digs n)):=by
 have hn:n≤18446744073709551615:=by omega
 have E1:=ξ (show(n:Int) % 4294967296=((n % BB:Nat):Int) by rw[Jc];omega)
 have E2:=ξ (show(n:Int) / 4294967296=((n / BB % BB:Nat):Int) by rw[Jc];omega)
 have HV:=ξ (Zp h)
 clear h
 go_enter Tryz.func106,Tryz.ntmps106
 go_wp2_with fail
 refine(Li _ _ _ (NatL.two w _ _ _ _ E1.out E2.out (Nat.mod_lt _ Jt) (Nat.mod_lt _ Jt) _) (by simp)).mono ?_
 rintro _ w1 ⟨r,rfl,g,hr⟩
 rw[trimL,HV.out] at hr
 have Hr:=ξ hr
 clear hr
 go_wp2_with fail
 go_ret
 exact⟨_,rfl,((Gr.refl w).alloc _).trans g,Hr.out⟩
def bitsN (n:Nat):Nat:=if n=0 then 0 else 32 * ((digs n).length - 1)+Lib.bitLen (gd (digs n) ((digs n).length - 1))
theorem V6 {n:Nat}(h:n≠0):gd (digs n) ((digs n).length - 1)≠0:=by
 have h1:digs n≠[]:=fun e=>h (J7.1 e)
 have h2:=J2m h1
 rw[List.getLast_eq_getElem] at h2
 rw[Mz (by have:=List.length_pos_iff.2 h1;omega)]
 exact h2
theorem J1E {x:Nat}(h:x≠0):0 < Lib.bitLen x:=by
 unfold Lib.bitLen
 simp only[Lib.bitLenAux,if_neg h];omega
theorem Vh {x:Nat}(h:x < BB):Lib.bitLen x≤32:=Lib.bitLen_le x 32 (by omega) (by rw[Jc] at h;omega)
theorem Vj:bitsN 0=0:=rfl
theorem Ry {n:Nat}(h:n≠0):0 < bitsN n:=by
 unfold bitsN;rw[if_neg h]
 have:=J1E (V6 h)
 omega
theorem Pr (w:World)(v:Value)(l:List Nat)(h:NatL w v l)(hlen:l.length≤17592186044416):
  Calls Tryz.prog 196 #[v] w fun e w'=>e = .returned (.int .i64 (bitsN (nval l)))∧w=w':=by
 have HA:=ξ h
 have HL:=ξ (Lk l h.dig)
 have HN:∀ k,k=(digs (nval l)).length→k≤17592186044416:=fun k hk=>by rw[hk];exact Nat.le_trans HL.out hlen
 clear h
 go_enter Tryz.func196,Tryz.ntmps196
 go_wp2_with fail
 refine(Lg _ _ l HA.out).mono ?_
 rintro _ _ ⟨⟨p,k,rfl,hr⟩,rfl⟩
 have hk:k=(digs (nval l)).length:=hr.len.symm
 have hk2:=HN k hk
 have Hr:=ξ hr
 have Hk:=ξ hk
 clear hr HN
 by_cases h0:k=0
 ·have hz:nval l=0:=by
   rw[h0] at hk;exact J7.1 (List.eq_nil_of_length_eq_zero hk.symm)
  have Hz:=ξ (show bitsN (nval l)=0 by rw[hz];rfl)
  clear hz hk
  obtain rfl:=h0
  go_wp2_with fail
  go_ret
  rw[Hz.out]
  exact⟨rfl,rfl⟩
 ·obtain⟨b,o,rfl,hc⟩:=Hr.out.at (k - 1) (by rw[trimL,← hk];omega)
  have hd:=Hr.out.dig.gd (k - 1)
  have hne:nval l≠0:=fun e=>by rw[e,Kk] at hk;simp at hk;omega
  have Hb:=ξ (show 32 * ((k:Int) - 1)+Lib.bitLen (gd (trimL l) (k - 1))=bitsN (nval l) by
   unfold bitsN
   rw[if_neg hne,← hk]
   show _=((32 * (k - 1)+Lib.bitLen (gd (trimL l) (k - 1)):Nat):Int)
   omega)
  have hb32:=Vh hd
  rw[Jc] at hd
  clear hk hne
  obtain⟨j,rfl⟩:∃ j,k=j+1:=⟨k - 1,by omega⟩
  rw[Nat.add_sub_cancel] at hc hd hb32 Hb
  have t1:(((j+1:Nat):Int) == 0)=false:=by simp;omega
  go_wp2_with fail
  refine(Tryz.bits_Len32 _ _ (by omega) (by omega)).mono ?_
  rintro _ _ ⟨rfl,rfl⟩
  rw[Int.toNat_natCast]
  go_wp2_with fail
  go_ret
  rw[← Hb.out]
  exact⟨J0l (by omega),rfl⟩
theorem OwnN.row {w:World}{base:Nat}{v:Value}{l:List Nat}(h:OwnN w base v l)(hne:l≠[]):
  ∃ g cap rest,v = .slice (some ⟨g,0,none⟩) l.length cap∧base≤g∧w.heap[g]?=some (.cells (cellsN l ++ rest).toArray 153 (0,0))∧l.length≤cap∧cap≤9223372036854775807:=by
 obtain⟨⟨h1,h2⟩,hd⟩:=h
 rcases h2 with⟨_,h2⟩|⟨g,cap,cur,rfl,hb,hh,hn,hm,hs,ht⟩
 ·exact absurd (List.eq_nil_of_length_eq_zero h2) hne
 ·refine⟨g,cap,cur.toList.drop l.length,rfl,hb,?_,hn,by simpa[maxLen] using hm⟩
  rw[← ht,Nat.mul_one,List.take_append_drop]
  exact hh
def RowX (w:World)(g:Nat)(l:List Nat):Prop:=(∃ rest,w.heap[g]?=some (.cells (cellsN l ++ rest).toArray 153 (0,0)))∧Dig l
theorem RowX.dig {w:World}{g:Nat}{l:List Nat}(h:RowX w g l):Dig l:=h.2
theorem RowX.cell {w:World}{g:Nat}{l:List Nat}(h:RowX w g l){i:Nat}(hi:i < l.length):w.cell? ⟨g,i,none⟩=some (.int .u32 (gd l i)):=by
 obtain⟨⟨r,h1⟩,h2⟩:=h
 simp[World.cell?,h1,List.getElem?_append_left (l₁:=cellsN l) (l₂:=r) (by rw[R1];exact hi),Qf hi]
theorem RowX.free {w:World}{g:Nat}{l:List Nat}(h:RowX w g l)(i:Nat):w.frozen? ⟨g,i,none⟩=false:=by
 obtain⟨⟨r,h1⟩,h2⟩:=h
 simp[World.frozen?,h1]
theorem RowX.lt {w:World}{g:Nat}{l:List Nat}(h:RowX w g l):g < w.heap.size:=by
 obtain⟨⟨r,h1⟩,h2⟩:=h
 rcases Nat.lt_or_ge g w.heap.size with h'|h'
 ·exact h'
 ·rw[Array.getElem?_eq_none h'] at h1;cases h1
theorem RowX.grow {w w':World}{g:Nat}{l:List Nat}(h:RowX w g l)(gr:Gr w w'):RowX w' g l:=
 ⟨by rw[Below.block gr g h.lt];exact h.1,h.2⟩
theorem RowX.read {w:World}{g:Nat}{l:List Nat}(h:RowX w g l)(c:Nat)(hc:l.length≤c)(hm:c≤9223372036854775807):NatL w (.slice (some ⟨g,0,none⟩) l.length c) l:=
 ⟨h.2,_,c,rfl,hc,hm,.inr ⟨g,0,rfl,fun i hi=>by rw[Nat.zero_add];exact h.cell hi⟩⟩
theorem RowX.set {w:World}{g:Nat}{l:List Nat}(h:RowX w g l)(i x:Nat)(e:Int)(he:e=x)(hx:x < BB)(hi:i < l.length):RowX (w.setCell ⟨g,i,none⟩ (.int .u32 e)) g (l.set i x):=by
 subst he
 obtain⟨⟨r,h1⟩,h2⟩:=h
 refine⟨⟨r,?_⟩,h2.set i x hx⟩
 simp only[World.setCell,Array.getElem?_modify,h1,if_true,Option.map_some]
 simp[cellsN,List.map_set,List.set_append_left,hi]
theorem RowX.other {w:World}{g g':Nat}{l:List Nat}(h:RowX w g l)(hne:g≠g')(i:Nat)(v:Value):RowX (w.setCell ⟨g',i,none⟩ v) g l:=
 ⟨by rw[Below.heap_setCell _ _ _ _ hne];exact h.1,h.2⟩
theorem RowN.x {w:World}{g:Nat}{l:List Nat}(h:RowN w g l):RowX w g l:=⟨⟨[],by rw[List.append_nil];exact h.1⟩,h.2⟩
theorem J3Z (w:World)(v:Value)(l:List Nat)(h:NatL w v l)(hlen:l.length≤17592186044416)(hne:l≠[]):
  Calls Tryz.prog 268 #[v] w (Ret w fun r w'=>OwnN w' w.heap.size r l):=by
 have HA:=ξ h
 have hE:=fun(w:World) (a:Option Addr) (n c:Nat)=>Lib.run_eql_slice_nil (P:=Tryz.prog) w 64 153 a n c 0 0 (by kernel_rfl)
 obtain⟨p,c,rfl,h1,h2,h0⟩:=h.parts
 obtain⟨b,o,rfl,-⟩:=h.at 0 (List.length_pos_iff.2 hne)
 obtain⟨n,hn⟩:∃ n,l.length=n:=⟨_,rfl⟩
 rw[hn] at HA h1 hlen ⊢
 have Hn:=ξ hn
 clear hn h0 h hne
 go_enter Tryz.func268,Tryz.ntmps268
 go_wp2_with (at_builtin;go_must (refine L9 rfl _ _ 64 rfl (by kernel_rfl) w.heap.size _ (.slice (some ⟨b,o,none⟩) n c) [] l rfl (OwnN.made0 w _ (Nat.le_refl _)) rfl (HA.out.grow ((Gr.refl w).alloc _)) (by rw[Hn.out];simp;omega) (by simp) ?_;intro v' w' hown' hgrow hb'))
 go_ret
 exact⟨_,rfl,((Gr.refl _).alloc _).own hgrow,hown'⟩
theorem J47 {x y:Nat}(hy:y < BB):(x * 4294967296 ||| y)=x * BB+y:=by
 rw[Jc] at *
 have h:=Nat.shiftLeft_add_eq_or_of_lt (b:=y) (i:=32) hy x
 rw[Nat.shiftLeft_eq] at h
 exact h.symm
theorem Pf {q d:Nat}(hq:q < BB)(hd:d < BB):bits .or .u64 ((q:Int) * 4294967296) (d:Int)=((q * BB+d:Nat):Int):=by
 have hq':=hq
 have hd':=hd
 rw[Jc] at hq' hd'
 have:=u64_or_nat (q * 4294967296) d (by omega) (by omega)
 rw[J47 hd] at this
 rw[← this];congr 1
theorem J4h {l:List Nat}{k x:Nat}(hk:k < l.length):nval ((l.set k x).drop k)=x+BB * nval (l.drop (k+1)):=by
 rw[K4,Xw hk]
 congr 2
 rw[List.drop_set_of_lt (by omega)]
theorem Zd (w:World)(v:Value)(l:List Nat)(by':Nat)(h:NatL w v l)(hlen:l.length≤17592186044416)(hne:l≠[])(h0:0 < by')(h1:by' < BB):
  Calls Tryz.prog 235 #[v,.int .u64 by'] w (Ret w fun r w'=>∃ g kk,w.heap.size≤g∧r = .tuple #[.slice (some ⟨g,0,none⟩) kk kk,.int .u64 (nval l % by':Nat)]∧NatL w' (.slice (some ⟨g,0,none⟩) kk kk) (digs (nval l / by'))):=by
 have HA:=ξ h
 have Hne:=ξ hne
 have H1:=ξ h1
 have hby:by' < 4294967296:=by rw[Jc] at h1;exact h1
 clear h hne h1
 go_enter Tryz.func235,Tryz.ntmps235
 go_wp2_with fail
 refine(J3Z _ v l HA.out hlen Hne.out).mono ?_
 rintro _ w1 ⟨r,rfl,g1,hown⟩
 obtain⟨g,c,rest,rfl,hb,hrow,hc1,hc2⟩:=hown.row Hne.out
 have HX:=ξ (show RowX w1 g l from⟨⟨rest,hrow⟩,HA.out.dig⟩)
 have G1:=ξ g1
 have Hb:=ξ hb
 obtain⟨n,hn⟩:∃ n,l.length=n:=⟨_,rfl⟩
 rw[hn] at hlen hc1
 simp only[hn]
 have Hn:=ξ hn
 clear hn hown hrow g1 hb
 go_wp2_with fail
 go_loopw [7,8] (fun rs i w2=>∃ (k:Nat) (m:List Nat) (q:Nat),k≤n∧i = .int .i64 ((k:Int) - 1)∧rs = .int .u64 q∧q < by'∧RowX w2 g m∧m.length=n∧
   (∀ j,j < k→gd m j=gd l j)∧nval (l.drop k)=by' * nval (m.drop k)+q∧Own w.heap.size w1 w2) (fun _ i _=>((intOf i)+1).toNat)
 case atStart=>
  exact⟨n,l,0,Nat.le_refl _,rfl,rfl,h0,HX.out,Hn.out,fun _ _=>rfl,by rw[List.drop_eq_nil_of_le (by rw[Hn.out];exact Nat.le_refl _)];simp[nval],Own.refl _ _⟩
 case round=>
  obtain⟨k,m,q,hk,rfl,rfl,hq,hx,hm,hsame,hv,ho⟩:=hrel
  have HX2:=ξ hx
  have Hm:=ξ hm
  have Hsame:=ξ hsame
  have Hv:=ξ hv
  have Ho:=ξ ho
  clear hx hm hsame hv ho
  by_cases hk0:k=0
  ·obtain rfl:=hk0
   go_wp2_with fail
   have hrd:=HX2.out.read c (by rw[Hm.out];exact hc1) hc2
   rw[Hm.out] at hrd
   refine(Tj _ _ _ _ m hrd).mono ?_
   rintro _ _ ⟨⟨kk,rfl,hr⟩,rfl⟩
   have Hr:=ξ hr
   clear hr hrd
   go_wp2_with fail
   go_ret2
   have e0:nval l=by' * nval m+q:=by have:=Hv.out;simpa using this
   have e1:nval l / by'=nval m:=by rw[e0,Nat.mul_add_div h0,Nat.div_eq_of_lt hq,Nat.add_zero]
   have e2:nval l % by'=q:=by rw[e0,Nat.mul_add_mod,Nat.mod_eq_of_lt hq]
   rw[e1,e2]
   exact⟨_,rfl,Below.trans G1.out Ho.out,_,_,Hb.out,rfl,Hr.out⟩
  ·obtain⟨j,rfl⟩:∃ j,k=j+1:=⟨k - 1,by omega⟩
   have e1:=ξ (show((j+1:Nat):Int) - 1=(j:Int) by omega)
   rw[e1.out]
   have cR:=HX2.out.cell (i:=j) (by rw[Hm.out];omega)
   have fR:=HX2.out.free j
   have gm:=HX2.out.dig.gd j
   obtain⟨X,hX⟩:∃ X,q * BB+gd m j=X:=⟨_,rfl⟩
   have hor:=Pf (Nat.lt_trans hq H1.out) gm
   rw[hX] at hor
   have hXb:X < by' * 4294967296:=by rw[← hX];rw[Jc] at *;have:=Nat.mul_le_mul_right 4294967296 (show q+1≤by' from hq);omega
   have hXq:X / by' < 4294967296:=by rw[Nat.div_lt_iff_lt_mul h0,Nat.mul_comm];exact hXb
   have hXm:X % by' < by':=Nat.mod_lt _ h0
   have hX64:X≤18446744073709551615:=by omega
   have HXe:=ξ hX
   clear hX hXb
   rw[Jc] at gm
   go_wp2_with fail
   go_region
   go_wp2_with fail
   have E1:IntKind.u64.wrap ((X:Int) / by') % 4294967296=((X / by':Nat):Int):=by
    rw[IntKind.wrap_u64,← Int.natCast_ediv]
    generalize X / by'=Y at hXq ⊢
    omega
   have hjl:j < m.length:=by rw[Hm.out];omega
   refine⟨⟨j,m.set j (X / by'),X % by',by omega,rfl,by rw[Int.natCast_emod],hXm,(HX2.out.set j (X / by') _ E1 (by rw[Jc];exact hXq) hjl).grow ((Gr.refl _).drew),by rw[List.length_set];exact Hm.out,?_,?_,?_⟩,by simp[intOf]⟩
   ·intro t ht;rw[Lq (by omega)];exact Hsame.out t (by omega)
   ·rw[J4h hjl,K4,← Hsame.out j (by omega),Hv.out]
    have h3:=Nat.div_add_mod X by'
    have h4:=HXe.out
    rw[Nat.mul_add,Nat.mul_add,Nat.mul_left_comm BB by',Nat.mul_comm BB q]
    omega
   ·exact Ho.out.trans ((Own.setCell _ Hb.out _ _).trans (Own.drewN _ _ 1))
theorem J48 (w:World)(v:Value)(l:List Nat)(by':Nat)(h:NatL w v l)(hlen:l.length≤17592186044416)(hne:l≠[])(h0:0 < by')(h1:by' < BB):
  Calls Tryz.prog 235 #[v,.int .u64 by'] w (Ret w fun r w'=>∃ x,r = .tuple #[x,.int .u64 (nval l % by':Nat)]∧NatL w' x (digs (nval l / by'))):=
 (Zd w v l by' h hlen hne h0 h1).mono fun e w' ⟨r,he,hg,g,kk,hb,hr,hx⟩=>⟨r,he,hg,_,hr,hx⟩
theorem J1F {d s c:Nat}(hd:d < BB)(hs:s≤31)(hc:c < 2 ^ s):bits .or .u64 (IntKind.u64.wrap ((d:Int) * 2 ^ s)) (c:Int)=((d * 2 ^ s+c:Nat):Int):=by
 have h2:2 ^ s≤2147483648:=Nat.pow_le_pow_right (by omega) hs
 have h3:d * 2 ^ s≤4294967295 * 2147483648:=Nat.mul_le_mul (by rw[Jc] at hd;omega) h2
 have e:((d:Int) * 2 ^ s)=((d * 2 ^ s:Nat):Int):=by rw[Int.natCast_mul,Int.natCast_pow];rfl
 have h4:=Nat.shiftLeft_add_eq_or_of_lt (b:=c) (i:=s) hc d
 rw[Nat.shiftLeft_eq] at h4
 rw[e,IntKind.wrap_u64]
 generalize d * 2 ^ s=X at *
 rw[show((X:Int) % 18446744073709551616)=(X:Int) from by omega,u64_or_nat X c (by omega) (by omega),h4]
theorem Zc (w:World)(v:Value)(l:List Nat)(s:Nat)(h:NatL w v l)(hlen:l.length≤8796093022208)(hs:s≤31):
  Calls Tryz.prog 275 #[v,.int .i64 s] w fun e w'=>e = .returned (.slice (some ⟨w.heap.size,0,none⟩) (l.length+1) (l.length+1))∧Gr w w'∧
   ∃ m,RowN w' w.heap.size m∧m.length=l.length+1∧nval m=nval l * 2 ^ s:=by
 have HA:=ξ h
 obtain⟨p,c,rfl,a1,a2,a3⟩:=h.parts
 have A3:=ξ a3
 clear h a3
 obtain⟨na,hna⟩:∃ n,l.length=n:=⟨_,rfl⟩
 rw[hna] at HA a1 hlen ⊢
 have Hna:=ξ hna
 clear hna
 obtain⟨B0,hB0⟩:∃ B0,w.heap.size=B0:=⟨_,rfl⟩
 rw[hB0]
 have HB0:=ξ hB0
 clear hB0
 obtain⟨T,hT⟩:∃ T,2 ^ s=T:=⟨_,rfl⟩
 have HT:=ξ hT
 have hT1:1≤T:=by rw[← hT];exact Nat.one_le_two_pow
 have hT2:T≤2147483648:=by rw[← hT];exact Nat.pow_le_pow_right (by omega) hs
 rw[hT]
 clear hT
 go_enter Tryz.func275,Tryz.ntmps275
 go_wp2_with (first|(go_at_call 999)|(at_make;go_must (refine P6 rfl _ _ 64 rfl (by kernel_rfl) (na+1) _ rfl rfl (by omega) (by omega) ?_;rw[HB0.out];intro w1 hrow hgr1 hsz1)))
 go_loopw [6,16] (fun cr i w2=>∃ (k:Nat) (m:List Nat) (c:Nat),k≤na∧i = .int .i64 k∧cr = .int .u64 c∧c < T∧RowN w2 B0 m∧m.length=na+1∧
   nval m+BB ^ k * c=nval (l.take k) * T∧(∀ j,k≤j→gd m j=0)∧Own B0 w w2) (fun _ i _=>na - (intOf i).toNat)
 case atStart=>
  have e0:∀ j,gd (List.replicate (na+1) 0) j=0:=fun j=>by
   unfold gd;rw[List.getD_eq_getElem?_getD,List.getElem?_replicate];split<;>rfl
  exact⟨0,_,0,by omega,rfl,rfl,by omega,hrow,by simp,by rw[Ps];simp[nval],fun j _=>e0 j,Own.of_gr hgr1 (by rw[HB0.out];exact Nat.le_refl _)⟩
 case round=>
  obtain⟨k,m,cr,hk,rfl,rfl,hcr,hrow2,hm,hv,hz,ho⟩:=hrel
  have Hrow:=ξ hrow2
  have Hm:=ξ hm
  have Hv:=ξ hv
  have Hz:=ξ hz
  have Ho:=ξ ho
  clear hrow hrow2 hm hv hz ho hgr1 hsz1
  have cR:=Hrow.out.cell (i:=k) (by rw[Hm.out];omega)
  have fR:=Hrow.out.free k
  by_cases hka:k < na
  ·obtain⟨bA,oA,rfl,cA⟩:=(HA.out.own HB0.out.symm Ho.out).at k (by rw[Hna.out];exact hka)
   have ga:=A3.out.gd k
   have hb:=J1F ga hs (by rw[HT.out];exact hcr)
   rw[HT.out] at hb
   have ga':=ga
   rw[Jc] at ga
   obtain⟨Y,hY⟩:∃ Y,Y=cr+T * gd l k+gd m k:=⟨_,rfl⟩
   have hYc:gd l k * T+cr=Y:=by rw[hY,Hz.out k (Nat.le_refl _),Nat.mul_comm];omega
   rw[hYc] at hb
   have hYB:Y / BB < T:=by
    rw[Nat.div_lt_iff_lt_mul Jt,← hYc]
    have:=Nat.mul_le_mul_right T (show gd l k+1≤BB from ga')
    rw[Nat.mul_comm BB T,Nat.add_mul] at this
    omega
   have hY64:Y≤18446744073709551615:=by rw[Nat.div_lt_iff_lt_mul Jt,Jc] at hYB;omega
   have HY:=ξ hY
   have HYB:=ξ hYB
   clear hY hYc hYB ga'
   go_wp2_with fail
   have hY:=HY.out
   have hYB:=HYB.out
   have hst:=Td (l:=m) (i:=0) (k:=k) (c:=cr) (s:=Y) (x:=T) (y:=gd l k) (V:=0) (W:=nval (l.take k)) (by rw[Hm.out];omega) (by rw[Nat.zero_add,Hv.out];simp[Nat.mul_comm]) (by rw[Nat.zero_add];exact hY)
   rw[Nat.zero_add] at hst
   refine⟨⟨k+1,m.set k (Y % BB),Y / BB,by omega,by go_num,by rw[Jc];rfl,hYB,Hrow.out.set k (Y % BB) _ (by rw[Jc];rfl) (Nat.mod_lt _ Jt),by rw[List.length_set];exact Hm.out,?_,?_,?_⟩,by simp[intOf];omega⟩
   ·rw[hst,K8];simp[Nat.mul_comm]
   ·intro j hj;rw[Lq (by omega)];exact Hz.out j (by omega)
   ·exact Ho.out.trans (Own.setCell _ (Nat.le_refl _) _ _)
  ·obtain rfl:k=na:=by omega
   go_wp2_with fail
   go_ret
   refine⟨rfl,?_,m.set k cr,Hrow.out.set k cr _ rfl (by rw[Jc];omega),by rw[List.length_set];exact Hm.out,?_⟩
   ·have:=Ho.out.trans (Own.setCell wr (Nat.le_refl B0) k (.int .u32 cr))
    rw[← HB0.out] at this ⊢
    exact this.gr
   ·have h1:=N9 (l:=m) (i:=k) cr (by rw[Hm.out];omega)
    rw[Hz.out k (Nat.le_refl _),Nat.mul_zero,Nat.add_zero] at h1
    rw[h1,Hv.out,List.take_of_length_le (by rw[Hna.out];exact Nat.le_refl _)]
theorem J45 (w:World)(x y z f s:Nat)(hx:x < BB)(hy:y < BB)(hz:z < BB)(hf:f < BB)(hs:s < BB)(hf31:2147483648≤f)(hxf:x≤f):
  Calls Tryz.prog 276 #[.int .u64 x,.int .u64 y,.int .u64 z,.int .u64 f,.int .u64 s] w fun e w'=>e = .returned (.int .u64 (qhat x y z f s))∧∃ n,w'=w.drewN n:=by
 have hor:=Pf hx hy
 obtain⟨X,hX⟩:∃ X,x * BB+y=X:=⟨_,rfl⟩
 rw[hX] at hor
 obtain⟨G,hG⟩:∃ G,qhat x y z f s=G:=⟨_,rfl⟩
 rw[hG]
 have HG:=ξ hG
 have HX:=ξ hX
 have Hx:=ξ hx
 have Hy:=ξ hy
 have Hz:=ξ hz
 have Hs:=ξ hs
 have Hxf:=ξ hxf
 have Hinit:=ξ (J2K (s:=s) hy hz hf31 hxf)
 have hX64:X≤18446744073709551615:=by rw[← hX];rw[Jc] at *;omega
 have hf0:0 < f:=by omega
 have hf1:f < 4294967296:=by rw[Jc] at hf;exact hf
 have hs1:s < 4294967296:=by rw[Jc] at hs;exact hs
 have hz1:z < 4294967296:=by rw[Jc] at hz;exact hz
 have hm1:X % f < f:=Nat.mod_lt _ hf0
 have hw1:IntKind.u64.wrap ((x:Int) * 4294967296)=(x:Int) * 4294967296:=by rw[IntKind.wrap_u64];rw[Jc] at hx;omega
 have Hw2:=ξ (show IntKind.u64.wrap ((X:Int) / f)=((X / f:Nat):Int) by
  have:=Nat.div_le_self X f
  rw[IntKind.wrap_u64,← Int.natCast_ediv]
  generalize X / f=Z at *
  omega)
 have hdm:=ξ (show X=X / f * f+X % f by rw[Nat.mul_comm];exact(Nat.div_add_mod X f).symm)
 clear hX hG hx hy hz hs hxf hf
 go_enter Tryz.func276,Tryz.ntmps276
 go_wp2_with fail
 go_quiet (fail)
 go_wp2_with fail
 go_loopw [11,12] (fun q r w1=>∃ (a b:Nat),q = .int .u64 a∧r = .int .u64 b∧X=a * f+b∧G≤a∧a≤BB+1∧b < BB∧∃ n,w1=w.drewN n) (fun q _ _=>(intOf q).toNat)
 case atStart=>
  have h1:=Hinit.out
  rw[HX.out,HG.out] at h1
  exact⟨X / f,X % f,by rw[Hw2.out],by rw[Int.natCast_emod],hdm.out,h1.1,h1.2,by rw[Jc];omega,nq,rfl⟩
 case round=>
  obtain⟨a,b,rfl,rfl,hab,hga,haB,hbB,hg⟩:=hrel
  clear hor hw1 hm1
  have Hab:=ξ (show x * BB+y=a * f+b by rw[HX.out];exact hab)
  have Hg:=ξ hg
  have Hga:=ξ (show qhat x y z f s≤a by rw[HG.out];exact hga)
  have HaB:=ξ haB
  have haB':a≤4294967297:=by rw[Jc] at haB;omega
  have hbB':b < 4294967296:=by rw[Jc] at hbB;exact hbB
  have hor:=Pf hbB Hz.out
  obtain⟨Y,hY⟩:∃ Y,b * BB+z=Y:=⟨_,rfl⟩
  rw[hY] at hor
  have HY:=ξ hY
  obtain⟨P,hP⟩:∃ P,a * s=P:=⟨_,rfl⟩
  have hPi:(a:Int) * s=(P:Int):=by rw[← hP];exact(Int.natCast_mul _ _).symm
  have HP:=ξ hP
  have hY64:Y≤18446744073709551615:=by rw[← hY];rw[Jc] at *;omega
  have hstep:∀ (ha1:1≤a) (hlt:G≤a - 1),b+f < BB→(a - 1) * f+(b+f)=X:=fun ha1 hlt _=>by
   obtain⟨c,rfl⟩:∃ c,a=c+1:=⟨a - 1,by omega⟩
   rw[Nat.add_sub_cancel,hab,Nat.add_mul];omega
  have Hstep:=ξ hstep
  have Hend:∀ (ha1:1≤a) (hlt:qhat x y z f s≤a - 1),BB≤b+f→a - 1=G:=fun ha1 hlt hr=>by
   obtain⟨c,rfl⟩:∃ c,a=c+1:=⟨a - 1,by omega⟩
   rw[← HG.out]
   exact J2I hf0 Hy.out Hs.out Hxf.out Hab.out HaB.out hr hlt
  have HE:=ξ Hend
  clear hab hg hga haB hbB hY hP hstep Hend
  by_cases hbig:BB≤a
  ·have h1:=J5i (x:=x) (y:=y) (z:=z) (f:=f) (s:=s) hbig
   have ha2:4294967296≤a:=by rw[Jc] at hbig;exact hbig
   have H1:=ξ (show qhat x y z f s≤a - 1 by omega)
   clear h1 hbig hPi hor
   by_cases hbr:4294967296≤b+f
   ·go_wp2_with fail
    go_ret
    refine⟨?_,Hg.out⟩
    have h2:=HE.out (by omega) H1.out (by rw[Jc];exact hbr)
    show Ending.returned (Value.int .u64 ((a:Int) - 1)) = .returned (.int .u64 G)
    rw[show((a:Int) - 1)=(G:Int) from by omega]
   ·go_wp2_with fail
    have h3:=H1.out
    rw[HG.out] at h3
    exact⟨⟨a - 1,b+f,by rw[show(((a - 1:Nat):Int))=(a:Int) - 1 from by omega],by go_num,(Hstep.out (by omega) h3 (by rw[Jc];omega)).symm,h3,Nat.le_trans (Nat.sub_le _ _) HaB.out,by rw[Jc];omega,Hg.out⟩,by simp[intOf];omega⟩
  ·have ha2:a < 4294967296:=by rw[Jc] at hbig;omega
   have hP64:P≤18446744073709551615:=by
    rw[← HP.out]
    have:=Qu (show a < BB by omega) Hs.out
    omega
   by_cases ht:Y < P
   ·have H1:=ξ (show qhat x y z f s≤a - 1 by
     have:=J2L (z:=z) (s:=s) hf0 Hab.out (by rw[HY.out,HP.out];exact ht)
     omega)
    have ha1:1≤a:=by
     rcases Nat.eq_zero_or_pos a with h0|h0
     ·have:=HP.out;rw[h0] at this;simp at this;omega
     ·exact h0
    clear hbig
    by_cases hbr:4294967296≤b+f
    ·go_wp2_with fail
     go_ret
     refine⟨?_,Hg.out⟩
     have h2:=HE.out (by omega) H1.out (by rw[Jc];exact hbr)
     show Ending.returned (Value.int .u64 ((a:Int) - 1)) = .returned (.int .u64 G)
     rw[show((a:Int) - 1)=(G:Int) from by omega]
    ·go_wp2_with fail
     have h3:=H1.out
     rw[HG.out] at h3
     exact⟨⟨a - 1,b+f,by rw[show(((a - 1:Nat):Int))=(a:Int) - 1 from by omega],by go_num,(Hstep.out (by omega) h3 (by rw[Jc];omega)).symm,h3,Nat.le_trans (Nat.sub_le _ _) HaB.out,by rw[Jc];omega,Hg.out⟩,by simp[intOf];omega⟩
   ·have H1:=ξ (show a=G by rw[← HG.out];exact J2J hf0 Hab.out (by omega) (by rw[HY.out,HP.out];omega) Hga.out)
    clear hbig
    go_wp2_with fail
    go_ret
    exact⟨by rw[← H1.out];rfl,Hg.out⟩
theorem J5p {A S q V N:Nat}{m:Nat}(h:m+S * (q * V)=N+A * 0)(h2:N < S * ((q+1) * V)):m+S * (q * V)=N∧m < S * V:=by
 rw[Nat.mul_zero,Nat.add_zero] at h
 rw[Nat.add_mul,Nat.one_mul,Nat.mul_add] at h2
 omega
theorem J5r {A S q V N m:Nat}(h:m+S * (q * V)=N+A * 1)(hm:m < A):1≤q:=by
 rcases Nat.eq_zero_or_pos q with h0|h0
 ·subst h0;rw[Nat.zero_mul,Nat.mul_zero] at h;omega
 ·exact h0
theorem J5q {A S q V N m m2 c:Nat}(h:m+S * (q * V)=N+A * 1)(h2:m2+A * c=m+S * V)(hm:m < A)(hm2:m2 < A)(hc:c≤1)(hq:q=0∨S * ((q - 1) * V)≤N)(hq1:1≤q):
  m2+S * ((q - 1) * V)=N∧m2 < S * V:=by
 obtain⟨p,rfl⟩:∃ p,q=p+1:=⟨q - 1,by omega⟩
 rw[Nat.add_sub_cancel] at *
 have hq':S * (p * V)≤N:=by rcases hq with h0|h0;omega;exact h0
 rw[Nat.add_mul,Nat.one_mul,Nat.mul_add,Nat.mul_one] at h
 rcases Nat.eq_zero_or_pos c with h0|h0
 ·subst h0;rw[Nat.mul_zero] at h2;omega
 ·have:c=1:=by omega
  subst this;rw[Nat.mul_one] at h2;omega
theorem J46 (w:World)(g L at' q:Nat)(vb:Value)(l lb:List Nat)(hrow:RowN w g l)(hL:l.length=L)(hb:NatL w vb lb)(hnot:M7 g vb)(hq:q < BB)
  (hlen:L≤17592186044416) (hfit:at'+lb.length+1≤L) (hN:nval l < BB ^ (at'+(lb.length+1)))
  (hq1:q=0∨BB ^ at' * ((q - 1) * nval lb)≤nval l) (hq2:nval l < BB ^ at' * ((q+1) * nval lb)):
  Calls Tryz.prog 277 #[.slice (some ⟨g,0,none⟩) L L,vb,.int .i64 at',.int .u64 q] w fun e w'=>∃ (q':Nat) (m:List Nat),e = .returned (.int .u64 q')∧Jl g w w'∧RowN w' g m∧m.length=L∧
   nval m+BB ^ at' * (q' * nval lb)=nval l∧nval m < BB ^ at' * nval lb∧q' < BB:=by
 have HB:=ξ hb
 have HR:=ξ hrow
 have HL:=ξ hL
 have HN:=ξ hN
 have HQ1:=ξ hq1
 have HQ2:=ξ hq2
 have HNot:=ξ hnot
 have Hq:=ξ hq
 obtain⟨p,c,rfl,b1,b2,b3⟩:=hb.parts
 have B3:=ξ b3
 obtain⟨k,hk⟩:∃ n,lb.length=n:=⟨_,rfl⟩
 rw[hk] at HB b1 hfit HN HNot ⊢
 have Hk:=ξ hk
 have hq':q < 4294967296:=by rw[Jc] at hq;exact hq
 clear hb b3 hk hrow hL hN hq1 hq2 hnot hq
 go_enter Tryz.func277,Tryz.ntmps277
 go_wp2_with fail
 go_loopw [9,10,19] (fun br cr i w1=>∃ (j:Nat) (m:List Nat) (c b:Nat),j≤k+1∧i = .int .i64 j∧cr = .int .u64 c∧br = .int .u64 b∧c < BB∧b≤1∧RowN w1 g m∧m.length=L∧
   nval m+BB ^ at' * (q * nval (lb.take j))=nval l+BB ^ (at'+j) * (c+b)∧(∀ t,at'+j≤t→gd m t=gd l t)∧(k < j→c=0)∧Jl g w w1) (fun _ _ i _=>k+1 - (intOf i).toNat)
 case atStart=>
  exact⟨0,l,0,0,by omega,rfl,rfl,rfl,Jt,by omega,HR.out,HL.out,by simp[nval],fun _ _=>rfl,fun _=>rfl,Jl.refl _ _⟩
 case round=>
  obtain⟨j,m,cr,br,hj,rfl,rfl,rfl,hc,hbr,hrow,hm,hv,hsame,hlast,ho⟩:=hrel
  have Hrow:=ξ hrow
  have Hm:=ξ hm
  have Hv:=ξ hv
  have Hsame:=ξ hsame
  have Hlast:=ξ hlast
  have Ho:=ξ ho
  have Hc:=ξ hc
  have hc':cr < 4294967296:=by rw[Jc] at hc;exact hc
  clear hrow hm hv hsame hlast ho hc
  by_cases hjk:j < k+1
  ·have cR:=Hrow.out.cell (i:=at'+j) (by rw[Hm.out];omega)
   have fR:=Hrow.out.free (at'+j)
   have gb:=B3.out.gd j
   have gm:=Hrow.out.dig.gd (at'+j)
   have hmul:=Qu Hq.out gb
   rw[Jc] at gb gm
   obtain⟨P,hP⟩:∃ P,q * gd lb j=P:=⟨_,rfl⟩
   rw[hP] at hmul
   have hPi:(q:Int) * gd lb j=(P:Int):=by rw[← hP];exact(Int.natCast_mul _ _).symm
   obtain⟨Y,hY⟩:∃ Y,P+cr=Y:=⟨_,rfl⟩
   have hYi:(P:Int)+cr=(Y:Int):=by omega
   obtain⟨Z,hZ⟩:∃ Z,Y % BB=Z:=⟨_,rfl⟩
   obtain⟨C,hC⟩:∃ C,Y / BB=C:=⟨_,rfl⟩
   have hZi:(Y:Int) % 4294967296=(Z:Int):=by rw[← hZ,Jc];omega
   have hCi:(Y:Int) / 4294967296=(C:Int):=by rw[← hC,Jc];omega
   have hY64:Y≤18446744073709551615:=by omega
   have hZ1:Z < 4294967296:=by rw[← hZ,Jc];omega
   have hC1:C < 4294967296:=by rw[← hC,Jc];omega
   have HYs:=ξ (show q * gd lb j+cr=Z+BB * C by rw[hP,hY,← hZ,← hC];exact(Nat.mod_add_div Y BB).symm)
   have HCz:=ξ (show k < j+1→C=0 by
    intro h
    have:j=k:=by omega
    rw[← hC,← hY,← hP,this,Pm (by rw[Hk.out];exact Nat.le_refl _),Nat.mul_zero,Nat.zero_add]
    exact Nat.div_eq_of_lt Hc.out)
   clear hP hY hZ hC
   by_cases hlow:gd m (at'+j) < Z+br
   ·obtain⟨e1,e2⟩:=Ue gm hZ1 hbr hlow
    have hd:=ξ (show(BB+gd m (at'+j) - Z - br) % BB+Z+br=gd m (at'+j)+BB * 1 by rw[Jc];omega)
    have E1:=ξ e1
    have E2:=ξ e2
    clear e1 e2
    go_wp2_with fail
    refine(L4 _ _ lb j (HB.out.keep HNot.out Ho.out) (by omega)).mono ?_
    rintro _ _ ⟨rfl,rfl⟩
    go_wp2_with fail
    have hjm:at'+j < m.length:=by rw[Hm.out];omega
    refine⟨⟨j+1,m.set (at'+j) ((BB+gd m (at'+j) - Z - br) % BB),C,1,by omega,by go_num,rfl,by rw[E2.out],by rw[Jc];exact hC1,by omega,Hrow.out.set (at'+j) _ _ E1.out (Nat.mod_lt _ Jt),by rw[List.length_set];exact Hm.out,?_,?_,HCz.out,?_⟩,by simp[intOf];omega⟩
    ·rw[K8];exact J0e hjm Hv.out HYs.out hd.out
    ·intro t ht;rw[Lq (by omega)];exact Hsame.out t (by omega)
    ·exact Ho.out.trans (Jl.set _ _ _ _)
   ·obtain⟨e1,e2⟩:=Ud gm hZ1 hbr hlow
    have hd:=ξ (show(BB+gd m (at'+j) - Z - br) % BB+Z+br=gd m (at'+j)+BB * 0 by rw[Jc];omega)
    have E1:=ξ e1
    have E2:=ξ e2
    clear e1 e2
    go_wp2_with fail
    refine(L4 _ _ lb j (HB.out.keep HNot.out Ho.out) (by omega)).mono ?_
    rintro _ _ ⟨rfl,rfl⟩
    go_wp2_with fail
    have hjm:at'+j < m.length:=by rw[Hm.out];omega
    refine⟨⟨j+1,m.set (at'+j) ((BB+gd m (at'+j) - Z - br) % BB),C,0,by omega,by go_num,rfl,by rw[E2.out],by rw[Jc];exact hC1,by omega,Hrow.out.set (at'+j) _ _ E1.out (Nat.mod_lt _ Jt),by rw[List.length_set];exact Hm.out,?_,?_,HCz.out,?_⟩,by simp[intOf];omega⟩
    ·rw[K8];exact J0e hjm Hv.out HYs.out hd.out
    ·intro t ht;rw[Lq (by omega)];exact Hsame.out t (by omega)
    ·exact Ho.out.trans (Jl.set _ _ _ _)
  ·obtain rfl:j=k+1:=by omega
   have hc0:cr=0:=Hlast.out (by omega)
   have Hv':=ξ (show nval m+BB ^ at' * (q * nval lb)=nval l+BB ^ (at'+(k+1)) * br by
    have:=Hv.out
    rw[hc0,Nat.zero_add,List.take_of_length_le (by rw[Hk.out];omega)] at this
    exact this)
   have Hlt:=ξ (Zn (k:=at'+(k+1)) Hrow.out.dig (fun t ht=>by rw[Hsame.out t ht];exact Xx HR.out.dig HN.out ht))
   rcases Nat.eq_zero_or_pos br with hb0|hb0
   ·subst hb0
    have Hp:=ξ (J5p Hv'.out HQ2.out)
    go_wp2_with fail
    go_ret
    exact⟨q,m,rfl,Ho.out,Hrow.out,Hm.out,Hp.out.1,Hp.out.2,Hq.out⟩
   ·have hb1:br=1:=by omega
    subst hb1
    have hq0:=ξ (J5r Hv'.out Hlt.out)
    have hq1:1≤q:=hq0.out
    go_wp2_with fail
    obtain⟨wo,hwo⟩:∃ wo:World,wo=wr:=⟨_,rfl⟩
    rw[← hwo]
    rw[← hwo] at Hrow Ho
    clear hwo
    go_loopw [10,60] (fun cr i w1=>∃ (j:Nat) (m2:List Nat) (c:Nat),j≤k+1∧i = .int .i64 j∧cr = .int .u64 c∧c≤1∧RowN w1 g m2∧m2.length=L∧
     nval m2+BB ^ (at'+j) * c=nval m+BB ^ at' * nval (lb.take j)∧(∀ t,at'+j≤t→gd m2 t=gd m t)∧Jl g w w1) (fun _ i _=>k+1 - (intOf i).toNat)
    case atStart=>
     exact⟨0,m,0,by omega,rfl,rfl,by omega,Hrow.out,Hm.out,by simp[nval],fun _ _=>rfl,Ho.out⟩
    case round=>
     obtain⟨j,m2,c2,hj2,rfl,rfl,hc2,hrow2,hm2,hv2,hsame2,ho2⟩:=hrel
     have Hrow2:=ξ hrow2
     have Hm2:=ξ hm2
     have Hv2:=ξ hv2
     have Hsame2:=ξ hsame2
     have Ho2:=ξ ho2
     clear hrow2 hm2 hv2 hsame2 ho2
     by_cases hjk2:j < k+1
     ·have cR:=Hrow2.out.cell (i:=at'+j) (by rw[Hm2.out];omega)
      have fR:=Hrow2.out.free (at'+j)
      have gb:=B3.out.gd j
      have gm:=Hrow2.out.dig.gd (at'+j)
      rw[Jc] at gb gm
      obtain⟨s,hs⟩:∃ s,s=gd m2 (at'+j)+gd lb j+c2:=⟨_,rfl⟩
      have Hs:=ξ hs
      have hs1:=ξ (show s / BB≤1 by rw[hs,Jc];omega)
      have E1:=ξ (show((gd m2 (at'+j):Int)+gd lb j+c2) % 4294967296=((s % BB:Nat):Int) by rw[hs,Jc];omega)
      have E2:=ξ (show((gd m2 (at'+j):Int)+gd lb j+c2) / 4294967296=((s / BB:Nat):Int) by rw[hs,Jc];omega)
      clear hs
      go_wp2_with fail
      go_quiet ((go_at_call 225;exact Calls.quiet_of_same ((L4 _ _ lb j ((HB.out.keep HNot.out Ho2.out).keep HNot.out (Jl.drewN _ _ _)) (by omega)).mono fun _ _ h=>⟨h.1,h.2.symm⟩)))
      go_wp2_with fail
      have hjm:at'+j < m2.length:=by rw[Hm2.out];omega
      refine⟨⟨j+1,m2.set (at'+j) (s % BB),s / BB,by omega,by go_num,by rw[E2.out],hs1.out,(Hrow2.out.grow ((Gr.refl wr).drewN nq)).set (at'+j) (s % BB) _ E1.out (Nat.mod_lt _ Jt),by rw[List.length_set];exact Hm2.out,?_,?_,?_⟩,by simp[intOf];omega⟩
      ·rw[K8];exact J1C hjm Hv2.out Hs.out
      ·intro t ht;rw[Lq (by omega)];exact Hsame2.out t (by omega)
      ·exact(Ho2.out.trans (Jl.drewN _ _ _)).trans (Jl.set _ _ _ _)
     ·obtain rfl:j=k+1:=by omega
      have Hv2':=ξ (show nval m2+BB ^ (at'+(k+1)) * c2=nval m+BB ^ at' * nval lb by
       have:=Hv2.out
       rw[List.take_of_length_le (by rw[Hk.out];omega)] at this
       exact this)
      have Hlt2:=ξ (Zn (k:=at'+(k+1)) Hrow2.out.dig (fun t ht=>by rw[Hsame2.out t ht,Hsame.out t ht];exact Xx HR.out.dig HN.out ht))
      have Hp:=ξ (J5q Hv'.out Hv2'.out Hlt.out Hlt2.out hc2 HQ1.out hq1)
      have hqq:=Hq.out
      go_wp2_with fail
      go_ret
      refine⟨q - 1,m2,?_,Ho2.out,Hrow2.out,Hm2.out,Hp.out.1,Hp.out.2,by omega⟩
      exact J0l (by omega)
theorem J40 (w:World)(va vb:Value)(la lb:List Nat)(ha:NatL w va la)(hb:NatL w vb lb)(hla:la.length≤8796093022208)(hlb:lb.length≤8796093022208)(hlt:nval la < nval lb):
  Calls Tryz.prog 233 #[va,vb] w (Ret w fun r w'=>∃ x y,r = .tuple #[x,y,.int .i64 0]∧NatL w' x (digs (nval la / nval lb))∧NatL w' y (digs (nval la % nval lb))):=by
 have HA:=ξ ha
 have HB:=ξ hb
 have Hlt:=ξ hlt
 have HLa:=ξ (Lk la ha.dig)
 have HLb:=ξ (Lk lb hb.dig)
 clear ha hb hlt
 go_enter Tryz.func233,Tryz.ntmps233
 go_wp2_with fail
 refine(Lg _ _ la HA.out).mono ?_
 rintro _ _ ⟨⟨p,na,rfl,hr⟩,rfl⟩
 have Hr:=ξ hr
 clear hr
 go_wp2_with fail
 refine(Lg _ _ lb HB.out).mono ?_
 rintro _ _ ⟨⟨q,nb,rfl,hr2⟩,rfl⟩
 have hnb:nb≠0:=by
  intro h
  have:=hr2.len
  rw[h,trimL] at this
  have:=J7.1 (List.eq_nil_of_length_eq_zero this)
  have:=Hlt.out
  omega
 have t1:((nb:Int) == 0)=false:=by simp;omega
 have Hr2:=ξ hr2
 clear hr2 hnb
 go_wp2_with fail
 refine(N8 _ _ _ _ _ Hr.out Hr2.out (Nat.le_trans HLa.out (by omega)) (Nat.le_trans HLb.out (by omega))).mono ?_
 rintro _ _ ⟨rfl,rfl⟩
 rw[trimL,trimL,Je,Je,Ok Hlt.out]
 go_wp2_with fail
 refine(Y6 _ _ _ Hr.out (Nat.le_trans HLa.out (by omega))).mono ?_
 rintro _ w1 ⟨r,rfl,g1,hr⟩
 have G1:=ξ g1
 have Hr3:=ξ hr
 clear hr g1
 go_wp2_with fail
 go_ret3
 refine⟨_,rfl,G1.out,_,_,rfl,?_,?_⟩
 ·rw[Nat.div_eq_of_lt Hlt.out,Kk];exact NatL.nil _
 ·rw[Nat.mod_eq_of_lt Hlt.out];exact Hr3.out
theorem J42 (w:World)(va vb:Value)(la lb:List Nat)(ha:NatL w va la)(hb:NatL w vb lb)(hla:la.length≤8796093022208)(hlb:lb.length≤8796093022208)(hle:nval lb≤nval la)(h1:(digs (nval lb)).length=1):
  Calls Tryz.prog 233 #[va,vb] w (Ret w fun r w'=>∃ x y,r = .tuple #[x,y,.int .i64 0]∧NatL w' x (digs (nval la / nval lb))∧NatL w' y (digs (nval la % nval lb))):=by
 have HA:=ξ ha
 have HB:=ξ hb
 have Hle:=ξ hle
 have HLa:=ξ (Lk la ha.dig)
 have HLb:=ξ (Lk lb hb.dig)
 obtain⟨cz,hcz⟩:∃ cz,cmpZ (nval la) (nval lb)=cz:=⟨_,rfl⟩
 have hc0:¬ cz < 0:=by rw[← hcz,Nb];omega
 have Hcz:=ξ hcz
 have hB:nval lb < BB:=by have:=Kl (n:=nval lb) (k:=1) (by omega);rwa [Nat.pow_one] at this
 have hB0:0 < nval lb:=by
  rcases Nat.eq_zero_or_pos (nval lb) with h|h
  ·rw[h,Kk] at h1;cases h1
  ·exact h
 obtain⟨d,hd⟩:∃ d,nval lb=d:=⟨_,rfl⟩
 have Hd:=ξ hd
 have hdd:digs (nval lb)=[d]:=by
  rw[hd] at hB hB0 ⊢
  rw[show d=d+BB * 0 from by omega,Qj hB (.inl (by omega)),Kk];rfl
 have Hdd:=ξ hdd
 rw[hd] at hB hB0 ⊢
 have HBd:=ξ hB
 clear ha hb hle h1 hcz hd hdd hB
 go_enter Tryz.func233,Tryz.ntmps233
 go_wp2_with fail
 refine(Lg _ _ la HA.out).mono ?_
 rintro _ _ ⟨⟨p,na,rfl,hr⟩,rfl⟩
 have Hr:=ξ hr
 clear hr
 go_wp2_with fail
 refine(Lg _ _ lb HB.out).mono ?_
 rintro _ _ ⟨⟨q,nb,rfl,hr2⟩,rfl⟩
 rw[trimL,Hdd.out] at hr2
 have hnb:nb=1:=hr2.len.symm
 subst hnb
 have Hr2:=ξ hr2
 clear hr2
 go_wp2_with fail
 refine(N8 _ _ _ _ _ Hr.out Hr2.out (Nat.le_trans HLa.out (by omega)) (by simp)).mono ?_
 rintro _ _ ⟨rfl,rfl⟩
 have e1:cmpZ (nval (trimL la)) (nval [d])=cz:=by rw[← Hcz.out,trimL,Je,Hd.out];simp[nval]
 rw[e1]
 clear e1
 obtain⟨b,o,rfl,hc⟩:=Hr2.out.at 0 (by simp)
 have hg:gd [d] 0=d:=rfl
 rw[hg,Nat.add_zero] at hc
 have hd32:d < 4294967296:=by have:=HBd.out;rwa [Jc] at this
 clear hg
 go_wp2_with fail
 have hne:trimL la≠[]:=fun e=>by
  have:=J7.1 e
  have h2:=Hle.out
  rw[Hd.out] at h2;omega
 refine(J48 _ _ (trimL la) d Hr.out (Nat.le_trans HLa.out (by omega)) hne hB0 HBd.out).mono ?_
 rintro _ w1 ⟨_,rfl,g1,x,rfl,hx⟩
 have G1:=ξ g1
 have Hx:=ξ hx
 have hm:nval (trimL la) % d < 18446744073709551616:=by have:=Nat.mod_lt (nval (trimL la)) hB0;omega
 have Hm:=ξ hm
 clear hx g1 hne hm
 go_wp2_with fail
 refine(L3 _ _ Hm.out).mono ?_
 rintro _ w2 ⟨y,rfl,g2,hy⟩
 have G2:=ξ g2
 have Hy:=ξ hy
 clear hy g2
 go_wp2_with fail
 go_ret3
 have e:nval (trimL la)=nval la:=Je _
 refine⟨_,rfl,G1.out.trans G2.out,_,_,rfl,?_,?_⟩
 ·have:=Hx.out.grow G2.out;rwa [e] at this
 ·have:=Hy.out;rwa [e] at this
end Go.Proofs.YtcjgimlcefhhmaaGreatDoor
