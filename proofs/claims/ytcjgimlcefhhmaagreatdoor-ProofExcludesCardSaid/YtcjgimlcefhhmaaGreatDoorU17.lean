/- Texts: NumE NumF NumG NumH NumL NumK. -/
import Derived.Laws.IdiomStrings
import Derived.Laws.Concat
import Derived.Test.YtcjgimlcefhhmaaGreatDoorU9
import Derived.Test.YtcjgimlcefhhmaaGreatDoorU13
import Derived.Test.YtcjgimlcefhhmaaGreatDoorU16
set_option linter.unusedVariables false
set_option linter.unusedSimpArgs false
set_option maxRecDepth 100000
set_option maxHeartbeats 12800000
namespace Go.Proofs.YtcjgimlcefhhmaaGreatDoor
open Go.RowKit Go.Sort Go.Lib
theorem NatL.empty (w:World)(p:Option Addr)(b o:Nat)(h:p=some ⟨b,o,none⟩):NatL w (.slice p 0 0) []:=
 ⟨Dig.nil,p,0,rfl,Nat.le_refl _,by omega,.inr ⟨b,o,h,fun i hi=>by cases hi⟩⟩
end Go.Proofs.YtcjgimlcefhhmaaGreatDoor
namespace Go.Proofs.YtcjgimlcefhhmaaGreatDoor
open Go.RowKit Go.Lib
theorem Pa:BB=2 ^ 32:=by rw[Jc]
theorem J4g {l:List Nat}(h:Dig l){j:Nat}(hj:j≤l.length):nval l / BB ^ j=nval (l.drop j):=by
 have h1:=Zo l j
 rw[Nat.min_eq_left hj] at h1
 have h2:=Lh (l.take j) (h.take j)
 rw[List.length_take,Nat.min_eq_left hj] at h2
 rw[h1,Nat.add_mul_div_left _ _ (Nat.pow_pos Jt),Nat.div_eq_of_lt h2,Nat.zero_add]
theorem Vi {l:List Nat}(h:Dig l){j k:Nat}(hj:j < l.length)(hk:k < 32):nval l / 2 ^ (32 * j+k) % 2=gd l j / 2 ^ k % 2:=by
 have e:(2:Nat) ^ (32 * j+k)=BB ^ j * 2 ^ k:=by rw[Nat.pow_add,Nat.pow_mul,Pa]
 rw[e,← Nat.div_div_eq_div_mul,J4g h (Nat.le_of_lt hj),K4]
 have e2:BB=2 ^ k * (2 * 2 ^ (31 - k)):=by
  rw[Pa,← Nat.pow_succ',← Nat.pow_add]
  congr 1
  omega
 rw[e2,Nat.mul_assoc,Nat.add_mul_div_left _ _ (Nat.two_pow_pos k),Nat.mul_assoc,Nat.add_mul_mod_self_left]
theorem J1t (d:Nat)(h:d < 4294967296):bits .and .u32 (d:Int) 1=((d % 2:Nat):Int):=by
 have h1:=(bits_nat .u32 32 (by decide) (fun n h0 h1=>by simp[IntKind.wrap,IntKind.bits,IntKind.signed];omega) d 1 (by omega) (by decide)).1
 rw[Nat.and_one_is_mod] at h1
 exact h1
theorem J5E (w:World)(v:Value)(l:List Nat)(i:Nat)(h:NatL w v l)(hi:i < 32 * l.length)(hl:l.length≤1000000):
  Calls Tryz.prog 264 #[v,.int .i64 i] w (Ret w fun r w'=>r = .int .u32 ((nval l / 2 ^ i % 2:Nat))):=by
 have HA:=ξ h
 obtain⟨h0,p,c,rfl,h1,h2,h3⟩:=h
 rcases h3 with⟨rfl,h4⟩|⟨b,off,rfl,hcell⟩
 ·omega
 obtain⟨n,hn⟩:∃ n,l.length=n:=⟨_,rfl⟩
 rw[hn] at hi hl h1 HA
 obtain⟨j,hj⟩:∃ j,i / 32=j:=⟨_,rfl⟩
 obtain⟨k,hk⟩:∃ k,i % 32=k:=⟨_,rfl⟩
 have hjn:j < n:=by omega
 have hk32:k < 32:=by omega
 have E1:(i:Int) / 32=(j:Int):=by omega
 have E2:(i:Int) % 32=(k:Int):=by omega
 have E3:(i:Int).tdiv 32=(j:Int):=by rw[Int.tdiv_eq_ediv_of_nonneg (by omega)];exact E1
 have E4:(i:Int).tmod 32=(k:Int):=by rw[Int.tmod_eq_emod_of_nonneg (by omega)];exact E2
 have cell:=hcell j (by rw[hn];exact hjn)
 have hg:=h0.gd j
 obtain⟨d,hd⟩:∃ d,gd l j=d:=⟨_,rfl⟩
 rw[hd] at cell hg
 rw[Jc] at hg
 simp only[hn]
 have hbit:nval l / 2 ^ i % 2=d / 2 ^ k % 2:=by
  have:=Vi h0 (j:=j) (k:=k) (by rw[hn];exact hjn) hk32
  rw[show 32 * j+k=i by omega,hd] at this
  exact this
 have Hbit:=ξ hbit
 have EA:=J1t (d / 2 ^ k) (Nat.lt_of_le_of_lt (Nat.div_le_self _ _) hg)
 rw[Int.natCast_ediv,Int.natCast_pow] at EA
 have Hn:=ξ hn
 have Hd:=ξ hd
 clear hcell hn hd h0 hbit
 go_enter Tryz.func264,Tryz.ntmps264
 go_wp2_with fail
 go_ret
 exact⟨_,rfl,Gr.refl _,by rw[Hbit.out];exact congrArg _ EA⟩
theorem J5I (w:World)(v:Value)(l:List Nat)(h:NatL w v l)(hlen:l.length≤35184372088832):
  Calls Tryz.prog 157 #[v] w (Ret w fun r w'=>OwnN w' w.heap.size r (trimL l)):=by
 have HA:=ξ h
 obtain⟨h0,p,c,rfl,h1,h2,-⟩:=h
 have H0:=ξ h0
 obtain⟨n,hn⟩:∃ n,l.length=n:=⟨_,rfl⟩
 have Hn:=ξ hn
 rw[hn] at h1 hlen ⊢
 rw[hn] at HA
 clear hn h0
 go_enter Tryz.func157,Tryz.ntmps157
 go_wp2
 go_loopw [3] (fun i w1=>∃ k:Nat,k≤n∧i = .int .i64 k∧trimL (l.take k)=trimL l∧w1=w) (fun i _=>(RowKit.intOf i).toNat)
 case atStart=>exact⟨n,Nat.le_refl _,rfl,by rw[List.take_of_length_le (by rw[Hn.out];exact Nat.le_refl _)],rfl⟩
 case round=>
  obtain⟨k,hk,rfl,hp,rfl⟩:=hrel
  have Hp:=ξ hp;clear hp
  have hbase:wr.heap.size≤(wr.alloc (.cells #[] 153)).heap.size:=by simp
  by_cases hk0:k=0
  ·obtain rfl:=hk0
   have ht:=ξ (Uo Hp.out)
   go_wp2_with (at_builtin;refine L9 rfl _ _ 64 rfl (by kernel_rfl) wr.heap.size _ (.slice p 0 c) [] (l.take 0) rfl (OwnN.made0 wr _ (Nat.le_refl _)) rfl ((HA.out.take 0 c (by omega) (by omega) (Nat.le_refl _)).grow ((Gr.refl wr).alloc _)) (by simp) hbase ?_;intro v' w' hown' hgrow hb')
   go_ret
   refine⟨_,rfl,((Gr.refl _).alloc _).own hgrow,?_⟩
   rw[← ht.out];exact hown'
  ·obtain⟨j,rfl⟩:∃ j,k=j+1:=⟨k - 1,by omega⟩
   obtain⟨b,o,rfl,hc⟩:=HA.out.at j (by rw[Hn.out];omega)
   by_cases hd:gd l j=0
   ·have e0:((gd l j:Int) == 0)=true:=by rw[hd];rfl
    have Hd:=ξ hd;clear hd
    go_wp2
    go_roundw
    case rel=>
     exact⟨j,by omega,rfl,Up (by rw[Hn.out];omega) Hp.out Hd.out,trivial⟩
    case measure=>simp[RowKit.intOf]
   ·have e0:((gd l j:Int) == 0)=false:=by simpa using hd
    have Hd:=ξ hd;clear hd
    go_wp2_with (at_builtin;refine L9 rfl _ _ 64 rfl (by kernel_rfl) wr.heap.size _ (.slice _ (j+1) c) [] (l.take (j+1)) rfl (OwnN.made0 wr _ (Nat.le_refl _)) rfl ((HA.out.take (j+1) c (by rw[Hn.out];omega) (by omega) (Nat.le_refl _)).grow ((Gr.refl wr).alloc _)) (by rw[List.length_take];simp;omega) hbase ?_;intro v' w' hown' hgrow hb')
    go_ret
    refine⟨_,rfl,((Gr.refl _).alloc _).own hgrow,?_⟩
    rw[← Un H0.out (by rw[Hn.out];omega) Hp.out Hd.out];exact hown'
theorem J5H (w:World)(va vb:Value)(la lb:List Nat)(ha:NatL w va la)(hb:NatL w vb lb)(hla:la.length≤17592186044416)(hlb:lb.length≤17592186044416)(hle:nval lb≤nval la):
  Calls Tryz.prog 216 #[va,vb] w (Ret w fun r w'=>∃ x,r = .tuple #[x,.int .i64 0]∧NatL w' x (digs (nval la - nval lb))∧∀ g,g < w.heap.size→M7 g x):=by
 have HA:=ξ ha
 have HB:=ξ hb
 have hc0:¬ cmpZ (nval la) (nval lb) < 0:=by rw[Nb];omega
 obtain⟨cz,hcz⟩:∃ cz,cmpZ (nval la) (nval lb)=cz:=⟨_,rfl⟩
 rw[hcz] at hc0
 have Hcz:=ξ hcz
 have Hle:=ξ hle
 obtain⟨p,c,rfl,a1,a2,a3⟩:=ha.parts
 have A3:=ξ a3
 have B3:=ξ hb.dig
 obtain⟨na,hna⟩:∃ n,la.length=n:=⟨_,rfl⟩
 rw[hna] at HA a1 ⊢
 have Hna:=ξ hna
 have Hla:=ξ hla
 have hna':na≤17592186044416:=by omega
 clear ha hb a3 hle hcz hna hla
 go_enter Tryz.func216,Tryz.ntmps216
 go_wp2_with fail
 refine(Q5 _ _ vb la lb HA.out HB.out (Nat.le_trans Hla.out (by omega)) (by omega)).mono ?_
 rintro _ w1 ⟨_,rfl,g1,rfl⟩
 rw[Hcz.out]
 have HA1:=ξ (HA.out.grow g1)
 have HB1:=ξ (HB.out.grow g1)
 have G1:=ξ g1
 clear HA HB g1
 go_wp2_with fail
 go_loopw [6,7,8] (fun v cr i w2=>∃ (k:Nat) (l:List Nat) (c:Nat),k≤na∧i = .int .i64 k∧OwnN w2 w1.heap.size v l∧l.length=k∧cr = .int .u64 c∧c≤1∧
   nval l+nval (lb.take k)=nval (la.take k)+BB ^ k * c∧Own w1.heap.size w1 w2) (fun _ _ i _=>na - (RowKit.intOf i).toNat)
 case atStart=>
  exact⟨0,[],0,by omega,rfl,OwnN.made0 w1 _ (Nat.le_refl _),rfl,rfl,by omega,by simp[nval],Own.of_gr ((Gr.refl w1).alloc _) (Nat.le_refl _)⟩
 case round=>
  obtain⟨k,l,cr,hk,rfl,hown,hl,rfl,hc,hv,ho⟩:=hrel
  have Hown:=ξ hown
  have Hl:=ξ hl
  have Hv:=ξ hv
  have Ho:=ξ ho
  have Hb:=ξ (show w1.heap.size≤wr.heap.size from ho.size)
  clear hown hl hv ho
  by_cases hka:k < na
  ·have ga:=A3.out.gd k
   have gb:=B3.out.gd k
   rw[Jc] at ga gb
   obtain⟨x,hx⟩:∃ x,x=4294967296+gd la k - gd lb k - cr:=⟨_,rfl⟩
   have Hx:=ξ (show x+gd lb k+cr=BB+gd la k by rw[Jc];omega)
   have E1:=ξ (show((4294967296:Int)+gd la k - gd lb k - cr) % 4294967296=((x % BB:Nat):Int) by rw[hx,Jc];omega)
   have E2:=ξ (show 1 - ((4294967296:Int)+gd la k - gd lb k - cr) / 4294967296=((1 - x / BB:Nat):Int) by rw[hx,Jc];omega)
   have hs1:=ξ (show x / BB≤1 by rw[hx,Jc];omega)
   clear hx
   go_wp2_with fail
   refine(Ov _ _ la k (HA1.out.own rfl Ho.out) (by omega)).mono ?_
   rintro _ _ ⟨rfl,rfl⟩
   go_wp2_with fail
   refine(Ov _ _ lb k (HB1.out.own rfl Ho.out) (by omega)).mono ?_
   rintro _ _ ⟨rfl,rfl⟩
   go_wp2_with (at_builtin;go_must (refine L9 rfl _ _ 64 rfl (by kernel_rfl) w1.heap.size _ (.slice (some ⟨wr.heap.size,0,none⟩) 1 1) l [x % BB] rfl (Hown.out.grow ((Gr.refl wr).alloc _)) rfl (NatL.one wr _ (x % BB) E1.out (Nat.mod_lt _ Jt) _) (by rw[Hl.out];simp;omega) (Nat.le_trans Hb.out (by simp)) ?_;intro v' w' hown' hgrow hb'))
   refine⟨⟨k+1,l ++ [x % BB],1 - x / BB,by omega,by go_num,hown',by rw[List.length_append,Hl.out];rfl,by rw[E2.out],Nat.sub_le _ _,Ug Hl.out Hv.out Hx.out hs1.out,?_⟩,by simp[RowKit.intOf];omega⟩
   exact(Ho.out.trans (Own.of_gr ((Gr.refl wr).alloc _) Hb.out)).trans hgrow
  ·obtain rfl:k=na:=by omega
   go_wp2_with fail
   refine(J5I _ u6 _ Hown.out.read (by rw[Hl.out];omega)).mono ?_
   rintro _ w2 ⟨r,rfl,g2,hr0⟩
   have hr:=hr0.read
   have hfr:∀ g,g < w.heap.size→M7 g r:=fun g hg b o n c e=>by
    subst e
    have h1:=(hr0.lt b rfl).1
    have h2:=Ho.out.size
    have h3:=G1.out.size
    omega
   go_wp2
   go_ret2
   refine⟨_,rfl,(G1.out.trans Ho.out.gr).trans g2,_,rfl,?_,hfr⟩
   have h1:=Hv.out
   rw[List.take_of_length_le (l:=la) (by rw[Hna.out];omega),← Hna.out] at h1
   rw[← J0H A3.out (by rw[Hl.out,Hna.out]) Hown.out.2 h1 Hle.out hc]
   exact hr
theorem Zx {d k:Nat}(h:d / 2 ^ k % 2=0):d ||| 2 ^ k=d+2 ^ k:=by
 obtain⟨a,ha⟩:∃ a,d / 2 ^ k=2 * a:=⟨d / 2 ^ k / 2,by omega⟩
 have hd:=Nat.div_add_mod d (2 ^ k)
 have hb:=Nat.mod_lt d (Nat.two_pow_pos k)
 generalize d % 2 ^ k=b at hd hb
 rw[ha] at hd
 have e1:2 ^ (k+1) * a+b=d:=by rw[← hd,Nat.pow_succ,Nat.mul_assoc]
 have hb2:b < 2 ^ (k+1):=by rw[Nat.pow_succ];omega
 have h1:=Nat.two_pow_add_eq_or_of_lt hb2 a
 have h2:=Nat.two_pow_add_eq_or_of_lt hb 1
 rw[Nat.mul_one] at h2
 have hb3:2 ^ k+b < 2 ^ (k+1):=by rw[Nat.pow_succ];omega
 have h3:=Nat.two_pow_add_eq_or_of_lt hb3 a
 calc d ||| 2 ^ k=(2 ^ (k+1) * a ||| b) ||| 2 ^ k:=by rw[← h1,e1]
  _=2 ^ (k+1) * a ||| (2 ^ k ||| b):=by rw[Nat.or_assoc,Nat.or_comm b]
  _=2 ^ (k+1) * a+(2 ^ k+b):=by rw[← h2,← h3]
  _=d+2 ^ k:=by rw[← e1];omega
theorem J2s {A B m:Nat}(hB:0 < B):∃ bit,bit=A / 2 ^ m % 2∧(
  (2 * (A / 2 ^ (m+1) % B)+bit < B∧A / 2 ^ m % B=2 * (A / 2 ^ (m+1) % B)+bit∧A / 2 ^ m / B=2 * (A / 2 ^ (m+1) / B))∨
  (B≤2 * (A / 2 ^ (m+1) % B)+bit∧A / 2 ^ m % B=2 * (A / 2 ^ (m+1) % B)+bit - B∧A / 2 ^ m / B=2 * (A / 2 ^ (m+1) / B)+1)):=by
 have e:A / 2 ^ (m+1)=A / 2 ^ m / 2:=by rw[Nat.pow_succ,Nat.div_div_eq_div_mul]
 rw[e]
 generalize A / 2 ^ m=U
 refine⟨U % 2,rfl,?_⟩
 have h1:=Nat.div_add_mod U 2
 have h2:=Nat.div_add_mod (U / 2) B
 have h3:=Nat.mod_lt (U / 2) hB
 generalize U / 2 / B=q at *
 generalize U / 2 % B=r at *
 have hb:=Nat.mod_lt U (show 0 < 2 by decide)
 generalize U % 2=bit at *
 have h4:U=B * (2 * q)+(2 * r+bit):=by rw[← h1,← h2,Nat.mul_add,Nat.mul_left_comm 2 B q];omega
 by_cases hc:2 * r+bit < B
 ·refine .inl ⟨hc,?_,?_⟩
  ·rw[h4,Nat.mul_add_mod,Nat.mod_eq_of_lt hc]
  ·rw[h4,Nat.mul_add_div hB,Nat.div_eq_of_lt hc,Nat.add_zero]
 ·have h5:U=B * (2 * q+1)+(2 * r+bit - B):=by rw[h4,Nat.mul_add,Nat.mul_one];omega
  have hc2:2 * r+bit - B < B:=by omega
  refine .inr ⟨by omega,?_,?_⟩
  ·rw[h5,Nat.mul_add_mod,Nat.mod_eq_of_lt hc2]
  ·rw[h5,Nat.mul_add_div hB,Nat.div_eq_of_lt hc2,Nat.add_zero]
theorem Tu (w:World)(va vb:Value)(la lb:List Nat)(ha:NatL w va la)(hb:NatL w vb lb)(hla:la.length≤1000000)(hlb:lb.length≤1000000)(hB:0 < nval lb):
  Calls Tryz.prog 213 #[va,vb] w (Ret w fun r w'=>∃ x y,r = .tuple #[x,y,.int .i64 0]∧NatL w' x (digs (nval la / nval lb))∧NatL w' y (digs (nval la % nval lb))):=by
 have HA:=ξ ha
 have HB:=ξ hb
 obtain⟨A,hA⟩:∃ A,nval la=A:=⟨_,rfl⟩
 obtain⟨B,hBe⟩:∃ B,nval lb=B:=⟨_,rfl⟩
 rw[hBe] at hB
 rw[hA,hBe]
 have HAe:=ξ hA
 have HBl:=ξ (show(digs B).length≤1000000 by rw[← hBe];exact Nat.le_trans (Nc hb.dig) hlb)
 have hBne:digs B≠[]:=fun e=>by have:=J7.1 e;omega
 have hbl:=ξ (show lb.length≤1000000 from hlb)
 have HBe:=ξ hBe
 obtain⟨p,c,rfl,a1,a2,-⟩:=ha.parts
 obtain⟨L,hL⟩:∃ L,la.length=L:=⟨_,rfl⟩
 rw[hL] at HA a1 hla ⊢
 have HL:=ξ hL
 clear ha hb hA hBe hL hlb
 go_enter Tryz.func213,Tryz.ntmps213
 go_wp2_with fail
 refine(Li _ _ lb HB.out (Nat.le_trans hbl.out (by decide))).mono ?_
 rintro _ w1 ⟨vt,rfl,g1,ht⟩
 rw[K7,HBe.out] at ht
 have HT:=ξ ht
 obtain⟨pt,kt,ct,rfl,hkt⟩:=ht.slice
 have hk0:0 < kt:=by rw[hkt];exact List.length_pos_iff.2 hBne
 have hk1:kt≤1000000:=by rw[hkt];exact HBl.out
 have Hne:=ξ hBne
 have G1:=ξ g1
 clear ht g1 hkt hBne
 obtain⟨g,hg⟩:∃ g,w1.heap.size=g:=⟨_,rfl⟩
 have Hg:=ξ hg
 clear hg
 go_wp2_with (first|(go_at_call 999)|(at_make;go_must (refine P6 rfl _ _ 64 rfl (by kernel_rfl) L _ rfl rfl (by omega) (by omega) ?_;rw[Hg.out];intro w2 hrow hgr1 hsz1)))
 have HRow:=ξ (hrow.grow ((Gr.refl w2).alloc (.cells #[] 153)))
 have G2:=ξ (hgr1.trans ((Gr.refl w2).alloc (.cells #[] 153)))
 clear hrow hgr1 hsz1
 have hAL:=ξ (show A < BB ^ L by rw[← HAe.out,← HL.out];exact Lh la HA.out.dig)
 go_loopw [8,9] (fun vr z w3=>∃ (n:Nat) (lq:List Nat),n≤32 * L∧z = .int .i64 ((n:Int) - 1)∧lq.length=L∧RowN w3 g lq∧NatL w3 vr (digs (A / 2 ^ n % B))∧nval lq=A / 2 ^ n / B * 2 ^ n∧Own w1.heap.size w1 w3) (fun _ z _=>(RowKit.intOf z+1).toNat)
 case atStart=>
  have h0:A / 2 ^ (32 * L)=0:=Nat.div_eq_of_lt (by have:=hAL.out;rw[Pa,← Nat.pow_mul] at this;exact this)
  refine⟨32 * L,List.replicate L 0,Nat.le_refl _,?_,by simp,HRow.out,?_,?_,Own.of_gr G2.out (Nat.le_refl _)⟩
  ·simp
  ·rw[h0,Nat.zero_mod,J7.2 rfl];exact NatL.empty _ _ _ _ rfl
  ·rw[h0,Ps,Nat.zero_div,Nat.zero_mul]
 case round=>
  obtain⟨n,lq,hn,rfl,hlq,hrow,hvr,hq,ho⟩:=hrel
  have Hlq:=ξ hlq
  have Hrow:=ξ hrow
  have Hvr:=ξ hvr
  have Hq:=ξ hq
  have Ho:=ξ ho
  clear hlq hrow hvr hq ho
  by_cases hn0:n=0
  ·subst hn0
   go_wp2_with fail
   have hrd:=Hrow.out.read L (by rw[Hlq.out];exact Nat.le_refl _) (by omega)
   rw[Hlq.out] at hrd
   refine(Li _ _ _ hrd (by rw[Hlq.out];omega)).mono ?_
   rintro _ w4 ⟨r4,rfl,g4,h4⟩
   rw[K7,Hq.out,Nat.pow_zero,Nat.div_one,Nat.mul_one] at h4
   have hv:=Hvr.out
   rw[Nat.pow_zero,Nat.div_one] at hv
   have H4:=ξ h4
   have HV:=ξ (hv.grow g4)
   have GE:=ξ (G1.out.trans (Ho.out.gr.trans g4))
   clear h4 hv g4 hrd
   go_wp2_with fail
   go_ret3
   exact⟨_,rfl,GE.out,_,_,rfl,H4.out,HV.out⟩
  ·obtain⟨m,rfl⟩:∃ m,n=m+1:=⟨n - 1,by omega⟩
   have E0:((m+1:Nat):Int) - 1=(m:Int):=by omega
   rw[E0]
   have hm32:m < 32 * L:=by omega
   obtain⟨bit,hbit,hcase⟩:=J2s (A:=A) (m:=m) hB
   obtain⟨R,hR⟩:∃ R,A / 2 ^ (m+1) % B=R:=⟨_,rfl⟩
   have hRB:R < B:=by rw[← hR];exact Nat.mod_lt _ hB
   rw[hR] at Hvr hcase
   have hb2:bit < 2:=by rw[hbit];exact Nat.mod_lt _ (by decide)
   have Hbit:=ξ hbit
   have Hcase:=ξ hcase
   have HR:=ξ hR
   have hdR:=ξ (Nat.le_trans (Om (Nat.le_of_lt hRB)) HBl.out)
   clear hn0 hbit hcase hR E0 hn
   go_wp2_with fail
   refine(Q4 _ _ _ _ _ Hvr.out Hvr.out (Nat.le_trans hdR.out (by decide)) (Nat.le_trans hdR.out (by decide))).mono ?_
   rintro _ w4 ⟨r4,rfl,g4,h4⟩
   rw[Je] at h4
   have H4:=ξ h4
   have G4:=ξ g4
   clear h4 g4
   go_wp2_with fail
   refine(J5E _ _ la m (HA.out.grow (G1.out.trans (Ho.out.gr.trans G4.out))) (by rw[HL.out];exact hm32) (by rw[HL.out];exact hla)).mono ?_
   rintro _ w5 ⟨_,rfl,g5,rfl⟩
   rw[HAe.out,← Hbit.out]
   have G5:=ξ (G4.out.trans g5)
   have H4:=ξ (H4.out.grow g5)
   clear g5
   go_wp2_with fail
   have h1b:=ξ (NatL.one w5 bit bit rfl (by rw[Jc];omega) 153)
   have g1b:=ξ ((Gr.refl w5).alloc (.cells #[.int .u32 bit] 153))
   refine(Q4 _ _ _ _ [bit] (H4.out.grow g1b.out) h1b.out (Nat.le_trans (V4 hdR.out hdR.out) (by decide)) (by simp)).mono ?_
   rintro _ w6 ⟨r6,rfl,g6,h6⟩
   rw[Je,show nval [bit]=bit by simp[nval],show R+R+bit=2 * R+bit by omega] at h6
   have H6:=ξ h6
   have G6:=ξ (G5.out.trans (g1b.out.trans g6))
   clear h6 g6 h1b g1b H4
   have HT6:=ξ (HT.out.grow (Ho.out.gr.trans G6.out))
   have hdr6:=ξ (show(digs (2 * R+bit)).length≤1000001 from Nat.le_trans (Om (show 2 * R+bit≤B+B by omega)) (V4 HBl.out HBl.out))
   go_wp2_with fail
   obtain⟨cz,hcz⟩:∃ cz,cmpZ ((2 * R+bit:Nat):Int) (B:Int)=cz:=⟨_,rfl⟩
   have Hcz:=ξ hcz
   clear hcz
   refine(Q5 _ _ _ _ _ H6.out HT6.out (Nat.le_trans hdr6.out (by decide)) (Nat.le_trans HBl.out (by decide))).mono ?_
   rintro _ w7 ⟨_,rfl,g7,rfl⟩
   rw[Je,Je,Hcz.out]
   have G7:=ξ (G6.out.trans g7)
   have H7:=ξ (H6.out.grow g7)
   have HT7:=ξ (HT6.out.grow g7)
   have Hrow7:=ξ (Hrow.out.grow G7.out)
   clear g7 H6 HT6 G6 G5 G4
   rcases Hcase.out with⟨c1,c2,c3⟩|⟨c1,c2,c3⟩
   ·have hz:cz = -1:=by rw[← Hcz.out];unfold cmpZ;rw[if_pos (by omega)]
    subst hz
    go_wp2_with fail
    refine⟨⟨m,lq,by omega,rfl,Hlq.out,Hrow7.out,?_,?_,Ho.out.trans (Own.of_gr G7.out Ho.out.size)⟩,by simp[RowKit.intOf]<;>omega⟩
    ·rw[c2];exact H7.out
    ·rw[c3,Hq.out]
     generalize A / 2 ^ (m+1) / B=qq
     rw[Nat.pow_succ,Nat.mul_comm (2 ^ m) 2,← Nat.mul_assoc,Nat.mul_comm 2]
   ·have hz:¬ cz < 0:=by rw[← Hcz.out,Nb];omega
    go_wp2_with fail
    refine(J5H _ _ _ _ _ H7.out HT7.out (Nat.le_trans hdr6.out (by decide)) (Nat.le_trans HBl.out (by decide)) (by rw[Je,Je];exact c1)).mono ?_
    rintro _ w8 ⟨_,rfl,g8,x8,rfl,hx8,hfr⟩
    rw[Je,Je] at hx8
    have Hx8:=ξ hx8
    have hnot:=ξ (hfr g Hrow7.out.lt)
    have Hrow8:=ξ (Hrow7.out.grow g8)
    have G8:=ξ (G7.out.trans g8)
    clear hx8 hfr g8
    obtain⟨j,hj⟩:∃ j,m / 32=j:=⟨_,rfl⟩
    obtain⟨k,hk⟩:∃ k,m % 32=k:=⟨_,rfl⟩
    have hjL:j < L:=by omega
    have hk32:k < 32:=by omega
    have E1:(m:Int) / 32=(j:Int):=by omega
    have E2:(m:Int) % 32=(k:Int):=by omega
    have E3:(m:Int).tdiv 32=(j:Int):=by rw[Int.tdiv_eq_ediv_of_nonneg (by omega)];exact E1
    have E4:(m:Int).tmod 32=(k:Int):=by rw[Int.tmod_eq_emod_of_nonneg (by omega)];exact E2
    go_wp2_with fail
    refine Jp [(0,true),(1,true),(2,true),(3,true),(4,true),(5,true),(6,true),(7,true),(8,true),(9,true),(10,true),(11,true),(12,true),(13,false)] (by kernel_rfl) (by kernel_rfl) rfl (by kernel_rfl) (fun _ _ d _ _ h=>by cases d<;>exact h) ?_
    have HrowD:=ξ (Hrow8.out.grow ((Gr.refl _).drew))
    have GD:=ξ (G8.out.trans ((Gr.refl _).drew))
    have HxD:=ξ (Hx8.out.grow ((Gr.refl _).drew))
    generalize w8.drew=w9 at HrowD GD HxD ⊢
    have cq:∀ w',Gr w9 w'→w'.cell? ⟨g,j,none⟩=some (.int .u32 (gd lq j)):=fun w' hh=>hh.cell (HrowD.out.cell (by rw[Hlq.out];exact hjL))
    have hdj:=HrowD.out.dig.gd j
    obtain⟨d,hd⟩:∃ d,gd lq j=d:=⟨_,rfl⟩
    simp only[hd] at cq
    rw[hd,Jc] at hdj
    have Hd:=ξ hd
    clear hd
    have g0:=Gr.refl w9
    have hjI:(j:Int) < (L:Int):=by omega
    have wj:IntKind.i64.wrap (j:Int)=(j:Int):=by rw[IntKind.wrap_i64];omega
    have hd0:d / 2 ^ k % 2=0:=by
     have h1:=Vi HrowD.out.dig (j:=j) (k:=k) (by rw[Hlq.out];exact hjL) hk32
     rw[Hd.out,show 32 * j+k=m by omega,Hq.out,Nat.pow_succ,Nat.mul_comm (2 ^ m) 2,← Nat.mul_assoc,Nat.mul_div_cancel _ (Nat.two_pow_pos m)] at h1
     rw[← h1]
     omega
    have hk2:2 ^ k < 2 ^ 32:=Nat.pow_lt_pow_right (by decide) hk32
    obtain⟨e,he⟩:∃ e,d+2 ^ k=e:=⟨_,rfl⟩
    have heB:e < 2 ^ 32:=by rw[← he,← Zx hd0];exact Nat.or_lt_two_pow (by omega) hk2
    have EO:bits .or .u32 (d:Int) (IntKind.u32.wrap (2 ^ k))=(e:Int):=by
     have h1:=(bits_nat .u32 32 (by decide) (fun n h0 h1=>by simp[IntKind.wrap,IntKind.bits,IntKind.signed];omega) d (2 ^ k) (by omega) hk2).2
     rw[Zx hd0,he] at h1
     rw[← h1]
     congr 1
     have:(2:Int) ^ k=((2 ^ k:Nat):Int):=by simp
     rw[this]
     generalize 2 ^ k=X at hk2 ⊢
     simp[IntKind.wrap,IntKind.bits,IntKind.signed];omega
    have He:=ξ he
    have HeB:=ξ heB
    clear hd0 hk2 he heB
    repeat(refine Jf (v:=?_) g0 rfl rfl (fun w' hg=>?_) (fun K hK=>?_);rotate_left;(go_simp;rfl);go_simp;refine hK _ _ ?_;clear hK K)
    have cw:=cq w9 (Gr.refl _)
    have fw:=HrowD.out.free j
    refine Jj rfl rfl (fun K hK=>?_)
    go_simp
    refine⟨fun h=>Bool.noConfusion h,hK _ _ ?_⟩
    clear hK K
    refine Ji ?_
    have HrowS:=ξ (HrowD.out.set j e (e:Int) rfl (by rw[Pa];exact HeB.out))
    have HxS:=ξ (HxD.out.keep hnot.out (Jl.set g w9 j (.int .u32 (e:Int))))
    have HoS:=ξ ((Ho.out.trans (Own.of_gr GD.out Ho.out.size)).trans (Own.setCell w9 (base:=w1.heap.size) (g:=g) (by rw[Hg.out];exact Nat.le_refl _) j (.int .u32 (e:Int))))
    clear cw fw cq
    generalize w9.setCell _ _=wS at HrowS HxS HoS ⊢
    go_wp2_with fail
    refine⟨⟨m,lq.set j e,by omega,rfl,by rw[List.length_set];exact Hlq.out,HrowS.out,?_,?_,HoS.out⟩,by simp[RowKit.intOf]<;>omega⟩
    ·rw[c2];exact HxS.out
    ·have h1:=N9 e (l:=lq) (i:=j) (by rw[Hlq.out];exact hjL)
     rw[Hd.out,← He.out,Nat.mul_add] at h1
     have h2:BB ^ j * 2 ^ k=2 ^ m:=by rw[Pa,← Nat.pow_mul,← Nat.pow_add];congr 1;omega
     rw[h2,Hq.out] at h1
     rw[c3,← He.out]
     generalize A / 2 ^ (m+1) / B=qq at *
     generalize BB ^ j * d=Y at *
     rw[Nat.pow_succ] at h1
     rw[Nat.add_mul,Nat.one_mul]
     have h3:qq * (2 ^ m * 2)=2 * qq * 2 ^ m:=by rw[Nat.mul_comm (2 ^ m) 2,← Nat.mul_assoc,Nat.mul_comm 2]
     rw[h3] at h1
     omega
def Mx (N m:Nat)(s:List UInt8):Prop:=(N=0→m=0∧s=[])∧(0 < N→decDigits N=(if m=0 then [] else decDigits m) ++ s)
theorem Mx.start (N:Nat):Mx N N []:=⟨fun h=>⟨h,rfl⟩,fun h=>by rw[if_neg (by omega)];simp⟩
theorem Mx.step {N m:Nat}{s:List UInt8}(h:Mx N m s)(hm:0 < m):Mx N (m / 10) (UInt8.ofNat (48+m % 10) :: s):=by
 have hN:0 < N:=Nat.pos_of_ne_zero fun e=>by have:=(h.1 e).1;omega
 refine⟨fun e=>by omega,fun _=>?_⟩
 rw[h.2 hN,if_neg (by omega)]
 by_cases h10:m < 10
 ·rw[N0 h10,if_pos (by omega),Nat.mod_eq_of_lt h10];rfl
 ·rw[Qh h10,if_neg (by omega),List.append_assoc];rfl
theorem Mx.more {N m:Nat}{s:List UInt8}(h:Mx N m s)(hm:0 < m):s.length < (decDigits N).length:=by
 have hN:0 < N:=Nat.pos_of_ne_zero fun e=>by have:=(h.1 e).1;omega
 rw[h.2 hN,if_neg (by omega),List.length_append,decDigits_length]
 have:=nDigits_pos m
 omega
theorem Mx.stop {N:Nat}{s:List UInt8}(h:Mx N 0 s):(s=[]∧N=0)∨(s≠[]∧decDigits N=s):=by
 by_cases hN:N=0
 ·exact .inl ⟨(h.1 hN).2,hN⟩
 ·have h2:=h.2 (by omega)
  rw[if_pos rfl,List.nil_append] at h2
  refine .inr ⟨fun e=>?_,h2⟩
  have:=nDigits_pos N
  rw[← decDigits_length,h2,e] at this
  simp at this
theorem Za (w:World)(v:Value)(l:List Nat)(h:NatL w v l)(hlen:l.length≤17592186044416):
  Calls Tryz.prog 179 #[v] w fun e w'=>e = .returned (.bool (decide (trimL l=l)))∧w=w':=by
 have HA:=ξ h
 have HT:=ξ (J0O l h.dig)
 obtain⟨p,c,rfl,h1,h2,h0⟩:=h.parts
 obtain⟨n,hn⟩:∃ n,l.length=n:=⟨_,rfl⟩
 rw[hn] at h1 hlen ⊢
 rw[hn] at HA HT
 have Hn:=ξ hn
 clear hn h0 h
 by_cases h0:n=0
 ·obtain rfl:=h0
  have Hd:=ξ (show decide (trimL l=l)=true by simp;exact HT.out.2 (.inl (List.eq_nil_of_length_eq_zero Hn.out)))
  go_enter Tryz.func179,Tryz.ntmps179
  go_wp2_with fail
  go_ret
  rw[Hd.out]
  exact⟨rfl,rfl⟩
 ·obtain⟨j,rfl⟩:∃ j,n=j+1:=⟨n - 1,by omega⟩
  obtain⟨b,o,rfl,hc⟩:=HA.out.at j (by rw[Hn.out];omega)
  rw[Nat.add_sub_cancel] at HT
  have t1:(((j+1:Nat):Int) == 0)=false:=by simp;omega
  have Hd:=ξ (show decide (trimL l=l)=((gd l j:Int) != 0) by
   rw[Bool.eq_iff_iff,decide_eq_true_iff,HT.out]
   have:l≠[]:=fun e=>by have:=Hn.out;rw[e] at this;simp at this
   simp[this])
  go_enter Tryz.func179,Tryz.ntmps179
  go_wp2_with fail
  go_ret
  rw[Hd.out]
  exact⟨rfl,rfl⟩
theorem Sw (a b:Nat):Nat.gcd b (a % b)=Nat.gcd a b:=by
 rw[Nat.gcd_comm b,← Nat.gcd_rec,Nat.gcd_comm]
theorem J49 (w:World)(va vb:Value)(x y:Nat)(ha:NatL w va (digs x))(hb:NatL w vb (digs y))(hx:x < 18446744073709551616)(hy:y < 18446744073709551616):
  Calls Tryz.prog 232 #[va,vb] w (Ret w fun r w'=>NatL w' r (digs (Nat.gcd x y))):=by
 have HA:=ξ ha
 have HB:=ξ hb
 clear ha hb
 go_enter Tryz.func232,Tryz.ntmps232
 go_wp2_with fail
 refine(Ti w va _ true HA.out (decide_eq_true (by rw[Je];exact N3.2 hx))).mono ?_
 rintro _ _ ⟨rfl,rfl⟩
 rw[Je]
 go_wp2_with fail
 refine(Ti w vb _ true HB.out (decide_eq_true (by rw[Je];exact N3.2 hy))).mono ?_
 rintro _ _ ⟨rfl,rfl⟩
 rw[Je]
 go_wp2_with fail
 go_loopw [5,7] (fun u v w1=>∃ a b:Nat,u = .int .u64 a∧v = .int .u64 b∧a < 18446744073709551616∧b < 18446744073709551616∧Nat.gcd a b=Nat.gcd x y∧Gr w w1) (fun _ v _=>(RowKit.intOf v).toNat)
 case atStart=>exact⟨x,y,by simp,by simp,hx,hy,rfl,Gr.refl _⟩
 case round=>
  obtain⟨a,b,rfl,rfl,ha,hb,hg,hgr⟩:=hrel
  have Hg:=ξ hg
  have Hgr:=ξ hgr
  clear hg hgr
  by_cases h0:b=0
  ·subst h0
   go_wp2_with fail
   refine(L3 _ a ha).mono ?_
   rintro _ w2 ⟨r2,rfl,g2,h2⟩
   have H2:=ξ h2
   have G2:=ξ g2
   clear h2 g2
   go_wp2_with fail
   go_ret
   refine⟨_,rfl,Hgr.out.trans G2.out,?_⟩
   rw[← Hg.out,Nat.gcd_zero_right]
   exact H2.out
  ·have hmod:=Nat.mod_lt a (show 0 < b by omega)
   obtain⟨r,hr⟩:∃ r,a % b=r:=⟨_,rfl⟩
   have E1:(a:Int) % (b:Int)=(r:Int):=by rw[← hr];simp
   have E2:(a:Int).tmod (b:Int)=(r:Int):=by rw[Int.tmod_eq_emod_of_nonneg (by omega)];exact E1
   rw[hr] at hmod
   have hbI:(b:Int)≠0:=by omega
   have Hr:=ξ hr
   clear hr
   go_wp2_with fail
   refine Jp [(0,true),(1,true),(2,true),(3,true),(4,true),(5,true)] (by kernel_rfl) (by kernel_rfl) rfl (by kernel_rfl) (fun _ _ d _ _ h=>by cases d<;>exact h) ?_
   have g0:Gr wr wr.drew:=(Gr.refl _).drew
   repeat(refine Jf (v:=?_) g0 rfl rfl (fun w' hg=>?_) (fun K hK=>?_);rotate_left;(go_simp;rfl);go_simp;refine hK _ _ ?_;clear hK K)
   refine Ji ?_
   go_wp2_with fail
   refine⟨⟨b,r,rfl,by first|rfl|simp[E1,E2],hb,by omega,?_,Hgr.out.trans g0⟩,by simp[RowKit.intOf];omega⟩
   rw[← Hg.out,← Hr.out,Sw]
def readN (w:World):Value→Nat
 | .slice (some ⟨b,o,_⟩) n _=>nval ((List.range n).map fun i=>match w.cell? ⟨b,o+i,none⟩ with
  | some (.int _ z)=>z.toNat
  | _=>0)
 | _=>0
theorem Q3 {w:World}{v:Value}{l:List Nat}(h:NatL w v l):readN w v=nval l:=by
 obtain⟨h0,p,c,rfl,h1,h2,h3⟩:=h
 rcases h3 with h3|⟨b,o,rfl,hc⟩
 ·have:l=[]:=List.eq_nil_of_length_eq_zero (by omega)
  subst this
  rcases p with _|⟨b,o,s⟩<;>rfl
 ·have key:((List.range l.length).map fun i=>match w.cell? ⟨b,o+i,none⟩ with|some (.int _ z)=>z.toNat|_=>0)=l:=by
   apply List.ext_getElem
   ·simp
   ·intro i hi1 hi2
    simp only[List.getElem_map,List.getElem_range]
    rw[hc i hi2]
    simp[Mz hi2]
  exact congrArg nval key
theorem Tf (w:World)(va vb:Value)(la lb:List Nat)(x y:Nat)(ha:NatL w va la)(hb:NatL w vb lb)(hx:nval la=x)(hy:nval lb=y)(hla:la.length≤1000000)(hlb:lb.length≤1000000):
  Calls Tryz.prog 180 #[va,vb] w (Ret w fun r w'=>NatL w' r (digs (Nat.gcd x y))):=by
 have HA:=ξ ha
 have HB:=ξ hb
 have HX:=ξ hx
 have HY:=ξ hy
 have HLx:=ξ (show(digs x).length≤1000000 by rw[← hx];exact Nat.le_trans (Nc ha.dig) hla)
 have HLy:=ξ (show(digs y).length≤1000000 by rw[← hy];exact Nat.le_trans (Nc hb.dig) hlb)
 clear ha hb hx hy
 go_enter Tryz.func180,Tryz.ntmps180
 go_wp2_with fail
 refine(Qv w va la HA.out (by omega)).mono ?_
 rintro _ w1 ⟨v1,rfl,g1,h1⟩
 rw[HX.out] at h1
 have H1:=ξ h1
 have G1:=ξ g1
 clear h1 g1
 go_wp2_with fail
 refine(Qv w1 vb lb (HB.out.grow G1.out) (by omega)).mono ?_
 rintro _ w2 ⟨v2,rfl,g2,h2⟩
 rw[HY.out] at h2
 have H2:=ξ h2
 have H1:=ξ (H1.out.grow g2)
 have G2:=ξ (G1.out.trans g2)
 clear h2 g2
 go_wp2_with fail
 go_loopw [0,1] (fun u v w3=>∃ a b:Nat,NatL w3 u (digs a)∧NatL w3 v (digs b)∧(digs a).length≤1000000∧(digs b).length≤1000000∧Nat.gcd a b=Nat.gcd x y∧Gr w2 w3) (fun _ v w3=>readN w3 v)
 case atStart=>exact⟨x,y,H1.out,H2.out,HLx.out,HLy.out,rfl,Gr.refl _⟩
 case round=>
  obtain⟨a,b,ha,hb,hal,hbl,hg,hgr⟩:=hrel
  have hrd:=ξ (Q3 hb)
  have HA:=ξ ha
  have HB:=ξ hb
  have Hg:=ξ hg
  have Hgr:=ξ hgr
  obtain⟨pa,ka,ca,rfl,hka⟩:=ha.slice
  obtain⟨pb,kb,cb,rfl,hkb⟩:=hb.slice
  have Hka:=ξ hka
  have Hkb:=ξ hkb
  have ka1:ka≤1000000:=by rw[hka];exact hal
  have kb1:kb≤1000000:=by rw[hkb];exact hbl
  have HAl:=ξ hal
  have HBl:=ξ hbl
  clear ha hb hg hgr hka hkb hal hbl
  by_cases h0:b=0
  ·obtain rfl:kb=0:=by rw[Hkb.out,h0];simp[J7.2]
   subst h0
   go_wp2_with fail
   go_ret
   refine⟨_,rfl,G2.out.trans Hgr.out,?_⟩
   rw[← Hg.out,Nat.gcd_zero_right]
   exact HA.out
  ·have hk0:0 < kb:=by rw[Hkb.out];exact List.length_pos_iff.2 (fun e=>h0 (J7.1 e))
   by_cases hs:ka≤2∧kb≤2
   ·obtain⟨s1,s2⟩:=hs
    have hxs:=N3.1 (show(digs a).length≤2 by rw[← Hka.out];exact s1)
    have hys:=N3.1 (show(digs b).length≤2 by rw[← Hkb.out];exact s2)
    have Hsm:=ξ (J49 _ _ _ a b HA.out HB.out hxs hys)
    clear hxs hys
    go_wp2_with fail
    refine Hsm.out.mono ?_
    rintro _ w4 ⟨r4,rfl,g4,h4⟩
    have H4:=ξ h4
    have G4:=ξ g4
    clear h4 g4
    go_wp2_with fail
    go_ret
    refine⟨_,rfl,G2.out.trans (Hgr.out.trans G4.out),?_⟩
    rw[← Hg.out]
    exact H4.out
   ·have Hdm:=ξ (Y7 _ _ _ (digs a) (digs b) HA.out HB.out (Nat.le_trans HAl.out (by decide)) (Nat.le_trans HBl.out (by decide)) (by rw[Je];exact h0))
    have hmod:=Nat.mod_lt a (show 0 < b by omega)
    have Hmod:=ξ hmod
    clear hmod
    have hs':ka≤2→¬ kb≤2:=fun e1 e2=>hs ⟨e1,e2⟩
    clear hs
    have fin:∀ (w4:World) (q r:Value),NatL w4 r (digs (a % b))→Gr wr w4→(∃ a' b':Nat,NatL w4 (.slice pb kb cb) (digs a')∧NatL w4 r (digs b')∧(digs a').length≤1000000∧(digs b').length≤1000000∧Nat.gcd a' b'=Nat.gcd x y∧Gr w2 w4)∧readN w4 r < readN wr (.slice pb kb cb):=fun w4 q r hr hg4=>by
     refine⟨⟨b,a % b,HB.out.grow hg4,hr,HBl.out,Nat.le_trans (Om (Nat.le_of_lt Hmod.out)) HBl.out,by rw[Sw];exact Hg.out,Hgr.out.trans hg4⟩,?_⟩
     rw[Q3 hr,hrd.out,Je,Je]
     exact Hmod.out
    have Hfin:=ξ fin
    clear fin
    by_cases s1:ka≤2
    ·have s2:=hs' s1
     clear hs'
     go_wp2_with fail
     refine Hdm.out.mono ?_
     rintro _ w4 ⟨_,rfl,g4,q,r,rfl,hq,hr⟩
     rw[Je,Je] at hr
     have F:=ξ (Hfin.out w4 q r hr g4)
     clear hq hr g4
     go_wp2_with fail
     exact F.out
    ·clear hs'
     go_wp2_with fail
     refine Hdm.out.mono ?_
     rintro _ w4 ⟨_,rfl,g4,q,r,rfl,hq,hr⟩
     rw[Je,Je] at hr
     have F:=ξ (Hfin.out w4 q r hr g4)
     clear hq hr g4
     go_wp2_with fail
     exact F.out
end Go.Proofs.YtcjgimlcefhhmaaGreatDoor
