/- Texts: NumD NatA NatB NumJ. -/
import Derived.Laws.IdiomStrings
import Derived.Laws.Strings2
import Derived.Test.YtcjgimlcefhhmaaGreatDoorU12
import Derived.Test.YtcjgimlcefhhmaaGreatDoorU13
set_option linter.unusedVariables false
set_option linter.unusedSimpArgs false
set_option maxRecDepth 100000
set_option maxHeartbeats 12800000
namespace Go.Proofs.YtcjgimlcefhhmaaGreatDoor
open Go.RowKit Go.Sort Go.Lib
def isDig (c:UInt8):Bool:=decide (48≤c.toNat∧c.toNat≤57)
def decVal (bs:List UInt8):Nat:=bs.foldl (fun a c=>10 * a+(c.toNat - 48)) 0
def okText (bs:List UInt8):Bool:=decide (bs≠[]) && decide (bs.length≤4000) && (decide (bs.head?≠some 48) || decide (bs=[48])) && bs.all isDig
theorem Vz (bs:List UInt8)(c:UInt8):decVal (bs ++ [c])=10 * decVal bs+(c.toNat - 48):=by
 simp[decVal,List.foldl_append]
theorem R9:∀ (cs:List UInt8) (a:Nat),cs.foldl (fun a c=>10 * a+(c.toNat - 48)) a=a * 10 ^ cs.length+decVal cs
 | [],a=>by simp[decVal]
 | c :: cs,a=>by
  have h1:=R9 cs (10 * a+(c.toNat - 48))
  have h2:=R9 cs (10 * 0+(c.toNat - 48))
  simp only[List.foldl_cons,decVal,List.length_cons] at h1 h2 ⊢
  rw[h1,h2,Nat.pow_succ,Nat.add_mul,Nat.mul_zero,Nat.zero_add]
  rw[Nat.mul_comm 10 a,Nat.mul_assoc,Nat.mul_comm 10]
  omega
theorem R8 (bs cs:List UInt8):decVal (bs ++ cs)=decVal bs * 10 ^ cs.length+decVal cs:=by
 rw[decVal,List.foldl_append,R9];rfl
theorem Pi:∀ (bs:List UInt8),bs.all isDig=true→decVal bs < 10 ^ bs.length:=fun bs=>by
 induction bs with
 | nil=>intro _;decide
 | cons c cs ih=>
  intro h
  simp only[List.all_cons,Bool.and_eq_true,isDig,decide_eq_true_eq] at h
  have h1:=ih h.2
  have h2:=R8 [c] cs
  rw[show [c] ++ cs=c :: cs from rfl] at h2
  rw[h2,List.length_cons,Nat.pow_succ]
  have h3:decVal [c]≤9:=by simp[decVal];omega
  have h4:=Nat.mul_le_mul_right (10 ^ cs.length) h3
  omega
def Km (bs:List UInt8)(r:Value)(w':World):Prop:=if okText bs then ∃ x,r = .tuple #[x,.int .i64 0]∧NatL w' x (digs (decVal bs)) else r = .tuple #[.slice none 0 0,.int .i64 3]
theorem Km.bad {bs:List UInt8}{w:World}(h:okText bs=false):Km bs (.tuple #[.slice none 0 0,.int .i64 3]) w:=by
 unfold Km;rw[h];rfl
theorem Vk (w:World)(l:List UInt8)(n:Nat)(h:n≤l.length):∃ cap W,(convert 9 118 (.string ((⟨l.toArray⟩:ByteArray).extract 0 n))).run Tryz.prog w = .ok (.slice (some ⟨w.heap.size,0,none⟩) n cap) W∧Gr w W∧
  (∀ i c,(l.take n)[i]?=some c→W.cell? ⟨w.heap.size,i,none⟩=some (.int .u8 (c.toNat:Int))):=by
 have e:(⟨l.toArray⟩:ByteArray).extract 0 n=⟨(l.take n).toArray⟩:=by rw[ByteArray.extract_mk];simp
 have hs:(⟨(l.take n).toArray⟩:ByteArray).size=n:=by simp[ByteArray.size];omega
 have hr:=run_bytes_of_string (P:=Tryz.prog) w 9 118 5 ⟨(l.take n).toArray⟩ Tryz.underlying9 Tryz.underlying118 Tryz.underlying5
 rw[hs] at hr
 rw[e]
 refine⟨_,_,hr,((Gr.refl w).drew).alloc _,fun i c hc=>?_⟩
 have hi:i < (l.take n).length:=(List.getElem?_eq_some_iff.1 hc).1
 have h1:=bytesRow_at ⟨(l.take n).toArray⟩ (grownCap w n 0 5) i (by simpa using hi)
 have h2:(l.take n)[i]=c:=(List.getElem?_eq_some_iff.1 hc).2
 unfold World.cell?
 rw[show w.heap.size=w.drew.heap.size from rfl]
 simp only[heap_alloc_new w.drew _]
 simp only[List.getElem_toArray,h2] at h1
 simpa using h1
theorem Km.good {bs:List UInt8}{w:World}{x:Value}(h:okText bs=true)(hx:NatL w x (digs (decVal bs))):Km bs (.tuple #[x,.int .i64 0]) w:=by
 unfold Km;rw[if_pos h];exact⟨_,rfl,hx⟩
theorem Pj {bs:List UInt8}(h:bs.all isDig=true){D:Nat}(hd:bs.length≤D):(digs (decVal bs)).length≤D:=by
 refine Kf (Nat.lt_of_lt_of_le (Pi bs h) ?_)
 exact Nat.le_trans (Nat.pow_le_pow_right (by decide) hd) (Nat.pow_le_pow_left (by rw[Jc];decide) _)
def strLen:Value→Nat
 | .string b=>b.size
 | _=>0
theorem J43 (w:World)(xs bs:List UInt8)(hx:xs=bs)(hbs:bs.length≤140737488355328):
  Calls Tryz.prog 173 #[.string ⟨xs.toArray⟩] w (Ret w fun r w'=>Km bs r w'):=by
 have Hx:=ξ hx
 rw[← hx] at hbs
 clear hx
 cases xs with
 | nil=>
  go_enter Tryz.func173,Tryz.ntmps173
  go_wp2_with fail
  go_ret2
  exact⟨_,rfl,Gr.refl _,by rw[← Hx.out];exact Km.bad rfl⟩
 | cons c cs=>
  have e0:(⟨(c :: cs).toArray⟩:ByteArray)[0]'(by simp[ByteArray.size])=c:=rfl
  by_cases h4:cs.length+1≤4000
  ·by_cases hz:c=48∧cs≠[]
   ·obtain⟨rfl,hcs⟩:=hz
    have hcs2:cs.isEmpty=false:=by cases cs<;>simp_all
    go_enter Tryz.func173,Tryz.ntmps173
    go_wp2_with fail
    go_ret2
    exact⟨_,rfl,Gr.refl _,by rw[← Hx.out];exact Km.bad (by simp[okText,hcs])⟩
   ·have hok:∀ h:bs.all isDig=true,okText bs=true:=fun h=>by
     rw[← Hx.out] at h ⊢
     unfold okText
     rw[h]
     simp[h4]
     by_cases hc:c=48
     ·right;exact⟨hc,Classical.byContradiction fun e=>hz ⟨hc,e⟩⟩
     ·left;exact hc
    have hbad:∀ h:bs.all isDig=false,okText bs=false:=fun h=>by unfold okText;rw[h];simp
    have Hok:=ξ hok
    have Hbad:=ξ hbad
    have Hl:=ξ (show bs.length≤4000 by rw[← Hx.out];exact h4)
    have hz2:c=48→cs=[]:=fun e=>Classical.byContradiction fun e2=>hz ⟨e,e2⟩
    clear hok hbad hz
    by_cases hc:c=48
    ·obtain rfl:=hc
     obtain rfl:=hz2 rfl
     clear hz2
     go_enter Tryz.func173,Tryz.ntmps173
     go_wp2_with fail
     clear e0 h4 hbs
     go_loopw [0,4] (fun vs vo w1=>∃ (done rest:List UInt8),vs = .string ⟨rest.toArray⟩∧bs=done ++ rest∧done.all isDig=true∧NatL w1 vo (digs (decVal done))∧Gr w w1∧(done=[]∨rest.length % 9=0)) (fun vs _ _=>strLen vs)
     case atStart=>exact⟨[],bs,by rw[← Hx.out],rfl,rfl,by rw[show decVal []=0 from rfl,J7.2 rfl];exact NatL.nil _,Gr.refl _,.inl rfl⟩
     case round=>
      obtain⟨done,rest,rfl,hsplit,hd,hvo,hg,h9⟩:=hrel
      have Hs:=ξ hsplit
      have Hd:=ξ hd
      have Hv:=ξ hvo
      have Hg:=ξ hg
      have H9:=ξ h9
      have hL0:rest.length≤4000:=by have:=Hl.out;rw[hsplit,List.length_append] at this;omega
      clear hsplit hd hvo hg h9
      by_cases hr:rest=[]
      ·subst hr
       go_wp2_with fail
       go_ret2
       have hbd:bs=done:=by have:=Hs.out;simpa using this
       refine⟨_,rfl,Hg.out,?_⟩
       exact Km.good (Hok.out (by rw[hbd];exact Hd.out)) (by rw[hbd];exact Hv.out)
      ·have hpos:0 < rest.length:=List.length_pos_iff.2 hr
       obtain⟨L,hL⟩:∃ L,rest.length=L:=⟨_,rfl⟩
       rw[hL] at hL0 hpos
       obtain⟨n,hn⟩:∃ n,(L - 1) % 9+1=n:=⟨_,rfl⟩
       have hn9:n≤9:=by omega
       have hnL:n≤L:=by have:=Nat.mod_le (L - 1) 9;omega
       have E1:((L:Int) - 1) % 9+1=(n:Int):=by omega
       have Hn:=ξ hn
       have hsz:(⟨rest.toArray⟩:ByteArray).size=L:=hL
       have HL:=ξ hL
       obtain⟨cap,W,hcv,gW,hcell⟩:=Vk wr rest n (by rw[hL];exact hnL)
       have HC:=ξ hcell
       have GW:=ξ gW
       clear hn hL hr hcell gW
       go_wp2_with fail
       go_loopw [6,38] (fun x i w1=>∃ k:Nat,k≤n∧i = .int .i64 k∧x = .int .u64 (decVal (rest.take k):Nat)∧(rest.take k).all isDig=true∧Gr W w1) (fun _ i _=>n - (RowKit.intOf i).toNat)
       case atStart=>exact⟨0,Nat.zero_le _,rfl,rfl,rfl,Gr.refl _⟩
       case round=>
        obtain⟨k,hk,rfl,rfl,hdk,hgk⟩:=hrel
        have Hdk:=ξ hdk
        have Hgk:=ξ hgk
        clear hdk hgk
        by_cases hlt:k < n
        ·obtain⟨c,hc⟩:∃ c,rest[k]?=some c:=⟨_,List.getElem?_eq_getElem (by rw[HL.out];omega)⟩
         have cell:=Hgk.out.cell (HC.out k c (by rw[List.getElem?_take,if_pos hlt];exact hc))
         have htk:rest.take (k+1)=rest.take k ++ [c]:=by rw[List.take_add_one,hc];rfl
         have hX:=Pi _ Hdk.out
         have hX9:decVal (rest.take k) < 1000000000:=by
          refine Nat.lt_of_lt_of_le hX (Nat.le_trans (Nat.pow_le_pow_right (by decide) (?_:(rest.take k).length≤9)) (by decide))
          rw[List.length_take];omega
         have hsn:=Vz (rest.take k) c
         rw[← htk] at hsn
         have Hc:=ξ hc
         have Htk:=ξ htk
         obtain⟨X,hXe⟩:∃ X,decVal (rest.take k)=X:=⟨_,rfl⟩
         rw[hXe] at hX9 hsn
         simp only[hXe]
         have Hsn:=ξ hsn
         have hu0:=c.toNat_lt
         obtain⟨u,hu⟩:∃ u,c.toNat=u:=⟨_,rfl⟩
         rw[hu] at cell hu0
         have Hu:=ξ hu
         clear hc htk hX hXe hsn hu
         by_cases hd:48≤u∧u≤57
         ·obtain⟨hd1,hd2⟩:=hd
          go_wp2_with fail
          refine⟨⟨k+1,by omega,by go_num,?_,?_,Hgk.out⟩,by simp[RowKit.intOf];omega⟩
          ·rw[Hsn.out,Hu.out]
           congr 1
           omega
          ·rw[Htk.out,List.all_append,Hdk.out]
           simp[isDig,Hu.out,hd1,hd2]
         ·have hb:bs.all isDig=false:=by
           rw[Hs.out,List.all_append]
           have hm:c ∈ rest:=List.mem_of_getElem? Hc.out
           have h2:rest.all isDig=false:=List.all_eq_false.2 ⟨c,hm,by simp only[isDig,Hu.out];simpa using hd⟩
           rw[h2,Bool.and_false]
          have Hb:=ξ (Hbad.out hb)
          clear hb
          go_wp2_with fail
          all_goals
           go_ret2
           exact⟨_,rfl,Hg.out.trans (GW.out.trans Hgk.out),Km.bad Hb.out⟩
        ·obtain rfl:k=n:=by omega
         clear hlt hk hcv
         have hX:=Pi _ Hdk.out
         have hX9:decVal (rest.take k) < 18446744073709551616:=by
          refine Nat.lt_of_lt_of_le hX (Nat.le_trans (Nat.pow_le_pow_right (by decide) (?_:(rest.take k).length≤9)) (by decide))
          rw[List.length_take];omega
         have GG:=ξ (GW.out.trans Hgk.out)
         have hdl:done.length≤4000:=by have:=Hl.out;rw[Hs.out,List.length_append] at this;omega
         have hdv:(digs (decVal done)).length≤4000:=Pj Hd.out hdl
         have Hdv:=ξ hdv
         obtain⟨X,hXe⟩:∃ X,decVal (rest.take k)=X:=⟨_,rfl⟩
         rw[hXe] at hX9
         simp only[hXe]
         have HX:=ξ hXe
         clear hX hXe hdv hdl
         go_wp2_with fail
         refine(Tg _ _ _ (digs (decVal done)) [1000000000] (Hv.out.grow (GG.out.trans ((Gr.refl _).alloc _))) (NatL.one _ _ 1000000000 rfl (by rw[Jc];decide) _) (Nat.le_trans Hdv.out (by decide)) (by decide)).mono ?_
         rintro _ w2 ⟨r2,rfl,g2,h2⟩
         rw[Je,show nval [1000000000]=1000000000 by simp[nval]] at h2
         have H2:=ξ h2
         have G2:=ξ (GG.out.trans (((Gr.refl wr).alloc _).trans g2))
         clear h2 g2
         go_wp2_with fail
         refine(L3 w2 X hX9).mono ?_
         rintro _ w3 ⟨r3,rfl,g3,h3⟩
         have H3:=ξ h3
         have G3:=ξ (G2.out.trans g3)
         have H2:=ξ (H2.out.grow g3)
         clear h3 g3
         go_wp2_with fail
         refine(Pq w3 r2 r3 _ _ H2.out H3.out (Nat.le_trans (Se Hdv.out (Kf (k:=1) (by rw[Jc];decide))) (by decide)) (Nat.le_trans (Kf (k:=2) (Nat.lt_of_lt_of_le hX9 (by rw[Jc];decide))) (by decide))).mono ?_
         rintro _ w4 ⟨r4,rfl,g4,h4⟩
         rw[Je,Je] at h4
         have H4:=ξ h4
         have G4:=ξ (G3.out.trans g4)
         clear h4 g4
         go_wp2_with fail
         have hex:(⟨rest.toArray⟩:ByteArray).extract k L=⟨(rest.drop k).toArray⟩:=by
          rw[ByteArray.extract_mk,List.take_of_length_le (by rw[List.length_drop,HL.out];exact Nat.le_refl _)]
         rw[hex]
         have hnn:=Hn.out
         refine⟨⟨done ++ rest.take k,rest.drop k,rfl,?_,?_,?_,Hg.out.trans G4.out,.inr ?_⟩,?_⟩
         ·rw[Hs.out,List.append_assoc,List.take_append_drop]
         ·rw[List.all_append,Hd.out,Hdk.out];rfl
         ·rw[R8,HX.out,List.length_take,HL.out,Nat.min_eq_left hnL]
          have e:decVal done * 10 ^ k=decVal done * 1000000000:=by
           rcases H9.out with h|h
           ·rw[h,show decVal []=0 from rfl,Nat.zero_mul,Nat.zero_mul]
           ·rw[HL.out] at h
            rw[show k=9 by omega]
          rw[e]
          exact H4.out
         ·rw[List.length_drop,HL.out];omega
         ·show(rest.drop k).length < rest.length
          rw[List.length_drop,HL.out];omega
    ·have hc2:¬ c.toNat=48:=fun e=>hc (UInt8.toNat_inj.1 (by rw[e];rfl))
     clear hz2
     go_enter Tryz.func173,Tryz.ntmps173
     go_wp2_with fail
     clear e0 h4 hbs hc hc2
     go_loopw [0,4] (fun vs vo w1=>∃ (done rest:List UInt8),vs = .string ⟨rest.toArray⟩∧bs=done ++ rest∧done.all isDig=true∧NatL w1 vo (digs (decVal done))∧Gr w w1∧(done=[]∨rest.length % 9=0)) (fun vs _ _=>strLen vs)
     case atStart=>exact⟨[],bs,by rw[← Hx.out],rfl,rfl,by rw[show decVal []=0 from rfl,J7.2 rfl];exact NatL.nil _,Gr.refl _,.inl rfl⟩
     case round=>
      obtain⟨done,rest,rfl,hsplit,hd,hvo,hg,h9⟩:=hrel
      have Hs:=ξ hsplit
      have Hd:=ξ hd
      have Hv:=ξ hvo
      have Hg:=ξ hg
      have H9:=ξ h9
      have hL0:rest.length≤4000:=by have:=Hl.out;rw[hsplit,List.length_append] at this;omega
      clear hsplit hd hvo hg h9
      by_cases hr:rest=[]
      ·subst hr
       go_wp2_with fail
       go_ret2
       have hbd:bs=done:=by have:=Hs.out;simpa using this
       refine⟨_,rfl,Hg.out,?_⟩
       exact Km.good (Hok.out (by rw[hbd];exact Hd.out)) (by rw[hbd];exact Hv.out)
      ·have hpos:0 < rest.length:=List.length_pos_iff.2 hr
       obtain⟨L,hL⟩:∃ L,rest.length=L:=⟨_,rfl⟩
       rw[hL] at hL0 hpos
       obtain⟨n,hn⟩:∃ n,(L - 1) % 9+1=n:=⟨_,rfl⟩
       have hn9:n≤9:=by omega
       have hnL:n≤L:=by have:=Nat.mod_le (L - 1) 9;omega
       have E1:((L:Int) - 1) % 9+1=(n:Int):=by omega
       have Hn:=ξ hn
       have hsz:(⟨rest.toArray⟩:ByteArray).size=L:=hL
       have HL:=ξ hL
       obtain⟨cap,W,hcv,gW,hcell⟩:=Vk wr rest n (by rw[hL];exact hnL)
       have HC:=ξ hcell
       have GW:=ξ gW
       clear hn hL hr hcell gW
       go_wp2_with fail
       go_loopw [6,38] (fun x i w1=>∃ k:Nat,k≤n∧i = .int .i64 k∧x = .int .u64 (decVal (rest.take k):Nat)∧(rest.take k).all isDig=true∧Gr W w1) (fun _ i _=>n - (RowKit.intOf i).toNat)
       case atStart=>exact⟨0,Nat.zero_le _,rfl,rfl,rfl,Gr.refl _⟩
       case round=>
        obtain⟨k,hk,rfl,rfl,hdk,hgk⟩:=hrel
        have Hdk:=ξ hdk
        have Hgk:=ξ hgk
        clear hdk hgk
        by_cases hlt:k < n
        ·obtain⟨c,hc⟩:∃ c,rest[k]?=some c:=⟨_,List.getElem?_eq_getElem (by rw[HL.out];omega)⟩
         have cell:=Hgk.out.cell (HC.out k c (by rw[List.getElem?_take,if_pos hlt];exact hc))
         have htk:rest.take (k+1)=rest.take k ++ [c]:=by rw[List.take_add_one,hc];rfl
         have hX:=Pi _ Hdk.out
         have hX9:decVal (rest.take k) < 1000000000:=by
          refine Nat.lt_of_lt_of_le hX (Nat.le_trans (Nat.pow_le_pow_right (by decide) (?_:(rest.take k).length≤9)) (by decide))
          rw[List.length_take];omega
         have hsn:=Vz (rest.take k) c
         rw[← htk] at hsn
         have Hc:=ξ hc
         have Htk:=ξ htk
         obtain⟨X,hXe⟩:∃ X,decVal (rest.take k)=X:=⟨_,rfl⟩
         rw[hXe] at hX9 hsn
         simp only[hXe]
         have Hsn:=ξ hsn
         have hu0:=c.toNat_lt
         obtain⟨u,hu⟩:∃ u,c.toNat=u:=⟨_,rfl⟩
         rw[hu] at cell hu0
         have Hu:=ξ hu
         clear hc htk hX hXe hsn hu
         by_cases hd:48≤u∧u≤57
         ·obtain⟨hd1,hd2⟩:=hd
          go_wp2_with fail
          refine⟨⟨k+1,by omega,by go_num,?_,?_,Hgk.out⟩,by simp[RowKit.intOf];omega⟩
          ·rw[Hsn.out,Hu.out]
           congr 1
           omega
          ·rw[Htk.out,List.all_append,Hdk.out]
           simp[isDig,Hu.out,hd1,hd2]
         ·have hb:bs.all isDig=false:=by
           rw[Hs.out,List.all_append]
           have hm:c ∈ rest:=List.mem_of_getElem? Hc.out
           have h2:rest.all isDig=false:=List.all_eq_false.2 ⟨c,hm,by simp only[isDig,Hu.out];simpa using hd⟩
           rw[h2,Bool.and_false]
          have Hb:=ξ (Hbad.out hb)
          clear hb
          go_wp2_with fail
          all_goals
           go_ret2
           exact⟨_,rfl,Hg.out.trans (GW.out.trans Hgk.out),Km.bad Hb.out⟩
        ·obtain rfl:k=n:=by omega
         clear hlt hk hcv
         have hX:=Pi _ Hdk.out
         have hX9:decVal (rest.take k) < 18446744073709551616:=by
          refine Nat.lt_of_lt_of_le hX (Nat.le_trans (Nat.pow_le_pow_right (by decide) (?_:(rest.take k).length≤9)) (by decide))
          rw[List.length_take];omega
         have GG:=ξ (GW.out.trans Hgk.out)
         have hdl:done.length≤4000:=by have:=Hl.out;rw[Hs.out,List.length_append] at this;omega
         have hdv:(digs (decVal done)).length≤4000:=Pj Hd.out hdl
         have Hdv:=ξ hdv
         obtain⟨X,hXe⟩:∃ X,decVal (rest.take k)=X:=⟨_,rfl⟩
         rw[hXe] at hX9
         simp only[hXe]
         have HX:=ξ hXe
         clear hX hXe hdv hdl
         go_wp2_with fail
         refine(Tg _ _ _ (digs (decVal done)) [1000000000] (Hv.out.grow (GG.out.trans ((Gr.refl _).alloc _))) (NatL.one _ _ 1000000000 rfl (by rw[Jc];decide) _) (Nat.le_trans Hdv.out (by decide)) (by decide)).mono ?_
         rintro _ w2 ⟨r2,rfl,g2,h2⟩
         rw[Je,show nval [1000000000]=1000000000 by simp[nval]] at h2
         have H2:=ξ h2
         have G2:=ξ (GG.out.trans (((Gr.refl wr).alloc _).trans g2))
         clear h2 g2
         go_wp2_with fail
         refine(L3 w2 X hX9).mono ?_
         rintro _ w3 ⟨r3,rfl,g3,h3⟩
         have H3:=ξ h3
         have G3:=ξ (G2.out.trans g3)
         have H2:=ξ (H2.out.grow g3)
         clear h3 g3
         go_wp2_with fail
         refine(Pq w3 r2 r3 _ _ H2.out H3.out (Nat.le_trans (Se Hdv.out (Kf (k:=1) (by rw[Jc];decide))) (by decide)) (Nat.le_trans (Kf (k:=2) (Nat.lt_of_lt_of_le hX9 (by rw[Jc];decide))) (by decide))).mono ?_
         rintro _ w4 ⟨r4,rfl,g4,h4⟩
         rw[Je,Je] at h4
         have H4:=ξ h4
         have G4:=ξ (G3.out.trans g4)
         clear h4 g4
         go_wp2_with fail
         have hex:(⟨rest.toArray⟩:ByteArray).extract k L=⟨(rest.drop k).toArray⟩:=by
          rw[ByteArray.extract_mk,List.take_of_length_le (by rw[List.length_drop,HL.out];exact Nat.le_refl _)]
         rw[hex]
         have hnn:=Hn.out
         refine⟨⟨done ++ rest.take k,rest.drop k,rfl,?_,?_,?_,Hg.out.trans G4.out,.inr ?_⟩,?_⟩
         ·rw[Hs.out,List.append_assoc,List.take_append_drop]
         ·rw[List.all_append,Hd.out,Hdk.out];rfl
         ·rw[R8,HX.out,List.length_take,HL.out,Nat.min_eq_left hnL]
          have e:decVal done * 10 ^ k=decVal done * 1000000000:=by
           rcases H9.out with h|h
           ·rw[h,show decVal []=0 from rfl,Nat.zero_mul,Nat.zero_mul]
           ·rw[HL.out] at h
            rw[show k=9 by omega]
          rw[e]
          exact H4.out
         ·rw[List.length_drop,HL.out];omega
         ·show(rest.drop k).length < rest.length
          rw[List.length_drop,HL.out];omega
  ·go_enter Tryz.func173,Tryz.ntmps173
   go_wp2_with fail
   go_ret2
   exact⟨_,rfl,Gr.refl _,by rw[← Hx.out];exact Km.bad (by simp[okText];omega)⟩
theorem Y8 (w:World)(bs:List UInt8)(hbs:bs.length≤140737488355328):
  Calls Tryz.prog 173 #[.string ⟨bs.toArray⟩] w (Ret w fun r w'=>Km bs r w'):=J43 w bs bs rfl hbs
end Go.Proofs.YtcjgimlcefhhmaaGreatDoor
namespace Go.Proofs.YtcjgimlcefhhmaaGreatDoor
open Go.RowKit Go.Lib
def NatV (w:World)(v:Value)(x L:Nat):Prop:=∃ l,NatL w v l∧nval l=x∧l.length≤L
theorem NatV.grow {w w':World}{v:Value}{x L:Nat}(h:NatV w v x L)(g:Gr w w'):NatV w' v x L:=by
 obtain⟨l,h1,h2⟩:=h;exact⟨l,h1.grow g,h2⟩
theorem NatV.len {w:World}{v:Value}{x L:Nat}(h:NatV w v x L):(digs x).length≤L:=by
 obtain⟨l,h1,rfl,h3⟩:=h
 exact Nat.le_trans (Nc h1.dig) h3
def NatR (w:World)(v:Value)(x L:Nat):Prop:=NatL w v (digs x)∧NatV w v x L
theorem NatR.grow {w w':World}{v:Value}{x L:Nat}(h:NatR w v x L)(g:Gr w w'):NatR w' v x L:=⟨h.1.grow g,h.2.grow g⟩
theorem NatR.of {w:World}{v:Value}{x L:Nat}(h:NatL w v (digs x))(hL:(digs x).length≤L):NatR w v x L:=⟨h,_,h,Je x,hL⟩
theorem J4e {P:Program}{f:FuncId}{args:Array Value}{w:World}{z L:Nat}(hL:(digs z).length≤L)(h:Calls P f args w (Ret w fun r w'=>NatL w' r (digs z))):
  Calls P f args w (Ret w fun r w'=>NatR w' r z L):=
 h.mono fun e w' ⟨v,he,hg,hv⟩=>⟨v,he,hg,NatR.of hv hL⟩
theorem J06 (w:World)(va vb:Value)(x y z L M:Nat)(hx:NatV w va x L)(hy:NatV w vb y M)(hz:x * y=z)(hL:L≤1000000)(hM:M≤1000000):
  Calls Tryz.prog 163 #[va,vb] w (Ret w fun r w'=>NatR w' r z (L+M+1)):=by
 subst hz
 refine J4e (Nat.le_succ_of_le (Se hx.len hy.len)) ?_
 obtain⟨l,h1,rfl,h3⟩:=hx
 obtain⟨m,k1,rfl,k3⟩:=hy
 exact J0i w va vb l m h1 k1 (by omega) (by omega)
theorem Pp (w:World)(va vb:Value)(x y L M:Nat)(z:Int)(hx:NatV w va x L)(hy:NatV w vb y M)(hz:cmpZ x y=z)(hL:L≤1000000)(hM:M≤1000000):
  Calls Tryz.prog 174 #[va,vb] w (Ret w fun r w'=>r = .int .i64 z):=by
 subst hz
 obtain⟨l,h1,rfl,h3⟩:=hx
 obtain⟨m,k1,rfl,k3⟩:=hy
 exact(N8 w va vb l m h1 k1 (by omega) (by omega)).mono fun e w' ⟨he,hw⟩=>⟨_,he,hw ▸ Gr.refl _,rfl⟩
theorem NatL.slice {w:World}{v:Value}{l:List Nat}(h:NatL w v l):∃ p k c,v = .slice p k c∧k=l.length:=by
 obtain⟨p,c,rfl,-⟩:=h.parts;exact⟨p,_,c,rfl,rfl⟩
theorem J2o {a:Nat}(ha:a < BB)(h0:a≠0):digs a=[a]:=by
 have h:nval [a]=a:=by simp[nval]
 rw[show digs a=digs (nval [a]) by rw[h],← K7,(J0O _ (Dig.cons ha Dig.nil)).2 (.inr (by simpa[gd] using h0))]
end Go.Proofs.YtcjgimlcefhhmaaGreatDoor
