/- Texts: NumD NatA NumE NumF NumG NatB NumH NumL NumK NumJ. -/
import Derived.Test.YtcjgimlcefhhmaaGreatDoorC10
set_option linter.unusedVariables false
set_option linter.unusedSimpArgs false
set_option maxRecDepth 100000
set_option maxHeartbeats 12800000
namespace Go.Proofs.YtcjgimlcefhhmaaGreatDoor
open Go.RowKit Go.Sort Go.Lib
def isDig (c:UInt8):Bool:=decide (48≤c.toNat∧c.toNat≤57)
def decVal (bs:List UInt8):Nat:=bs.foldl (fun a c=>10 * a+(c.toNat - 48)) 0
def okText (bs:List UInt8):Bool:=decide (bs≠[]) && decide (bs.length≤4000) && (decide (bs.head?≠some 48) || decide (bs=[48])) && bs.all isDig
theorem Xk (a:List UInt8)(c:UInt8):decVal (a ++ [c])=10 * decVal a+(c.toNat - 48):=by
 simp[decVal,List.foldl_append]
theorem S0:∀ (b:List UInt8) (a:Nat),b.foldl (fun a c=>10 * a+(c.toNat - 48)) a=a * 10 ^ b.length+decVal b
 | [],a=>by simp[decVal]
 | c :: b,a=>by
  have d:=S0 b (10 * a+(c.toNat - 48));have f:=S0 b (10 * 0+(c.toNat - 48));simp only[List.foldl_cons,decVal,List.length_cons] at d f ⊢;rw[d,f,Nat.pow_succ,Nat.add_mul,Nat.mul_zero,Nat.zero_add];rw[Nat.mul_comm 10 a,Nat.mul_assoc,Nat.mul_comm 10];omega
theorem Sy (b a:List UInt8):decVal (b ++ a)=decVal b * 10 ^ a.length+decVal a:=by
 rw[decVal,List.foldl_append,S0];rfl
theorem P8:∀ (a:List UInt8),a.all isDig=true→decVal a < 10 ^ a.length:=fun a=>by
 induction a with
 | nil=>intro _;decide
 | cons c cs ih=>
  intro h;simp only[List.all_cons,Bool.and_eq_true,isDig,decide_eq_true_eq] at h;have f:=ih h.2;have b:=Sy [c] cs;rw[show [c] ++ cs=c :: cs from rfl] at b;rw[b,List.length_cons,Nat.pow_succ];have d:decVal [c]≤9:=by simp[decVal];omega
  have g:=Nat.mul_le_mul_right (10 ^ cs.length) d;omega
def Kw (bs:List UInt8)(r:Value)(w':World):Prop:=if okText bs then ∃ x,r = .tuple #[x,.int .i64 0]∧NatL w' x (digs (decVal bs)) else r = .tuple #[.slice none 0 0,.int .i64 3]
theorem Kw.bad {a:List UInt8}{w:World}(h:okText a=false):Kw a (.tuple #[.slice none 0 0,.int .i64 3]) w:=by
 unfold Kw;rw[h];rfl
theorem V6 (w:World)(l:List UInt8)(n:Nat)(h:n≤l.length):∃ f W,(convert 9 118 (.string ((⟨l.toArray⟩:ByteArray).extract 0 n))).run Tryz.prog w = .ok (.slice (some ⟨w.heap.size,0,none⟩) n f) W∧Gr w W∧
  (∀ i c,(l.take n)[i]?=some c→W.cell? ⟨w.heap.size,i,none⟩=some (.int .u8 (c.toNat:Int))):=by
 have e:(⟨l.toArray⟩:ByteArray).extract 0 n=⟨(l.take n).toArray⟩:=by rw[ByteArray.extract_mk];simp
 have k:(⟨(l.take n).toArray⟩:ByteArray).size=n:=by simp[ByteArray.size];omega
 have d:=run_bytes_of_string (P:=Tryz.prog) w 9 118 5 ⟨(l.take n).toArray⟩ Tryz.underlying9 Tryz.underlying118 Tryz.underlying5;rw[k] at d;rw[e];refine⟨_,_,d,((Gr.refl w).drew).alloc _,fun i c b=>?_⟩;have j:i < (l.take n).length:=(List.getElem?_eq_some_iff.1 b).1;have a:=bytesRow_at ⟨(l.take n).toArray⟩ (grownCap w n 0 5) i (by simpa using j);have g:(l.take n)[i]=c:=(List.getElem?_eq_some_iff.1 b).2;unfold World.cell?;rw[show w.heap.size=w.drew.heap.size from rfl];simp only[heap_alloc_new w.drew _];simp only[List.getElem_toArray,g] at a;simpa using a
theorem Kw.good {a:List UInt8}{w:World}{x:Value}(h:okText a=true)(b:NatL w x (digs (decVal a))):Kw a (.tuple #[x,.int .i64 0]) w:=by
 unfold Kw;rw[if_pos h];exact⟨_,rfl,b⟩
theorem P9 {a:List UInt8}(h:a.all isDig=true){D:Nat}(b:a.length≤D):(digs (decVal a)).length≤D:=by
 refine Kj (Nat.lt_of_lt_of_le (P8 a h) ?_);exact Nat.le_trans (Nat.pow_le_pow_right (by decide) b) (Nat.pow_le_pow_left (by rw[Jd];decide) _)
def strLen:Value→Nat
 | .string b=>b.size
 | _=>0
theorem J4i (w:World)(xs f:List UInt8)(hx:xs=f)(a9:f.length≤140737488355328):
  Calls Tryz.prog 173 #[.string ⟨xs.toArray⟩] w (Ret w fun r w'=>Kw f r w'):=by
 have D:=Z hx;rw[← hx] at a9;clear hx
 cases xs with
 | nil=>
  go_enter Tryz.func173,Tryz.ntmps173;go_wp2_with fail;go_ret2;exact⟨_,rfl,Gr.refl _,by rw[← D.o];exact Kw.bad rfl⟩
 | cons c cs=>
  have e0:(⟨(c :: cs).toArray⟩:ByteArray)[0]'(by simp[ByteArray.size])=c:=rfl;by_cases j:cs.length+1≤4000
  ·by_cases hz:c=48∧cs≠[]
   ·obtain⟨rfl,c3⟩:=hz;have c7:cs.isEmpty=false:=by cases cs<;>simp_all
    go_enter Tryz.func173,Tryz.ntmps173;go_wp2_with fail;go_ret2;exact⟨_,rfl,Gr.refl _,by rw[← D.o];exact Kw.bad (by simp[okText,c3])⟩
   ·have c0:∀ h:f.all isDig=true,okText f=true:=fun h=>by
     rw[← D.o] at h ⊢;unfold okText;rw[h];simp[j];by_cases d:c=48
     ·right;exact⟨d,Classical.byContradiction fun e=>hz ⟨d,e⟩⟩
     ·left;exact d
    have b9:∀ h:f.all isDig=false,okText f=false:=fun h=>by unfold okText;rw[h];simp
    obtain⟨b8,b7,Hl⟩:=Z3 c0 b9 (show f.length≤4000 by rw[← D.o];exact j);have b6:c=48→cs=[]:=fun e=>Classical.byContradiction fun e2=>hz ⟨e,e2⟩;clear c0 b9 hz;by_cases d:c=48
    ·obtain rfl:=d;obtain rfl:=b6 rfl;clear b6;go_enter Tryz.func173,Tryz.ntmps173;go_wp2_with fail;clear e0 j a9;go_loopw [0,4] (fun I vo z=>∃ (done a:List UInt8),I = .string ⟨a.toArray⟩∧f=done ++ a∧done.all isDig=true∧NatL z vo (digs (decVal done))∧Gr w z∧(done=[]∨a.length % 9=0)) (fun I _ _=>strLen I)
     case atStart=>exact⟨[],f,by rw[← D.o],rfl,rfl,by rw[show decVal []=0 from rfl,Ka.2 rfl];exact NatL.nil _,Gr.refl _,.inl rfl⟩
     case round=>
      obtain⟨done,a,rfl,F,q,a4,hg,R⟩:=hrel;obtain⟨v,Hd,N,B,H9⟩:=Z5 F q a4 hg R;have a8:a.length≤4000:=by have:=Hl.o;rw[F,List.length_append] at this;omega
      clear F q a4 hg R;by_cases E:a=[]
      ·subst E;go_wp2_with fail;go_ret2;have T:f=done:=by have:=v.o;simpa using this
       refine⟨_,rfl,B.o,?_⟩;exact Kw.good (b8.o (by rw[T];exact Hd.o)) (by rw[T];exact N.o)
      ·have b4:0 < a.length:=List.length_pos_iff.2 E;obtain⟨L,m⟩:∃ L,a.length=L:=⟨_,rfl⟩
       rw[m] at a8 b4;obtain⟨n,hn⟩:∃ n,(L - 1) % 9+1=n:=⟨_,rfl⟩
       have c4:n≤9:=by omega
       have a3:n≤L:=by have:=Nat.mod_le (L - 1) 9;omega
       have E1:((L:Int) - 1) % 9+1=(n:Int):=by omega
       have Hn:=Z hn;have c6:(⟨a.toArray⟩:ByteArray).size=L:=m;have g:=Z m;obtain⟨c1,W,b0,P,U⟩:=V6 wr a n (by rw[m];exact a3);obtain⟨HC,K⟩:=Z2 U P;clear hn m E U P;go_wp2_with fail;go_loopw [6,38] (fun x i z=>∃ k:Nat,k≤n∧i = .int .i64 k∧x = .int .u64 (decVal (a.take k):Nat)∧(a.take k).all isDig=true∧Gr W z) (fun _ i _=>n - (RowKit.intOf i).toNat)
       case atStart=>exact⟨0,Nat.zero_le _,rfl,rfl,rfl,Gr.refl _⟩
       case round=>
        obtain⟨k,hk,rfl,rfl,V,a1⟩:=hrel;obtain⟨s,t⟩:=Z2 V a1;clear V a1;by_cases a2:k < n
        ·obtain⟨c,d⟩:∃ c,a[k]?=some c:=⟨_,List.getElem?_eq_getElem (by rw[g.o];omega)⟩
         have a7:=t.o.cell (HC.o k c (by rw[List.getElem?_take,if_pos a2];exact d));have G:a.take (k+1)=a.take k ++ [c]:=by rw[List.take_add_one,d];rfl
         have o:=P8 _ s.o;have p:decVal (a.take k) < 1000000000:=by
          refine Nat.lt_of_lt_of_le o (Nat.le_trans (Nat.pow_le_pow_right (by decide) (?_:(a.take k).length≤9)) (by decide));rw[List.length_take];omega
         have y:=Xk (a.take k) c;rw[← G] at y;obtain⟨Hc,a6⟩:=Z2 d G;obtain⟨X,b⟩:∃ X,decVal (a.take k)=X:=⟨_,rfl⟩
         rw[b] at p y;simp only[b];have a5:=Z y;have b5:=c.toNat_lt;obtain⟨u,H⟩:∃ u,c.toNat=u:=⟨_,rfl⟩
         rw[H] at a7 b5;have C:=Z H;clear d G o b y H;by_cases q:48≤u∧u≤57
         ·obtain⟨b1,b2⟩:=q;go_wp2_with fail;refine⟨⟨k+1,by omega,by go_num,?_,?_,t.o⟩,by simp[RowKit.intOf];omega⟩
          ·rw[a5.o,C.o];congr 1;omega
          ·rw[a6.o,List.all_append,s.o];simp[isDig,C.o,b1,b2]
         ·have S:f.all isDig=false:=by
           rw[v.o,List.all_append];have hm:c ∈ a:=List.mem_of_getElem? Hc.o;have l:a.all isDig=false:=List.all_eq_false.2 ⟨c,hm,by simp only[isDig,C.o];simpa using q⟩;rw[l,Bool.and_false]
          have Hb:=Z (b7.o S);clear S;go_wp2_with fail;all_goals
           go_ret2;exact⟨_,rfl,B.o.trans (K.o.trans t.o),Kw.bad Hb.o⟩
        ·obtain rfl:k=n:=by omega
         clear a2 hk b0;have o:=P8 _ s.o;have p:decVal (a.take k) < 18446744073709551616:=by
          refine Nat.lt_of_lt_of_le o (Nat.le_trans (Nat.pow_le_pow_right (by decide) (?_:(a.take k).length≤9)) (by decide));rw[List.length_take];omega
         have J:=Z (K.o.trans t.o);have Y:done.length≤4000:=by have:=Hl.o;rw[v.o,List.length_append] at this;omega
         have a0:(digs (decVal done)).length≤4000:=P9 Hd.o Y;have M:=Z a0;obtain⟨X,b⟩:∃ X,decVal (a.take k)=X:=⟨_,rfl⟩
         rw[b] at p;simp only[b];have HX:=Z b;clear o b a0 Y;go_wp2_with fail;refine(Ug _ _ _ (digs (decVal done)) [1000000000] (N.o.grow (J.o.trans ((Gr.refl _).alloc _))) (NatL.one _ _ 1000000000 rfl (by rw[Jd];decide) _) (Nat.le_trans M.o (by decide)) (by decide)).mono ?_;rintro _ w2 ⟨r2,rfl,O,l⟩;rw[Jf,show nval [1000000000]=1000000000 by simp[nval]] at l;obtain⟨A,G2⟩:=Z2 l (J.o.trans (((Gr.refl wr).alloc _).trans O));clear l O;go_wp2_with fail;refine(Mn w2 X p).mono ?_;rintro _ w3 ⟨r3,rfl,g3,Q⟩;obtain⟨H3,G3,A⟩:=Z3 Q (G2.o.trans g3) (A.o.grow g3);clear Q g3;go_wp2_with fail;refine(Qg w3 r2 r3 _ _ A.o H3.o (Nat.le_trans (Tb M.o (Kj (k:=1) (by rw[Jd];decide))) (by decide)) (Nat.le_trans (Kj (k:=2) (Nat.lt_of_lt_of_le p (by rw[Jd];decide))) (by decide))).mono ?_;rintro _ w4 ⟨r4,rfl,g4,j⟩;rw[Jf,Jf] at j;obtain⟨H4,G4⟩:=Z2 j (G3.o.trans g4);clear j g4;go_wp2_with fail;have b3:(⟨a.toArray⟩:ByteArray).extract k L=⟨(a.drop k).toArray⟩:=by
          rw[ByteArray.extract_mk,List.take_of_length_le (by rw[List.length_drop,g.o];exact Nat.le_refl _)]
         rw[b3];have c5:=Hn.o;refine⟨⟨done ++ a.take k,a.drop k,rfl,?_,?_,?_,B.o.trans G4.o,.inr ?_⟩,?_⟩
         ·rw[v.o,List.append_assoc,List.take_append_drop]
         ·rw[List.all_append,Hd.o,s.o];rfl
         ·rw[Sy,HX.o,List.length_take,g.o,Nat.min_eq_left a3];have e:decVal done * 10 ^ k=decVal done * 1000000000:=by
           rcases H9.o with h|h
           ·rw[h,show decVal []=0 from rfl,Nat.zero_mul,Nat.zero_mul]
           ·rw[g.o] at h;rw[show k=9 by omega]
          rw[e];exact H4.o
         ·rw[List.length_drop,g.o];omega
         ·show(a.drop k).length < a.length;rw[List.length_drop,g.o];omega
    ·have c2:¬ c.toNat=48:=fun e=>d (UInt8.toNat_inj.1 (by rw[e];rfl));clear b6;go_enter Tryz.func173,Tryz.ntmps173;go_wp2_with fail;clear e0 j a9 d c2;go_loopw [0,4] (fun I vo z=>∃ (done a:List UInt8),I = .string ⟨a.toArray⟩∧f=done ++ a∧done.all isDig=true∧NatL z vo (digs (decVal done))∧Gr w z∧(done=[]∨a.length % 9=0)) (fun I _ _=>strLen I)
     case atStart=>exact⟨[],f,by rw[← D.o],rfl,rfl,by rw[show decVal []=0 from rfl,Ka.2 rfl];exact NatL.nil _,Gr.refl _,.inl rfl⟩
     case round=>
      obtain⟨done,a,rfl,F,q,a4,hg,R⟩:=hrel;obtain⟨v,Hd,N,B,H9⟩:=Z5 F q a4 hg R;have a8:a.length≤4000:=by have:=Hl.o;rw[F,List.length_append] at this;omega
      clear F q a4 hg R;by_cases E:a=[]
      ·subst E;go_wp2_with fail;go_ret2;have T:f=done:=by have:=v.o;simpa using this
       refine⟨_,rfl,B.o,?_⟩;exact Kw.good (b8.o (by rw[T];exact Hd.o)) (by rw[T];exact N.o)
      ·have b4:0 < a.length:=List.length_pos_iff.2 E;obtain⟨L,m⟩:∃ L,a.length=L:=⟨_,rfl⟩
       rw[m] at a8 b4;obtain⟨n,hn⟩:∃ n,(L - 1) % 9+1=n:=⟨_,rfl⟩
       have c4:n≤9:=by omega
       have a3:n≤L:=by have:=Nat.mod_le (L - 1) 9;omega
       have E1:((L:Int) - 1) % 9+1=(n:Int):=by omega
       have Hn:=Z hn;have c6:(⟨a.toArray⟩:ByteArray).size=L:=m;have g:=Z m;obtain⟨c1,W,b0,P,U⟩:=V6 wr a n (by rw[m];exact a3);obtain⟨HC,K⟩:=Z2 U P;clear hn m E U P;go_wp2_with fail;go_loopw [6,38] (fun x i z=>∃ k:Nat,k≤n∧i = .int .i64 k∧x = .int .u64 (decVal (a.take k):Nat)∧(a.take k).all isDig=true∧Gr W z) (fun _ i _=>n - (RowKit.intOf i).toNat)
       case atStart=>exact⟨0,Nat.zero_le _,rfl,rfl,rfl,Gr.refl _⟩
       case round=>
        obtain⟨k,hk,rfl,rfl,V,a1⟩:=hrel;obtain⟨s,t⟩:=Z2 V a1;clear V a1;by_cases a2:k < n
        ·obtain⟨c,d⟩:∃ c,a[k]?=some c:=⟨_,List.getElem?_eq_getElem (by rw[g.o];omega)⟩
         have a7:=t.o.cell (HC.o k c (by rw[List.getElem?_take,if_pos a2];exact d));have G:a.take (k+1)=a.take k ++ [c]:=by rw[List.take_add_one,d];rfl
         have o:=P8 _ s.o;have p:decVal (a.take k) < 1000000000:=by
          refine Nat.lt_of_lt_of_le o (Nat.le_trans (Nat.pow_le_pow_right (by decide) (?_:(a.take k).length≤9)) (by decide));rw[List.length_take];omega
         have y:=Xk (a.take k) c;rw[← G] at y;obtain⟨Hc,a6⟩:=Z2 d G;obtain⟨X,b⟩:∃ X,decVal (a.take k)=X:=⟨_,rfl⟩
         rw[b] at p y;simp only[b];have a5:=Z y;have b5:=c.toNat_lt;obtain⟨u,H⟩:∃ u,c.toNat=u:=⟨_,rfl⟩
         rw[H] at a7 b5;have C:=Z H;clear d G o b y H;by_cases q:48≤u∧u≤57
         ·obtain⟨b1,b2⟩:=q;go_wp2_with fail;refine⟨⟨k+1,by omega,by go_num,?_,?_,t.o⟩,by simp[RowKit.intOf];omega⟩
          ·rw[a5.o,C.o];congr 1;omega
          ·rw[a6.o,List.all_append,s.o];simp[isDig,C.o,b1,b2]
         ·have S:f.all isDig=false:=by
           rw[v.o,List.all_append];have hm:c ∈ a:=List.mem_of_getElem? Hc.o;have l:a.all isDig=false:=List.all_eq_false.2 ⟨c,hm,by simp only[isDig,C.o];simpa using q⟩;rw[l,Bool.and_false]
          have Hb:=Z (b7.o S);clear S;go_wp2_with fail;all_goals
           go_ret2;exact⟨_,rfl,B.o.trans (K.o.trans t.o),Kw.bad Hb.o⟩
        ·obtain rfl:k=n:=by omega
         clear a2 hk b0;have o:=P8 _ s.o;have p:decVal (a.take k) < 18446744073709551616:=by
          refine Nat.lt_of_lt_of_le o (Nat.le_trans (Nat.pow_le_pow_right (by decide) (?_:(a.take k).length≤9)) (by decide));rw[List.length_take];omega
         have J:=Z (K.o.trans t.o);have Y:done.length≤4000:=by have:=Hl.o;rw[v.o,List.length_append] at this;omega
         have a0:(digs (decVal done)).length≤4000:=P9 Hd.o Y;have M:=Z a0;obtain⟨X,b⟩:∃ X,decVal (a.take k)=X:=⟨_,rfl⟩
         rw[b] at p;simp only[b];have HX:=Z b;clear o b a0 Y;go_wp2_with fail;refine(Ug _ _ _ (digs (decVal done)) [1000000000] (N.o.grow (J.o.trans ((Gr.refl _).alloc _))) (NatL.one _ _ 1000000000 rfl (by rw[Jd];decide) _) (Nat.le_trans M.o (by decide)) (by decide)).mono ?_;rintro _ w2 ⟨r2,rfl,O,l⟩;rw[Jf,show nval [1000000000]=1000000000 by simp[nval]] at l;obtain⟨A,G2⟩:=Z2 l (J.o.trans (((Gr.refl wr).alloc _).trans O));clear l O;go_wp2_with fail;refine(Mn w2 X p).mono ?_;rintro _ w3 ⟨r3,rfl,g3,Q⟩;obtain⟨H3,G3,A⟩:=Z3 Q (G2.o.trans g3) (A.o.grow g3);clear Q g3;go_wp2_with fail;refine(Qg w3 r2 r3 _ _ A.o H3.o (Nat.le_trans (Tb M.o (Kj (k:=1) (by rw[Jd];decide))) (by decide)) (Nat.le_trans (Kj (k:=2) (Nat.lt_of_lt_of_le p (by rw[Jd];decide))) (by decide))).mono ?_;rintro _ w4 ⟨r4,rfl,g4,j⟩;rw[Jf,Jf] at j;obtain⟨H4,G4⟩:=Z2 j (G3.o.trans g4);clear j g4;go_wp2_with fail;have b3:(⟨a.toArray⟩:ByteArray).extract k L=⟨(a.drop k).toArray⟩:=by
          rw[ByteArray.extract_mk,List.take_of_length_le (by rw[List.length_drop,g.o];exact Nat.le_refl _)]
         rw[b3];have c5:=Hn.o;refine⟨⟨done ++ a.take k,a.drop k,rfl,?_,?_,?_,B.o.trans G4.o,.inr ?_⟩,?_⟩
         ·rw[v.o,List.append_assoc,List.take_append_drop]
         ·rw[List.all_append,Hd.o,s.o];rfl
         ·rw[Sy,HX.o,List.length_take,g.o,Nat.min_eq_left a3];have e:decVal done * 10 ^ k=decVal done * 1000000000:=by
           rcases H9.o with h|h
           ·rw[h,show decVal []=0 from rfl,Nat.zero_mul,Nat.zero_mul]
           ·rw[g.o] at h;rw[show k=9 by omega]
          rw[e];exact H4.o
         ·rw[List.length_drop,g.o];omega
         ·show(a.drop k).length < a.length;rw[List.length_drop,g.o];omega
  ·go_enter Tryz.func173,Tryz.ntmps173;go_wp2_with fail;go_ret2;exact⟨_,rfl,Gr.refl _,by rw[← D.o];exact Kw.bad (by simp[okText];omega)⟩
theorem Zt (w:World)(a:List UInt8)(b:a.length≤140737488355328):
  Calls Tryz.prog 173 #[.string ⟨a.toArray⟩] w (Ret w fun r w'=>Kw a r w'):=J4i w a a rfl b
end Go.Proofs.YtcjgimlcefhhmaaGreatDoor
namespace Go.Proofs.YtcjgimlcefhhmaaGreatDoor
open Go.RowKit Go.Lib
def NatV (w:World)(v:Value)(x L:Nat):Prop:=∃ l,NatL w v l∧nval l=x∧l.length≤L
theorem NatV.grow {w w':World}{v:Value}{x L:Nat}(h:NatV w v x L)(g:Gr w w'):NatV w' v x L:=by
 obtain⟨l,a,b⟩:=h;exact⟨l,a.grow g,b⟩
theorem NatV.len {w:World}{v:Value}{x L:Nat}(h:NatV w v x L):(digs x).length≤L:=by
 obtain⟨l,a,rfl,b⟩:=h;exact Nat.le_trans (M4 a.dig) b
def NatR (w:World)(v:Value)(x L:Nat):Prop:=NatL w v (digs x)∧NatV w v x L
theorem NatR.grow {w w':World}{v:Value}{x L:Nat}(h:NatR w v x L)(g:Gr w w'):NatR w' v x L:=⟨h.1.grow g,h.2.grow g⟩
theorem NatR.of {w:World}{v:Value}{x L:Nat}(h:NatL w v (digs x))(a:(digs x).length≤L):NatR w v x L:=⟨h,_,h,Jf x,a⟩
theorem J4s {P:Program}{f:FuncId}{args:Array Value}{w:World}{z L:Nat}(a:(digs z).length≤L)(h:Calls P f args w (Ret w fun r w'=>NatL w' r (digs z))):
  Calls P f args w (Ret w fun r w'=>NatR w' r z L):=
 h.mono fun e w' ⟨v,b,c,d⟩=>⟨v,b,c,NatR.of d a⟩
theorem J0u (w:World)(a b:Value)(x y z L M:Nat)(c:NatV w a x L)(d:NatV w b y M)(g:x * y=z)(j:L≤1000000)(k:M≤1000000):
  Calls Tryz.prog 163 #[a,b] w (Ret w fun r w'=>NatR w' r z (L+M+1)):=by
 subst g;refine J4s (Nat.le_succ_of_le (Tb c.len d.len)) ?_;obtain⟨l,f,rfl,i⟩:=c;obtain⟨m,h,rfl,n⟩:=d;exact J0P w a b l m f h (by omega) (by omega)
theorem Qf (w:World)(a b:Value)(x y L M:Nat)(z:Int)(g:NatV w a x L)(h:NatV w b y M)(i:cmpZ x y=z)(n:L≤1000000)(o:M≤1000000):
  Calls Tryz.prog 174 #[a,b] w (Ret w fun r w'=>r = .int .i64 z):=by
 subst i;obtain⟨l,c,rfl,k⟩:=g;obtain⟨m,j,rfl,p⟩:=h;exact(Or w a b l m c j (by omega) (by omega)).mono fun e w' ⟨d,f⟩=>⟨_,d,f ▸ Gr.refl _,rfl⟩
theorem NatL.slice {w:World}{v:Value}{l:List Nat}(h:NatL w v l):∃ p k c,v = .slice p k c∧k=l.length:=by
 obtain⟨p,c,rfl,-⟩:=h.parts;exact⟨p,_,c,rfl,rfl⟩
end Go.Proofs.YtcjgimlcefhhmaaGreatDoor
namespace Go.Proofs.YtcjgimlcefhhmaaGreatDoor
open Go.RowKit Go.Sort Go.Lib
theorem NatL.empty (w:World)(p:Option Addr)(b o:Nat)(h:p=some ⟨b,o,none⟩):NatL w (.slice p 0 0) []:=
 ⟨Dig.nil,p,0,rfl,Nat.le_refl _,by omega,.inr ⟨b,o,h,fun i a=>by cases a⟩⟩
end Go.Proofs.YtcjgimlcefhhmaaGreatDoor
namespace Go.Proofs.YtcjgimlcefhhmaaGreatDoor
open Go.RowKit Go.Lib
theorem Pz:BB=2 ^ 32:=by rw[Jd]
theorem J4u {l:List Nat}(h:Dig l){j:Nat}(c:j≤l.length):nval l / BB ^ j=nval (l.drop j):=by
 have a:=J07 l j;rw[Nat.min_eq_left c] at a;have b:=Ln (l.take j) (h.take j);rw[List.length_take,Nat.min_eq_left c] at b;rw[a,Nat.add_mul_div_left _ _ (Nat.pow_pos Jt),Nat.div_eq_of_lt b,Nat.zero_add]
theorem V4 {l:List Nat}(h:Dig l){j k:Nat}(b:j < l.length)(c:k < 32):nval l / 2 ^ (32 * j+k) % 2=gd l j / 2 ^ k % 2:=by
 have e:(2:Nat) ^ (32 * j+k)=BB ^ j * 2 ^ k:=by rw[Nat.pow_add,Nat.pow_mul,Pz]
 rw[e,← Nat.div_div_eq_div_mul,J4u h (Nat.le_of_lt b),K9];have a:BB=2 ^ k * (2 * 2 ^ (31 - k)):=by
  rw[Pz,← Nat.pow_succ',← Nat.pow_add];congr 1;omega
 rw[a,Nat.mul_assoc,Nat.add_mul_div_left _ _ (Nat.two_pow_pos k),Nat.mul_assoc,Nat.add_mul_mod_self_left]
theorem J24 (d:Nat)(h:d < 4294967296):bits .and .u32 (d:Int) 1=((d % 2:Nat):Int):=by
 have a:=(bits_nat .u32 32 (by decide) (fun n b a=>by simp[IntKind.wrap,IntKind.bits,IntKind.signed];omega) d 1 (by omega) (by decide)).1;rw[Nat.and_one_is_mod] at a;exact a
theorem J5R (w:World)(v:Value)(l:List Nat)(i:Nat)(h:NatL w v l)(D:i < 32 * l.length)(F:l.length≤1000000):
  Calls Tryz.prog 264 #[v,.int .i64 i] w (Ret w fun r w'=>r = .int .u32 ((nval l / 2 ^ i % 2:Nat))):=by
 have y:=Z h;obtain⟨g,p,c,rfl,B,J,C⟩:=h;rcases C with⟨rfl,K⟩|⟨b,N,rfl,s⟩
 ·omega
 obtain⟨n,a⟩:∃ n,l.length=n:=⟨_,rfl⟩
 rw[a] at D F B y;obtain⟨j,L⟩:∃ j,i / 32=j:=⟨_,rfl⟩
 obtain⟨k,M⟩:∃ k,i % 32=k:=⟨_,rfl⟩
 have t:j < n:=by omega
 have E:k < 32:=by omega
 have u:(i:Int) / 32=(j:Int):=by omega
 have x:(i:Int) % 32=(k:Int):=by omega
 have G:(i:Int).tdiv 32=(j:Int):=by rw[Int.tdiv_eq_ediv_of_nonneg (by omega)];exact u
 have H:(i:Int).tmod 32=(k:Int):=by rw[Int.tmod_eq_emod_of_nonneg (by omega)];exact x
 have A:=s j (by rw[a];exact t);have m:=g.gd j;obtain⟨d,f⟩:∃ d,gd l j=d:=⟨_,rfl⟩
 rw[f] at A m;rw[Jd] at m;simp only[a];have q:nval l / 2 ^ i % 2=d / 2 ^ k % 2:=by
  have:=V4 g (j:=j) (k:=k) (by rw[a];exact t) E;rw[show 32 * j+k=i by omega,f] at this;exact this
 have z:=Z q;have o:=J24 (d / 2 ^ k) (Nat.lt_of_le_of_lt (Nat.div_le_self _ _) m);rw[Int.natCast_ediv,Int.natCast_pow] at o;obtain⟨I,Hd⟩:=Z2 a f;clear s a f g q;go_enter Tryz.func264,Tryz.ntmps264;go_wp2_with fail;go_ret;exact⟨_,rfl,Gr.refl _,by rw[z.o];exact congrArg _ o⟩
theorem J5V (w:World)(v:Value)(l:List Nat)(h:NatL w v l)(D:l.length≤35184372088832):
  Calls Tryz.prog 157 #[v] w (Ret w fun r w'=>OwnN w' w.heap.size r (trimL l)):=by
 have f:=Z h;obtain⟨t,p,c,rfl,A,H,-⟩:=h;have y:=Z t;obtain⟨n,g⟩:∃ n,l.length=n:=⟨_,rfl⟩
 have d:=Z g;rw[g] at A D ⊢;rw[g] at f;clear g t;go_enter Tryz.func157,Tryz.ntmps157;go_wp2;go_loopw [3] (fun i G=>∃ k:Nat,k≤n∧i = .int .i64 k∧trimL (l.take k)=trimL l∧G=w) (fun i _=>(RowKit.intOf i).toNat)
 case atStart=>exact⟨n,Nat.le_refl _,rfl,by rw[List.take_of_length_le (by rw[d.o];exact Nat.le_refl _)],rfl⟩
 case round=>
  obtain⟨k,J,rfl,x,rfl⟩:=hrel;have m:=Z x;clear x;have u:wr.heap.size≤(wr.alloc (.cells #[] 153)).heap.size:=by simp
  by_cases C:k=0
  ·obtain rfl:=C;have E:=Z (Ve m.o);go_wp2_with (at_builtin;refine Mv rfl _ _ 64 rfl (by kernel_rfl) wr.heap.size _ (.slice p 0 c) [] (l.take 0) rfl (OwnN.made0 wr _ (Nat.le_refl _)) rfl ((f.o.take 0 c (by omega) (by omega) (Nat.le_refl _)).grow ((Gr.refl wr).alloc _)) (by simp) u ?_;intro F w' s q B);go_ret;refine⟨_,rfl,((Gr.refl _).alloc _).own q,?_⟩;rw[← E.o];exact s
  ·obtain⟨j,rfl⟩:∃ j,k=j+1:=⟨k - 1,by omega⟩
   obtain⟨b,o,rfl,I⟩:=f.o.at j (by rw[d.o];omega);by_cases a:gd l j=0
   ·have z:((gd l j:Int) == 0)=true:=by rw[a];rfl
    have Hd:=Z a;clear a;go_wp2
    go_roundw
    case rel=>
     exact⟨j,by omega,rfl,Vf (by rw[d.o];omega) m.o Hd.o,trivial⟩
    case measure=>simp[RowKit.intOf]
   ·have z:((gd l j:Int) == 0)=false:=by simpa using a
    have Hd:=Z a;clear a;go_wp2_with (at_builtin;refine Mv rfl _ _ 64 rfl (by kernel_rfl) wr.heap.size _ (.slice _ (j+1) c) [] (l.take (j+1)) rfl (OwnN.made0 wr _ (Nat.le_refl _)) rfl ((f.o.take (j+1) c (by rw[d.o];omega) (by omega) (Nat.le_refl _)).grow ((Gr.refl wr).alloc _)) (by rw[List.length_take];simp;omega) u ?_;intro F w' s q B);go_ret;refine⟨_,rfl,((Gr.refl _).alloc _).own q,?_⟩;rw[← Vd y.o (by rw[d.o];omega) m.o Hd.o];exact s
theorem J5U (w:World)(S F:Value)(a lb:List Nat)(A:NatL w S a)(B:NatL w F lb)(N:a.length≤17592186044416)(b2:lb.length≤17592186044416)(O:nval lb≤nval a):
  Calls Tryz.prog 216 #[S,F] w (Ret w fun r w'=>∃ x,r = .tuple #[x,.int .i64 0]∧NatL w' x (digs (nval a - nval lb))∧∀ g,g < w.heap.size→Nt g x):=by
 obtain⟨q,t⟩:=Z2 A B;have a5:¬ cmpZ (nval a) (nval lb) < 0:=by rw[Nw];omega
 obtain⟨L,C⟩:∃ L,cmpZ (nval a) (nval lb)=L:=⟨_,rfl⟩
 rw[C] at a5;obtain⟨Y,a4⟩:=Z2 C O;obtain⟨p,c,rfl,a1,a2,a3⟩:=A.parts;obtain⟨H,T⟩:=Z2 a3 B.dig;obtain⟨m,D⟩:∃ n,a.length=n:=⟨_,rfl⟩
 rw[D] at q a1 ⊢;obtain⟨u,a0⟩:=Z2 D N;have b3:m≤17592186044416:=by omega
 clear A B a3 O C D N;go_enter Tryz.func216,Tryz.ntmps216;go_wp2_with fail;refine(R0 _ _ F a lb q.o t.o (Nat.le_trans a0.o (by omega)) (by omega)).mono ?_;rintro _ d ⟨_,rfl,g1,rfl⟩;rw[Y.o];obtain⟨W,X,I⟩:=Z3 (q.o.grow g1) (t.o.grow g1) g1;clear q t g1;go_wp2_with fail;go_loopw [6,7,8] (fun v f i G=>∃ (k:Nat) (l:List Nat) (c:Nat),k≤m∧i = .int .i64 k∧OwnN G d.heap.size v l∧l.length=k∧f = .int .u64 c∧c≤1∧
   nval l+nval (lb.take k)=nval (a.take k)+BB ^ k * c∧Own d.heap.size d G) (fun _ _ i _=>m - (RowKit.intOf i).toNat)
 case atStart=>
  exact⟨0,[],0,by omega,rfl,OwnN.made0 d _ (Nat.le_refl _),rfl,rfl,by omega,by simp[nval],Own.of_gr ((Gr.refl d).alloc _) (Nat.le_refl _)⟩
 case round=>
  obtain⟨k,l,f,hk,rfl,P,M,rfl,hc,R,E⟩:=hrel;obtain⟨y,h,K,j,J⟩:=Z5 P M R E (show d.heap.size≤wr.heap.size from E.size);clear P M R E;by_cases b1:k < m
  ·have ga:=H.o.gd k;have gb:=T.o.gd k;rw[Jd] at ga gb;obtain⟨x,s⟩:∃ x,x=4294967296+gd a k - gd lb k - f:=⟨_,rfl⟩
   obtain⟨Hx,U,V,a9⟩:=Z4 (show x+gd lb k+f=BB+gd a k by rw[Jd];omega) (show((4294967296:Int)+gd a k - gd lb k - f) % 4294967296=((x % BB:Nat):Int) by rw[s,Jd];omega) (show 1 - ((4294967296:Int)+gd a k - gd lb k - f) / 4294967296=((1 - x / BB:Nat):Int) by rw[s,Jd];omega) (show x / BB≤1 by rw[s,Jd];omega);clear s;go_wp2_with fail;refine(Po _ _ a k (W.o.own rfl j.o) (by omega)).mono ?_;rintro _ _ ⟨rfl,rfl⟩;go_wp2_with fail;refine(Po _ _ lb k (X.o.own rfl j.o) (by omega)).mono ?_;rintro _ _ ⟨rfl,rfl⟩;go_wp2_with (at_builtin;go_must (refine Mv rfl _ _ 64 rfl (by kernel_rfl) d.heap.size _ (.slice (some ⟨wr.heap.size,0,none⟩) 1 1) l [x % BB] rfl (y.o.grow ((Gr.refl wr).alloc _)) rfl (NatL.one wr _ (x % BB) U.o (Nat.mod_lt _ Jt) _) (by rw[h.o];simp;omega) (Nat.le_trans J.o (by simp)) ?_;intro v' w' a8 a7 b0));refine⟨⟨k+1,l ++ [x % BB],1 - x / BB,by omega,by go_num,a8,by rw[List.length_append,h.o];rfl,by rw[V.o],Nat.sub_le _ _,U7 h.o K.o Hx.o a9.o,?_⟩,by simp[RowKit.intOf];omega⟩;exact(j.o.trans (Own.of_gr ((Gr.refl wr).alloc _) J.o)).trans a7
  ·obtain rfl:k=m:=by omega
   go_wp2_with fail;refine(J5V _ u6 _ y.o.read (by rw[h.o];omega)).mono ?_;rintro _ G ⟨r,rfl,g2,Q⟩;have hr:=Q.read;have a6:∀ g,g < w.heap.size→Nt g r:=fun g hg b o n c e=>by
    subst e;have z:=(Q.lt b rfl).1;have h2:=j.o.size;have h3:=I.o.size;omega
   go_wp2;go_ret2;refine⟨_,rfl,(I.o.trans j.o.gr).trans g2,_,rfl,?_,a6⟩;have z:=K.o;rw[List.take_of_length_le (l:=a) (by rw[u.o];omega),← u.o] at z;rw[← J1i H.o (by rw[h.o,u.o]) y.o.2 z a4.o hc];exact hr
theorem J0e {d k:Nat}(h:d / 2 ^ k % 2=0):d ||| 2 ^ k=d+2 ^ k:=by
 obtain⟨a,m⟩:∃ a,d / 2 ^ k=2 * a:=⟨d / 2 ^ k / 2,by omega⟩
 have c:=Nat.div_add_mod d (2 ^ k);have i:=Nat.mod_lt d (Nat.two_pow_pos k);generalize d % 2 ^ k=b at c i;rw[m] at c;have f:2 ^ (k+1) * a+b=d:=by rw[← c,Nat.pow_succ,Nat.mul_assoc]
 have n:b < 2 ^ (k+1):=by rw[Nat.pow_succ];omega
 have j:=Nat.two_pow_add_eq_or_of_lt n a;have g:=Nat.two_pow_add_eq_or_of_lt i 1;rw[Nat.mul_one] at g;have o:2 ^ k+b < 2 ^ (k+1):=by rw[Nat.pow_succ];omega
 have l:=Nat.two_pow_add_eq_or_of_lt o a
 calc d ||| 2 ^ k=(2 ^ (k+1) * a ||| b) ||| 2 ^ k:=by rw[← j,f]
  _=2 ^ (k+1) * a ||| (2 ^ k ||| b):=by rw[Nat.or_assoc,Nat.or_comm b]
  _=2 ^ (k+1) * a+(2 ^ k+b):=by rw[← g,← l]
  _=d+2 ^ k:=by rw[← f];omega
theorem J2V {A B m:Nat}(c:0 < B):∃ a,a=A / 2 ^ m % 2∧(
  (2 * (A / 2 ^ (m+1) % B)+a < B∧A / 2 ^ m % B=2 * (A / 2 ^ (m+1) % B)+a∧A / 2 ^ m / B=2 * (A / 2 ^ (m+1) / B))∨
  (B≤2 * (A / 2 ^ (m+1) % B)+a∧A / 2 ^ m % B=2 * (A / 2 ^ (m+1) % B)+a - B∧A / 2 ^ m / B=2 * (A / 2 ^ (m+1) / B)+1)):=by
 have e:A / 2 ^ (m+1)=A / 2 ^ m / 2:=by rw[Nat.pow_succ,Nat.div_div_eq_div_mul]
 rw[e];generalize A / 2 ^ m=U;refine⟨U % 2,rfl,?_⟩;have h:=Nat.div_add_mod U 2;have i:=Nat.div_add_mod (U / 2) B;have j:=Nat.mod_lt (U / 2) c;generalize U / 2 / B=q at *;generalize U / 2 % B=r at *;have k:=Nat.mod_lt U (show 0 < 2 by decide);generalize U % 2=a at *;have b:U=B * (2 * q)+(2 * r+a):=by rw[← h,← i,Nat.mul_add,Nat.mul_left_comm 2 B q];omega
 by_cases d:2 * r+a < B
 ·refine .inl ⟨d,?_,?_⟩
  ·rw[b,Nat.mul_add_mod,Nat.mod_eq_of_lt d]
  ·rw[b,Nat.mul_add_div c,Nat.div_eq_of_lt d,Nat.add_zero]
 ·have f:U=B * (2 * q+1)+(2 * r+a - B):=by rw[b,Nat.mul_add,Nat.mul_one];omega
  have g:2 * r+a - B < B:=by omega
  refine .inr ⟨by omega,?_,?_⟩
  ·rw[f,Nat.mul_add_mod,Nat.mod_eq_of_lt g]
  ·rw[f,Nat.mul_add_div c,Nat.div_eq_of_lt g,Nat.add_zero]
theorem R1 (w:World)(va vb:Value)(q lb:List Nat)(ha:NatL w va q)(hb:NatL w vb lb)(d1:q.length≤1000000)(b2:lb.length≤1000000)(hB:0 < nval lb):
  Calls Tryz.prog 213 #[va,vb] w (Ret w fun r w'=>∃ x y,r = .tuple #[x,y,.int .i64 0]∧NatL w' x (digs (nval q / nval lb))∧NatL w' y (digs (nval q % nval lb))):=by
 obtain⟨HA,HB⟩:=Z2 ha hb;obtain⟨A,hA⟩:∃ A,nval q=A:=⟨_,rfl⟩
 obtain⟨B,E⟩:∃ B,nval lb=B:=⟨_,rfl⟩
 rw[E] at hB;rw[hA,E];obtain⟨b5,v⟩:=Z2 hA (show(digs B).length≤1000000 by rw[← E];exact Nat.le_trans (M4 hb.dig) b2);have a6:digs B≠[]:=fun e=>by have:=Ka.1 e;omega
 obtain⟨e5,d5⟩:=Z2 (show lb.length≤1000000 from b2) E;obtain⟨p,c,rfl,a1,a2,-⟩:=ha.parts;obtain⟨L,hL⟩:∃ L,q.length=L:=⟨_,rfl⟩
 rw[hL] at HA a1 d1 ⊢;have HL:=Z hL;clear ha hb hA E hL b2;go_enter Tryz.func213,Tryz.ntmps213;go_wp2_with fail;refine(Lq _ _ lb HB.o (Nat.le_trans e5.o (by decide))).mono ?_;rintro _ T ⟨vt,rfl,g1,S⟩;rw[Lh,d5.o] at S;have HT:=Z S;obtain⟨pt,kt,ct,rfl,b1⟩:=S.slice;have f3:0 < kt:=by rw[b1];exact List.length_pos_iff.2 a6
 have f4:kt≤1000000:=by rw[b1];exact v.o
 obtain⟨f0,G1⟩:=Z2 a6 g1;clear S g1 b1 a6;obtain⟨g,hg⟩:∃ g,T.heap.size=g:=⟨_,rfl⟩
 have Hg:=Z hg;clear hg;go_wp2_with (first|(go_at_call 999)|(at_make;go_must (refine Qs rfl _ _ 64 rfl (by kernel_rfl) L _ rfl rfl (by omega) (by omega) ?_;rw[Hg.o];intro w2 F c9 e9)));obtain⟨d6,G2⟩:=Z2 (F.grow ((Gr.refl w2).alloc (.cells #[] 153))) (c9.trans ((Gr.refl w2).alloc (.cells #[] 153)));clear F c9 e9;have e3:=Z (show A < BB ^ L by rw[← b5.o,← HL.o];exact Ln q HA.o.dig);go_loopw [8,9] (fun vr z w3=>∃ (n:Nat) (f:List Nat),n≤32 * L∧z = .int .i64 ((n:Int) - 1)∧f.length=L∧RowN w3 g f∧NatL w3 vr (digs (A / 2 ^ n % B))∧nval f=A / 2 ^ n / B * 2 ^ n∧Own T.heap.size T w3) (fun _ z _=>(RowKit.intOf z+1).toNat)
 case atStart=>
  have h0:A / 2 ^ (32 * L)=0:=Nat.div_eq_of_lt (by have:=e3.o;rw[Pz,← Nat.pow_mul] at this;exact this);refine⟨32 * L,List.replicate L 0,Nat.le_refl _,?_,by simp,d6.o,?_,?_,Own.of_gr G2.o (Nat.le_refl _)⟩
  ·simp
  ·rw[h0,Nat.zero_mod,Ka.2 rfl];exact NatL.empty _ _ _ _ rfl
  ·rw[h0,Qi,Nat.zero_div,Nat.zero_mul]
 case round=>
  obtain⟨n,f,hn,rfl,d2,F,d4,hq,ho⟩:=hrel;obtain⟨o,b7,H,G,s⟩:=Z5 d2 F d4 hq ho;clear d2 F d4 hq ho;by_cases d3:n=0
  ·subst d3;go_wp2_with fail;have b3:=b7.o.read L (by rw[o.o];exact Nat.le_refl _) (by omega);rw[o.o] at b3;refine(Lq _ _ _ b3 (by rw[o.o];omega)).mono ?_;rintro _ w4 ⟨r4,rfl,g4,t⟩;rw[Lh,G.o,Nat.pow_zero,Nat.div_one,Nat.mul_one] at t;have hv:=H.o;rw[Nat.pow_zero,Nat.div_one] at hv;obtain⟨u,HV,GE⟩:=Z3 t (hv.grow g4) (G1.o.trans (s.o.gr.trans g4));clear t hv g4 b3;go_wp2_with fail;go_ret3;exact⟨_,rfl,GE.o,_,_,rfl,u.o,HV.o⟩
  ·obtain⟨m,rfl⟩:∃ m,n=m+1:=⟨n - 1,by omega⟩
   have E0:((m+1:Nat):Int) - 1=(m:Int):=by omega
   rw[E0];have e7:m < 32 * L:=by omega
   obtain⟨a,a7,a8⟩:=J2V (A:=A) (m:=m) hB;obtain⟨R,M⟩:∃ R,A / 2 ^ (m+1) % B=R:=⟨_,rfl⟩
   have e4:R < B:=by rw[← M];exact Nat.mod_lt _ hB
   rw[M] at H a8;have f1:a < 2:=by rw[a7];exact Nat.mod_lt _ (by decide)
   obtain⟨d8,d9,HR,O⟩:=Z4 a7 a8 M (Nat.le_trans (Pf (Nat.le_of_lt e4)) v.o);clear d3 a7 a8 M E0 hn;go_wp2_with fail;refine(Rz _ _ _ _ _ H.o H.o (Nat.le_trans O.o (by decide)) (Nat.le_trans O.o (by decide))).mono ?_;rintro _ w4 ⟨r4,rfl,g4,t⟩;rw[Jf] at t;obtain⟨u,U⟩:=Z2 t g4;clear t g4;go_wp2_with fail;refine(J5R _ _ q m (HA.o.grow (G1.o.trans (s.o.gr.trans U.o))) (by rw[HL.o];exact e7) (by rw[HL.o];exact d1)).mono ?_;rintro _ w5 ⟨_,rfl,g5,rfl⟩;rw[b5.o,← d8.o];obtain⟨G5,u⟩:=Z2 (U.o.trans g5) (u.o.grow g5);clear g5;go_wp2_with fail;obtain⟨c4,a5⟩:=Z2 (NatL.one w5 a a rfl (by rw[Jd];omega) 153) ((Gr.refl w5).alloc (.cells #[.int .u32 a] 153));refine(Rz _ _ _ _ [a] (u.o.grow a5.o) c4.o (Nat.le_trans (Xn O.o O.o) (by decide)) (by simp)).mono ?_;rintro _ w6 ⟨r6,rfl,g6,h6⟩;rw[Jf,show nval [a]=a by simp[nval],show R+R+a=2 * R+a by omega] at h6;obtain⟨H6,V⟩:=Z2 h6 (G5.o.trans (a5.o.trans g6));clear h6 g6 c4 a5 u;obtain⟨a0,c6⟩:=Z2 (HT.o.grow (s.o.gr.trans V.o)) (show(digs (2 * R+a)).length≤1000001 from Nat.le_trans (Pf (show 2 * R+a≤B+B by omega)) (Xn v.o v.o));go_wp2_with fail;obtain⟨I,c5⟩:∃ I,cmpZ ((2 * R+a:Nat):Int) (B:Int)=I:=⟨_,rfl⟩
   have a3:=Z c5;clear c5;refine(R0 _ _ _ _ _ H6.o a0.o (Nat.le_trans c6.o (by decide)) (Nat.le_trans v.o (by decide))).mono ?_;rintro _ w7 ⟨_,rfl,J,rfl⟩;rw[Jf,Jf,a3.o];obtain⟨W,H7,d7⟩:=Z3 (V.o.trans J) (H6.o.grow J) (a0.o.grow J);have a4:=Z (b7.o.grow W.o);clear J H6 a0 V G5 U;rcases d9.o with⟨c1,c2,c3⟩|⟨c1,c2,c3⟩
   ·have hz:I = -1:=by rw[← a3.o];unfold cmpZ;rw[if_pos (by omega)]
    subst hz;go_wp2_with fail;refine⟨⟨m,f,by omega,rfl,o.o,a4.o,?_,?_,s.o.trans (Own.of_gr W.o s.o.size)⟩,by simp[RowKit.intOf]<;>omega⟩
    ·rw[c2];exact H7.o
    ·rw[c3,G.o];generalize A / 2 ^ (m+1) / B=qq;rw[Nat.pow_succ,Nat.mul_comm (2 ^ m) 2,← Nat.mul_assoc,Nat.mul_comm 2]
   ·have hz:¬ I < 0:=by rw[← a3.o,Nw];omega
    go_wp2_with fail;refine(J5U _ _ _ _ _ H7.o d7.o (Nat.le_trans c6.o (by decide)) (Nat.le_trans v.o (by decide)) (by rw[Jf,Jf];exact c1)).mono ?_;rintro _ w8 ⟨_,rfl,g8,x8,rfl,b4,c8⟩;rw[Jf,Jf] at b4;obtain⟨e2,e8,e1,G8⟩:=Z4 b4 (c8 g a4.o.lt) (a4.o.grow g8) (W.o.trans g8);clear b4 c8 g8;obtain⟨j,hj⟩:∃ j,m / 32=j:=⟨_,rfl⟩
    obtain⟨k,hk⟩:∃ k,m % 32=k:=⟨_,rfl⟩
    have b0:j < L:=by omega
    have d0:k < 32:=by omega
    have E1:(m:Int) / 32=(j:Int):=by omega
    have E2:(m:Int) % 32=(k:Int):=by omega
    have E3:(m:Int).tdiv 32=(j:Int):=by rw[Int.tdiv_eq_ediv_of_nonneg (by omega)];exact E1
    have E4:(m:Int).tmod 32=(k:Int):=by rw[Int.tmod_eq_emod_of_nonneg (by omega)];exact E2
    go_wp2_with fail;refine Jl [(0,true),(1,true),(2,true),(3,true),(4,true),(5,true),(6,true),(7,true),(8,true),(9,true),(10,true),(11,true),(12,true),(13,false)] ?_;obtain⟨C,GD,b9⟩:=Z3 (e1.o.grow ((Gr.refl _).drew)) (G8.o.trans ((Gr.refl _).drew)) (e2.o.grow ((Gr.refl _).drew));generalize w8.drew=D at C GD b9 ⊢;have cq:∀ w',Gr D w'→w'.cell? ⟨g,j,none⟩=some (.int .u32 (gd f j)):=fun w' hh=>hh.cell (C.o.cell (by rw[o.o];exact b0));have e6:=C.o.dig.gd j;obtain⟨d,N⟩:∃ d,gd f j=d:=⟨_,rfl⟩
    simp only[N] at cq;rw[N,Jd] at e6;have Hd:=Z N;clear N;have g0:=Gr.refl D;have f2:(j:Int) < (L:Int):=by omega
    have wj:IntKind.i64.wrap (j:Int)=(j:Int):=by rw[IntKind.wrap_i64];omega
    have a9:d / 2 ^ k % 2=0:=by
     have b:=V4 C.o.dig (j:=j) (k:=k) (by rw[o.o];exact b0) d0;rw[Hd.o,show 32 * j+k=m by omega,G.o,Nat.pow_succ,Nat.mul_comm (2 ^ m) 2,← Nat.mul_assoc,Nat.mul_div_cancel _ (Nat.two_pow_pos m)] at b;rw[← b];omega
    have Q:2 ^ k < 2 ^ 32:=Nat.pow_lt_pow_right (by decide) d0;obtain⟨e,P⟩:∃ e,d+2 ^ k=e:=⟨_,rfl⟩
    have c7:e < 2 ^ 32:=by rw[← P,← J0e a9];exact Nat.or_lt_two_pow (by omega) Q
    have EO:bits .or .u32 (d:Int) (IntKind.u32.wrap (2 ^ k))=(e:Int):=by
     have b:=(bits_nat .u32 32 (by decide) (fun n h0 b=>by simp[IntKind.wrap,IntKind.bits,IntKind.signed];omega) d (2 ^ k) (by omega) Q).2;rw[J0e a9,P] at b;rw[← b];congr 1;have:(2:Int) ^ k=((2 ^ k:Nat):Int):=by simp
     rw[this];generalize 2 ^ k=X at Q ⊢;simp[IntKind.wrap,IntKind.bits,IntKind.signed];omega
    obtain⟨He,e0⟩:=Z2 P c7;clear a9 Q P c7;repeat(refine Jc g0 (h:=?_))
    have cw:=cq D (Gr.refl _);have fw:=C.o.free j;refine Jj rfl rfl (fun K hK=>?_);go_simp;refine⟨fun h=>Bool.noConfusion h,hK _ _ ?_⟩;clear hK K;refine Jg ?_;obtain⟨b8,c0,b6⟩:=Z3 (C.o.set j e (e:Int) rfl (by rw[Pz];exact e0.o)) (b9.o.keep e8.o (Jp.set g D j (.int .u32 (e:Int)))) ((s.o.trans (Own.of_gr GD.o s.o.size)).trans (Own.setCell D (base:=T.heap.size) (g:=g) (by rw[Hg.o];exact Nat.le_refl _) j (.int .u32 (e:Int))));clear cw fw cq;generalize D.setCell _ _=wS at b8 c0 b6 ⊢;go_wp2_with fail;refine⟨⟨m,f.set j e,by omega,rfl,by rw[List.length_set];exact o.o,b8.o,?_,?_,b6.o⟩,by simp[RowKit.intOf]<;>omega⟩
    ·rw[c2];exact c0.o
    ·have b:=Ot e (l:=f) (i:=j) (by rw[o.o];exact b0);rw[Hd.o,← He.o,Nat.mul_add] at b;have h2:BB ^ j * 2 ^ k=2 ^ m:=by rw[Pz,← Nat.pow_mul,← Nat.pow_add];congr 1;omega
     rw[h2,G.o] at b;rw[c3,← He.o];generalize A / 2 ^ (m+1) / B=qq at *;generalize BB ^ j * d=Y at *;rw[Nat.pow_succ] at b;rw[Nat.add_mul,Nat.one_mul];have h3:qq * (2 ^ m * 2)=2 * qq * 2 ^ m:=by rw[Nat.mul_comm (2 ^ m) 2,← Nat.mul_assoc,Nat.mul_comm 2]
     rw[h3] at b;omega
theorem J2R {a:Nat}(c:a < BB)(b:a≠0):digs a=[a]:=by
 have h:nval [a]=a:=by simp[nval]
 rw[show digs a=digs (nval [a]) by rw[h],← Lh,(J1m _ (Dig.cons c Dig.nil)).2 (.inr (by simpa[gd] using b))]
theorem Zv (w:World)(v:Value)(l:List Nat)(h:NatL w v l)(m:l.length≤17592186044416):
  Calls Tryz.prog 179 #[v] w fun e w'=>e = .returned (.bool (decide (trimL l=l)))∧w=w':=by
 obtain⟨i,a⟩:=Z2 h (J1m l h.dig);obtain⟨p,c,rfl,k,q,g⟩:=h.parts;obtain⟨n,d⟩:∃ n,l.length=n:=⟨_,rfl⟩
 rw[d] at k m ⊢;rw[d] at i a;have f:=Z d;clear d g h;by_cases g:n=0
 ·obtain rfl:=g;have Hd:=Z (show decide (trimL l=l)=true by simp;exact a.o.2 (.inl (List.eq_nil_of_length_eq_zero f.o)));go_enter Tryz.func179,Tryz.ntmps179;go_wp2_with fail;go_ret;rw[Hd.o];exact⟨rfl,rfl⟩
 ·obtain⟨j,rfl⟩:∃ j,n=j+1:=⟨n - 1,by omega⟩
  obtain⟨b,o,rfl,r⟩:=i.o.at j (by rw[f.o];omega);rw[Nat.add_sub_cancel] at a;have s:(((j+1:Nat):Int) == 0)=false:=by simp;omega
  have Hd:=Z (show decide (trimL l=l)=((gd l j:Int) != 0) by
   rw[Bool.eq_iff_iff,decide_eq_true_iff,a.o];have:l≠[]:=fun e=>by have:=f.o;rw[e] at this;simp at this
   simp[this])
  go_enter Tryz.func179,Tryz.ntmps179;go_wp2_with fail;go_ret;rw[Hd.o];exact⟨rfl,rfl⟩
theorem J5W (w:World)(v:Value)(l:List Nat)(t:Bool)(h:NatL w v l)(S:l.length≤1000000)(a:decide ((digs (nval l)).length≤2)=t):
  Calls Tryz.prog 295 #[v] w (Ret w fun r w'=>r = .tuple #[.int .u64 (if t then nval l else 0),.bool t]):=by
 obtain⟨L,W⟩:=Z2 h a;clear h a;go_enter Tryz.func295,Tryz.ntmps295;go_wp2_with fail;refine(Lq _ v l L.o (Nat.le_trans S (by decide))).mono ?_;rintro _ w1 ⟨vt,rfl,g1,g⟩;obtain⟨N,f⟩:∃ N,nval l=N:=⟨_,rfl⟩
 rw[Lh,f] at g;have F:(digs N).length≤1000000:=by rw[← f];exact Nat.le_trans (M4 L.o.dig) S
 obtain⟨m,A⟩:∃ m,digs N=m:=⟨_,rfl⟩
 have U:nval m=N:=by rw[← A,Jf]
 have a:=W.o;rw[f,A] at a;rw[A] at g F;obtain⟨B,X,V⟩:=Z3 g U f;obtain⟨p,k,c,rfl,u⟩:=g.slice;have D:=Z u;have a4:k≤1000000:=by rw[u];exact F
 have K:=Z g1;have y:decide (k≤2)=t:=by rw[u];exact a
 clear g U A u g1 a F f;by_cases O:k≤2
 ·have E:t=true:=by rw[← y];exact decide_eq_true O
  subst E;clear y;go_wp2_with fail;go_loopw [4,5] (fun x z w2=>∃ j:Nat,j≤k∧z = .int .i64 ((j:Int) - 1)∧x = .int .u64 (nval (m.drop j):Nat)∧Gr w1 w2) (fun _ z _=>(RowKit.intOf z+1).toNat)
  case atStart=>exact⟨k,Nat.le_refl _,rfl,by rw[List.drop_of_length_le (by rw[D.o];exact Nat.le_refl _)];rfl,Gr.refl _⟩
  case round=>
   obtain⟨j,Q,rfl,rfl,P⟩:=hrel;have C:=Z P;clear P;by_cases R:j=0
   ·subst R;go_wp2_with fail;go_ret2;refine⟨_,rfl,K.o.trans C.o,?_⟩;show Value.tuple #[.int .u64 (nval (m.drop 0):Nat),.bool true]=_;rw[List.drop_zero,X.o,V.o]
   ·obtain⟨i,rfl⟩:∃ i,j=i+1:=⟨j - 1,by omega⟩
    have J:((i+1:Nat):Int) - 1=(i:Int):=by omega
    rw[J];have a2:i < m.length:=by rw[← D.o];omega
    obtain⟨b,o,rfl,M⟩:=B.o.at i a2;have a0:=C.o.cell M;have H:nval (m.drop (i+1)) < BB:=by
     have h1:=Ln (m.drop (i+1)) (fun d n=>B.o.dig d (List.mem_of_mem_drop n));have a1:BB ^ (m.drop (i+1)).length≤BB ^ 1:=Nat.pow_le_pow_right Jt (by rw[List.length_drop,← D.o];omega);rw[Nat.pow_one] at a1;omega
    have G:=B.o.dig.gd i;have T:=Pb H G;have s:=K9 m i;obtain⟨q,I⟩:∃ q,nval (m.drop (i+1))=q:=⟨_,rfl⟩
    obtain⟨d,n⟩:∃ d,gd m i=d:=⟨_,rfl⟩
    rw[I] at T H s;rw[n] at T G s a0;simp only[I];rw[Jd] at H G;have Y:=Z s;have a3:i+1≤k:=Q;clear s I n J M Q R;go_wp2_with fail;refine⟨⟨i,by omega,rfl,?_,C.o⟩,by simp[RowKit.intOf]<;>omega⟩;rw[Y.o];rw[Nat.mul_comm BB q,Nat.add_comm d];simp
 ·have E:t=false:=by rw[← y];exact decide_eq_false O
  subst E;clear y;go_wp2_with fail;go_ret2;exact⟨_,rfl,K.o,by simp⟩
theorem Tq (a b:Nat):Nat.gcd b (a % b)=Nat.gcd a b:=by
 rw[Nat.gcd_comm b,← Nat.gcd_rec,Nat.gcd_comm]
theorem J4o (w:World)(g i:Value)(x y:Nat)(c:NatL w g (digs x))(d:NatL w i (digs y))(s:x < 18446744073709551616)(t:y < 18446744073709551616):
  Calls Tryz.prog 232 #[g,i] w (Ret w fun r w'=>NatL w' r (digs (Nat.gcd x y))):=by
 obtain⟨C,D⟩:=Z2 c d;clear c d;go_enter Tryz.func232,Tryz.ntmps232;go_wp2_with fail;refine(Ui w g _ true C.o (decide_eq_true (by rw[Jf];exact Nj.2 s))).mono ?_;rintro _ _ ⟨rfl,rfl⟩;rw[Jf];go_wp2_with fail;refine(Ui w i _ true D.o (decide_eq_true (by rw[Jf];exact Nj.2 t))).mono ?_;rintro _ _ ⟨rfl,rfl⟩;rw[Jf];go_wp2_with fail;go_loopw [5,7] (fun u v H=>∃ a b:Nat,u = .int .u64 a∧v = .int .u64 b∧a < 18446744073709551616∧b < 18446744073709551616∧Nat.gcd a b=Nat.gcd x y∧Gr w H) (fun _ v _=>(RowKit.intOf v).toNat)
 case atStart=>exact⟨x,y,by simp,by simp,s,t,rfl,Gr.refl _⟩
 case round=>
  obtain⟨a,b,rfl,rfl,c,d,p,q⟩:=hrel;obtain⟨k,l⟩:=Z2 p q;clear p q;by_cases F:b=0
  ·subst F;go_wp2_with fail;refine(Mn _ a c).mono ?_;rintro _ K ⟨J,rfl,n,o⟩;obtain⟨B,A⟩:=Z2 o n;clear o n;go_wp2_with fail;go_ret;refine⟨_,rfl,l.o.trans A.o,?_⟩;rw[← k.o,Nat.gcd_zero_right];exact B.o
  ·have G:=Nat.mod_lt a (show 0 < b by omega);obtain⟨r,f⟩:∃ r,a % b=r:=⟨_,rfl⟩
   have j:(a:Int) % (b:Int)=(r:Int):=by rw[← f];simp
   have z:(a:Int).tmod (b:Int)=(r:Int):=by rw[Int.tmod_eq_emod_of_nonneg (by omega)];exact j
   rw[f] at G;have I:(b:Int)≠0:=by omega
   have E:=Z f;clear f;go_wp2_with fail;refine Jl [(0,true),(1,true),(2,true),(3,true),(4,true),(5,true)] ?_;have m:Gr wr wr.drew:=(Gr.refl _).drew;repeat(refine Jc m (h:=?_))
   refine Jg ?_;go_wp2_with fail;refine⟨⟨b,r,rfl,by first|rfl|simp[j,z],d,by omega,?_,l.o.trans m⟩,by simp[RowKit.intOf];omega⟩;rw[← k.o,← E.o,Tq]
def readN (w:World):Value→Nat
 | .slice (some ⟨b,o,_⟩) n _=>nval ((List.range n).map fun i=>match w.cell? ⟨b,o+i,none⟩ with
  | some (.int _ z)=>z.toNat
  | _=>0)
 | _=>0
theorem Rw {w:World}{v:Value}{l:List Nat}(h:NatL w v l):readN w v=nval l:=by
 obtain⟨g,p,c,rfl,j,k,a⟩:=h;rcases a with a|⟨b,o,rfl,f⟩
 ·have:l=[]:=List.eq_nil_of_length_eq_zero (by omega);subst this;rcases p with _|⟨b,o,s⟩<;>rfl
 ·have key:((List.range l.length).map fun i=>match w.cell? ⟨b,o+i,none⟩ with|some (.int _ z)=>z.toNat|_=>0)=l:=by
   apply List.ext_getElem
   ·simp
   ·intro i m d;simp only[List.getElem_map,List.getElem_range];rw[f i d];simp[Nk d]
  exact congrArg nval key
theorem Uf (w:World)(P Q:Value)(n lb:List Nat)(x y:Nat)(g:NatL w P n)(f:NatL w Q lb)(M:nval n=x)(N:nval lb=y)(b0:n.length≤1000000)(b1:lb.length≤1000000):
  Calls Tryz.prog 180 #[P,Q] w (Ret w fun r w'=>NatL w' r (digs (Nat.gcd x y))):=by
 obtain⟨i,j,HX,HY,a6,a7⟩:=Z6 g f M N (show(digs x).length≤1000000 by rw[← M];exact Nat.le_trans (M4 g.dig) b0) (show(digs y).length≤1000000 by rw[← N];exact Nat.le_trans (M4 f.dig) b1);clear g f M N;go_enter Tryz.func180,Tryz.ntmps180;go_wp2_with fail;refine(Rl w P n i.o (by omega)).mono ?_;rintro _ w1 ⟨v1,rfl,g1,C⟩;rw[HX.o] at C;obtain⟨o,R⟩:=Z2 C g1;clear C g1;go_wp2_with fail;refine(Rl w1 Q lb (j.o.grow R.o) (by omega)).mono ?_;rintro _ w2 ⟨v2,rfl,B,D⟩;rw[HY.o] at D;obtain⟨H2,o,S⟩:=Z3 D (o.o.grow B) (R.o.trans B);clear D B;go_wp2_with fail;go_loopw [0,1] (fun u v k=>∃ a b:Nat,NatL k u (digs a)∧NatL k v (digs b)∧(digs a).length≤1000000∧(digs b).length≤1000000∧Nat.gcd a b=Nat.gcd x y∧Gr w2 k) (fun _ v k=>readN k v)
 case atStart=>exact⟨x,y,o.o,H2.o,a6.o,a7.o,rfl,Gr.refl _⟩
 case round=>
  obtain⟨a,b,g,f,E,G,hg,a1⟩:=hrel;obtain⟨b2,i,j,s,t⟩:=Z5 (Rw f) g f hg a1;obtain⟨pa,m,ca,rfl,H⟩:=g.slice;obtain⟨pb,h,W,rfl,I⟩:=f.slice;obtain⟨a8,z⟩:=Z2 H I;have b4:m≤1000000:=by rw[H];exact E
  have b5:h≤1000000:=by rw[I];exact G
  obtain⟨a5,p⟩:=Z2 E G;clear g f hg a1 H I E G;by_cases l:b=0
  ·obtain rfl:h=0:=by rw[z.o,l];simp[Ka.2]
   subst l;go_wp2_with fail;go_ret;refine⟨_,rfl,S.o.trans t.o,?_⟩;rw[← s.o,Nat.gcd_zero_right];exact i.o
  ·have b3:0 < h:=by rw[z.o];exact List.length_pos_iff.2 (fun e=>l (Ka.1 e))
   by_cases K:m≤2∧h≤2
   ·obtain⟨O,s2⟩:=K;have a3:=Nj.1 (show(digs a).length≤2 by rw[← a8.o];exact O);have a4:=Nj.1 (show(digs b).length≤2 by rw[← z.o];exact s2);have a9:=Z (J4o _ _ _ a b i.o j.o a3 a4);clear a3 a4;go_wp2_with fail;refine a9.o.mono ?_;rintro _ c ⟨r4,rfl,g4,Y⟩;obtain⟨H4,G4⟩:=Z2 Y g4;clear Y g4;go_wp2_with fail;go_ret;refine⟨_,rfl,S.o.trans (t.o.trans G4.o),?_⟩;rw[← s.o];exact H4.o
   ·have T:=Z (Zs _ _ _ (digs a) (digs b) i.o j.o (Nat.le_trans a5.o (by decide)) (Nat.le_trans p.o (by decide)) (by rw[Jf];exact l));have a2:=Nat.mod_lt a (show 0 < b by omega);have V:=Z a2;clear a2;have L:m≤2→¬ h≤2:=fun e1 e2=>K ⟨e1,e2⟩;clear K;have X:∀ (c:World) (q r:Value),NatL c r (digs (a % b))→Gr wr c→(∃ A b':Nat,NatL c (.slice pb h W) (digs A)∧NatL c r (digs b')∧(digs A).length≤1000000∧(digs b').length≤1000000∧Nat.gcd A b'=Nat.gcd x y∧Gr w2 c)∧readN c r < readN wr (.slice pb h W):=fun c q r d a0=>by
     refine⟨⟨b,a % b,j.o.grow a0,d,p.o,Nat.le_trans (Pf (Nat.le_of_lt V.o)) p.o,by rw[Tq];exact s.o,t.o.trans a0⟩,?_⟩;rw[Rw d,b2.o,Jf,Jf];exact V.o
    have U:=Z X;clear X;by_cases O:m≤2
    ·have s2:=L O;clear L;go_wp2_with fail;refine T.o.mono ?_;rintro _ c ⟨_,rfl,g4,q,r,rfl,J,d⟩;rw[Jf,Jf] at d;have F:=Z (U.o c q r d g4);clear J d g4;go_wp2_with fail;exact F.o
    ·clear L;go_wp2_with fail;refine T.o.mono ?_;rintro _ c ⟨_,rfl,g4,q,r,rfl,J,d⟩;rw[Jf,Jf] at d;have F:=Z (U.o c q r d g4);clear J d g4;go_wp2_with fail;exact F.o
end Go.Proofs.YtcjgimlcefhhmaaGreatDoor
