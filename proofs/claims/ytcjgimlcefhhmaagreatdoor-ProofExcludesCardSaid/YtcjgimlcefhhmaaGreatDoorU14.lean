/- Texts: Early Fnv Inv Erlb Erlc. -/
import Derived.Test.YtcjgimlcefhhmaaGreatDoorU1
import Derived.Test.YtcjgimlcefhhmaaGreatDoorU13
set_option linter.unusedVariables false
set_option linter.unusedSimpArgs false
set_option maxRecDepth 100000
set_option maxHeartbeats 12800000
namespace Go.Proofs.YtcjgimlcefhhmaaGreatDoor
open Go.RowKit
def J0 (Z:Array Value)(T:TypeId)(b:Nat)(w:World):Prop:=w.heap[b]?=some (.cells Z T (0,0))
theorem J0.lt {Z:Array Value}{T:TypeId}{b:Nat}{w:World}(h:J0 Z T b w):b < w.heap.size:=by
 rcases Nat.lt_or_ge b w.heap.size with h'|h'
 ·exact h'
 ·unfold J0 at h;rw[Array.getElem?_eq_none h'] at h;cases h
theorem J0.grow {Z:Array Value}{T:TypeId}{b:Nat}{w w':World}(h:J0 Z T b w)(g:Gr w w'):J0 Z T b w':=by
 unfold J0;rw[Below.block g b h.lt];exact h
theorem J0.new (Z:Array Value)(T:TypeId)(w:World):J0 Z T w.heap.size (w.alloc (.cells Z T)):=heap_alloc_new w _
def O9 (P:Program)(T:TypeId)(Z:Array Value):Prop:=
 ∀ w,(Instr.alloc T true (.tuple #[])).run P w = .ok (.pointer (some ⟨w.heap.size,0,none⟩)) (w.alloc (.cells Z T))
def ptr (b:Nat):Value:=.pointer (some ⟨b,0,none⟩)
section
variable {P:Program}{ops:Array Oper}{md:Region.Mode}{Q:Exit→Act→World→Prop}{zc:TypeId→Array Value}
theorem Xo {o:Oper}{T:TypeId}(ho:o.op = .alloc T)(hA:O9 P T (zc T))(ρ:Operand→Value)(w:World):
  (execOp ρ o).run P w = .ok (.value (ptr w.heap.size)) (w.alloc (.cells (zc T) T)):=by
 unfold execOp
 simp only[ho,Sem.run_bind,hA w,Result.andThen_ok,Sem.run_pure]
 rfl
def wpF (P:Program)(ops:Array Oper)(Q:Exit→Act→World→Prop)(zc:TypeId→Array Value):List (Nat × Nat)→(Nat→Prop)→Act→World→Prop
 | [],_,a,w=>Q .normal a w
 | (i,k) :: rest,U,a,w=>∃ o,ops[i]?=some o∧
   if k=2 then ∀ T,o.op = .alloc T→∀ w1 b,Gr w w1→J0 (zc T) T b w1→¬ U b→wpF P ops Q zc rest (fun x=>U x∨x=b) (a.put o.dst (ptr b)) w1
   else if Region.wanted o (yielded ops a.tmps)=true then
    (if k=1 then ∃ v,(∀ w',Gr w w'→(execOp a.eval o).run P w' = .ok (.value v) w')∧wpF P ops Q zc rest U (a.put o.dst v) w
     else ∀ w1,Gr w w1→Oper.wp P o a w1 (fun a' w'=>relOf o w1 w'∧wpF P ops Q zc rest U a' w') Q)
   else wpF P ops Q zc rest U (a.put o.dst undef) w
theorem P4:∀ (l:List (Nat × Nat)) (U U':Nat→Prop) (a:Act) (w:World),(∀ x,U x→U' x)→wpF P ops Q zc l U a w→wpF P ops Q zc l U' a w
 | [],_,_,_,_,_,h=>h
 | (i,k) :: rest,U,U',a,w,hU,⟨o,ho,h⟩=>by
  refine⟨o,ho,?_⟩
  by_cases hk:k=2
  ·rw[if_pos hk] at h ⊢
   exact fun T hT w1 b g f n=>P4 rest _ _ _ _ (fun x hx=>hx.imp (hU x) id) (h T hT w1 b g f (fun hb=>n (hU b hb)))
  ·rw[if_neg hk] at h ⊢
   by_cases hw:Region.wanted o (yielded ops a.tmps)=true
   ·rw[if_pos hw] at h ⊢
    by_cases hk1:k=1
    ·rw[if_pos hk1] at h ⊢
     obtain⟨v,hv,h⟩:=h
     exact⟨v,hv,P4 rest _ _ _ _ hU h⟩
    ·rw[if_neg hk1] at h ⊢
     exact fun w1 g=>Oper.wp_mono (fun a' w' hk=>⟨hk.1,P4 rest _ _ _ _ hU hk.2⟩) (h w1 g)
   ·rw[if_neg hw] at h ⊢
    exact P4 rest _ _ _ _ hU h
def hasAlloc:List (Nat × Nat)→Bool
 | []=>false
 | (_,k) :: rest=>k == 2 || hasAlloc rest
theorem Uw:∀ (l:List (Nat × Nat)) (U:Nat→Prop) (a:Act) (w w':World),hasAlloc l=true→Gr w w'→wpF P ops Q zc l U a w→wpF P ops Q zc l U a w'
 | [],_,_,_,_,h,_,_=>by simp[hasAlloc] at h
 | (i,k) :: rest,U,a,w,w',hl,g,⟨o,ho,h⟩=>by
  refine⟨o,ho,?_⟩
  by_cases hk:k=2
  ·rw[if_pos hk] at h ⊢
   exact fun T hT w1 b g1 f n=>h T hT w1 b (g.trans g1) f n
  ·have hl':hasAlloc rest=true:=by simpa[hasAlloc,hk] using hl
   rw[if_neg hk] at h ⊢
   by_cases hw:Region.wanted o (yielded ops a.tmps)=true
   ·rw[if_pos hw] at h ⊢
    by_cases hk1:k=1
    ·rw[if_pos hk1] at h ⊢
     obtain⟨v,hv,h⟩:=h
     exact⟨v,fun w2 g2=>hv w2 (g.trans g2),Uw rest U _ _ _ hl' g h⟩
    ·rw[if_neg hk1] at h ⊢
     exact fun w1 g1=>h w1 (g.trans g1)
   ·rw[if_neg hw] at h ⊢
    exact Uw rest U _ _ _ hl' g h
def earlyOK (ops:Array Oper)(i:Nat)(oi:Oper):List (Nat × Nat)→Bool
 | []=>false
 | (j,k) :: rest=>if j=i∧k=2 then true else (match ops[j]? with|some oj=>oi.apart ops oj && !isStore oj|none=>false) && earlyOK ops i oi rest
def eraseF (i:Nat):List (Nat × Nat)→List (Nat × Nat)
 | []=>[]
 | (j,k) :: rest=>if j=i∧k=2 then rest else (j,k) :: eraseF i rest
theorem Xk {i:Nat}{oi:Oper}:∀ (l:List (Nat × Nat)),earlyOK ops i oi l=true→(eraseF i l).length+1=l.length
 | [],h=>by simp[earlyOK] at h
 | (j,k) :: rest,h=>by
  unfold earlyOK at h
  unfold eraseF
  split
  ·rfl
  ·rename_i hn
   rw[if_neg hn] at h
   simp only[Bool.and_eq_true] at h
   simp[Xk rest h.2]
theorem Tc {i:Nat}:∀ (l:List (Nat × Nat)) (x:Nat × Nat),x ∈ eraseF i l→x ∈ l
 | [],x,h=>h
 | (j,k) :: rest,x,h=>by
  unfold eraseF at h
  split at h
  ·exact List.mem_cons_of_mem _ h
  ·rcases List.mem_cons.1 h with rfl|h
   ·exact List.mem_cons_self
   ·exact List.mem_cons_of_mem _ (Tc rest x h)
theorem J6Q {oi oj:Oper}{v:Value}(hap:oi.apart ops oj=true)(hsj:∀ cs b,oj.op≠.select cs b)
  (hQ:∀ c a d v w,Q (.panic c) a w→Q (.panic c) (a.put d v) w) {K K':Act→World→Prop} {a:Act} {w:World}
  (hK:∀ a' w',relOf oj w w'→K a' w'→K' (a'.put oi.dst v) w')
  (h:Oper.wp P oj a w (fun a' w'=>relOf oj w w'∧K a' w') Q):Oper.wp P oj (a.put oi.dst v) w (fun a' w'=>relOf oj w w'∧K' a' w') Q:=by
 obtain⟨h1,h2,h3⟩:=Oper.apart_spec hap
 unfold Oper.wp at *
 rw[execOp_put oj hsj a oi.dst v h1]
 generalize (execOp a.eval oj).run P w=r at *
 cases r with
 | ok n w'=>
  cases n<;>simp only[Oper.upon] at h ⊢
  case value u=>exact⟨h.1,by rw[Act.put_comm a v u h2];exact hK _ _ h.1 h.2⟩
  case skip=>exact⟨h.1,by rw[Act.put_comm a v undef h2];exact hK _ _ h.1 h.2⟩
  case defer d=>
   refine⟨h.1,?_⟩
   rw[Act.put_defers,Act.put_comm _ v undef h2]
   exact hK _ _ h.1 h.2
  case enter f args=>
   refine Calls.mono h fun e w'' he=>?_
   cases e with
   | returned u=>exact⟨he.1,by rw[Act.put_comm a v u h2];exact hK _ _ he.1 he.2⟩
   | panicked c=>exact hQ _ _ _ _ _ he
   | outgrown=>exact he
  case row row args=>exact Rows.mono h fun u w'' he=>⟨he.1,by rw[Act.put_comm a v u h2];exact hK _ _ he.1 he.2⟩
 | halt x w'=>
  cases x<;>simp only[Oper.upon] at h ⊢
  case panic u=>exact hQ _ _ _ _ _ h
theorem P5 {i:Nat}{oi:Oper}{T:TypeId}{b:Nat}(hi:ops[i]?=some oi)(hT:oi.op = .alloc T)(hsel:∀ (j:Nat) (o:Oper) cs b,ops[j]?=some o→o.op≠.select cs b)
  (hQ:∀ c a d v w,Q (.panic c) a w→Q (.panic c) (a.put d v) w):
  ∀ (l:List (Nat × Nat)) (U:Nat→Prop) (a:Act) (w:World),earlyOK ops i oi l=true→J0 (zc T) T b w→¬ U b→wpF P ops Q zc l U a w→wpF P ops Q zc (eraseF i l) (fun x=>U x∨x=b) (a.put oi.dst (ptr b)) w
 | [],_,_,_,h,_,_,_=>by simp[earlyOK] at h
 | (j,k) :: rest,U,a,w,hok,hf,hU,⟨o,ho,h⟩=>by
  unfold earlyOK at hok
  unfold eraseF
  by_cases hh:j=i∧k=2
  ·obtain⟨rfl,rfl⟩:=hh
   rw[if_pos ⟨rfl,rfl⟩]
   rw[hi] at ho
   cases ho
   rw[if_pos rfl] at h
   exact h T hT w b (Gr.refl w) hf hU
  ·rw[if_neg hh] at hok ⊢
   simp only[ho,Bool.and_eq_true,Bool.not_eq_true'] at hok
   obtain⟨⟨hap,hst⟩,hok⟩:=hok
   obtain⟨h1,h2,h3⟩:=Oper.apart_spec hap
   refine⟨o,ho,?_⟩
   by_cases hk:k=2
   ·rw[if_pos hk] at h ⊢
    intro T1 hT1 w1 b1 g1 f1 n1
    have:=P5 hi hT hsel hQ rest _ _ _ hok (hf.grow g1) (fun hb=>hb.elim hU (fun e=>n1 (.inr e.symm))) (h T1 hT1 w1 b1 g1 f1 (fun hb=>n1 (.inl hb)))
    rw[Act.put_comm a (ptr b) (ptr b1) h2]
    exact P4 _ _ _ _ _ (fun x hx=>by rcases hx with(hx|hx)|hx;exact .inl (.inl hx);exact .inr hx;exact .inl (.inr hx)) this
   ·rw[if_neg hk] at h ⊢
    rw[wanted_put o a oi.dst (ptr b) h1]
    by_cases hw:Region.wanted o (yielded ops a.tmps)=true
    ·rw[if_pos hw] at h ⊢
     by_cases hk1:k=1
     ·rw[if_pos hk1] at h ⊢
      obtain⟨v,hv,h⟩:=h
      refine⟨v,fun w' g=>by rw[execOp_put o (fun cs b=>hsel j o cs b ho) a oi.dst _ h1];exact hv w' g,?_⟩
      rw[Act.put_comm a (ptr b) v h2]
      exact P5 hi hT hsel hQ rest _ _ _ hok hf hU h
     ·rw[if_neg hk1] at h ⊢
      intro w1 g1
      refine J6Q hap (fun cs b=>hsel j o cs b ho) hQ (fun a' w' hr hk=>?_) (h w1 g1)
      exact P5 hi hT hsel hQ rest _ _ _ hok ((hf.grow g1).grow (hr hst)) hU hk
    ·rw[if_neg hw] at h ⊢
     rw[Act.put_comm a (ptr b) undef h2]
     exact P5 hi hT hsel hQ rest _ _ _ hok hf hU h
def okF (md:Region.Mode)(ops:Array Oper):Nat→List (Nat × Nat)→Array Bool→Bool
 | 0,_,_=>false
 | _+1,[],listed=>(Region.ready md ops listed).isEmpty
 | f+1,(i,k) :: rest,listed=>(Region.ready md ops listed).contains i &&
   if k=1 then freeG md ops listed i && okF md ops f rest (listed.setIfInBounds i true)
   else okF md ops f rest (listed.setIfInBounds i true) && (k == 2 || !hasAlloc rest || (match ops[i]? with|some o => !isStore o|none=>false)) &&
    (Region.ready md ops listed).all fun j=>j == i || ((match ops[j]? with|some oj=>earlyOK ops j oj ((i,k) :: rest)|none=>false) && okF md ops f (eraseF j ((i,k) :: rest)) (listed.setIfInBounds j true))
theorem Xd {i:Nat}{oi:Oper}:∀ (l:List (Nat × Nat)),earlyOK ops i oi l=true→(i,2) ∈ l∧hasAlloc l=true
 | [],h=>by simp[earlyOK] at h
 | (j,k) :: rest,h=>by
  unfold earlyOK at h
  by_cases hh:j=i∧k=2
  ·obtain⟨rfl,rfl⟩:=hh;exact⟨List.mem_cons_self,by simp[hasAlloc]⟩
  ·rw[if_neg hh] at h
   simp only[Bool.and_eq_true] at h
   obtain⟨h1,h2⟩:=Xd rest h.2
   exact⟨List.mem_cons_of_mem _ h1,by simp[hasAlloc,h2]⟩
theorem J6I (hs:Region.noSelect ops=true)(hQ:∀ c a d v w,Q (.panic c) (a.put d v) w→Q (.panic c) a w)(hQ':∀ c a d v w,Q (.panic c) a w→Q (.panic c) (a.put d v) w):
  ∀ (n:Nat) (l:List (Nat × Nat)),l.length=n→∀ (f:Nat) (listed:Array Bool) (U:Nat→Prop) (a:Act) (w:World),J4 md ops listed→okF md ops f l listed=true→
   (∀ i,(i,2) ∈ l→∃ o T,ops[i]?=some o∧o.guard=none∧o.op = .alloc T∧O9 P T (zc T))→(hasAlloc l=true→∀ b,U b→b < w.heap.size)→
   wpF P ops Q zc l U a w→wpAnyG P md ops Q n listed a w:=by
 intro n
 induction n with
 | zero=>
  intro l hl f listed U a w hc hok hA hU h
  have:l=[]:=List.eq_nil_of_length_eq_zero hl
  subst this
  cases f with
  | zero=>simp[okF] at hok
  | succ f=>exact⟨by simpa[okF] using hok,h⟩
 | succ n ih=>
  intro l hl f listed U a w hc hok hA hU h
  match l,hl with
  | (i,k) :: rest,hl=>
  have hl':rest.length=n:=by simpa using hl
  have hA':∀ i,(i,2) ∈ rest→∃ o T,ops[i]?=some o∧o.guard=none∧o.op = .alloc T∧O9 P T (zc T):=fun i hi=>hA i (List.mem_cons_of_mem _ hi)
  cases f with
  | zero=>simp[okF] at hok
  | succ f=>
  have h0:=h
  obtain⟨o,ho,h⟩:=h
  unfold okF at hok
  simp only[Bool.and_eq_true] at hok
  obtain⟨hr,hok⟩:=hok
  have hr':i ∈ Region.ready md ops listed:=by simpa using hr
  by_cases hk1:k=1
  ·subst hk1
   have hU':hasAlloc rest=true→∀ b,U b→b < w.heap.size:=fun hh=>hU (by simp[hasAlloc,hh])
   rw[if_pos rfl,Bool.and_eq_true] at hok
   rw[if_neg (by omega)] at h
   by_cases hw:Region.wanted o (yielded ops a.tmps)=true
   ·rw[if_pos hw,if_pos rfl] at h
    obtain⟨v,hv,h⟩:=h
    exact L8 ho (Region.noSelect_spec hs) hQ n listed a w hc (N6 ho hok.1) hr' (.mk hw hv) (ih rest hl' f _ U _ w (hc.set hr') hok.2 hA' hU' h)
   ·rw[if_neg hw] at h
    exact L8 ho (Region.noSelect_spec hs) hQ n listed a w hc (N6 ho hok.1) hr' (.inr ⟨by simpa using hw,rfl⟩) (ih rest hl' f _ U _ w (hc.set hr') hok.2 hA' hU' h)
  ·rw[if_neg hk1] at hok
   simp only[Bool.and_eq_true,List.all_eq_true] at hok
   obtain⟨⟨hok,hst⟩,hall⟩:=hok
   refine⟨fun hn=>(by rw[hn] at hr';cases hr'),fun j hj=>?_⟩
   by_cases hji:j=i
   ·subst hji
    unfold gOp wpOp
    simp only[ho]
    by_cases hk:k=2
    ·subst hk
     rw[if_pos rfl] at h
     obtain⟨o',T,ho',hg,hT,hAl⟩:=hA j List.mem_cons_self
     rw[ho] at ho';cases ho'
     rw[if_pos (by simp[Region.wanted,hg])]
     refine .inl ?_
     unfold Oper.wp
     rw[Xo hT hAl]
     simp only[Oper.upon]
     have g1:Gr w (w.alloc (.cells (zc T) T)):=(Gr.refl w).alloc _
     refine⟨fun _ _ _=>g1,ih rest hl' f _ _ _ _ (hc.set hr') hok hA' (fun hh b hb=>?_) (h T hT _ _ g1 (J0.new _ _ w) (fun hb=>?_))⟩
     ·rw[World.size_alloc]
      rcases hb with hb|hb
      ·have:=hU (by simp[hasAlloc]) b hb;omega
      ·omega
     ·have:=hU (by simp[hasAlloc]) _ hb;omega
    ·rw[if_neg hk] at h
     by_cases hw:Region.wanted o (yielded ops a.tmps)=true
     ·rw[if_pos hw,if_neg hk1] at h
      rw[if_pos hw]
      refine .inl (Oper.wp_mono (fun a' w' hkk=>⟨fun o' ho'=>?_,?_⟩) (h w (Gr.refl w)))
      ·cases ho';exact hkk.1
      ·refine ih rest hl' f _ U a' w' (hc.set hr') hok hA' (fun hh b hb=>?_) hkk.2
       have h1:=hU (by simp[hasAlloc,hh]) b hb
       have h2:isStore o=false:=by simpa[hk,hh,ho] using hst
       exact Nat.lt_of_lt_of_le h1 (hkk.1 h2).size
     ·rw[if_neg hw] at h
      rw[if_neg hw]
      exact⟨fun _ _=>relOf.refl _ _,ih rest hl' f _ U _ w (hc.set hr') hok hA' (fun hh=>hU (by simp[hasAlloc,hh])) h⟩
   ·have hj2:=hall j hj
    simp only[Bool.or_eq_true,beq_iff_eq,hji,false_or,Bool.and_eq_true] at hj2
    obtain⟨he,hokj⟩:=hj2
    cases hoj:ops[j]? with
    | none=>simp[hoj] at he
    | some oj=>
     simp only[hoj] at he
     obtain⟨hmem,hhas⟩:=Xd _ he
     obtain⟨oj',T,hoj',hg,hT,hAl⟩:=hA j hmem
     rw[hoj] at hoj';cases hoj'
     unfold gOp wpOp
     simp only[hoj]
     rw[if_pos (by simp[Region.wanted,hg])]
     refine .inl ?_
     unfold Oper.wp
     rw[Xo hT hAl]
     simp only[Oper.upon]
     have g1:Gr w (w.alloc (.cells (zc T) T)):=(Gr.refl w).alloc _
     have hnU:¬ U w.heap.size:=fun hb=>by have:=hU hhas _ hb;omega
     have hE:=P5 hoj hT (Region.noSelect_spec hs) hQ' _ U a _ he (J0.new (zc T) T w) hnU (Uw _ U a w _ hhas g1 h0)
     have hlen:=Xk _ he
     refine⟨fun _ _ _=>g1,ih (eraseF j ((i,k) :: rest)) (by omega) f _ _ _ _ (hc.set hj) hokj (fun i' hi'=>hA i' (Tc _ _ hi')) (fun _ b hb=>?_) hE⟩
     rw[World.size_alloc]
     rcases hb with hb|hb
     ·have:=hU hhas b hb;omega
     ·omega
theorem Rm {id:Nat}{a:Act}{w:World}(zc:TypeId→Array Value)(f:Nat)(order:List (Nat × Nat))(hm:P.follows .mixedOrders=true)(hs:Region.noSelect ops=true)
  (hn:order.length=ops.size) (hB:okF .any ops f order (Array.replicate ops.size false)=true) (hQ:∀ c a d v w,Q (.panic c) (a.put d v) w→Q (.panic c) a w) (hQ':∀ c a d v w,Q (.panic c) a w→Q (.panic c) (a.put d v) w)
  (hA:∀ i,(i,2) ∈ order→∃ o T,ops[i]?=some o∧o.guard=none∧o.op = .alloc T∧O9 P T (zc T))
  (h:wpF P ops Q zc order (fun b=>b < w.heap.size) a w.drew):(Code.region id ops true).wp P Q a w:=by
 refine wp_region_any hm (Nt _ _ _ _ ?_)
 have:=J6I (md:=.any) hs hQ hQ' order.length order rfl f (Array.replicate ops.size false) (fun b=>b < w.heap.size) a w.drew
  (fun j o _ hl=>by simp[Array.getElem?_replicate] at hl;split at hl<;>simp at hl) hB hA (fun _ b hb=>hb) h
 rw[hn] at this
 exact this
variable {rest:List (Nat × Nat)}{U:Nat→Prop}{a:Act}{w:World}{o:Oper}{i:Nat}
theorem Ri (h:Q .normal a w):wpF P ops Q zc [] U a w:=h
theorem Lb {wb:World}(hb:Gr wb w)(ho:ops[i]?=some o)(hw:Region.wanted o (yielded ops a.tmps)=true){v:Value}(hv:∀ w',Gr wb w'→(execOp a.eval o).run P w' = .ok (.value v) w')
  (h:∀ K:Act→World→Prop,(∀ a w,wpF P ops Q zc rest U a w→K a w)→K (a.put o.dst v) w):wpF P ops Q zc ((i,1) :: rest) U a w:=
 ⟨o,ho,by rw[if_neg (by omega),if_pos hw,if_pos rfl];exact⟨v,fun w' hg=>hv w' (hb.trans hg),h _ (fun _ _ h=>h)⟩⟩
theorem La (ho:ops[i]?=some o)(hw:Region.wanted o (yielded ops a.tmps)=true)
  (h:∀ K:Act→World→Prop,(∀ a w,wpF P ops Q zc rest U a w→K a w)→∀ w1,Gr w w1→Oper.wp P o a w1 (fun a' w'=>relOf o w1 w'∧K a' w') Q):wpF P ops Q zc ((i,0) :: rest) U a w:=
 ⟨o,ho,by rw[if_neg (by omega),if_pos hw,if_neg (by omega)];exact h _ (fun _ _ h=>h)⟩
theorem O3 {T:TypeId}(ho:ops[i]?=some o)(hT:o.op = .alloc T)
  (h:∀ K:Act→World→Prop,∀ w1 b,Gr w w1→J0 (zc T) T b w1→¬ U b→(∀ a w,wpF P ops Q zc rest (fun x=>U x∨x=b) a w→K a w)→K (a.put o.dst (.pointer (some ⟨b,0,none⟩))) w1):wpF P ops Q zc ((i,2) :: rest) U a w:=
 ⟨o,ho,by rw[if_pos rfl];intro T' hT' w1 b g f n;rw[hT] at hT';cases hT';exact h _ w1 b g f n (fun _ _ h=>h)⟩
end
end Go.Proofs.YtcjgimlcefhhmaaGreatDoor
namespace Go.Proofs.YtcjgimlcefhhmaaGreatDoor
open Go.RowKit
theorem J2X {P:Program}{ρ:Operand→Value}{o:Oper}{w:World}{c:Call}{x:Operand}{f:FuncId}{first caps:Array Value}(hop:o.op = .call c)(hc:c.callee = .value x)
  (hx:ρ x = .func (.func f) first caps) (he:∀ args w,(callFunc f args).run P w = .ok (.enter f args) w):
  (execOp ρ o).run P w = .ok (.enter f ((first ++ c.args.map ρ) ++ caps)) w:=by
 unfold execOp
 simp only[hop,resolve,hc,hx,Deferred.ofValue,invoke]
 simp[go_sem,he]
end Go.Proofs.YtcjgimlcefhhmaaGreatDoor
namespace Go.Proofs.YtcjgimlcefhhmaaGreatDoor.Inv
open Go.RowKit
section region
variable {P:Program}{ops:Array Oper}{md:Region.Mode}{Q:Exit→Act→World→Prop}{B:World→Prop}
def bOp (P:Program)(ops:Array Oper)(Q:Exit→Act→World→Prop)(B:World→Prop)(i:Nat)(K:Act→World→Prop)(a:Act)(w:World):Prop:=
 wpOp P ops Q i (fun a' w'=>B w'∧K a' w') a w
def wpAnyB (P:Program)(md:Region.Mode)(ops:Array Oper)(Q:Exit→Act→World→Prop)(B:World→Prop):Nat→Array Bool→Act→World→Prop
 | 0,listed,a,w=>Region.ready md ops listed=[]∧Q .normal a w
 | fuel+1,listed,a,w=>
  (Region.ready md ops listed=[]→Q .normal a w)∧
  ∀ i ∈ Region.ready md ops listed,bOp P ops Q B i (wpAnyB P md ops Q B fuel (listed.setIfInBounds i true)) a w
theorem Rh:∀ (fuel:Nat) (listed:Array Bool) (a:Act) (w:World),wpAnyB P md ops Q B fuel listed a w→wpAny P md ops Q fuel listed a w
 | 0,_,_,_,h=>h
 | fuel+1,_,_,_,h=>⟨h.1,fun i hi=>wpOp_mono (fun a' w' hk=>Rh fuel _ a' w' hk.2) (h.2 i hi)⟩
def Kr (P:Program)(ops:Array Oper)(B:World→Prop)(o:Oper)(v:Value)(a:Act):Prop:=
 (Region.wanted o (yielded ops a.tmps)=true∧∀ w',B w'→(execOp a.eval o).run P w' = .ok (.value v) w')∨
 (Region.wanted o (yielded ops a.tmps)=false∧v=undef)
theorem Kr.of_same {o:Oper}{v:Value}{a a':Act}(hy:Kr P ops B o v a)(he:execOp a'.eval o=execOp a.eval o)
  (hw:Region.wanted o (yielded ops a'.tmps)=Region.wanted o (yielded ops a.tmps)):Kr P ops B o v a':=by
 unfold Kr at *
 rw[he,hw]
 exact hy
theorem Kr.bOp {i:Nat}{o:Oper}{v:Value}{a:Act}{w:World}(hi:ops[i]?=some o)(hB:B w)(hy:Kr P ops B o v a)
  {K:Act→World→Prop} (h:K (a.put o.dst v) w):bOp P ops Q B i K a w:=by
 unfold Proofs.YtcjgimlcefhhmaaGreatDoor.Inv.bOp wpOp
 simp only[hi]
 rcases hy with⟨hw,hv⟩|⟨hw,rfl⟩
 ·simp only[hw,if_true,Oper.wp,hv w hB,Oper.upon];exact .inl ⟨hB,h⟩
 ·simp only[hw,Bool.false_eq_true,if_false];exact⟨hB,h⟩
theorem J1B {j:Nat}{oi oj:Oper}{v:Value}(hj:ops[j]?=some oj)(hap:oi.apart ops oj=true)
  (hsi:∀ cs b,oi.op≠.select cs b) (hsj:∀ cs b,oj.op≠.select cs b)
  (hQ:∀ c a d v w,Q (.panic c) (a.put d v) w→Q (.panic c) a w) {K:Act→World→Prop} {a:Act} {w:World}
  (hy:Kr P ops B oi v a) (h:bOp P ops Q B j K (a.put oi.dst v) w):
  bOp P ops Q B j (fun a' w'=>Kr P ops B oi v a'∧K (a'.put oi.dst v) w') a w:=by
 obtain⟨h1,h2,h3⟩:=Oper.apart_spec hap
 have keep:∀ (a:Act),Kr P ops B oi v a→∀ u,Kr P ops B oi v (a.put oj.dst u):=fun a hy u=>
  hy.of_same (execOp_put oi hsi a oj.dst u h3) (wanted_put oi a oj.dst u h3)
 have keepD:∀ d,Kr P ops B oi v a→Kr P ops B oi v { a with defers:=d :: a.defers }:=fun d hy=>hy.of_same rfl rfl
 unfold bOp wpOp at *
 simp only[hj] at *
 rw[wanted_put oj a oi.dst v h1] at h
 split
 ·rename_i hw
  simp only[hw,if_true] at h
  rcases h with h|⟨hasks,hlets⟩
  case inr=>exact .inr ⟨by unfold Oper.asks at *;rw[execOp_put oj hsj a oi.dst v h1] at hasks;exact hasks,hlets⟩
  refine .inl ?_
  unfold Oper.wp at *
  rw[execOp_put oj hsj a oi.dst v h1] at h
  generalize (execOp a.eval oj).run P w=r at *
  cases r with
  | ok n w'=>
   cases n<;>simp only[Oper.upon] at h ⊢
   case value u=>exact⟨h.1,keep a hy u,by rw[← Act.put_comm a v u h2];exact h.2⟩
   case skip=>exact⟨h.1,keep a hy _,by rw[← Act.put_comm a v undef h2];exact h.2⟩
   case defer d=>
    refine⟨h.1,keep _ (keepD d hy) _,?_⟩
    rw[← Act.put_comm _ v undef h2,← Act.put_defers]
    exact h.2
   case enter f args=>
    refine Calls.mono h fun e w'' he=>?_
    cases e with
    | returned u=>exact⟨he.1,keep a hy u,by rw[← Act.put_comm a v u h2];exact he.2⟩
    | panicked c=>exact hQ _ _ _ _ _ he
    | outgrown=>exact he
   case row row args=>exact Rows.mono h fun u w'' he=>⟨he.1,keep a hy u,by rw[← Act.put_comm a v u h2];exact he.2⟩
  | halt x w'=>
   cases x<;>simp only[Oper.upon] at h ⊢
   case panic u=>exact hQ _ _ _ _ _ h
 ·rename_i hw
  simp only[hw] at h
  exact⟨h.1,keep a (hy) _,by rw[← Act.put_comm a v undef h2];exact h.2⟩
theorem J1A {i:Nat}{a:Act}{w:World}{K K':Act→World→Prop}(h:∀ a w,B w→K a w→K' a w)
  (hh:bOp P ops Q B i K a w):bOp P ops Q B i K' a w:=wpOp_mono (fun a w hk=>⟨hk.1,h a w hk.1 hk.2⟩) hh
theorem O1 {i:Nat}{oi:Oper}{v:Value}(hi:ops[i]?=some oi)(hsel:∀ (j:Nat) (o:Oper) cs b,ops[j]?=some o→o.op≠.select cs b)
  (hQ:∀ c a d v w,Q (.panic c) (a.put d v) w→Q (.panic c) a w):
  ∀ (fuel:Nat) (listed:Array Bool) (a:Act) (w:World),B w→J4 md ops listed→
   (∀ j oj,ops[j]?=some oj→j≠i→listed.getD j true=false→¬ Jw md ops i j→oi.apart ops oj=true)→
   i ∈ Region.ready md ops listed→Kr P ops B oi v a→
   wpAnyB P md ops Q B fuel (listed.setIfInBounds i true) (a.put oi.dst v) w→wpAnyB P md ops Q B (fuel+1) listed a w:=by
 intro fuel
 induction fuel with
 | zero=>
  intro listed a w hB _ _ hr hy H
  refine⟨fun h=>(by rw[h] at hr;cases hr),fun j hj=>?_⟩
  by_cases hji:j=i
  ·subst hji;exact hy.bOp hi hB H
  ·have:=ready_mono hj hji
   rw[H.1] at this
   cases this
 | succ fuel ih=>
  intro listed a w hB hc hfree hr hy H
  refine⟨fun h=>(by rw[h] at hr;cases hr),fun j hj=>?_⟩
  by_cases hji:j=i
  ·subst hji;exact hy.bOp hi hB H
  ·have h1:=H.2 j (ready_mono hj hji)
   obtain⟨hjun,oj,hoj,hall⟩:=mem_ready.1 hj
   have hap:=hfree j oj hoj hji hjun (Jw.not_ready hc hr hj)
   have h2:=J1B hoj hap (fun cs b=>hsel i oi cs b hi) (fun cs b=>hsel j oj cs b hoj) hQ hy h1
   have hfree':∀ k ok,ops[k]?=some ok→k≠i→(listed.setIfInBounds j true).getD k true=false→
     ¬ Jw md ops i k→oi.apart ops ok=true:=fun k ok hk hki hun hno=>by
    refine hfree k ok hk hki ?_ hno
    by_cases hjk:j=k
    ·subst hjk;exact hjun
    ·rw[getD_set_ne true hjk] at hun;exact hun
   refine J1A (fun a' w' hB' h3=>ih (listed.setIfInBounds j true) a' w' hB' (hc.set hj) hfree' (ready_mono hr (Ne.symm hji)) h3.1 ?_) h2
   rw[Array.setIfInBounds_comm _ _ hji]
   exact h3.2
def wpL (P:Program)(ops:Array Oper)(Q:Exit→Act→World→Prop)(B:World→Prop):Tr→Act→World→Prop
 | .stop,a,w=>Q .normal a w
 | .read i t,a,w=>∃ o,ops[i]?=some o∧
   if Region.wanted o (yielded ops a.tmps)=true then ∃ v,(∀ w',B w'→(execOp a.eval o).run P w' = .ok (.value v) w')∧wpL P ops Q B t (a.put o.dst v) w
   else wpL P ops Q B t (a.put o.dst undef) w
 | .one i t,a,w=>∃ o,ops[i]?=some o∧
   if Region.wanted o (yielded ops a.tmps)=true then Oper.wp P o a w (fun a' w'=>B w'∧wpL P ops Q B t a' w') Q
   else wpL P ops Q B t (a.put o.dst undef) w
 | .two i t j u,a,w=>
   (∃ o,ops[i]?=some o∧if Region.wanted o (yielded ops a.tmps)=true then Oper.wp P o a w (fun a' w'=>B w'∧wpL P ops Q B t a' w') Q else wpL P ops Q B t (a.put o.dst undef) w)∧
   (∃ o,ops[j]?=some o∧if Region.wanted o (yielded ops a.tmps)=true then Oper.wp P o a w (fun a' w'=>B w'∧wpL P ops Q B u a' w') Q else wpL P ops Q B u (a.put o.dst undef) w)
def freeL (ops:Array Oper)(oi:Oper)(skip:Nat):List Oper→Nat→Bool
 | [],_=>true
 | o :: l,j=>(tb skip j || oi.apart ops o) && freeL ops oi skip l (j+1)
theorem Xt {oi:Oper}{skip:Nat}:∀ (l:List Oper) (k:Nat),(∀ j,l[j]?=ops[k+j]?)→freeL ops oi skip l k=true→
  ∀ j o,k≤j→ops[j]?=some o→skip.testBit j=false→oi.apart ops o=true
 | [],k,hl,_,j,o,hk,hj,_=>by
  have:=hl (j - k)
  rw[show k+(j - k)=j by omega,hj] at this
  cases this
 | o' :: l,k,hl,h,j,o,hk,hj,hs=>by
  unfold freeL at h
  rw[Bool.and_eq_true] at h
  by_cases hjk:j=k
  ·subst hjk
   have h0:ops[j]?=some o':=by simpa using(hl 0).symm
   rw[h0] at hj
   cases hj
   have h1:=h.1
   rw[M4,hs,Bool.false_or] at h1
   exact h1
  ·exact Xt l (k+1) (fun j=>by have:=hl (j+1);simpa[Nat.add_assoc,Nat.add_comm 1 j] using this) h.2 j o (by omega) hj hs
def looseB (md:Region.Mode)(ops:Array Oper)(os:List Oper):Tr→Nat→Bool
 | .stop,L=>onlyM md L L os 0
 | .read i t,L=>match os[i]? with
  | none=>false
  | some oi=>readyM md os L i && (freeL ops oi (Nat.lor (Nat.lor L (Nat.pow 2 i)) (waitsM md (Nat.pow 2 i) os 0 0)) os 0 && looseB md ops os t (Nat.lor L (Nat.pow 2 i)))
 | .one i t,L=>readyM md os L i && (onlyM md L (Nat.lor L (Nat.pow 2 i)) os 0 && looseB md ops os t (Nat.lor L (Nat.pow 2 i)))
 | .two i t j u,L=>(readyM md os L i && readyM md os L j) && ((Nat.beq t.len u.len && onlyM md L (Nat.lor (Nat.lor L (Nat.pow 2 i)) (Nat.pow 2 j)) os 0) &&
   (looseB md ops os t (Nat.lor L (Nat.pow 2 i)) && looseB md ops os u (Nat.lor L (Nat.pow 2 j))))
theorem J6G (hs:Region.noSelect ops=true)(hQ:∀ c a d v w,Q (.panic c) (a.put d v) w→Q (.panic c) a w):
  ∀ (t:Tr) (L:Nat) (listed:Array Bool) (a:Act) (w:World),B w→listed.size=ops.size→(∀ j,listed.getD j false=L.testBit j)→J4 md ops listed→looseB md ops ops.toList t L=true→wpL P ops Q B t a w→wpAnyB P md ops Q B t.len listed a w:=by
 have key:∀ (i:Nat) (t:Tr) (L:Nat) (listed:Array Bool) (a:Act) (w:World),B w→listed.size=ops.size→(∀ j,listed.getD j false=L.testBit j)→J4 md ops listed→i ∈ Region.ready md ops listed→
   (∀ a w,B w→(listed.setIfInBounds i true).size=ops.size→(∀ j,(listed.setIfInBounds i true).getD j false=(Nat.lor L (Nat.pow 2 i)).testBit j)→J4 md ops (listed.setIfInBounds i true)→wpL P ops Q B t a w→wpAnyB P md ops Q B t.len (listed.setIfInBounds i true) a w)→
   (∃ o,ops[i]?=some o∧if Region.wanted o (yielded ops a.tmps)=true then Oper.wp P o a w (fun a' w'=>B w'∧wpL P ops Q B t a' w') Q else wpL P ops Q B t (a.put o.dst undef) w)→
   bOp P ops Q B i (wpAnyB P md ops Q B t.len (listed.setIfInBounds i true)) a w:=by
  intro i t L listed a w hB hz hL hc hr ih h
  obtain⟨o,ho,h⟩:=h
  have hlt:i < listed.size:=by rw[hz];exact(Array.getElem?_eq_some_iff.1 ho).1
  have hz':(listed.setIfInBounds i true).size=ops.size:=by simpa using hz
  have hL':=Pz hlt hL
  have hc':J4 md ops (listed.setIfInBounds i true):=hc.set hr
  unfold bOp wpOp
  simp only[ho]
  by_cases hw:Region.wanted o (yielded ops a.tmps)=true
  ·rw[if_pos hw] at h
   rw[if_pos hw]
   exact .inl (Oper.wp_mono (fun a' w' hk=>⟨hk.1,ih a' w' hk.1 hz' hL' hc' hk.2⟩) h)
  ·rw[if_neg hw] at h
   rw[if_neg hw]
   exact⟨hB,ih _ _ hB hz' hL' hc' h⟩
 intro t
 induction t with
 | stop=>
  intro L listed a w hB hz hL _ hF h
  refine⟨?_,h⟩
  rw[List.eq_nil_iff_forall_not_mem]
  intro j hj
  obtain⟨_,o,ho,_⟩:=mem_ready.1 hj
  have h1:=(L5 hz hL ho).1 hj
  have h2:=Mg ops.toList 0 (by simp) hF j o (Nat.zero_le _) ho h1.1
  rw[h1.2] at h2
  cases h2
 | read i t ih=>
  intro L listed a w hB hz hL hc hF h
  obtain⟨o,ho,h⟩:=h
  have hlt:i < listed.size:=by rw[hz];exact(Array.getElem?_eq_some_iff.1 ho).1
  have ho':ops.toList[i]?=some o:=by simpa using ho
  simp only[looseB,ho',Bool.and_eq_true] at hF
  obtain⟨hr,hf,hF'⟩:=hF
  have hr':=Tt hz hL hr
  have hz':(listed.setIfInBounds i true).size=ops.size:=by simpa using hz
  have hL':=Pz hlt hL
  have hfree:∀ j oj,ops[j]?=some oj→j≠i→listed.getD j true=false→¬ Jw md ops i j→o.apart ops oj=true:=fun j oj hj hne hun hno=>by
   refine Xt ops.toList 0 (by simp) hf j oj (Nat.zero_le _) hj ?_
   have hjl:j < listed.size:=by rw[hz];exact(Array.getElem?_eq_some_iff.1 hj).1
   have e:listed.getD j true=L.testBit j:=by rw[← hL j];simp[hjl]
   show((L ||| 2 ^ i) ||| waitsM md (2 ^ i) ops.toList 0 0).testBit j=false
   rw[Nat.testBit_or,Nat.testBit_or,← e,hun,Nat.testBit_two_pow]
   cases hwt:(waitsM md (2 ^ i) ops.toList 0 0).testBit j
   ·simp[Ne.symm hne]
   ·exact absurd (Ns (md:=md) (ops:=ops) (i:=i) ops.toList 0 0 (by simp) (by simp) j hwt) hno
  by_cases hw:Region.wanted o (yielded ops a.tmps)=true
  ·rw[if_pos hw] at h
   obtain⟨v,hv,h⟩:=h
   exact O1 ho (Region.noSelect_spec hs) hQ t.len listed a w hB hc hfree hr' (.inl ⟨hw,hv⟩) (ih _ _ _ _ hB hz' hL' (hc.set hr') hF' h)
  ·rw[if_neg hw] at h
   exact O1 ho (Region.noSelect_spec hs) hQ t.len listed a w hB hc hfree hr' (.inr ⟨by simpa using hw,rfl⟩) (ih _ _ _ _ hB hz' hL' (hc.set hr') hF' h)
 | one i t ih=>
  intro L listed a w hB hz hL hc hF h
  simp only[looseB,Bool.and_eq_true] at hF
  obtain⟨hr,hf,hF'⟩:=hF
  have hr':=Tt hz hL hr
  refine⟨fun h0=>(by rw[h0] at hr';cases hr'),fun j hj=>?_⟩
  obtain⟨_,oj,hoj,_⟩:=mem_ready.1 hj
  have h1:=(L5 hz hL hoj).1 hj
  have hji:j=i:=by
   by_cases hji:j=i
   ·exact hji
   ·have h3:(Nat.lor L (Nat.pow 2 i)).testBit j=false:=by
     show(L ||| 2 ^ i).testBit j=false
     rw[Nat.testBit_or,h1.1,Nat.testBit_two_pow]
     simp[Ne.symm hji]
    have h2:=Mg ops.toList 0 (by simp) hf j oj (Nat.zero_le _) hoj h3
    rw[h1.2] at h2
    cases h2
  subst hji
  exact key j t L listed a w hB hz hL hc hj (fun a w hB h1 h2 h3 h4=>ih _ _ _ _ hB h1 h2 h3 hF' h4) h
 | two i t j u iht ihu=>
  intro L listed a w hB hz hL hc hF h
  simp only[looseB,Bool.and_eq_true] at hF
  obtain⟨⟨hri,hrj⟩,⟨hlen,hf⟩,hBt,hBu⟩:=hF
  have hri':=Tt hz hL hri
  have hlen':t.len=u.len:=Nat.eq_of_beq_eq_true hlen
  refine⟨fun h0=>(by rw[h0] at hri';cases hri'),fun k hk=>?_⟩
  obtain⟨_,ok,hok,_⟩:=mem_ready.1 hk
  have h1:=(L5 hz hL hok).1 hk
  have hki:k=i∨k=j:=by
   by_cases hki:k=i
   ·exact .inl hki
   ·by_cases hkj:k=j
    ·exact .inr hkj
    ·have h3:(Nat.lor (Nat.lor L (Nat.pow 2 i)) (Nat.pow 2 j)).testBit k=false:=by
      show((L ||| 2 ^ i) ||| 2 ^ j).testBit k=false
      rw[Nat.testBit_or,Nat.testBit_or,h1.1,Nat.testBit_two_pow,Nat.testBit_two_pow]
      simp[Ne.symm hki,Ne.symm hkj]
     have h2:=Mg ops.toList 0 (by simp) hf k ok (Nat.zero_le _) hok h3
     rw[h1.2] at h2
     cases h2
  rcases hki with rfl|rfl
  ·exact key k t L listed a w hB hz hL hc hk (fun a w hB h1 h2 h3 h4=>iht _ _ _ _ hB h1 h2 h3 hBt h4) h.1
  ·show bOp P ops Q B k (wpAnyB P md ops Q B t.len (listed.setIfInBounds k true)) a w
   rw[hlen']
   exact key k u L listed a w hB hz hL hc hk (fun a w hB h1 h2 h3 h4=>ihu _ _ _ _ hB h1 h2 h3 hBu h4) h.2
theorem Of {id:Nat}{a:Act}{w:World}(B:World→Prop)(t:Tr)(hB:B w.drew)(hm:P.follows .mixedOrders=true)(hs:Region.noSelect ops=true)
  (hn:t.len=ops.size) (hF:looseB .any ops ops.toList t 0=true) (hQ:∀ c a d v w,Q (.panic c) (a.put d v) w→Q (.panic c) a w)
  (h:wpL P ops Q B t a w.drew):(Code.region id ops true).wp P Q a w:=by
 refine wp_region_any hm (Rh _ _ _ _ (B:=B) ?_)
 have:=J6G (md:=.any) hs hQ t 0 (Array.replicate ops.size false) a w.drew hB (by simp) (fun j=>by
  rw[Nat.zero_testBit]
  by_cases hj:j < ops.size<;>simp[Array.getElem?_replicate,hj]) (fun j o _ hl=>by simp[Array.getElem?_replicate] at hl;split at hl<;>simp at hl) hF h
 rw[hn] at this
 exact this
end region
section steps
variable {P:Program}{ops:Array Oper}{Q:Exit→Act→World→Prop}{i:Nat}{t:Tr}{a:Act}{w:World}{B:World→Prop}{o:Oper}
theorem Nw (h:Q .normal a w):wpL P ops Q B .stop a w:=h
theorem Lw (ho:ops[i]?=some o)(hw:Region.wanted o (yielded ops a.tmps)=true){v:Value}(hv:∀ w',B w'→(execOp a.eval o).run P w' = .ok (.value v) w')
  (h:∀ K:Act→World→Prop,(∀ a w,wpL P ops Q B t a w→K a w)→K (a.put o.dst v) w):wpL P ops Q B (.read i t) a w:=
 ⟨o,ho,by rw[if_pos hw];exact⟨v,hv,h _ (fun _ _ h=>h)⟩⟩
theorem Rj (ho:ops[i]?=some o)(hw:Region.wanted o (yielded ops a.tmps)=true)
  (h:∀ K:Act→World→Prop,(∀ a w,wpL P ops Q B t a w→K a w)→Oper.wp P o a w (fun a' w'=>B w'∧K a' w') Q):wpL P ops Q B (.one i t) a w:=
 ⟨o,ho,by rw[if_pos hw];exact h _ (fun _ _ h=>h)⟩
theorem J18 {c:Call}{x:Operand}{f:FuncId}{first caps args:Array Value}
  (ho:ops[i]?=some o) (hw:Region.wanted o (yielded ops a.tmps)=true) (hop:o.op = .call c) (hc:c.callee = .value x) (hx:a.eval x = .func (.func f) first caps)
  (he:∀ args w,(callFunc f args).run P w = .ok (.enter f args) w) (hargs:(first ++ c.args.map a.eval) ++ caps=args)
  (h:∀ K:Act→World→Prop,(∀ a w,wpL P ops Q B t a w→K a w)→Calls P f args w fun e w'=>∃ v,e = .returned v∧B w'∧K (a.put o.dst v) w'):wpL P ops Q B (.one i t) a w:=by
 refine Rj ho hw fun K hK=>?_
 unfold Oper.wp
 rw[J2X hop hc hx he,hargs]
 simp only[Oper.upon]
 refine(h K hK).mono ?_
 rintro e w' ⟨v,rfl,hb,hk⟩
 exact⟨hb,hk⟩
theorem J17 {c:Call}{x:Operand}{f:FuncId}{first caps args:Array Value}{fn:Func}
  (ho:ops[i]?=some o) (hw:Region.wanted o (yielded ops a.tmps)=true) (hop:o.op = .call c) (hc:c.callee = .value x) (hx:a.eval x = .func (.func f) first caps)
  (hf : P.funcs[f]? = some fn) (hn : (fn.name == "runtime.NumGoroutine") = false) (hb : fn.body.isNone = false) (hargs : (first ++ c.args.map a.eval) ++ caps = args)
  (h:∀ K:Act→World→Prop,(∀ a w,wpL P ops Q B t a w→K a w)→Calls P f args w fun e w'=>∃ v,e = .returned v∧B w'∧K (a.put o.dst v) w'):wpL P ops Q B (.one i t) a w:=by
 refine Rj ho hw fun K hK=>?_
 unfold Oper.wp
 rw[Qo hop hc hx hf hn hb,hargs]
 simp only[Oper.upon]
 refine(h K hK).mono ?_
 rintro e w' ⟨v,rfl,hb,hk⟩
 exact⟨hb,hk⟩
end steps
end Go.Proofs.YtcjgimlcefhhmaaGreatDoor.Inv
namespace Go.Proofs.YtcjgimlcefhhmaaGreatDoor.LateL
open Go.RowKit
section
variable {P:Program}{ops:Array Oper}{md:Region.Mode}{Q:Exit→Act→World→Prop}{B:World→Prop}{zc:TypeId→Array Value}
def Kr (P:Program)(ops:Array Oper)(B:World→Prop)(o:Oper)(v:Value)(a:Act):Prop:=
 (Region.wanted o (yielded ops a.tmps)=true∧∀ w',B w'→(execOp a.eval o).run P w' = .ok (.value v) w')∨
 (Region.wanted o (yielded ops a.tmps)=false∧v=undef)
theorem Kr.of_same {o:Oper}{v:Value}{a a':Act}(hy:Kr P ops B o v a)(he:execOp a'.eval o=execOp a.eval o)
  (hw:Region.wanted o (yielded ops a'.tmps)=Region.wanted o (yielded ops a.tmps)):Kr P ops B o v a':=by
 unfold Kr at *
 rw[he,hw]
 exact hy
def freeJ (md:Region.Mode)(ops:Array Oper)(listed:Array Bool)(i:Nat):Bool:=
 match ops[i]? with
 | none=>false
 | some oi=>
  (List.range ops.size).all fun j=>j == i || listed.getD j true || match ops[j]? with
   | some oj=>oi.apart ops oj || (waitsGo md i ops.toList #[]).getD j false
   | none=>true
theorem Qp {i:Nat}{oi:Oper}{listed:Array Bool}(hi:ops[i]?=some oi)(h:freeJ md ops listed i=true)(j:Nat)(oj:Oper)
  (hj:ops[j]?=some oj) (hne:j≠i) (hun:listed.getD j true=false) (hno:¬ Jw md ops i j):oi.apart ops oj=true:=by
 simp only[freeJ,hi,List.all_eq_true,List.mem_range] at h
 have h1:=h j (Array.getElem?_eq_some_iff.1 hj).1
 simp only[hj,Bool.or_eq_true,beq_iff_eq,hne,false_or,hun,Bool.false_eq_true] at h1
 rcases h1 with h1|h1
 ·exact h1
 ·exact absurd (O0 (md:=md) (ops:=ops) (i:=i) ops.toList #[] (by simp) (by simp) j h1) hno
variable {rest:List (Nat × Nat)}{U:Nat→Prop}{a:Act}{w:World}{o:Oper}{i:Nat}
end
end Go.Proofs.YtcjgimlcefhhmaaGreatDoor.LateL
namespace Go.Proofs.YtcjgimlcefhhmaaGreatDoor.LateN
open Go.RowKit
open Go.Proofs.YtcjgimlcefhhmaaGreatDoor.LateL (freeJ Qp)
open Go.Proofs.YtcjgimlcefhhmaaGreatDoor.Inv (bOp wpAnyB Rh O1)
structure NewS where
 T:TypeId
 Z:Array Value
 v:Nat→Value
section
variable {P:Program}{ops:Array Oper}{md:Region.Mode}{Q:Exit→Act→World→Prop}{B:World→Prop}{nw:Nat→NewS}
def earlyN (ops:Array Oper)(i:Nat)(oi:Oper):List (Nat × Nat)→Bool
 | []=>false
 | (j,k) :: rest=>if j=i∧k=2 then true else (match ops[j]? with|some oj=>oi.apart ops oj|none=>false) && earlyN ops i oi rest
theorem Xb {i:Nat}{oi:Oper}:∀ (l:List (Nat × Nat)),earlyN ops i oi l=true→(eraseF i l).length+1=l.length
 | [],h=>by simp[earlyN] at h
 | (j,k) :: rest,h=>by
  unfold earlyN at h
  unfold eraseF
  split
  ·rfl
  ·rename_i hn
   rw[if_neg hn] at h
   simp only[Bool.and_eq_true] at h
   simp[Xb rest h.2]
theorem Sh {i:Nat}{oi:Oper}:∀ (l:List (Nat × Nat)),earlyN ops i oi l=true→hasAlloc l=true
 | [],h=>by simp[earlyN] at h
 | (j,k) :: rest,h=>by
  unfold earlyN at h
  by_cases hh:j=i∧k=2
  ·obtain⟨rfl,rfl⟩:=hh;simp[hasAlloc]
  ·rw[if_neg hh] at h
   simp only[Bool.and_eq_true] at h
   simp[hasAlloc,Sh rest h.2]
def Md (P:Program)(ops:Array Oper)(nw:Nat→NewS)(i:Nat)(a:Act):Prop:=∃ o,ops[i]?=some o∧o.guard=none∧∀ w',(execOp a.eval o).run P w' = .ok (.value ((nw i).v w'.heap.size)) (w'.alloc (.cells (nw i).Z (nw i).T))
def keepsN (ops:Array Oper)(oj:Oper)(l:List (Nat × Nat)):Bool:=l.all fun x=>x.2 != 2 || (match ops[x.1]? with|some oi=>oi.apart ops oj|none=>false)
theorem Yh {oj:Oper}{l:List (Nat × Nat)}(h:keepsN ops oj l=true){i:Nat}{oi:Oper}(hi:ops[i]?=some oi)(hm:(i,2) ∈ l):oi.apart ops oj=true:=by
 unfold keepsN at h
 have:=List.all_eq_true.1 h _ hm
 simpa[hi] using this
def okN (md:Region.Mode)(ops:Array Oper):Nat→List (Nat × Nat)→Array Bool→Bool
 | 0,_,_=>false
 | _+1,[],listed=>(Region.ready md ops listed).isEmpty
 | f+1,(i,k) :: rest,listed=>(Region.ready md ops listed).contains i && (match ops[i]? with|some oi=>keepsN ops oi rest|none=>false) &&
   if k=1 then freeJ md ops listed i && okN md ops f rest (listed.setIfInBounds i true)
   else okN md ops f rest (listed.setIfInBounds i true) &&
    (Region.ready md ops listed).all fun j=>j == i || ((match ops[j]? with|some oj=>earlyN ops j oj ((i,k) :: rest) && keepsN ops oj (eraseF j ((i,k) :: rest))|none=>false) && okN md ops f (eraseF j ((i,k) :: rest)) (listed.setIfInBounds j true))
def wpN (P:Program)(ops:Array Oper)(Q:Exit→Act→World→Prop)(B:World→Prop)(nw:Nat→NewS):List (Nat × Nat)→(Nat→Prop)→Act→World→Prop
 | [],_,a,w=>Q .normal a w
 | (i,k) :: rest,U,a,w=>∃ o,ops[i]?=some o∧
   if k=2 then ∀ w1 b,Gr w w1→J0 (nw i).Z (nw i).T b w1→¬ U b→wpN P ops Q B nw rest (fun x=>U x∨x=b) (a.put o.dst ((nw i).v b)) w1
   else if Region.wanted o (yielded ops a.tmps)=true then
    (if k=1 then ∃ v,(∀ w',B w'→(execOp a.eval o).run P w' = .ok (.value v) w')∧wpN P ops Q B nw rest U (a.put o.dst v) w
     else ∀ w1,Gr w w1→Oper.wp P o a w1 (fun a' w'=>(hasAlloc rest=true→Gr w1 w')∧B w'∧wpN P ops Q B nw rest (fun x=>U x∨(w1.heap.size≤x∧x < w'.heap.size)) a' w') Q)
   else wpN P ops Q B nw rest U (a.put o.dst undef) w
theorem O6:∀ (l:List (Nat × Nat)) (U U':Nat→Prop) (a:Act) (w:World),(∀ x,U x→U' x)→wpN P ops Q B nw l U a w→wpN P ops Q B nw l U' a w
 | [],_,_,_,_,_,h=>h
 | (i,k) :: rest,U,U',a,w,hU,⟨o,ho,h⟩=>by
  refine⟨o,ho,?_⟩
  by_cases hk:k=2
  ·rw[if_pos hk] at h ⊢
   exact fun w1 b g f n=>O6 rest _ _ _ _ (fun x hx=>hx.imp (hU x) id) (h w1 b g f (fun hb=>n (hU b hb)))
  ·rw[if_neg hk] at h ⊢
   by_cases hw:Region.wanted o (yielded ops a.tmps)=true
   ·rw[if_pos hw] at h ⊢
    by_cases hk1:k=1
    ·rw[if_pos hk1] at h ⊢
     obtain⟨v,hv,h⟩:=h
     exact⟨v,hv,O6 rest _ _ _ _ hU h⟩
    ·rw[if_neg hk1] at h ⊢
     exact fun w1 g=>Oper.wp_mono (fun a' w' hk=>⟨hk.1,hk.2.1,O6 rest _ _ _ _ (fun x hx=>hx.imp (hU x) id) hk.2.2⟩) (h w1 g)
   ·rw[if_neg hw] at h ⊢
    exact O6 rest _ _ _ _ hU h
theorem Uy:∀ (l:List (Nat × Nat)) (U:Nat→Prop) (a:Act) (w w':World),hasAlloc l=true→Gr w w'→wpN P ops Q B nw l U a w→wpN P ops Q B nw l U a w'
 | [],_,_,_,_,h,_,_=>by simp[hasAlloc] at h
 | (i,k) :: rest,U,a,w,w',hl,g,⟨o,ho,h⟩=>by
  refine⟨o,ho,?_⟩
  by_cases hk:k=2
  ·rw[if_pos hk] at h ⊢
   exact fun w1 b g1 f n=>h w1 b (g.trans g1) f n
  ·have hl':hasAlloc rest=true:=by simpa[hasAlloc,hk] using hl
   rw[if_neg hk] at h ⊢
   by_cases hw:Region.wanted o (yielded ops a.tmps)=true
   ·rw[if_pos hw] at h ⊢
    by_cases hk1:k=1
    ·rw[if_pos hk1] at h ⊢
     obtain⟨v,hv,h⟩:=h
     exact⟨v,hv,Uy rest U _ _ _ hl' g h⟩
    ·rw[if_neg hk1] at h ⊢
     exact fun w1 g1=>h w1 (g.trans g1)
   ·rw[if_neg hw] at h ⊢
    exact Uy rest U _ _ _ hl' g h
theorem Md.keep {i:Nat}{oj:Oper}{a:Act}(hsel:∀ (j:Nat) (o:Oper) cs b,ops[j]?=some o→o.op≠.select cs b)(h:Md P ops nw i a)(hap:∀ oi,ops[i]?=some oi→oi.apart ops oj=true)(u:Value):Md P ops nw i (a.put oj.dst u):=by
 obtain⟨o,ho,hg,hr⟩:=h
 obtain⟨h1,h2,h3⟩:=Oper.apart_spec (hap o ho)
 exact⟨o,ho,hg,fun w'=>by rw[execOp_put o (fun cs b=>hsel i o cs b ho) a oj.dst u h3];exact hr w'⟩
theorem J6P {oj:Oper}{Y:Act→Prop}{K:Act→World→Prop}{a:Act}{w:World}(hY:∀ a u,Y a→Y (a.put oj.dst u))(hD:∀ a d,Y a→Y { a with defers:=d :: a.defers })(ha:Y a)(h:Oper.wp P oj a w K Q):Oper.wp P oj a w (fun a' w'=>Y a'∧K a' w') Q:=by
 unfold Oper.wp at *
 generalize (execOp a.eval oj).run P w=r at *
 cases r with
 | ok n w'=>
  cases n<;>simp only[Oper.upon] at h ⊢
  case value u=>exact⟨hY _ _ ha,h⟩
  case skip=>exact⟨hY _ _ ha,h⟩
  case defer d=>exact⟨hY _ _ (hD _ _ ha),h⟩
  case enter f args=>
   refine Calls.mono h fun e w'' he=>?_
   cases e with
   | returned u=>exact⟨hY _ _ ha,he⟩
   | panicked c=>exact he
   | outgrown=>exact he
  case row row args=>exact Rows.mono h fun u w'' he=>⟨hY _ _ ha,he⟩
 | halt x w'=>
  cases x<;>simp only[Oper.upon] at h ⊢
  case panic u=>exact h
theorem J6R {oi oj:Oper}{v:Value}(hap:oi.apart ops oj=true)(hsj:∀ cs b,oj.op≠.select cs b)
  (hQ:∀ c a d v w,Q (.panic c) a w→Q (.panic c) (a.put d v) w) {K K':Act→World→Prop} {a:Act} {w:World}
  (hK:∀ a' w',K a' w'→K' (a'.put oi.dst v) w')
  (h:Oper.wp P oj a w K Q):Oper.wp P oj (a.put oi.dst v) w K' Q:=by
 obtain⟨h1,h2,h3⟩:=Oper.apart_spec hap
 unfold Oper.wp at *
 rw[execOp_put oj hsj a oi.dst v h1]
 generalize (execOp a.eval oj).run P w=r at *
 cases r with
 | ok n w'=>
  cases n<;>simp only[Oper.upon] at h ⊢
  case value u=>rw[Act.put_comm a v u h2];exact hK _ _ h
  case skip=>rw[Act.put_comm a v undef h2];exact hK _ _ h
  case defer d=>
   rw[Act.put_defers,Act.put_comm _ v undef h2]
   exact hK _ _ h
  case enter f args=>
   refine Calls.mono h fun e w'' he=>?_
   cases e with
   | returned u=>exact(show K' ((a.put oi.dst v).put oj.dst u) w'' from by rw[Act.put_comm a v u h2];exact hK _ _ he)
   | panicked c=>exact hQ _ _ _ _ _ he
   | outgrown=>exact he
  case row row args=>exact Rows.mono h fun u w'' he=>by rw[Act.put_comm a v u h2];exact hK _ _ he
 | halt x w'=>
  cases x<;>simp only[Oper.upon] at h ⊢
  case panic u=>exact hQ _ _ _ _ _ h
theorem P7 {i:Nat}{oi:Oper}{b:Nat}(hi:ops[i]?=some oi)(hsel:∀ (j:Nat) (o:Oper) cs b,ops[j]?=some o→o.op≠.select cs b)
  (hQ:∀ c a d v w,Q (.panic c) a w→Q (.panic c) (a.put d v) w):
  ∀ (l:List (Nat × Nat)) (U:Nat→Prop) (a:Act) (w:World),earlyN ops i oi l=true→J0 (nw i).Z (nw i).T b w→¬ U b→wpN P ops Q B nw l U a w→wpN P ops Q B nw (eraseF i l) (fun x=>U x∨x=b) (a.put oi.dst ((nw i).v b)) w
 | [],_,_,_,h,_,_,_=>by simp[earlyN] at h
 | (j,k) :: rest,U,a,w,hok,hf,hU,⟨o,ho,h⟩=>by
  unfold earlyN at hok
  unfold eraseF
  by_cases hh:j=i∧k=2
  ·obtain⟨rfl,rfl⟩:=hh
   rw[if_pos ⟨rfl,rfl⟩]
   rw[hi] at ho
   cases ho
   rw[if_pos rfl] at h
   exact h w b (Gr.refl w) hf hU
  ·rw[if_neg hh] at hok ⊢
   simp only[ho,Bool.and_eq_true] at hok
   obtain⟨hap,hok⟩:=hok
   obtain⟨h1,h2,h3⟩:=Oper.apart_spec hap
   refine⟨o,ho,?_⟩
   by_cases hk:k=2
   ·rw[if_pos hk] at h ⊢
    intro w1 b1 g1 f1 n1
    have:=P7 hi hsel hQ rest _ _ _ hok (hf.grow g1) (fun hb=>hb.elim hU (fun e=>n1 (.inr e.symm))) (h w1 b1 g1 f1 (fun hb=>n1 (.inl hb)))
    rw[Act.put_comm a ((nw i).v b) ((nw j).v b1) h2]
    exact O6 _ _ _ _ _ (fun x hx=>by rcases hx with(hx|hx)|hx;exact .inl (.inl hx);exact .inr hx;exact .inl (.inr hx)) this
   ·rw[if_neg hk] at h ⊢
    rw[wanted_put o a oi.dst ((nw i).v b) h1]
    by_cases hw:Region.wanted o (yielded ops a.tmps)=true
    ·rw[if_pos hw] at h ⊢
     by_cases hk1:k=1
     ·rw[if_pos hk1] at h ⊢
      obtain⟨v,hv,h⟩:=h
      refine⟨v,fun w' g=>by rw[execOp_put o (fun cs b=>hsel j o cs b ho) a oi.dst _ h1];exact hv w' g,?_⟩
      rw[Act.put_comm a ((nw i).v b) v h2]
      exact P7 hi hsel hQ rest _ _ _ hok hf hU h
     ·rw[if_neg hk1] at h ⊢
      intro w1 g1
      refine J6R hap (fun cs b=>hsel j o cs b ho) hQ (fun a' w' hk=>?_) (h w1 g1)
      obtain⟨k1,k2,k3⟩:=hk
      have gr:=k1 (Sh rest hok)
      exact⟨fun _=>gr,k2,O6 _ _ _ _ _ (fun x hx=>by rcases hx with(hx|hx)|hx;exact .inl (.inl hx);exact .inr hx;exact .inl (.inr hx)) (P7 hi hsel hQ rest _ _ _ hok ((hf.grow g1).grow gr) (fun hx=>hx.elim hU (fun hx=>by have hb:b < w1.heap.size:=Nat.lt_of_lt_of_le hf.lt g1.size;omega)) k3)⟩
    ·rw[if_neg hw] at h ⊢
     rw[Act.put_comm a ((nw i).v b) undef h2]
     exact P7 hi hsel hQ rest _ _ _ hok hf hU h
theorem Xc {i:Nat}{oi:Oper}:∀ (l:List (Nat × Nat)),earlyN ops i oi l=true→(i,2) ∈ l
 | [],h=>by simp[earlyN] at h
 | (j,k) :: rest,h=>by
  unfold earlyN at h
  by_cases hh:j=i∧k=2
  ·obtain⟨rfl,rfl⟩:=hh;exact List.mem_cons_self
  ·rw[if_neg hh] at h
   simp only[Bool.and_eq_true] at h
   exact List.mem_cons_of_mem _ (Xc rest h.2)
theorem J6H (hBg:∀ w w',B w→Gr w w'→B w')(hs:Region.noSelect ops=true)(hQ:∀ c a d v w,Q (.panic c) (a.put d v) w→Q (.panic c) a w)(hQ':∀ c a d v w,Q (.panic c) a w→Q (.panic c) (a.put d v) w):
  ∀ (n:Nat) (l:List (Nat × Nat)),l.length=n→∀ (f:Nat) (listed:Array Bool) (U:Nat→Prop) (a:Act) (w:World),B w→J4 md ops listed→okN md ops f l listed=true→
   (∀ i,(i,2) ∈ l→Md P ops nw i a)→(hasAlloc l=true→∀ b,U b→b < w.heap.size)→wpN P ops Q B nw l U a w→wpAnyB P md ops Q B n listed a w:=by
 intro n
 induction n with
 | zero=>
  intro l hl f listed U a w hB hc hok hA hU h
  have:l=[]:=List.eq_nil_of_length_eq_zero hl
  subst this
  cases f with
  | zero=>simp[okN] at hok
  | succ f=>exact⟨by simpa[okN] using hok,h⟩
 | succ n ih=>
  intro l hl f listed U a w hB hc hok hA hU h
  match l,hl with
  | (i,k) :: rest,hl=>
  have hl':rest.length=n:=by simpa using hl
  cases f with
  | zero=>simp[okN] at hok
  | succ f=>
  have h0:=h
  obtain⟨o,ho,h⟩:=h
  unfold okN at hok
  simp only[Bool.and_eq_true,ho] at hok
  obtain⟨⟨hr,hkeep⟩,hok⟩:=hok
  have hr':i ∈ Region.ready md ops listed:=by simpa using hr
  have hput:∀ a u,(∀ i,(i,2) ∈ rest→Md P ops nw i a)→∀ i,(i,2) ∈ rest→Md P ops nw i (a.put o.dst u):=fun a u hA i' hi'=>
   (hA i' hi').keep (Region.noSelect_spec hs) (fun oi hoi=>Yh hkeep hoi hi') u
  have hA':∀ i,(i,2) ∈ rest→Md P ops nw i a:=fun i hi=>hA i (List.mem_cons_of_mem _ hi)
  by_cases hk1:k=1
  ·subst hk1
   have hU':hasAlloc rest=true→∀ b,U b→b < w.heap.size:=fun hh=>hU (by simp[hasAlloc,hh])
   rw[if_pos rfl,Bool.and_eq_true] at hok
   rw[if_neg (by omega)] at h
   by_cases hw:Region.wanted o (yielded ops a.tmps)=true
   ·rw[if_pos hw,if_pos rfl] at h
    obtain⟨v,hv,h⟩:=h
    exact O1 ho (Region.noSelect_spec hs) hQ n listed a w hB hc (Qp ho hok.1) hr' (.inl ⟨hw,hv⟩) (ih rest hl' f _ U _ w hB (hc.set hr') hok.2 (hput _ _ hA') hU' h)
   ·rw[if_neg hw] at h
    exact O1 ho (Region.noSelect_spec hs) hQ n listed a w hB hc (Qp ho hok.1) hr' (.inr ⟨by simpa using hw,rfl⟩) (ih rest hl' f _ U _ w hB (hc.set hr') hok.2 (hput _ _ hA') hU' h)
  ·rw[if_neg hk1] at hok
   simp only[Bool.and_eq_true,List.all_eq_true] at hok
   obtain⟨hok,hall⟩:=hok
   refine⟨fun hn=>(by rw[hn] at hr';cases hr'),fun j hj=>?_⟩
   by_cases hji:j=i
   ·subst hji
    unfold bOp wpOp
    simp only[ho]
    by_cases hk:k=2
    ·subst hk
     rw[if_pos rfl] at h
     obtain⟨o',ho',hg,hrun⟩:=hA j List.mem_cons_self
     rw[ho] at ho';cases ho'
     rw[if_pos (by simp[Region.wanted,hg])]
     refine .inl ?_
     unfold Oper.wp
     rw[hrun w]
     simp only[Oper.upon]
     have g1:Gr w (w.alloc (.cells (nw j).Z (nw j).T)):=(Gr.refl w).alloc _
     refine⟨hBg _ _ hB g1,ih rest hl' f _ _ _ _ (hBg _ _ hB g1) (hc.set hr') hok (hput _ _ hA') (fun hh b hb=>?_) (h _ _ g1 (J0.new _ _ w) (fun hb=>?_))⟩
     ·rw[World.size_alloc]
      rcases hb with hb|hb
      ·have:=hU (by simp[hasAlloc]) b hb;omega
      ·omega
     ·have:=hU (by simp[hasAlloc]) _ hb;omega
    ·rw[if_neg hk] at h
     by_cases hw:Region.wanted o (yielded ops a.tmps)=true
     ·rw[if_pos hw,if_neg hk1] at h
      rw[if_pos hw]
      refine .inl (Oper.wp_mono (fun a' w' hkk=>⟨hkk.2.2.1,?_⟩) (J6P (Y:=fun a=>∀ i,(i,2) ∈ rest→Md P ops nw i a) hput (fun a d h=>h) hA' (h w (Gr.refl w))))
      refine ih rest hl' f _ _ a' w' hkk.2.2.1 (hc.set hr') hok hkk.1 (fun hh b hb=>?_) hkk.2.2.2
      have gr:=hkk.2.1 hh
      rcases hb with hb|hb
      ·exact Nat.lt_of_lt_of_le (hU (by simp[hasAlloc,hh]) b hb) gr.size
      ·exact hb.2
     ·rw[if_neg hw] at h
      rw[if_neg hw]
      exact⟨hB,ih rest hl' f _ U _ w hB (hc.set hr') hok (hput _ _ hA') (fun hh=>hU (by simp[hasAlloc,hh])) h⟩
   ·have hj2:=hall j hj
    simp only[Bool.or_eq_true,beq_iff_eq,hji,false_or,Bool.and_eq_true] at hj2
    obtain⟨he,hokj⟩:=hj2
    cases hoj:ops[j]? with
    | none=>simp[hoj] at he
    | some oj=>
     simp only[hoj,Bool.and_eq_true] at he
     obtain⟨he,hkj⟩:=he
     have hhas:=Sh _ he
     obtain⟨o',ho',hg,hrun⟩:=hA j (Xc _ he)
     rw[hoj] at ho';cases ho'
     unfold bOp wpOp
     simp only[hoj]
     rw[if_pos (by simp[Region.wanted,hg])]
     refine .inl ?_
     unfold Oper.wp
     rw[hrun w]
     simp only[Oper.upon]
     have g1:Gr w (w.alloc (.cells (nw j).Z (nw j).T)):=(Gr.refl w).alloc _
     have hnU:¬ U w.heap.size:=fun hb=>by have:=hU hhas _ hb;omega
     have hE:=P7 hoj (Region.noSelect_spec hs) hQ' _ U a _ he (J0.new _ _ w) hnU (Uy _ U a w _ hhas g1 h0)
     have hlen:=Xb _ he
     refine⟨hBg _ _ hB g1,ih (eraseF j ((i,k) :: rest)) (by simp at hlen hl ⊢;omega) f _ _ _ _ (hBg _ _ hB g1) (hc.set hj) hokj (fun i' hi'=>?_) (fun _ b hb=>?_) hE⟩
     ·exact(hA i' (Tc _ _ hi')).keep (Region.noSelect_spec hs) (fun oi hoi=>Yh hkj hoi hi') _
     ·rw[World.size_alloc]
      rcases hb with hb|hb
      ·have:=hU hhas b hb;omega
      ·omega
def wpR (P:Program)(ops:Array Oper)(B:World→Prop)(K:Act→Prop):List Nat→Act→Prop
 | [],a=>K a
 | i :: rest,a=>∃ o,ops[i]?=some o∧Region.wanted o (yielded ops a.tmps)=true∧∃ v,(∀ w',B w'→(execOp a.eval o).run P w' = .ok (.value v) w')∧wpR P ops B K rest (a.put o.dst v)
def okR (md:Region.Mode)(ops:Array Oper)(f:Nat)(l:List (Nat × Nat)):List Nat→Array Bool→Bool
 | [],listed=>okN md ops f l listed
 | i :: rest,listed=>(Region.ready md ops listed).contains i && freeJ md ops listed i && okR md ops f l rest (listed.setIfInBounds i true)
theorem J16 (hBg:∀ w w',B w→Gr w w'→B w')(hs:Region.noSelect ops=true)(hQ:∀ c a d v w,Q (.panic c) (a.put d v) w→Q (.panic c) a w)(hQ':∀ c a d v w,Q (.panic c) a w→Q (.panic c) (a.put d v) w)
  (f:Nat) (l:List (Nat × Nat)) (U:Nat→Prop) (w:World) (hB:B w) (hU:∀ b,U b→b < w.heap.size):
  ∀ (rs:List Nat) (listed:Array Bool) (a:Act),J4 md ops listed→okR md ops f l rs listed=true→wpR P ops B (fun a=>(∀ i,(i,2) ∈ l→Md P ops nw i a)∧wpN P ops Q B nw l U a w) rs a→wpAnyB P md ops Q B (l.length+rs.length) listed a w
 | [],listed,a,hc,hok,h=>J6H hBg hs hQ hQ' _ l rfl f listed U a w hB hc hok h.1 (fun _=>hU) h.2
 | i :: rest,listed,a,hc,hok,h=>by
  obtain⟨o,ho,hw,v,hv,h⟩:=h
  unfold okR at hok
  simp only[Bool.and_eq_true] at hok
  obtain⟨⟨hr,hf⟩,hok⟩:=hok
  have hr':i ∈ Region.ready md ops listed:=by simpa using hr
  exact O1 ho (Region.noSelect_spec hs) hQ _ listed a w hB hc (Qp ho hf) hr' (.inl ⟨hw,hv⟩) (J16 hBg hs hQ hQ' f l U w hB hU rest _ _ (hc.set hr') hok h)
theorem J6T {id:Nat}{a:Act}{w:World}(B:World→Prop)(hB0:B w.drew)(hBg:∀ w w',B w→Gr w w'→B w')(nw:Nat→NewS)(f:Nat)(reads:List Nat)(order:List (Nat × Nat))(hm:P.follows .mixedOrders=true)(hs:Region.noSelect ops=true)
  (hn:order.length+reads.length=ops.size) (hB:okR .any ops f order reads (Array.replicate ops.size false)=true) (hQ:∀ c a d v w,Q (.panic c) (a.put d v) w→Q (.panic c) a w) (hQ':∀ c a d v w,Q (.panic c) a w→Q (.panic c) (a.put d v) w)
  (h:wpR P ops B (fun a=>(∀ i,(i,2) ∈ order→Md P ops nw i a)∧wpN P ops Q B nw order (fun b=>b < w.heap.size) a w.drew) reads a):(Code.region id ops true).wp P Q a w:=by
 refine wp_region_any hm (Rh (B:=B) _ _ _ _ ?_)
 have:=J16 (md:=.any) (nw:=nw) hBg hs hQ hQ' f order (fun b=>b < w.heap.size) w.drew hB0 (fun _ hb=>hb) reads (Array.replicate ops.size false) a
  (fun j o _ hl=>by simp[Array.getElem?_replicate] at hl;split at hl<;>simp at hl) hB h
 rw[hn] at this
 exact this
end
section steps
variable {P:Program}{ops:Array Oper}{Q:Exit→Act→World→Prop}{B:World→Prop}{nw:Nat→NewS}{U:Nat→Prop}{i:Nat}{rest:List (Nat × Nat)}{reads:List Nat}{a:Act}{w:World}{o:Oper}{KR:Act→Prop}
theorem J6L (h:Q .normal a w):wpN P ops Q B nw [] U a w:=h
theorem J6M (h:KR a):wpR P ops B KR [] a:=h
theorem J6N (ho:ops[i]?=some o)(hw:Region.wanted o (yielded ops a.tmps)=true){v:Value}(hv:∀ w',B w'→(execOp a.eval o).run P w' = .ok (.value v) w')
  (h:∀ K:Act→Prop,(∀ a,wpR P ops B KR reads a→K a)→K (a.put o.dst v)):wpR P ops B KR (i :: reads) a:=
 ⟨o,ho,hw,v,hv,h _ (fun _ h=>h)⟩
theorem Rl (ho:ops[i]?=some o)(hw:Region.wanted o (yielded ops a.tmps)=true){v:Value}(hv:∀ w',B w'→(execOp a.eval o).run P w' = .ok (.value v) w')
  (h:∀ K:Act→World→Prop,(∀ a w,wpN P ops Q B nw rest U a w→K a w)→K (a.put o.dst v) w):wpN P ops Q B nw ((i,1) :: rest) U a w:=
 ⟨o,ho,by rw[if_neg (by omega),if_pos hw,if_pos rfl];exact⟨v,hv,h _ (fun _ _ h=>h)⟩⟩
theorem Ux (ho:ops[i]?=some o)(hw:Region.wanted o (yielded ops a.tmps)=true)
  (h:∀ K:World→Act→World→Prop,(∀ w1 a w',wpN P ops Q B nw rest (fun x=>U x∨(w1.heap.size≤x∧x < w'.heap.size)) a w'→K w1 a w')→∀ w1,Gr w w1→Oper.wp P o a w1 (fun a' w'=>(hasAlloc rest=true→Gr w1 w')∧B w'∧K w1 a' w') Q):wpN P ops Q B nw ((i,0) :: rest) U a w:=
 ⟨o,ho,by rw[if_neg (by omega),if_pos hw,if_neg (by omega)];exact h (fun w1 a w'=>wpN P ops Q B nw rest (fun x=>U x∨(w1.heap.size≤x∧x < w'.heap.size)) a w') (fun _ _ _ h=>h)⟩
theorem J6K (ho:ops[i]?=some o)
  (h:∀ K:Act→World→Prop,∀ w1 b,Gr w w1→J0 (nw i).Z (nw i).T b w1→¬ U b→(∀ a w,wpN P ops Q B nw rest (fun x=>U x∨x=b) a w→K a w)→K (a.put o.dst ((nw i).v b)) w1):wpN P ops Q B nw ((i,2) :: rest) U a w:=
 ⟨o,ho,by rw[if_pos rfl];intro w1 b g f n;exact h _ w1 b g f n (fun _ _ h=>h)⟩
end steps
end Go.Proofs.YtcjgimlcefhhmaaGreatDoor.LateN
