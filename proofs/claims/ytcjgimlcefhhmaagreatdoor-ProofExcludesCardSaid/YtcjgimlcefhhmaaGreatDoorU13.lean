/- Texts: Fast Tree Stip. -/
import Derived.Test.YtcjgimlcefhhmaaGreatDoorU1
set_option linter.unusedVariables false
set_option linter.unusedSimpArgs false
set_option maxRecDepth 100000
set_option maxHeartbeats 12800000
namespace Go.Proofs.YtcjgimlcefhhmaaGreatDoor
open Go.RowKit
section region
variable {P:Program}{ops:Array Oper}{md:Region.Mode}{Q:Exit→Act→World→Prop}
def predsM (md:Region.Mode):List Edge→Nat
 | []=>0
 | e :: l=>bif Region.binds md e then Nat.lor (Nat.pow 2 e.on) (predsM md l) else predsM md l
theorem M3 {k:Nat}:∀ l:List Edge,(predsM md l).testBit k=true↔∃ e ∈ l,Region.binds md e=true∧e.on=k
 | []=>by simp[predsM]
 | e :: l=>by
  have ih:=M3 (k:=k) l
  unfold predsM
  cases hb:Region.binds md e
  ·simp[ih,hb]
  ·show((2 ^ e.on ||| predsM md l).testBit k=true)↔_
   rw[Nat.testBit_or,Bool.or_eq_true,ih,Nat.testBit_two_pow]
   simp[hb]
def subM (p L:Nat):Bool:=Nat.beq (Nat.land p L) p
theorem Uf {p L:Nat}:subM p L=true↔∀ k,p.testBit k=true→L.testBit k=true:=by
 unfold subM
 rw[Nat.beq_eq]
 show(p &&& L=p)↔_
 constructor
 ·intro h k hk
  rw[← h,Nat.testBit_and,Bool.and_eq_true] at hk
  exact hk.2
 ·intro h
  apply Nat.eq_of_testBit_eq
  intro k
  rw[Nat.testBit_and]
  cases hp:p.testBit k
  ·rfl
  ·rw[h k hp];rfl
def tb (m n:Nat):Bool:=Nat.beq (Nat.land 1 (Nat.shiftRight m n)) 1
theorem M4 (m n:Nat):tb m n=m.testBit n:=by
 unfold tb Nat.testBit
 have h:Nat.land 1 (Nat.shiftRight m n)=(m >>> n) % 2:=by
  show 1 &&& (m >>> n)=_
  rw[Nat.and_comm,Nat.and_one_is_mod]
 show Nat.beq (Nat.land 1 (Nat.shiftRight m n)) 1=(1 &&& (m >>> n) != 0)
 rw[show 1 &&& (m >>> n)=Nat.land 1 (Nat.shiftRight m n) from rfl,h]
 have:=Nat.mod_lt (m >>> n) (show 0 < 2 by decide)
 generalize (m >>> n) % 2=x at *
 match x,this with
 | 0,_=>rfl
 | 1,_=>rfl
def waitsM (md:Region.Mode)(I:Nat):List Oper→Nat→Nat→Nat
 | [],_,W=>W
 | o :: l,k,W=>bif Nat.beq (Nat.land (predsM md o.after.toList) (Nat.lor W I)) 0 then waitsM md I l (k+1) W else waitsM md I l (k+1) (Nat.lor W (Nat.pow 2 k))
theorem Ns {i:Nat}:∀ (l:List Oper) (k W:Nat),(∀ j,l[j]?=ops[k+j]?)→(∀ j,W.testBit j=true→Jw md ops i j)→
  ∀ j,(waitsM md (2 ^ i) l k W).testBit j=true→Jw md ops i j
 | [],_,_,_,hW=>hW
 | o :: l,k,W,hl,hW=>by
  have hl':∀ j,l[j]?=ops[k+1+j]?:=fun j=>by
   have:=hl (j+1)
   simpa[Nat.add_assoc,Nat.add_comm 1 j] using this
  have h0:ops[k]?=some o:=by simpa using(hl 0).symm
  unfold waitsM
  cases hb:Nat.beq (Nat.land (predsM md o.after.toList) (Nat.lor W (2 ^ i))) 0
  ·refine Ns l (k+1) _ hl' (fun j hj=>?_)
   have hj:(W ||| 2 ^ k).testBit j=true:=hj
   rw[Nat.testBit_or,Bool.or_eq_true,Nat.testBit_two_pow] at hj
   rcases hj with hj|hj
   ·exact hW j hj
   ·obtain rfl:k=j:=by simpa using hj
    have hne:predsM md o.after.toList &&& (W ||| 2 ^ i)≠0:=fun h=>by
     rw[show Nat.land (predsM md o.after.toList) (Nat.lor W (2 ^ i))=predsM md o.after.toList &&& (W ||| 2 ^ i) from rfl,h] at hb
     cases hb
    obtain⟨t,ht⟩:=Nat.exists_testBit_of_ne_zero hne
    rw[Nat.testBit_and,Nat.testBit_or,Bool.and_eq_true,Bool.or_eq_true,Nat.testBit_two_pow] at ht
    obtain⟨e,he,hbe,rfl⟩:=(M3 _).1 ht.1
    have he:e ∈ o.after:=by simpa using he
    rcases ht.2 with h|h
    ·exact .step h0 he hbe (hW _ h)
    ·exact .base h0 he hbe (by simpa using Eq.symm (by simpa using h))
  ·exact Ns l (k+1) _ hl' hW
def freeM (ops:Array Oper)(oi:Oper)(skip:Nat):List Oper→Nat→Bool
 | [],_=>true
 | o :: l,j=>(tb skip j || (oi.apart ops o && (!isStore o || pureOp oi))) && freeM ops oi skip l (j+1)
theorem Pl {oi:Oper}{skip:Nat}:∀ (l:List Oper) (k:Nat),(∀ j,l[j]?=ops[k+j]?)→freeM ops oi skip l k=true→
  ∀ j o,k≤j→ops[j]?=some o→skip.testBit j=false→oi.apart ops o=true∧(isStore o=false∨pureOp oi=true)
 | [],k,hl,_,j,o,hk,hj,_=>by
  have:=hl (j - k)
  rw[show k+(j - k)=j by omega,hj] at this
  cases this
 | o' :: l,k,hl,h,j,o,hk,hj,hs=>by
  unfold freeM at h
  rw[Bool.and_eq_true] at h
  by_cases hjk:j=k
  ·subst hjk
   have h0:ops[j]?=some o':=by simpa using(hl 0).symm
   rw[h0] at hj
   cases hj
   have h1:=h.1
   rw[M4,hs,Bool.false_or] at h1
   simpa using h1
  ·exact Pl l (k+1) (fun j=>by have:=hl (j+1);simpa[Nat.add_assoc,Nat.add_comm 1 j] using this) h.2 j o (by omega) hj hs
def onlyM (md:Region.Mode)(L skip:Nat):List Oper→Nat→Bool
 | [],_=>true
 | o :: l,j=>(tb skip j || !subM (predsM md o.after.toList) L) && onlyM md L skip l (j+1)
theorem Mg {L skip:Nat}:∀ (l:List Oper) (k:Nat),(∀ j,l[j]?=ops[k+j]?)→onlyM md L skip l k=true→
  ∀ j o,k≤j→ops[j]?=some o→skip.testBit j=false→subM (predsM md o.after.toList) L=false
 | [],k,hl,_,j,o,hk,hj,_=>by
  have:=hl (j - k)
  rw[show k+(j - k)=j by omega,hj] at this
  cases this
 | o' :: l,k,hl,h,j,o,hk,hj,hs=>by
  unfold onlyM at h
  rw[Bool.and_eq_true] at h
  by_cases hjk:j=k
  ·subst hjk
   have h0:ops[j]?=some o':=by simpa using(hl 0).symm
   rw[h0] at hj
   cases hj
   have h1:=h.1
   rw[M4,hs,Bool.false_or] at h1
   simpa using h1
  ·exact Mg l (k+1) (fun j=>by have:=hl (j+1);simpa[Nat.add_assoc,Nat.add_comm 1 j] using this) h.2 j o (by omega) hj hs
def fastB (md:Region.Mode)(ops:Array Oper)(os:List Oper):List (Nat × Bool)→Nat→Bool
 | [],L=>onlyM md L L os 0
 | (i,r) :: rest,L=>match os[i]? with
  | none=>false
  | some oi=>(!tb L i && subM (predsM md oi.after.toList) L) &&
   ((bif r then freeM ops oi (Nat.lor (Nat.lor L (Nat.pow 2 i)) (waitsM md (Nat.pow 2 i) os 0 0)) os 0 else onlyM md L (Nat.lor L (Nat.pow 2 i)) os 0) &&
    fastB md ops os rest (Nat.lor L (Nat.pow 2 i)))
theorem L5 {L:Nat}{listed:Array Bool}(hs:listed.size=ops.size)(hL:∀ j,listed.getD j false=L.testBit j){i:Nat}{o:Oper}(ho:ops[i]?=some o):
  i ∈ Region.ready md ops listed↔L.testBit i=false∧subM (predsM md o.after.toList) L=true:=by
 have hi:i < listed.size:=by rw[hs];exact(Array.getElem?_eq_some_iff.1 ho).1
 have e:listed.getD i true=L.testBit i:=by rw[← hL i];simp[hi]
 rw[mem_ready,e,Uf]
 constructor
 ·rintro⟨h1,o',ho',h2⟩
  rw[ho] at ho'
  cases ho'
  refine⟨h1,fun k hk=>?_⟩
  obtain⟨e,he,hb,rfl⟩:=(M3 _).1 hk
  rw[← hL];exact h2 e (by simpa using he) hb
 ·rintro⟨h1,h2⟩
  exact⟨h1,o,ho,fun e he hb=>by rw[hL];exact h2 _ ((M3 _).2 ⟨e,by simpa using he,hb,rfl⟩)⟩
theorem Pz {L i:Nat}{listed:Array Bool}(hi:i < listed.size)(hL:∀ j,listed.getD j false=L.testBit j)(j:Nat):
  (listed.setIfInBounds i true).getD j false=(Nat.lor L (Nat.pow 2 i)).testBit j:=by
 show _=(L ||| 2 ^ i).testBit j
 rw[Nat.testBit_or,Nat.testBit_two_pow,← hL j]
 by_cases h:i=j
 ·subst h
  simp[hi]
 ·rw[getD_set_ne false h]
  simp[h]
theorem L7 (hs:Region.noSelect ops=true)(hQ:∀ c a d v w,Q (.panic c) (a.put d v) w→Q (.panic c) a w):
  ∀ (l:List (Nat × Bool)) (L:Nat) (listed:Array Bool) (a:Act) (w:World),listed.size=ops.size→(∀ j,listed.getD j false=L.testBit j)→J4 md ops listed→fastB md ops ops.toList l L=true→wpE P ops Q l a w→wpAnyG P md ops Q l.length listed a w
 | [],L,listed,a,w,hz,hL,_,hB,h=>by
  refine⟨?_,h⟩
  rw[List.eq_nil_iff_forall_not_mem]
  intro j hj
  obtain⟨_,o,ho,_⟩:=mem_ready.1 hj
  have h1:=(L5 hz hL ho).1 hj
  have h2:=Mg ops.toList 0 (by simp) hB j o (Nat.zero_le _) ho h1.1
  rw[h1.2] at h2
  cases h2
 | (i,r) :: l,L,listed,a,w,hz,hL,hc,hB,h=>by
  obtain⟨o,ho,h⟩:=h
  have hlt:i < listed.size:=by rw[hz];exact(Array.getElem?_eq_some_iff.1 ho).1
  have ho':ops.toList[i]?=some o:=by simpa using ho
  simp only[fastB,ho',Bool.and_eq_true,M4] at hB
  obtain⟨⟨hr1,hr2⟩,hf,hB'⟩:=hB
  have hr':i ∈ Region.ready md ops listed:=(L5 hz hL ho).2 ⟨by simpa using hr1,hr2⟩
  have hz':(listed.setIfInBounds i true).size=ops.size:=by simpa using hz
  have hL':=Pz hlt hL
  cases r
  ·have hf:onlyM md L (Nat.lor L (Nat.pow 2 i)) ops.toList 0=true:=hf
   have hone:∀ j ∈ Region.ready md ops listed,j=i:=fun j hj=>by
    obtain⟨_,oj,hoj,_⟩:=mem_ready.1 hj
    have h1:=(L5 hz hL hoj).1 hj
    by_cases hji:j=i
    ·exact hji
    ·have h3:(Nat.lor L (Nat.pow 2 i)).testBit j=false:=by
      show(L ||| 2 ^ i).testBit j=false
      rw[Nat.testBit_or,h1.1,Nat.testBit_two_pow]
      simp[Ne.symm hji]
     have h2:=Mg ops.toList 0 (by simp) hf j oj (Nat.zero_le _) hoj h3
     rw[h1.2] at h2
     cases h2
   refine⟨fun h0=>(by rw[h0] at hr';cases hr'),fun j hj=>?_⟩
   obtain rfl:=hone j hj
   have hc':J4 md ops (listed.setIfInBounds j true):=hc.set hr'
   unfold gOp wpOp
   simp only[ho]
   by_cases hw:Region.wanted o (yielded ops a.tmps)=true
   ·rw[if_pos hw,if_neg (by simp)] at h
    rw[if_pos hw]
    refine .inl (Oper.wp_mono (fun a' w' hk=>⟨fun o' ho'=>?_,L7 hs hQ l _ _ _ _ hz' hL' hc' hB' hk.2⟩) h)
    cases ho';exact hk.1
   ·rw[if_neg hw] at h
    rw[if_neg hw]
    exact⟨fun _ _=>relOf.refl _ _,L7 hs hQ l _ _ _ _ hz' hL' hc' hB' h⟩
  ·have hf:freeM ops o (Nat.lor (Nat.lor L (Nat.pow 2 i)) (waitsM md (Nat.pow 2 i) ops.toList 0 0)) ops.toList 0=true:=hf
   have hfree:∀ j oj,ops[j]?=some oj→j≠i→listed.getD j true=false→¬ Jw md ops i j→o.apart ops oj=true∧(isStore oj=false∨pureOp o=true):=fun j oj hj hne hun hno=>by
    refine Pl ops.toList 0 (by simp) hf j oj (Nat.zero_le _) hj ?_
    have hjl:j < listed.size:=by rw[hz];exact(Array.getElem?_eq_some_iff.1 hj).1
    have e:listed.getD j true=L.testBit j:=by rw[← hL j];simp[hjl]
    show((L ||| 2 ^ i) ||| waitsM md (2 ^ i) ops.toList 0 0).testBit j=false
    rw[Nat.testBit_or,Nat.testBit_or,← e,hun,Nat.testBit_two_pow]
    cases hwt:(waitsM md (2 ^ i) ops.toList 0 0).testBit j
    ·simp[Ne.symm hne]
    ·exact absurd (Ns (md:=md) (ops:=ops) (i:=i) ops.toList 0 0 (by simp) (by simp) j hwt) hno
   by_cases hw:Region.wanted o (yielded ops a.tmps)=true
   ·rw[if_pos hw,if_pos rfl] at h
    obtain⟨v,hv,h⟩:=h
    exact L8 ho (Region.noSelect_spec hs) hQ l.length listed a w hc hfree hr' (.mk hw hv) (L7 hs hQ l _ _ _ _ hz' hL' (hc.set hr') hB' h)
   ·rw[if_neg hw] at h
    exact L8 ho (Region.noSelect_spec hs) hQ l.length listed a w hc hfree hr' (.inr ⟨by simpa using hw,rfl⟩) (L7 hs hQ l _ _ _ _ hz' hL' (hc.set hr') hB' h)
theorem Jp {id:Nat}{a:Act}{w:World}(order:List (Nat × Bool))(hm:P.follows .mixedOrders=true)(hs:Region.noSelect ops=true)
  (hn:order.length=ops.size) (hB:fastB .any ops ops.toList order 0=true) (hQ:∀ c a d v w,Q (.panic c) (a.put d v) w→Q (.panic c) a w)
  (h:wpE P ops Q order a w.drew):(Code.region id ops true).wp P Q a w:=by
 refine wp_region_any hm (Nt _ _ _ _ ?_)
 have:=L7 (md:=.any) hs hQ order 0 (Array.replicate ops.size false) a w.drew (by simp) (fun j=>by
  rw[Nat.zero_testBit]
  by_cases hj:j < ops.size<;>simp[Array.getElem?_replicate,hj]) (fun j o _ hl=>by simp[Array.getElem?_replicate] at hl;split at hl<;>simp at hl) hB h
 rw[hn] at this
 exact this
end region
theorem Uu {P:Program}{ops:Array Oper}{Q:Exit→Act→World→Prop}{i:Nat}{rest:List (Nat × Bool)}{a:Act}{w:World}{o:Oper}{f:FuncId}{args:Array Value}
  (ho:ops[i]?=some o) (hw:Region.wanted o (yielded ops a.tmps)=true) (hx:(execOp a.eval o).run P w = .ok (.enter f args) w)
  (h:∀ K:Act→World→Prop,(∀ a w,wpE P ops Q rest a w→K a w)→Calls P f args w fun e w'=>∃ v,e = .returned v∧Gr w w'∧K (a.put o.dst v) w'):wpE P ops Q ((i,false) :: rest) a w:=by
 refine Jj ho hw fun K hK=>?_
 unfold Oper.wp
 rw[hx]
 simp only[Oper.upon]
 refine(h K hK).mono ?_
 rintro e w' ⟨v,rfl,hg,hk⟩
 exact⟨fun _=>hg,hk⟩
theorem Qo {P:Program}{ρ:Operand→Value}{o:Oper}{w:World}{c:Call}{x:Operand}{f:FuncId}{first caps:Array Value}{fn:Func}(hop:o.op = .call c)(hc:c.callee = .value x)
  (hx : ρ x = .func (.func f) first caps) (hf : P.funcs[f]? = some fn) (hn : (fn.name == "runtime.NumGoroutine") = false) (hb : fn.body.isNone = false) :
  (execOp ρ o).run P w = .ok (.enter f ((first ++ c.args.map ρ) ++ caps)) w:=by
 have hn' : ¬ fn.name = "runtime.NumGoroutine" := by simpa using hn
 have hb':¬ fn.body=none:=by intro h;rw[h] at hb;cases hb
 unfold execOp
 simp only[hop,resolve,hc,hx,Deferred.ofValue,invoke,callFunc]
 simp[go_sem,hf,hn',hb']
theorem Jd {P:Program}{ops:Array Oper}{Q:Exit→Act→World→Prop}{i:Nat}{rest:List (Nat × Bool)}{a:Act}{w:World}{o:Oper}{c:Call}{x:Operand}{f:FuncId}{first caps args:Array Value}{fn:Func}
  (ho:ops[i]?=some o) (hw:Region.wanted o (yielded ops a.tmps)=true) (hop:o.op = .call c) (hc:c.callee = .value x) (hx:a.eval x = .func (.func f) first caps)
  (hf : P.funcs[f]? = some fn) (hn : (fn.name == "runtime.NumGoroutine") = false) (hb : fn.body.isNone = false) (hargs : (first ++ c.args.map a.eval) ++ caps = args)
  (h:∀ K:Act→World→Prop,(∀ a w,wpE P ops Q rest a w→K a w)→Calls P f args w fun e w'=>∃ v,e = .returned v∧Gr w w'∧K (a.put o.dst v) w'):wpE P ops Q ((i,false) :: rest) a w:=
 Uu ho hw (by rw[Qo hop hc hx hf hn hb,hargs]) h
end Go.Proofs.YtcjgimlcefhhmaaGreatDoor
namespace Go.Proofs.YtcjgimlcefhhmaaGreatDoor
open Go.RowKit
inductive Tr where
 | stop:Tr
 | read:Nat→Tr→Tr
 | one:Nat→Tr→Tr
 | two:Nat→Tr→Nat→Tr→Tr
def Tr.len:Tr→Nat
 | .stop=>0
 | .read _ t=>t.len+1
 | .one _ t=>t.len+1
 | .two _ t _ _=>t.len+1
section region
variable {P:Program}{ops:Array Oper}{md:Region.Mode}{Q:Exit→Act→World→Prop}
def readyM (md:Region.Mode)(os:List Oper)(L i:Nat):Bool:=match os[i]? with
 | none=>false
 | some o => !tb L i && subM (predsM md o.after.toList) L
theorem Tt {L i:Nat}{listed:Array Bool}(hz:listed.size=ops.size)(hL:∀ j,listed.getD j false=L.testBit j)(h:readyM md ops.toList L i=true):i ∈ Region.ready md ops listed:=by
 unfold readyM at h
 split at h
 ·cases h
 ·rename_i o ho
  simp only[Bool.and_eq_true,M4] at h
  have ho':ops[i]?=some o:=by simpa using ho
  exact(L5 hz hL ho').2 ⟨by simpa using h.1,h.2⟩
end region
section steps
variable {P:Program}{ops:Array Oper}{Q:Exit→Act→World→Prop}{i:Nat}{t:Tr}{a:Act}{w:World}{o:Oper}
end steps
end Go.Proofs.YtcjgimlcefhhmaaGreatDoor
namespace Go.Proofs.YtcjgimlcefhhmaaGreatDoor.Stip
open Go.RowKit
section region
variable {P:Program}{ops:Array Oper}{md:Region.Mode}{Q:Exit→Act→World→Prop}
def isStore (o:Oper):Bool:=match o.op with
 | .store .. | .insert .. | .mapUpdate .. | .entryStore .. => true
 | .call c=>match c.argTypes[0]? with|some t=>Nat.beq t 40|none=>false
 | _=>false
def relOf (o:Oper)(w w':World):Prop:=isStore o=false→Gr w w'
theorem relOf.refl (o:Oper)(w:World):relOf o w w:=fun _=>Gr.refl w
def gOp (P:Program)(ops:Array Oper)(Q:Exit→Act→World→Prop)(i:Nat)(K:Act→World→Prop)(a:Act)(w:World):Prop:=
 wpOp P ops Q i (fun a' w'=>(∀ o,ops[i]?=some o→relOf o w w')∧K a' w') a w
def wpAnyG (P:Program)(md:Region.Mode)(ops:Array Oper)(Q:Exit→Act→World→Prop):Nat→Array Bool→Act→World→Prop
 | 0,listed,a,w=>Region.ready md ops listed=[]∧Q .normal a w
 | fuel+1,listed,a,w=>
  (Region.ready md ops listed=[]→Q .normal a w)∧
  ∀ i ∈ Region.ready md ops listed,gOp P ops Q i (wpAnyG P md ops Q fuel (listed.setIfInBounds i true)) a w
theorem Nt:∀ (fuel:Nat) (listed:Array Bool) (a:Act) (w:World),wpAnyG P md ops Q fuel listed a w→wpAny P md ops Q fuel listed a w
 | 0,_,_,_,h=>h
 | fuel+1,_,_,_,h=>⟨h.1,fun i hi=>wpOp_mono (fun a' w' hk=>Nt fuel _ a' w' hk.2) (h.2 i hi)⟩
def pureOp (o:Oper):Bool:=match o.op with
 | .extract (.tmp _) _=>true
 | _=>false
theorem pureOp.any {P:Program}{ρ:Operand→Value}{o:Oper}(h:pureOp o=true){v:Value}{w:World}(hv:(execOp ρ o).run P w = .ok (.value v) w)(w':World):(execOp ρ o).run P w' = .ok (.value v) w':=by
 unfold pureOp at h
 split at h
 ·rename_i t i he
  unfold execOp at hv ⊢
  simp only[he] at hv ⊢
  unfold Instr.extract at hv ⊢
  split at hv<;>simp_all[go_sem]
  split at hv<;>simp_all[go_sem]
 ·cases h
def Jx (P:Program)(ops:Array Oper)(o:Oper)(v:Value)(a:Act)(w:World):Prop:=
 (Region.wanted o (yielded ops a.tmps)=true∧∀ w',Gr w w'∨pureOp o=true→(execOp a.eval o).run P w' = .ok (.value v) w')∨
 (Region.wanted o (yielded ops a.tmps)=false∧v=undef)
theorem Jx.mk {o:Oper}{v:Value}{a:Act}{w:World}(hw:Region.wanted o (yielded ops a.tmps)=true)(hv:∀ w',Gr w w'→(execOp a.eval o).run P w' = .ok (.value v) w'):Jx P ops o v a w:=
 .inl ⟨hw,fun w' h=>h.elim (hv w') fun h=>pureOp.any h (hv w (Gr.refl w)) w'⟩
theorem Jx.grow {o:Oper}{v:Value}{a:Act}{w w':World}(hy:Jx P ops o v a w)(hg:Gr w w'∨pureOp o=true):Jx P ops o v a w':=by
 rcases hy with⟨h1,h2⟩|h
 ·exact .inl ⟨h1,fun w'' h'=>h2 w'' (h'.elim (fun h'=>hg.imp (fun g=>g.trans h') id) .inr)⟩
 ·exact .inr h
theorem Jx.of_same {o:Oper}{v:Value}{a a':Act}{w:World}(hy:Jx P ops o v a w)(he:execOp a'.eval o=execOp a.eval o)
  (hw:Region.wanted o (yielded ops a'.tmps)=Region.wanted o (yielded ops a.tmps)):Jx P ops o v a' w:=by
 unfold Jx at *
 rw[he,hw]
 exact hy
theorem Jx.gOp {i:Nat}{o:Oper}{v:Value}{a:Act}{w:World}(hi:ops[i]?=some o)(hy:Jx P ops o v a w)
  {K:Act→World→Prop} (h:K (a.put o.dst v) w):gOp P ops Q i K a w:=by
 unfold Proofs.YtcjgimlcefhhmaaGreatDoor.Stip.gOp wpOp
 simp only[hi]
 have hr:∀ o_1:Oper,some o=some o_1→relOf o_1 w w:=fun _ _=>relOf.refl _ _
 rcases hy with⟨hw,hv⟩|⟨hw,rfl⟩
 ·simp only[hw,if_true,Oper.wp,hv w (.inl (Gr.refl w)),Oper.upon];exact .inl ⟨hr,h⟩
 ·simp only[hw,Bool.false_eq_true,if_false];exact⟨hr,h⟩
theorem Su {j:Nat}{oi oj:Oper}{v:Value}(hj:ops[j]?=some oj)(hap:oi.apart ops oj=true)(hst:isStore oj=false∨pureOp oi=true)
  (hsi:∀ cs b,oi.op≠.select cs b) (hsj:∀ cs b,oj.op≠.select cs b)
  (hQ:∀ c a d v w,Q (.panic c) (a.put d v) w→Q (.panic c) a w) {K:Act→World→Prop} {a:Act} {w:World}
  (hy:Jx P ops oi v a w) (h:gOp P ops Q j K (a.put oi.dst v) w):
  gOp P ops Q j (fun a' w'=>Jx P ops oi v a' w'∧K (a'.put oi.dst v) w') a w:=by
 obtain⟨h1,h2,h3⟩:=Oper.apart_spec hap
 have keep:∀ (a:Act) (w:World),Jx P ops oi v a w→∀ u,Jx P ops oi v (a.put oj.dst u) w:=fun a w hy u=>
  hy.of_same (execOp_put oi hsi a oj.dst u h3) (wanted_put oi a oj.dst u h3)
 have keepD:∀ d w,Jx P ops oi v a w→Jx P ops oi v { a with defers:=d :: a.defers } w:=fun d w hy=>hy.of_same rfl rfl
 unfold gOp wpOp at *
 simp only[hj] at *
 rw[wanted_put oj a oi.dst v h1] at h
 split
 ·rename_i hw
  simp only[hw,if_true] at h
  rcases h with h|⟨hasks,hlets⟩
  case inr=>exact .inr ⟨by unfold Oper.asks at *;rw[execOp_put oj hsj a oi.dst v h1] at hasks;exact hasks,hlets⟩
  refine .inl ?_
  unfold Oper.wp at *
  rw[execOp_put oj hsj a oi.dst v h1] at h
  generalize (execOp a.eval oj).run P w=r at *
  cases r with
  | ok n w'=>
   cases n<;>simp only[Oper.upon] at h ⊢
   case value u=>exact⟨h.1,keep a w' (hy.grow (hst.imp (h.1 oj rfl) id)) u,by rw[← Act.put_comm a v u h2];exact h.2⟩
   case skip=>exact⟨h.1,keep a w' (hy.grow (hst.imp (h.1 oj rfl) id)) _,by rw[← Act.put_comm a v undef h2];exact h.2⟩
   case defer d=>
    refine⟨h.1,keep _ w' (keepD d w' (hy.grow (hst.imp (h.1 oj rfl) id))) _,?_⟩
    rw[← Act.put_comm _ v undef h2,← Act.put_defers]
    exact h.2
   case enter f args=>
    refine Calls.mono h fun e w'' he=>?_
    cases e with
    | returned u=>exact⟨he.1,keep a w'' (hy.grow (hst.imp (he.1 oj rfl) id)) u,by rw[← Act.put_comm a v u h2];exact he.2⟩
    | panicked c=>exact hQ _ _ _ _ _ he
    | outgrown=>exact he
   case row row args=>exact Rows.mono h fun u w'' he=>⟨he.1,keep a w'' (hy.grow (hst.imp (he.1 oj rfl) id)) u,by rw[← Act.put_comm a v u h2];exact he.2⟩
  | halt x w'=>
   cases x<;>simp only[Oper.upon] at h ⊢
   case panic u=>exact hQ _ _ _ _ _ h
 ·rename_i hw
  simp only[hw] at h
  exact⟨h.1,keep a w (hy) _,by rw[← Act.put_comm a v undef h2];exact h.2⟩
theorem St {i:Nat}{a:Act}{w:World}{K K':Act→World→Prop}(h:∀ a w,K a w→K' a w)
  (hh:gOp P ops Q i K a w):gOp P ops Q i K' a w:=wpOp_mono (fun a w hk=>⟨hk.1,h a w hk.2⟩) hh
def J4 (md:Region.Mode)(ops:Array Oper)(listed:Array Bool):Prop:=
 ∀ j o,ops[j]?=some o→listed.getD j false=true→∀ e ∈ o.after,Region.binds md e=true→listed.getD e.on false=true
theorem J4.set {listed:Array Bool}{i:Nat}(hc:J4 md ops listed)(hr:i ∈ Region.ready md ops listed):J4 md ops (listed.setIfInBounds i true):=by
 intro j o hj hl e he hb
 refine getD_set_true ?_
 obtain⟨_,oi,hoi,hall⟩:=mem_ready.1 hr
 by_cases hji:i=j
 ·subst hji;rw[hj] at hoi;cases hoi;exact hall e he hb
 ·rw[getD_set_ne false hji] at hl;exact hc j o hj hl e he hb
inductive Jw (md:Region.Mode)(ops:Array Oper)(i:Nat):Nat→Prop
 | base {j:Nat} {o:Oper} {e:Edge} (hj:ops[j]?=some o) (he:e ∈ o.after) (hb:Region.binds md e=true) (h:e.on=i):Jw md ops i j
 | step {j:Nat} {o:Oper} {e:Edge} (hj:ops[j]?=some o) (he:e ∈ o.after) (hb:Region.binds md e=true) (h:Jw md ops i e.on):Jw md ops i j
theorem Jw.listed {listed:Array Bool}{i j:Nat}(hc:J4 md ops listed)(h:Jw md ops i j)(hl:listed.getD j false=true):listed.getD i false=true:=by
 induction h with
 | base hj he hb h=>subst h;exact hc _ _ hj hl _ he hb
 | step hj he hb h ih=>exact ih (hc _ _ hj hl _ he hb)
theorem Jw.not_ready {listed:Array Bool}{i j:Nat}(hc:J4 md ops listed)(hi:i ∈ Region.ready md ops listed)(hj:j ∈ Region.ready md ops listed):¬ Jw md ops i j:=by
 intro h
 obtain⟨hu,_⟩:=mem_ready.1 hi
 obtain⟨_,o',hoj,hall⟩:=mem_ready.1 hj
 have key:listed.getD i false=true:=by
  cases h with
  | base hj he hb h=>rw[hj] at hoj;cases hoj;subst h;exact hall _ he hb
  | step hj he hb h=>rw[hj] at hoj;cases hoj;exact h.listed hc (hall _ he hb)
 rcases Nat.lt_or_ge i listed.size with h'|h'
 ·simp[h'] at hu key;rw[hu] at key;cases key
 ·simp[Array.getElem?_eq_none h'] at hu
theorem L8 {i:Nat}{oi:Oper}{v:Value}(hi:ops[i]?=some oi)(hsel:∀ (j:Nat) (o:Oper) cs b,ops[j]?=some o→o.op≠.select cs b)
  (hQ:∀ c a d v w,Q (.panic c) (a.put d v) w→Q (.panic c) a w):
  ∀ (fuel:Nat) (listed:Array Bool) (a:Act) (w:World),J4 md ops listed→
   (∀ j oj,ops[j]?=some oj→j≠i→listed.getD j true=false→¬ Jw md ops i j→oi.apart ops oj=true∧(isStore oj=false∨pureOp oi=true))→
   i ∈ Region.ready md ops listed→Jx P ops oi v a w→
   wpAnyG P md ops Q fuel (listed.setIfInBounds i true) (a.put oi.dst v) w→wpAnyG P md ops Q (fuel+1) listed a w:=by
 intro fuel
 induction fuel with
 | zero=>
  intro listed a w _ _ hr hy H
  refine⟨fun h=>(by rw[h] at hr;cases hr),fun j hj=>?_⟩
  by_cases hji:j=i
  ·subst hji;exact hy.gOp hi H
  ·have:=ready_mono hj hji
   rw[H.1] at this
   cases this
 | succ fuel ih=>
  intro listed a w hc hfree hr hy H
  refine⟨fun h=>(by rw[h] at hr;cases hr),fun j hj=>?_⟩
  by_cases hji:j=i
  ·subst hji;exact hy.gOp hi H
  ·have h1:=H.2 j (ready_mono hj hji)
   obtain⟨hjun,oj,hoj,hall⟩:=mem_ready.1 hj
   obtain⟨hap,hst⟩:=hfree j oj hoj hji hjun (Jw.not_ready hc hr hj)
   have h2:=Su hoj hap hst (fun cs b=>hsel i oi cs b hi) (fun cs b=>hsel j oj cs b hoj) hQ hy h1
   have hfree':∀ k ok,ops[k]?=some ok→k≠i→(listed.setIfInBounds j true).getD k true=false→
     ¬ Jw md ops i k→oi.apart ops ok=true∧(isStore ok=false∨pureOp oi=true):=fun k ok hk hki hun hno=>by
    refine hfree k ok hk hki ?_ hno
    by_cases hjk:j=k
    ·subst hjk;exact hjun
    ·rw[getD_set_ne true hjk] at hun;exact hun
   refine St (fun a' w' h3=>ih (listed.setIfInBounds j true) a' w' (hc.set hj) hfree' (ready_mono hr (Ne.symm hji)) h3.1 ?_) h2
   rw[Array.setIfInBounds_comm _ _ hji]
   exact h3.2
def wpE (P:Program)(ops:Array Oper)(Q:Exit→Act→World→Prop):List (Nat × Bool)→Act→World→Prop
 | [],a,w=>Q .normal a w
 | (i,r) :: rest,a,w=>∃ o,ops[i]?=some o∧
   if Region.wanted o (yielded ops a.tmps)=true then
    (if r=true then ∃ v,(∀ w',Gr w w'→(execOp a.eval o).run P w' = .ok (.value v) w')∧wpE P ops Q rest (a.put o.dst v) w
     else Oper.wp P o a w (fun a' w'=>relOf o w w'∧wpE P ops Q rest a' w') Q)
   else wpE P ops Q rest (a.put o.dst undef) w
def waitsGo (md:Region.Mode)(i:Nat):List Oper→Array Bool→Array Bool
 | [],acc=>acc
 | o :: l,acc=>waitsGo md i l (acc.push (o.after.any fun e=>Region.binds md e && (e.on == i || acc.getD e.on false)))
theorem O0 {i:Nat}:∀ (l:List Oper) (acc:Array Bool),(∀ j,l[j]?=ops[acc.size+j]?)→(∀ j,acc.getD j false=true→Jw md ops i j)→
  ∀ j,(waitsGo md i l acc).getD j false=true→Jw md ops i j
 | [],_,_,hacc=>hacc
 | o :: l,acc,hl,hacc=>by
  refine O0 l _ (fun j=>?_) (fun j hj=>?_)
  ·have:=hl (j+1)
   simpa[Nat.add_assoc,Nat.add_comm 1 j] using this
  ·by_cases h:j=acc.size
   ·subst h
    simp only[Array.getD_eq_getD_getElem?,Array.getElem?_push_size,Option.getD_some] at hj
    obtain⟨e,he,hb⟩:=Array.any_eq_true'.1 hj
    simp only[Bool.and_eq_true,Bool.or_eq_true,beq_iff_eq] at hb
    have h0:ops[acc.size]?=some o:=by simpa using(hl 0).symm
    rcases hb.2 with h|h
    ·exact .base h0 he hb.1 h
    ·exact .step h0 he hb.1 (hacc _ (by simpa[Array.getD_eq_getD_getElem?] using h))
   ·refine hacc j ?_
    simpa[Array.getD_eq_getD_getElem?,Array.getElem?_push,h] using hj
def freeG (md:Region.Mode)(ops:Array Oper)(listed:Array Bool)(i:Nat):Bool:=
 match ops[i]? with
 | none=>false
 | some oi=>
  (List.range ops.size).all fun j=>j == i || listed.getD j true || match ops[j]? with
   | some oj=>(oi.apart ops oj && (!isStore oj || pureOp oi)) || (waitsGo md i ops.toList #[]).getD j false
   | none=>true
theorem N6 {i:Nat}{oi:Oper}{listed:Array Bool}(hi:ops[i]?=some oi)(h:freeG md ops listed i=true)(j:Nat)(oj:Oper)
  (hj:ops[j]?=some oj) (hne:j≠i) (hun:listed.getD j true=false) (hno:¬ Jw md ops i j):
  oi.apart ops oj=true∧(isStore oj=false∨pureOp oi=true):=by
 simp only[freeG,hi,List.all_eq_true,List.mem_range] at h
 have h1:=h j (Array.getElem?_eq_some_iff.1 hj).1
 simp only[hj,Bool.or_eq_true,beq_iff_eq,hne,false_or,hun,Bool.false_eq_true] at h1
 rcases h1 with h1|h1
 ·simpa using h1
 ·exact absurd (O0 (md:=md) (ops:=ops) (i:=i) ops.toList #[] (by simp) (by simp) j h1) hno
def eagerB (md:Region.Mode)(ops:Array Oper):List (Nat × Bool)→Array Bool→Bool
 | [],listed=>(Region.ready md ops listed).isEmpty
 | (i,r) :: rest,listed=>(if r then (Region.ready md ops listed).contains i && freeG md ops listed i else Region.ready md ops listed == [i]) && eagerB md ops rest (listed.setIfInBounds i true)
theorem L6 (hs:Region.noSelect ops=true)(hQ:∀ c a d v w,Q (.panic c) (a.put d v) w→Q (.panic c) a w):
  ∀ (l:List (Nat × Bool)) (listed:Array Bool) (a:Act) (w:World),J4 md ops listed→eagerB md ops l listed=true→wpE P ops Q l a w→wpAnyG P md ops Q l.length listed a w
 | [],listed,a,w,_,hB,h=>⟨by simpa[eagerB] using hB,h⟩
 | (i,true) :: l,listed,a,w,hc,hB,h=>by
  simp only[eagerB,if_true,Bool.and_eq_true] at hB
  obtain⟨⟨hr,hf⟩,hB'⟩:=hB
  obtain⟨o,ho,h⟩:=h
  have hr':i ∈ Region.ready md ops listed:=by simpa using hr
  by_cases hw:Region.wanted o (yielded ops a.tmps)=true
  ·rw[if_pos hw,if_pos rfl] at h
   obtain⟨v,hv,h⟩:=h
   exact L8 ho (Region.noSelect_spec hs) hQ l.length listed a w hc (N6 ho hf) hr' (.mk hw hv) (L6 hs hQ l _ _ _ (hc.set hr') hB' h)
  ·rw[if_neg hw] at h
   exact L8 ho (Region.noSelect_spec hs) hQ l.length listed a w hc (N6 ho hf) hr' (.inr ⟨by simpa using hw,rfl⟩) (L6 hs hQ l _ _ _ (hc.set hr') hB' h)
 | (i,false) :: l,listed,a,w,hc,hB,h=>by
  simp only[eagerB,Bool.false_eq_true,if_false,Bool.and_eq_true,beq_iff_eq] at hB
  obtain⟨hr,hB'⟩:=hB
  obtain⟨o,ho,h⟩:=h
  refine⟨fun h0=>(by rw[hr] at h0;cases h0),fun j hj=>?_⟩
  rw[hr,List.mem_singleton] at hj
  subst hj
  have hc':J4 md ops (listed.setIfInBounds j true):=hc.set (by rw[hr];simp)
  unfold gOp wpOp
  simp only[ho]
  by_cases hw:Region.wanted o (yielded ops a.tmps)=true
  ·rw[if_pos hw,if_neg (by simp)] at h
   rw[if_pos hw]
   refine .inl (Oper.wp_mono (fun a' w' hk=>⟨fun o' ho'=>?_,L6 hs hQ l _ _ _ hc' hB' hk.2⟩) h)
   cases ho';exact hk.1
  ·rw[if_neg hw] at h
   rw[if_neg hw]
   exact⟨fun _ _=>relOf.refl _ _,L6 hs hQ l _ _ _ hc' hB' h⟩
theorem Ll {id:Nat}{a:Act}{w:World}(order:List (Nat × Bool))(hm:P.follows .mixedOrders=true)(hs:Region.noSelect ops=true)
  (hn:order.length=ops.size) (hB:eagerB .any ops order (Array.replicate ops.size false)=true) (hQ:∀ c a d v w,Q (.panic c) (a.put d v) w→Q (.panic c) a w)
  (h:wpE P ops Q order a w.drew):(Code.region id ops true).wp P Q a w:=by
 refine wp_region_any hm (Nt _ _ _ _ ?_)
 have:=L6 (md:=.any) hs hQ order (Array.replicate ops.size false) a w.drew (fun j o _ hl=>by simp[Array.getElem?_replicate] at hl;split at hl<;>simp at hl) hB h
 rw[hn] at this
 exact this
end region
section steps
variable {P:Program}{ops:Array Oper}{Q:Exit→Act→World→Prop}{i:Nat}{rest:List (Nat × Bool)}{a:Act}{w:World}{o:Oper}
theorem Ji (h:Q .normal a w):wpE P ops Q [] a w:=h
theorem Uv (ho:ops[i]?=some o)(hw:Region.wanted o (yielded ops a.tmps)=true)
  (h:∀ K:Act→World→Prop,(∀ a w,wpE P ops Q rest a w→K a w)→∃ v,(∀ w',Gr w w'→(execOp a.eval o).run P w' = .ok (.value v) w')∧K (a.put o.dst v) w):wpE P ops Q ((i,true) :: rest) a w:=
 ⟨o,ho,by rw[if_pos hw,if_pos rfl];exact h _ (fun _ _ h=>h)⟩
theorem Jf {wb:World}(hb:Gr wb w)(ho:ops[i]?=some o)(hw:Region.wanted o (yielded ops a.tmps)=true){v:Value}(hv:∀ w',Gr wb w'→(execOp a.eval o).run P w' = .ok (.value v) w')
  (h:∀ K:Act→World→Prop,(∀ a w,wpE P ops Q rest a w→K a w)→K (a.put o.dst v) w):wpE P ops Q ((i,true) :: rest) a w:=
 ⟨o,ho,by rw[if_pos hw,if_pos rfl];exact⟨v,fun w' hg=>hv w' (hb.trans hg),h _ (fun _ _ h=>h)⟩⟩
theorem Jj (ho:ops[i]?=some o)(hw:Region.wanted o (yielded ops a.tmps)=true)
  (h:∀ K:Act→World→Prop,(∀ a w,wpE P ops Q rest a w→K a w)→Oper.wp P o a w (fun a' w'=>relOf o w w'∧K a' w') Q):wpE P ops Q ((i,false) :: rest) a w:=
 ⟨o,ho,by rw[if_pos hw,if_neg (by simp)];exact h _ (fun _ _ h=>h)⟩
theorem Ka {r:Bool}(ho:ops[i]?=some o)(hw:Region.wanted o (yielded ops a.tmps)=false)(h:wpE P ops Q rest (a.put o.dst undef) w):wpE P ops Q ((i,r) :: rest) a w:=
 ⟨o,ho,by rw[if_neg (by simp[hw])];exact h⟩
end steps
section region
variable {P:Program}{ops:Array Oper}{md:Region.Mode}{Q:Exit→Act→World→Prop}
def predsM (md:Region.Mode):List Edge→Nat
 | []=>0
 | e :: l=>bif Region.binds md e then Nat.lor (Nat.pow 2 e.on) (predsM md l) else predsM md l
theorem M3 {k:Nat}:∀ l:List Edge,(predsM md l).testBit k=true↔∃ e ∈ l,Region.binds md e=true∧e.on=k
 | []=>by simp[predsM]
 | e :: l=>by
  have ih:=M3 (k:=k) l
  unfold predsM
  cases hb:Region.binds md e
  ·simp[ih,hb]
  ·show((2 ^ e.on ||| predsM md l).testBit k=true)↔_
   rw[Nat.testBit_or,Bool.or_eq_true,ih,Nat.testBit_two_pow]
   simp[hb]
def subM (p L:Nat):Bool:=Nat.beq (Nat.land p L) p
theorem Uf {p L:Nat}:subM p L=true↔∀ k,p.testBit k=true→L.testBit k=true:=by
 unfold subM
 rw[Nat.beq_eq]
 show(p &&& L=p)↔_
 constructor
 ·intro h k hk
  rw[← h,Nat.testBit_and,Bool.and_eq_true] at hk
  exact hk.2
 ·intro h
  apply Nat.eq_of_testBit_eq
  intro k
  rw[Nat.testBit_and]
  cases hp:p.testBit k
  ·rfl
  ·rw[h k hp];rfl
def tb (m n:Nat):Bool:=Nat.beq (Nat.land 1 (Nat.shiftRight m n)) 1
theorem M4 (m n:Nat):tb m n=m.testBit n:=by
 unfold tb Nat.testBit
 have h:Nat.land 1 (Nat.shiftRight m n)=(m >>> n) % 2:=by
  show 1 &&& (m >>> n)=_
  rw[Nat.and_comm,Nat.and_one_is_mod]
 show Nat.beq (Nat.land 1 (Nat.shiftRight m n)) 1=(1 &&& (m >>> n) != 0)
 rw[show 1 &&& (m >>> n)=Nat.land 1 (Nat.shiftRight m n) from rfl,h]
 have:=Nat.mod_lt (m >>> n) (show 0 < 2 by decide)
 generalize (m >>> n) % 2=x at *
 match x,this with
 | 0,_=>rfl
 | 1,_=>rfl
def waitsM (md:Region.Mode)(I:Nat):List Oper→Nat→Nat→Nat
 | [],_,W=>W
 | o :: l,k,W=>bif Nat.beq (Nat.land (predsM md o.after.toList) (Nat.lor W I)) 0 then waitsM md I l (k+1) W else waitsM md I l (k+1) (Nat.lor W (Nat.pow 2 k))
theorem Ns {i:Nat}:∀ (l:List Oper) (k W:Nat),(∀ j,l[j]?=ops[k+j]?)→(∀ j,W.testBit j=true→Jw md ops i j)→
  ∀ j,(waitsM md (2 ^ i) l k W).testBit j=true→Jw md ops i j
 | [],_,_,_,hW=>hW
 | o :: l,k,W,hl,hW=>by
  have hl':∀ j,l[j]?=ops[k+1+j]?:=fun j=>by
   have:=hl (j+1)
   simpa[Nat.add_assoc,Nat.add_comm 1 j] using this
  have h0:ops[k]?=some o:=by simpa using(hl 0).symm
  unfold waitsM
  cases hb:Nat.beq (Nat.land (predsM md o.after.toList) (Nat.lor W (2 ^ i))) 0
  ·refine Ns l (k+1) _ hl' (fun j hj=>?_)
   have hj:(W ||| 2 ^ k).testBit j=true:=hj
   rw[Nat.testBit_or,Bool.or_eq_true,Nat.testBit_two_pow] at hj
   rcases hj with hj|hj
   ·exact hW j hj
   ·obtain rfl:k=j:=by simpa using hj
    have hne:predsM md o.after.toList &&& (W ||| 2 ^ i)≠0:=fun h=>by
     rw[show Nat.land (predsM md o.after.toList) (Nat.lor W (2 ^ i))=predsM md o.after.toList &&& (W ||| 2 ^ i) from rfl,h] at hb
     cases hb
    obtain⟨t,ht⟩:=Nat.exists_testBit_of_ne_zero hne
    rw[Nat.testBit_and,Nat.testBit_or,Bool.and_eq_true,Bool.or_eq_true,Nat.testBit_two_pow] at ht
    obtain⟨e,he,hbe,rfl⟩:=(M3 _).1 ht.1
    have he:e ∈ o.after:=by simpa using he
    rcases ht.2 with h|h
    ·exact .step h0 he hbe (hW _ h)
    ·exact .base h0 he hbe (by simpa using Eq.symm (by simpa using h))
  ·exact Ns l (k+1) _ hl' hW
def freeM (ops:Array Oper)(oi:Oper)(skip:Nat):List Oper→Nat→Bool
 | [],_=>true
 | o :: l,j=>(tb skip j || (oi.apart ops o && (!isStore o || pureOp oi))) && freeM ops oi skip l (j+1)
theorem Pl {oi:Oper}{skip:Nat}:∀ (l:List Oper) (k:Nat),(∀ j,l[j]?=ops[k+j]?)→freeM ops oi skip l k=true→
  ∀ j o,k≤j→ops[j]?=some o→skip.testBit j=false→oi.apart ops o=true∧(isStore o=false∨pureOp oi=true)
 | [],k,hl,_,j,o,hk,hj,_=>by
  have:=hl (j - k)
  rw[show k+(j - k)=j by omega,hj] at this
  cases this
 | o' :: l,k,hl,h,j,o,hk,hj,hs=>by
  unfold freeM at h
  rw[Bool.and_eq_true] at h
  by_cases hjk:j=k
  ·subst hjk
   have h0:ops[j]?=some o':=by simpa using(hl 0).symm
   rw[h0] at hj
   cases hj
   have h1:=h.1
   rw[M4,hs,Bool.false_or] at h1
   simpa using h1
  ·exact Pl l (k+1) (fun j=>by have:=hl (j+1);simpa[Nat.add_assoc,Nat.add_comm 1 j] using this) h.2 j o (by omega) hj hs
def onlyM (md:Region.Mode)(L skip:Nat):List Oper→Nat→Bool
 | [],_=>true
 | o :: l,j=>(tb skip j || !subM (predsM md o.after.toList) L) && onlyM md L skip l (j+1)
theorem Mg {L skip:Nat}:∀ (l:List Oper) (k:Nat),(∀ j,l[j]?=ops[k+j]?)→onlyM md L skip l k=true→
  ∀ j o,k≤j→ops[j]?=some o→skip.testBit j=false→subM (predsM md o.after.toList) L=false
 | [],k,hl,_,j,o,hk,hj,_=>by
  have:=hl (j - k)
  rw[show k+(j - k)=j by omega,hj] at this
  cases this
 | o' :: l,k,hl,h,j,o,hk,hj,hs=>by
  unfold onlyM at h
  rw[Bool.and_eq_true] at h
  by_cases hjk:j=k
  ·subst hjk
   have h0:ops[j]?=some o':=by simpa using(hl 0).symm
   rw[h0] at hj
   cases hj
   have h1:=h.1
   rw[M4,hs,Bool.false_or] at h1
   simpa using h1
  ·exact Mg l (k+1) (fun j=>by have:=hl (j+1);simpa[Nat.add_assoc,Nat.add_comm 1 j] using this) h.2 j o (by omega) hj hs
def fastB (md:Region.Mode)(ops:Array Oper)(os:List Oper):List (Nat × Bool)→Nat→Bool
 | [],L=>onlyM md L L os 0
 | (i,r) :: rest,L=>match os[i]? with
  | none=>false
  | some oi=>(!tb L i && subM (predsM md oi.after.toList) L) &&
   ((bif r then freeM ops oi (Nat.lor (Nat.lor L (Nat.pow 2 i)) (waitsM md (Nat.pow 2 i) os 0 0)) os 0 else onlyM md L (Nat.lor L (Nat.pow 2 i)) os 0) &&
    fastB md ops os rest (Nat.lor L (Nat.pow 2 i)))
theorem L5 {L:Nat}{listed:Array Bool}(hs:listed.size=ops.size)(hL:∀ j,listed.getD j false=L.testBit j){i:Nat}{o:Oper}(ho:ops[i]?=some o):
  i ∈ Region.ready md ops listed↔L.testBit i=false∧subM (predsM md o.after.toList) L=true:=by
 have hi:i < listed.size:=by rw[hs];exact(Array.getElem?_eq_some_iff.1 ho).1
 have e:listed.getD i true=L.testBit i:=by rw[← hL i];simp[hi]
 rw[mem_ready,e,Uf]
 constructor
 ·rintro⟨h1,o',ho',h2⟩
  rw[ho] at ho'
  cases ho'
  refine⟨h1,fun k hk=>?_⟩
  obtain⟨e,he,hb,rfl⟩:=(M3 _).1 hk
  rw[← hL];exact h2 e (by simpa using he) hb
 ·rintro⟨h1,h2⟩
  exact⟨h1,o,ho,fun e he hb=>by rw[hL];exact h2 _ ((M3 _).2 ⟨e,by simpa using he,hb,rfl⟩)⟩
theorem Pz {L i:Nat}{listed:Array Bool}(hi:i < listed.size)(hL:∀ j,listed.getD j false=L.testBit j)(j:Nat):
  (listed.setIfInBounds i true).getD j false=(Nat.lor L (Nat.pow 2 i)).testBit j:=by
 show _=(L ||| 2 ^ i).testBit j
 rw[Nat.testBit_or,Nat.testBit_two_pow,← hL j]
 by_cases h:i=j
 ·subst h
  simp[hi]
 ·rw[getD_set_ne false h]
  simp[h]
theorem L7 (hs:Region.noSelect ops=true)(hQ:∀ c a d v w,Q (.panic c) (a.put d v) w→Q (.panic c) a w):
  ∀ (l:List (Nat × Bool)) (L:Nat) (listed:Array Bool) (a:Act) (w:World),listed.size=ops.size→(∀ j,listed.getD j false=L.testBit j)→J4 md ops listed→fastB md ops ops.toList l L=true→wpE P ops Q l a w→wpAnyG P md ops Q l.length listed a w
 | [],L,listed,a,w,hz,hL,_,hB,h=>by
  refine⟨?_,h⟩
  rw[List.eq_nil_iff_forall_not_mem]
  intro j hj
  obtain⟨_,o,ho,_⟩:=mem_ready.1 hj
  have h1:=(L5 hz hL ho).1 hj
  have h2:=Mg ops.toList 0 (by simp) hB j o (Nat.zero_le _) ho h1.1
  rw[h1.2] at h2
  cases h2
 | (i,r) :: l,L,listed,a,w,hz,hL,hc,hB,h=>by
  obtain⟨o,ho,h⟩:=h
  have hlt:i < listed.size:=by rw[hz];exact(Array.getElem?_eq_some_iff.1 ho).1
  have ho':ops.toList[i]?=some o:=by simpa using ho
  simp only[fastB,ho',Bool.and_eq_true,M4] at hB
  obtain⟨⟨hr1,hr2⟩,hf,hB'⟩:=hB
  have hr':i ∈ Region.ready md ops listed:=(L5 hz hL ho).2 ⟨by simpa using hr1,hr2⟩
  have hz':(listed.setIfInBounds i true).size=ops.size:=by simpa using hz
  have hL':=Pz hlt hL
  cases r
  ·have hf:onlyM md L (Nat.lor L (Nat.pow 2 i)) ops.toList 0=true:=hf
   have hone:∀ j ∈ Region.ready md ops listed,j=i:=fun j hj=>by
    obtain⟨_,oj,hoj,_⟩:=mem_ready.1 hj
    have h1:=(L5 hz hL hoj).1 hj
    by_cases hji:j=i
    ·exact hji
    ·have h3:(Nat.lor L (Nat.pow 2 i)).testBit j=false:=by
      show(L ||| 2 ^ i).testBit j=false
      rw[Nat.testBit_or,h1.1,Nat.testBit_two_pow]
      simp[Ne.symm hji]
     have h2:=Mg ops.toList 0 (by simp) hf j oj (Nat.zero_le _) hoj h3
     rw[h1.2] at h2
     cases h2
   refine⟨fun h0=>(by rw[h0] at hr';cases hr'),fun j hj=>?_⟩
   obtain rfl:=hone j hj
   have hc':J4 md ops (listed.setIfInBounds j true):=hc.set hr'
   unfold gOp wpOp
   simp only[ho]
   by_cases hw:Region.wanted o (yielded ops a.tmps)=true
   ·rw[if_pos hw,if_neg (by simp)] at h
    rw[if_pos hw]
    refine .inl (Oper.wp_mono (fun a' w' hk=>⟨fun o' ho'=>?_,L7 hs hQ l _ _ _ _ hz' hL' hc' hB' hk.2⟩) h)
    cases ho';exact hk.1
   ·rw[if_neg hw] at h
    rw[if_neg hw]
    exact⟨fun _ _=>relOf.refl _ _,L7 hs hQ l _ _ _ _ hz' hL' hc' hB' h⟩
  ·have hf:freeM ops o (Nat.lor (Nat.lor L (Nat.pow 2 i)) (waitsM md (Nat.pow 2 i) ops.toList 0 0)) ops.toList 0=true:=hf
   have hfree:∀ j oj,ops[j]?=some oj→j≠i→listed.getD j true=false→¬ Jw md ops i j→o.apart ops oj=true∧(isStore oj=false∨pureOp o=true):=fun j oj hj hne hun hno=>by
    refine Pl ops.toList 0 (by simp) hf j oj (Nat.zero_le _) hj ?_
    have hjl:j < listed.size:=by rw[hz];exact(Array.getElem?_eq_some_iff.1 hj).1
    have e:listed.getD j true=L.testBit j:=by rw[← hL j];simp[hjl]
    show((L ||| 2 ^ i) ||| waitsM md (2 ^ i) ops.toList 0 0).testBit j=false
    rw[Nat.testBit_or,Nat.testBit_or,← e,hun,Nat.testBit_two_pow]
    cases hwt:(waitsM md (2 ^ i) ops.toList 0 0).testBit j
    ·simp[Ne.symm hne]
    ·exact absurd (Ns (md:=md) (ops:=ops) (i:=i) ops.toList 0 0 (by simp) (by simp) j hwt) hno
   by_cases hw:Region.wanted o (yielded ops a.tmps)=true
   ·rw[if_pos hw,if_pos rfl] at h
    obtain⟨v,hv,h⟩:=h
    exact L8 ho (Region.noSelect_spec hs) hQ l.length listed a w hc hfree hr' (.mk hw hv) (L7 hs hQ l _ _ _ _ hz' hL' (hc.set hr') hB' h)
   ·rw[if_neg hw] at h
    exact L8 ho (Region.noSelect_spec hs) hQ l.length listed a w hc hfree hr' (.inr ⟨by simpa using hw,rfl⟩) (L7 hs hQ l _ _ _ _ hz' hL' (hc.set hr') hB' h)
theorem Jp {id:Nat}{a:Act}{w:World}(order:List (Nat × Bool))(hm:P.follows .mixedOrders=true)(hs:Region.noSelect ops=true)
  (hn:order.length=ops.size) (hB:fastB .any ops ops.toList order 0=true) (hQ:∀ c a d v w,Q (.panic c) (a.put d v) w→Q (.panic c) a w)
  (h:wpE P ops Q order a w.drew):(Code.region id ops true).wp P Q a w:=by
 refine wp_region_any hm (Nt _ _ _ _ ?_)
 have:=L7 (md:=.any) hs hQ order 0 (Array.replicate ops.size false) a w.drew (by simp) (fun j=>by
  rw[Nat.zero_testBit]
  by_cases hj:j < ops.size<;>simp[Array.getElem?_replicate,hj]) (fun j o _ hl=>by simp[Array.getElem?_replicate] at hl;split at hl<;>simp at hl) hB h
 rw[hn] at this
 exact this
end region
theorem Uu {P:Program}{ops:Array Oper}{Q:Exit→Act→World→Prop}{i:Nat}{rest:List (Nat × Bool)}{a:Act}{w:World}{o:Oper}{f:FuncId}{args:Array Value}
  (ho:ops[i]?=some o) (hw:Region.wanted o (yielded ops a.tmps)=true) (hx:(execOp a.eval o).run P w = .ok (.enter f args) w)
  (h:∀ K:Act→World→Prop,(∀ a w,wpE P ops Q rest a w→K a w)→Calls P f args w fun e w'=>∃ v,e = .returned v∧Gr w w'∧K (a.put o.dst v) w'):wpE P ops Q ((i,false) :: rest) a w:=by
 refine Jj ho hw fun K hK=>?_
 unfold Oper.wp
 rw[hx]
 simp only[Oper.upon]
 refine(h K hK).mono ?_
 rintro e w' ⟨v,rfl,hg,hk⟩
 exact⟨fun _=>hg,hk⟩
theorem Qo {P:Program}{ρ:Operand→Value}{o:Oper}{w:World}{c:Call}{x:Operand}{f:FuncId}{first caps:Array Value}{fn:Func}(hop:o.op = .call c)(hc:c.callee = .value x)
  (hx : ρ x = .func (.func f) first caps) (hf : P.funcs[f]? = some fn) (hn : (fn.name == "runtime.NumGoroutine") = false) (hb : fn.body.isNone = false) :
  (execOp ρ o).run P w = .ok (.enter f ((first ++ c.args.map ρ) ++ caps)) w:=by
 have hn' : ¬ fn.name = "runtime.NumGoroutine" := by simpa using hn
 have hb':¬ fn.body=none:=by intro h;rw[h] at hb;cases hb
 unfold execOp
 simp only[hop,resolve,hc,hx,Deferred.ofValue,invoke,callFunc]
 simp[go_sem,hf,hn',hb']
theorem Jd {P:Program}{ops:Array Oper}{Q:Exit→Act→World→Prop}{i:Nat}{rest:List (Nat × Bool)}{a:Act}{w:World}{o:Oper}{c:Call}{x:Operand}{f:FuncId}{first caps args:Array Value}{fn:Func}
  (ho:ops[i]?=some o) (hw:Region.wanted o (yielded ops a.tmps)=true) (hop:o.op = .call c) (hc:c.callee = .value x) (hx:a.eval x = .func (.func f) first caps)
  (hf : P.funcs[f]? = some fn) (hn : (fn.name == "runtime.NumGoroutine") = false) (hb : fn.body.isNone = false) (hargs : (first ++ c.args.map a.eval) ++ caps = args)
  (h:∀ K:Act→World→Prop,(∀ a w,wpE P ops Q rest a w→K a w)→Calls P f args w fun e w'=>∃ v,e = .returned v∧Gr w w'∧K (a.put o.dst v) w'):wpE P ops Q ((i,false) :: rest) a w:=
 Uu ho hw (by rw[Qo hop hc hx hf hn hb,hargs]) h
end Go.Proofs.YtcjgimlcefhhmaaGreatDoor.Stip
