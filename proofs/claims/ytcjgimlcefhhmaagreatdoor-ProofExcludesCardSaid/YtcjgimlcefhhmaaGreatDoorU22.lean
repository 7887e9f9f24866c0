/- Texts: RowQ. -/
import Derived.Test.YtcjgimlcefhhmaaGreatDoorRows
import Derived.Test.YtcjgimlcefhhmaaGreatDoorCards
import Derived.Test.YtcjgimlcefhhmaaGreatDoorTie
import Derived.LaidMore
import Derived.Stop.Joined
import Derived.Stop.LaidErr
import Derived.SevenTiedAt
import Derived.HandedShaped
import Derived.Lay
import Derived.Shelf.Vars
import Derived.Test.YtcjgimlcefhhmaaGreatDoorU10
import Derived.Test.YtcjgimlcefhhmaaGreatDoorU20
import Derived.Test.YtcjgimlcefhhmaaGreatDoorU21
set_option linter.unusedVariables false
set_option linter.unusedSimpArgs false
set_option maxRecDepth 100000
set_option maxHeartbeats 12800000
namespace Go.Proofs.YtcjgimlcefhhmaaGreatDoor
open Go.ChangeShapes Go.WideShapes Go.ChangeAt Go.RowKit Go.Joins
theorem own:ownKnob Tryz.prog.godebug=none:=by kernel_rfl
theorem laidOut:laidOutB Tryz.prog=true:=by kernel_rfl
def laidL : List (String × DataW Unit) := [("math/bits.deBruijn32tab", Rows.laid_math_bits_deBruijn32tab), ("math/bits.deBruijn64tab", Rows.laid_math_bits_deBruijn64tab), ("internal/strconv.uint64pow10", Rows.laid_internal_strconv_uint64pow10), ("unicode/utf8.acceptRanges", Rows.laid_unicode_utf8_acceptRanges), ("strconv.ErrRange", Rows.laid_strconv_ErrRange), ("strconv.ErrSyntax", Rows.laid_strconv_ErrSyntax), ("unicode/utf8.first", Rows.laid_unicode_utf8_first)]
theorem gPow : Tryz.prog.globalNamed "internal/strconv.uint64pow10" = some 3 := by kernel_rfl
theorem tPow:(Tryz.prog.globals[3]?).map (·.type)=some 252:=by kernel_rfl
theorem J0K {W:World}(h:laidMetH Tryz.prog laidL W):Tab W:=by
 rw[MakeChecks.laidMetH_plain _ _ _ (by kernel_rfl)] at h
 have h2:=laidMet.tail (laidMet.tail h)
 exact Lib.tabIs_of_head (n:=20) gPow tPow Tryz.underlying252 Tryz.underlying152 (by kernel_rfl) (by kernel_rfl) h2
theorem handed {H:Type}{enc:TypeId × Value→H}{a:Assume}{C:Checked}{os:Os}{f:FuncId}{fn:Func}{s:ChangeSpec}{conds:List PathCond}{apart fresh handsOn again:Bool}{X:World→Array Value→Prop}
  (hX:∀ (w w':World) (args:Array Value),w.heap=w'.heap→X w args→X w' args)
  (own:ownKnob C.prog.godebug=none) (started:os.Started) (noInit:C.prog.inits.idxOf? f=none) (hfn:C.prog.funcs[f]?=some fn)
  (witness:∃ (w:World) (tape:Tape) (i:Input),w.os=os∧(w.forCall tape i).Shaped C.prog∧i.vars=[]∧Input.okWide C.prog (w.forCall tape i) .any w.heap.size f i∧
   ((s.pre enc C.prog fn conds apart (w.forCall tape i).memory i.args∧X (w.forCall tape i).memory i.args)∧sizedMet enc C.prog fn (OpenSpec.ofChange s) apart (w.forCall tape i).memory i.args)∧a.holds C.prog (lone (Frame.enter C.prog f i.args .normal) [] (w.forCall tape i)))
  (contract:∀ (W:World) (base:Nat) (args:Array Value) (ds gs:List (DataW H)) (before:List MemPlace),
   (∀ (j:Nat) t v,fn.params[j]?=some t→args[j]?=some v→Value.okWide C.prog W .any base t v)→
   DataW.Whole enc C.prog fn.params.toList s.vars apart W args.toList ds gs before→(DataW.weightsEach C.prog (fn.params.toList ++ s.plain.varTypes C.prog) (ds ++ gs)).all (·≤reachBytes)=true→X W args→W.ShapedOpen C.prog→
   Calls C.prog f args W fun e W'=>∃ v,e = .returned v∧s.post enc C.prog fn apart fresh handsOn again W args v W'):
  ReturnsInHanded a C os f .any (fun w args=>(s.pre enc C.prog fn conds apart w args∧X w args)∧sizedMet enc C.prog fn (OpenSpec.ofChange s) apart w args) (s.post enc C.prog fn apart fresh handsOn again):=by
 refine returnsInHanded_of_calls own started noInit witness ?_
 intro w tape i _ hsh _ hok hpre hholds
 obtain⟨_,_,_,fn',hfn',_,_,_,_,hval⟩:=hok
 have e:fn'=fn:=Option.some.inj (hfn'.symm.trans hfn)
 subst e
 obtain⟨⟨⟨ds,gs,before,hw,hc⟩,hx⟩,hz⟩:=hpre
 have hw':=DataW.Whole.of_heap (w':=w.forCall tape i) (by rfl) hw
 refine(contract (w.forCall tape i) w.heap.size i.args ds gs before hval hw' (hz.weights hw) (hX _ _ _ (by rfl) hx) hsh).mono fun e W' ⟨v,he,hp⟩=>?_
 subst he
 exact ChangeSpec.post_blind hp
theorem J0x {W:World}(h:W.ShapedOpen Tryz.prog):∃ m,W.cell? ⟨2,0,none⟩=some (.int .i64 m):=
 Go.Proofs.cell_of_shapedOpen_int (zero:=#[.int .i64 0]) (t:=3) h (of_decide_eq_true (by kernel_rfl)) (by kernel_rfl) rfl (by kernel_rfl) (by kernel_rfl) Tryz.underlying3
namespace Prf
section
variable {H:Type}{enc:TypeId × Value→H}{w:World}{r:Reach}{b0:Nat}{v:Value}{d:DataW H}{q:List MemPlace}
theorem Zv (hv:Value.okWide Tryz.prog w r b0 25 v)(h:DataW.Trod enc Tryz.prog w 0 (fun _=>true) true 25 v d q)(hw:Jq 25 d):
  ∃ (a:Option Addr) (V:List VarM) (c:Nat) (b:Option Addr) (T:List RowM) (e:Nat),v = .agg #[.slice a V.length c,.slice b T.length e]∧K3 w (.slice a V.length c) V∧SlL w 5 encRow (.slice b T.length e) T∧(∀ y ∈ V,VarI y)∧(∀ y ∈ T,RowR w y∧y.name.length≤9223372036854775807)∧V.length≤35184372088832∧T.length≤35184372088832:=by
 obtain⟨cs,rfl,hsz⟩:=okWide_struct Tryz.underlying25 hv
 obtain⟨fuel,h⟩:=h
 obtain⟨a,V,c,b,T,e,h1,h2⟩:=J4A h hw
 have hcs:(Value.agg cs).cells.toList=cs.toList:=rfl
 rw[hcs] at h1
 exact⟨a,V,c,b,T,e,congrArg Value.agg (Array.ext' h1),h2⟩
theorem J0A {p:Option Addr}{n c:Nat}(hv:∀ cs,v≠.agg cs)(h:v.cells.toList=[.slice p n c]):v = .slice p n c:=by
 cases v<;>first|(exact absurd rfl (hv _))|(simp[Value.cells] at h;done)|(simpa[Value.cells] using h)
theorem Zu (hv:Value.okWide Tryz.prog w r b0 26 v)(h:DataW.Trod enc Tryz.prog w 0 (fun _=>true) true 26 v d q)(hw:Jq 26 d):
  ∃ (p:Option Addr) (l:List Jm) (c:Nat),v = .slice p l.length c∧SlL w 8 encNode (.slice p l.length c) l∧l.length≤35184372088832∧∀ y ∈ l,Mt w y:=by
 obtain⟨fuel,h⟩:=h
 obtain⟨p,l,c,h1,h2⟩:=J4z h hw
 refine⟨p,l,c,J0A (fun cs e=>?_) h1,h2⟩
 subst e
 simp only[Value.okWide,Tryz.underlying26,Cell.okWide,Cell.ok] at hv
end
end Prf
end Go.Proofs.YtcjgimlcefhhmaaGreatDoor
