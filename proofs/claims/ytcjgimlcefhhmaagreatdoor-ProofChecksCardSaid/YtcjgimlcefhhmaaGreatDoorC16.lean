/- Texts: RowQ. -/
import Derived.Test.YtcjgimlcefhhmaaGreatDoorCards
import Derived.Test.YtcjgimlcefhhmaaGreatDoorTie
import Derived.LaidMore
import Derived.Stop.LaidErr
import Derived.HandedShaped
import Derived.Lay
import Derived.Test.YtcjgimlcefhhmaaGreatDoorC15
set_option linter.unusedVariables false
set_option linter.unusedSimpArgs false
set_option maxRecDepth 100000
set_option maxHeartbeats 12800000
namespace Go.Proofs.YtcjgimlcefhhmaaGreatDoor
open Go.ChangeShapes Go.WideShapes Go.ChangeAt Go.RowKit Go.Joins
theorem own:ownKnob Tryz.prog.godebug=none:=by kernel_rfl
theorem laidOut:laidOutB Tryz.prog=true:=by kernel_rfl
def laidL : List (String × DataW Unit) := [("math/bits.deBruijn32tab", Rows.laid_math_bits_deBruijn32tab), ("math/bits.deBruijn64tab", Rows.laid_math_bits_deBruijn64tab), ("internal/strconv.uint64pow10", Rows.laid_internal_strconv_uint64pow10), ("unicode/utf8.acceptRanges", Rows.laid_unicode_utf8_acceptRanges), ("strconv.ErrRange", Rows.laid_strconv_ErrRange), ("strconv.ErrSyntax", Rows.laid_strconv_ErrSyntax), ("unicode/utf8.first", Rows.laid_unicode_utf8_first)]
theorem gPow : Tryz.prog.globalNamed "internal/strconv.uint64pow10" = some 3 := by kernel_rfl
theorem tPow:(Tryz.prog.globals[3]?).map (·.type)=some 252:=by kernel_rfl
theorem J6n {W:World}(h:laidMetH Tryz.prog laidL W):Tab W:=by
 rw[MakeChecks.laidMetH_plain _ _ _ (by kernel_rfl)] at h;have a:=laidMet.tail (laidMet.tail h);exact Lib.tabIs_of_head (n:=20) gPow tPow Tryz.underlying252 Tryz.underlying152 (by kernel_rfl) (by kernel_rfl) a
theorem handed {H:Type}{enc:TypeId × Value→H}{a:Assume}{C:Checked}{os:Os}{f:FuncId}{b:Func}{s:ChangeSpec}{o:List PathCond}{g p u n:Bool}{X:World→Array Value→Prop}
  (z:∀ (w w':World) (args:Array Value),w.heap=w'.heap→X w args→X w' args)
  (own:ownKnob C.prog.godebug=none) (O:os.Started) (N:C.prog.inits.idxOf? f=none) (B:C.prog.funcs[f]?=some b)
  (P:∃ (w:World) (c:Tape) (i:Input),w.os=os∧(w.forCall c i).Shaped C.prog∧i.vars=[]∧Input.okWide C.prog (w.forCall c i) .any w.heap.size f i∧
   ((s.pre enc C.prog b o g (w.forCall c i).memory i.args∧X (w.forCall c i).memory i.args)∧sizedMet enc C.prog b (OpenSpec.ofChange s) g (w.forCall c i).memory i.args)∧a.holds C.prog (lone (Frame.enter C.prog f i.args .normal) [] (w.forCall c i)))
  (contract:∀ (W:World) (base:Nat) (args:Array Value) (h k:List (DataW H)) (l:List MemPlace),
   (∀ (j:Nat) t v,b.params[j]?=some t→args[j]?=some v→Value.okWide C.prog W .any base t v)→
   DataW.Whole enc C.prog b.params.toList s.vars g W args.toList h k l→(DataW.weightsEach C.prog (b.params.toList ++ s.plain.varTypes C.prog) (h ++ k)).all (·≤reachBytes)=true→X W args→W.ShapedOpen C.prog→
   Calls C.prog f args W fun e m=>∃ v,e = .returned v∧s.post enc C.prog b g p u n W args v m):
  ReturnsInHanded a C os f .any (fun w args=>(s.pre enc C.prog b o g w args∧X w args)∧sizedMet enc C.prog b (OpenSpec.ofChange s) g w args) (s.post enc C.prog b g p u n):=by
 refine returnsInHanded_of_calls own O N P ?_;intro w c i _ I _ E G R;obtain⟨_,_,_,y,D,_,_,_,_,J⟩:=E;have e:y=b:=Option.some.inj (D.symm.trans B);subst e;obtain⟨⟨⟨h,k,l,x,Q⟩,L⟩,M⟩:=G;have K:=DataW.Whole.of_heap (w':=w.forCall c i) (by rfl) x;refine(contract (w.forCall c i) w.heap.size i.args h k l J K (M.weights x) (z _ _ _ (by rfl) L) I).mono fun e m ⟨v,A,F⟩=>?_;subst A;exact ChangeSpec.post_blind F
theorem J67 {W:World}(h:W.ShapedOpen Tryz.prog):∃ m,W.cell? ⟨2,0,none⟩=some (.int .i64 m):=
 Go.Proofs.cell_of_shapedOpen_int (zero:=#[.int .i64 0]) (t:=3) h (of_decide_eq_true (by kernel_rfl)) (by kernel_rfl) rfl (by kernel_rfl) (by kernel_rfl) Tryz.underlying3
namespace Prf
section
variable {H:Type}{enc:TypeId × Value→H}{w:World}{r:Reach}{b0:Nat}{v:Value}{d:DataW H}{q:List MemPlace}
theorem J4O (k:Value.okWide Tryz.prog w r b0 25 v)(h:DataW.Trod enc Tryz.prog w 0 (fun _=>true) true 25 v d q)(l:Jx 25 d):
  ∃ (a:Option Addr) (V:List VarM) (c:Nat) (b:Option Addr) (T:List RowM) (e:Nat),v = .agg #[.slice a V.length c,.slice b T.length e]∧K8 w (.slice a V.length c) V∧SlL w 5 encRow (.slice b T.length e) T∧(∀ y ∈ V,VarI y)∧(∀ y ∈ T,RowR w y∧y.name.length≤9223372036854775807)∧V.length≤35184372088832∧T.length≤35184372088832:=by
 obtain⟨f,rfl,m⟩:=okWide_struct Tryz.underlying25 k;obtain⟨fuel,h⟩:=h;obtain⟨a,V,c,b,T,e,g,i⟩:=J4N h l;have j:(Value.agg f).cells.toList=f.toList:=rfl;rw[j] at g;exact⟨a,V,c,b,T,e,congrArg Value.agg (Array.ext' g),i⟩
theorem J6c {p:Option Addr}{n c:Nat}(b:∀ a,v≠.agg a)(h:v.cells.toList=[.slice p n c]):v = .slice p n c:=by
 cases v<;>first|(exact absurd rfl (b _))|(simp[Value.cells] at h;done)|(simpa[Value.cells] using h)
theorem J4M (f:Value.okWide Tryz.prog w r b0 26 v)(h:DataW.Trod enc Tryz.prog w 0 (fun _=>true) true 26 v d q)(g:Jx 26 d):
  ∃ (p:Option Addr) (l:List Jr) (c:Nat),v = .slice p l.length c∧SlL w 8 encNode (.slice p l.length c) l∧l.length≤35184372088832∧∀ y ∈ l,Ns w y:=by
 obtain⟨fuel,h⟩:=h;obtain⟨p,l,c,a,b⟩:=J4L h g;refine⟨p,l,c,J6c (fun i e=>?_) a,b⟩;subst e;simp only[Value.okWide,Tryz.underlying26,Cell.okWide,Cell.ok] at f
end
end Prf
end Go.Proofs.YtcjgimlcefhhmaaGreatDoor
