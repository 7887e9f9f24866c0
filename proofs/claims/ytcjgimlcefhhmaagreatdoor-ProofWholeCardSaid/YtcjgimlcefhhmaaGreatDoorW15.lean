/- Texts: Row2 PrC PoA Put PrD Map PyP PyN. -/
import Derived.Test.YtcjgimlcefhhmaaGreatDoorProg
import Derived.WalkKit
import Derived.ProofKit
import Derived.OpenShut
import Derived.JoinedCond
import Derived.Lib.SmallJoins
import Derived.ChangeSlices
import Derived.Carry
import Derived.MapKept
import Derived.Lib.ItoaNum
import Derived.Lib.Strings
import Derived.Lib.Index
import Derived.Lib.Bytealg
import Derived.Lib.Join
import Derived.Test.YtcjgimlcefhhmaaGreatDoorW1
import Derived.Test.YtcjgimlcefhhmaaGreatDoorW14
set_option linter.unusedVariables false
set_option linter.unusedSimpArgs false
set_option maxRecDepth 100000
set_option maxHeartbeats 12800000
namespace Go.Proofs.YtcjgimlcefhhmaaGreatDoor
open Go.RowKit
section enc
variable {α : Type} {enc : α → List Value} {sz : Nat}
theorem ξU (he : ∀ x, (enc x).length = sz) : ∀ l : List α, (l.flatMap enc).length = l.length * sz
 | [] => by simp
 | x :: l => by rw [List.flatMap_cons, List.length_append, he, ξU he l, List.length_cons, Nat.add_mul]; omega
theorem ξ1n (he : ∀ x, (enc x).length = sz) : ∀ (l : List α) (k : Nat) (x : α) (j : Nat), l[k]? = some x → j < sz → (l.flatMap enc)[k * sz + j]? = (enc x)[j]?
 | [], k, x, j, h, _ => by simp at h
 | y :: l, 0, x, j, h, hj => by
  simp at h; subst h
  rw [List.flatMap_cons, List.getElem?_append_left (by rw [he]; omega)]
  simp
 | y :: l, k + 1, x, j, h, hj => by
  have ih := ξ1n he l k x j (by simpa using h) hj
  rw [List.flatMap_cons, List.getElem?_append_right (by rw [he, Nat.add_mul]; omega), ← ih, he]
  congr 1
  rw [Nat.add_mul]; omega
def SlL (w : World) (sz : Nat) (enc : α → List Value) (v : Value) (l : List α) : Prop := SlV w sz v l.length (l.flatMap enc)
theorem SlL.grow {w w' : World} {v : Value} {l : List α} (h : SlL w sz enc v l) (g : Gr w w') : SlL w' sz enc v l := SlV.grow h g
theorem SlL.parts {w : World} {v : Value} {l : List α} (h : SlL w sz enc v l) : ∃ p c, v = .slice p l.length c ∧ l.length ≤ c ∧ c ≤ 9223372036854775807 := SlV.parts h
theorem SlL.nil (w : World) : SlL w sz enc (.slice none 0 0) [] := SlV.nil w sz
theorem SlL.at {w : World} {p : Option Addr} {n c : Nat} {l : List α} (he : ∀ x, (enc x).length = sz) (h : SlL w sz enc (.slice p n c) l) (hn : l.length = n) {k : Nat} (hk : k < n) :
  ∃ b o x, p = some ⟨b, o, none⟩ ∧ l[k]? = some x ∧ ∀ j u, (enc x)[j]? = some u → ∀ w', Gr w w' → w'.cell? ⟨b, o + k * sz + j, none⟩ = some u := by
 unfold SlL at h
 rw [hn] at h
 obtain ⟨b, o, rfl, hc⟩ := SlV.cells h (by omega)
 obtain ⟨x, hx⟩ : ∃ x, l[k]? = some x := ⟨_, List.getElem?_eq_getElem (by omega)⟩
 refine ⟨b, o, x, rfl, hx, fun j u hu w' g => ?_⟩
 have hj : j < sz := by
  have := (List.getElem?_eq_some_iff.1 hu).1
  rw [he] at this; exact this
 rw [Nat.add_assoc]
 exact g.cell (hc _ _ ((ξ1n he l k x j hx hj).trans hu))
theorem SlL.at1 {w : World} {p : Option Addr} {n c : Nat} {l : List α} (he : ∀ x, (enc x).length = 1) (h : SlL w 1 enc (.slice p n c) l) (hn : l.length = n) {k : Nat} (hk : k < n) :
  ∃ b o x, p = some ⟨b, o, none⟩ ∧ l[k]? = some x ∧ ∀ u, enc x = [u] → ∀ w', Gr w w' → w'.cell? ⟨b, o + k, none⟩ = some u := by
 obtain ⟨b, o, x, hp, hx, hc⟩ := h.at he hn hk
 refine ⟨b, o, x, hp, hx, fun u hu w' g => ?_⟩
 have := hc 0 u (by rw [hu]; rfl) w' g
 simpa using this
def OwnL (w : World) (base : Nat) (e : TypeId) (sz : Nat) (enc : α → List Value) (v : Value) (l : List α) : Prop := w.ownsRow base e sz v l.length (l.flatMap enc)
theorem OwnL.read {w : World} {base : Nat} {e : TypeId} {v : Value} {l : List α} (h : OwnL w base e sz enc v l) : SlL w sz enc v l := SlV.of_own h
theorem OwnL.grow {w w' : World} {base : Nat} {e : TypeId} {v : Value} {l : List α} (h : OwnL w base e sz enc v l) (g : Gr w w') : OwnL w' base e sz enc v l := ξaP h g
theorem OwnL.nil (w : World) (base : Nat) (e : TypeId) : OwnL w base e sz enc (.slice none 0 0) [] := World.ownsRow_nil w base e sz
theorem OwnL.made0 (w : World) (base : Nat) (e : TypeId) (hb : base ≤ w.heap.size) : OwnL (w.alloc (.cells #[] e)) base e sz enc (.slice (some ⟨w.heap.size, 0, none⟩) 0 0) [] :=
 World.ownsRow_made w #[] 0 hb (by simp [maxLen]) (by simp)
theorem OwnL.ne {w : World} {base : Nat} {e : TypeId} {v : Value} {l : List α} (h : OwnL w base e sz enc v l) : some w.heap.size ≠ v.ownBlock := fun e => by
 have := (h.lt _ e.symm).2; omega
theorem OwnL.gr {a w w' : World} {e : TypeId} {v : Value} {l : List α} (h : OwnL w a.heap.size e sz enc v l) (g : Gr a w) (hg : w.grownBy w' v.ownBlock) : Gr a w' := ξcD g h hg
theorem SlL.new (w : World) (t : TypeId) (he : ∀ x, (enc x).length = sz) (l : List α) (vs : Array Value) (n : Nat) (h : vs.toList = l.flatMap enc) (hn : l.length = n) (hl : n ≤ 1000000000) :
  Gr w (w.alloc (.cells vs t)) ∧ SlL (w.alloc (.cells vs t)) sz enc (.slice (some ⟨w.heap.size, 0, none⟩) n n) l := by
 refine ⟨(Gr.refl w).alloc _, ?_⟩
 have := SlV.new w sz n vs t (by rw [← hn, ← ξU he, ← h]; simp) hl
 unfold SlL
 rw [hn, ← h]; exact this
end enc
def ξ0 (w : World) (b : Nat) (vs : Array Value) : Prop := ∃ t, w.heap[b]? = some (.cells vs t (0, 0))
theorem ξ0.lt {w : World} {b : Nat} {vs : Array Value} (h : ξ0 w b vs) : b < w.heap.size := by
 obtain ⟨t, h⟩ := h
 rcases Nat.lt_or_ge b w.heap.size with h' | h'
 ·exact h'
 ·rw [Array.getElem?_eq_none h'] at h; cases h
theorem ξ0.grow {w w' : World} {b : Nat} {vs : Array Value} (h : ξ0 w b vs) (g : Gr w w') : ξ0 w' b vs := by
 have hl := h.lt
 obtain ⟨t, h⟩ := h; exact ⟨t, by rw [Below.block g b hl]; exact h⟩
theorem ξ0.grown {w w' : World} {b : Nat} {vs : Array Value} {row : Option Nat} (h : ξ0 w b vs) (g : w.grownBy w' row) (hne : some b ≠ row) : ξ0 w' b vs := by
 have hl := h.lt
 obtain ⟨t, h⟩ := h; exact ⟨t, by rw [g.block b hl hne]; exact h⟩
theorem ξ0.at {w : World} {b : Nat} {vs : Array Value} (h : ξ0 w b vs) (j : Nat) {u : Value} (hu : vs[j]? = some u) : w.cell? ⟨b, j, none⟩ = some u := by
 obtain ⟨t, h⟩ := h; simp [World.cell?, h, hu]
theorem ξ0.c {w : World} {b : Nat} {vs : Array Value} (h : ξ0 w b vs) (j : Nat) {u : Value} (hu : vs[j]? = some u) : ∀ w', Gr w w' → w'.cell? ⟨b, j, none⟩ = some u := fun w' g => (h.grow g).at j hu
theorem ξ0.f {w : World} {b : Nat} {vs : Array Value} (h : ξ0 w b vs) (j : Nat) : w.frozen? ⟨b, j, none⟩ = false := by
 obtain ⟨t, h⟩ := h; simp [World.frozen?, h]
theorem ξ0.new (w : World) (vs : Array Value) (t : TypeId) : Gr w (w.alloc (.cells vs t)) ∧ ξ0 (w.alloc (.cells vs t)) w.heap.size vs := ⟨(Gr.refl w).alloc _, t, heap_alloc_new w _⟩
theorem ξ0.set {w : World} {b : Nat} {vs : Array Value} (h : ξ0 w b vs) (j : Nat) (u : Value) : ξ0 (w.setCell ⟨b, j, none⟩ u) b (vs.setIfInBounds j u) := by
 obtain ⟨t, h⟩ := h
 refine ⟨t, ?_⟩
 simp [World.setCell, Array.getElem?_modify, h]
theorem ξx (w : World) (b i : Nat) (u : Value) : Upd b w (w.setCell ⟨b, i, none⟩ u) := fun j hj => Below.heap_setCell _ _ _ _ hj
theorem ξ0.upd {w w' : World} {b b' : Nat} {vs : Array Value} (h : ξ0 w b' vs) (hu : Upd b w w') (hne : b' ≠ b) : ξ0 w' b' vs := by
 obtain ⟨t, h⟩ := h; exact ⟨t, by rw [hu b' hne]; exact h⟩
theorem Gr.set {a w : World} (g : Gr a w) {b i : Nat} (hb : ¬ b < a.heap.size) (u : Value) : Gr a (w.setCell ⟨b, i, none⟩ u) :=
 Below.setCell g (by show a.heap.size ≤ b; omega) u
section append
variable {α : Type} {enc : α → List Value} {sz : Nat} {P : Program} {ops : Array Oper} {rest : List Oper} {o : Oper} {a : Act} {Q : Exit → Act → World → Prop} {w : World}
end append
end Go.Proofs.YtcjgimlcefhhmaaGreatDoor
namespace Go.Proofs.YtcjgimlcefhhmaaGreatDoor
namespace Prf
open Go.RowKit
structure RatM where
 n : Bool
 p : Option Addr
 k : Nat
 c : Nat
 q : Option Addr
 m : Nat
 e : Nat
def RatM.v (x : RatM) : Value := .agg #[.bool x.n, .slice x.p x.k x.c, .slice x.q x.m x.e]
def encRat (x : RatM) : List Value := [.bool x.n, .slice x.p x.k x.c, .slice x.q x.m x.e]
theorem ξR (x : RatM) : (encRat x).length = 3 := rfl
def ξ0F (w : World) (v : Value) (n : Nat) (a : Nat → Rat) (L : Nat) : Prop :=
 ∃ T : List RatM, SlL w 3 encRat v T ∧ T.length = n ∧ ∀ (i : Nat) (t : RatM), T[i]? = some t → RatV w t.v (a i) L
theorem ξ0F.grow {w w' : World} {v : Value} {n : Nat} {a : Nat → Rat} {L : Nat} (h : ξ0F w v n a L) (g : Gr w w') : ξ0F w' v n a L := by
 obtain ⟨T, h1, h2, h3⟩ := h
 exact ⟨T, h1.grow g, h2, fun i t ht => (h3 i t ht).grow g⟩
theorem ξ0F.parts {w : World} {v : Value} {n : Nat} {a : Nat → Rat} {L : Nat} (h : ξ0F w v n a L) : ∃ p c, v = .slice p n c ∧ n ≤ c ∧ c ≤ 9223372036854775807 := by
 obtain ⟨T, h1, h2, h3⟩ := h
 rw [← h2]; exact h1.parts
theorem ξ0F.congr {w : World} {v : Value} {n : Nat} {a b : Nat → Rat} {L : Nat} (h : ξ0F w v n a L) (e : ∀ i, i < n → a i = b i) : ξ0F w v n b L := by
 obtain ⟨T, h1, h2, h3⟩ := h
 exact ⟨T, h1, h2, fun i t ht => by rw [← e i (by have := (List.getElem?_eq_some_iff.1 ht).1; omega)]; exact h3 i t ht⟩
def ξ8d (w : World) (b o : Nat) (x : RatM) : Prop := w.cell? ⟨b, o, none⟩ = some (.bool x.n) ∧ w.cell? ⟨b, o + 1, none⟩ = some (.slice x.p x.k x.c) ∧ w.cell? ⟨b, o + 2, none⟩ = some (.slice x.q x.m x.e)
theorem ξ0F.at {w : World} {p : Option Addr} {n m c : Nat} {a : Nat → Rat} {L : Nat} (h : ξ0F w (.slice p m c) n a L) {k : Nat} (hk : k < n) :
  ∃ b o t, p = some ⟨b, o, none⟩ ∧ RatV w t.v (a k) L ∧ ∀ w', Gr w w' → ξ8d w' b (o + k * 3) t := by
 obtain ⟨T, h1, h2, h3⟩ := h
 have hn : T.length = m := by
  obtain ⟨p', c', e, _⟩ := h1.parts
  cases e; rfl
 obtain ⟨b, o, t, hp, hx, hc⟩ := h1.at ξR hn (k := k) (by omega)
 exact ⟨b, o, t, hp, h3 k t hx, fun w' g => ⟨hc 0 _ rfl w' g, hc 1 _ rfl w' g, hc 2 _ rfl w' g⟩⟩
abbrev ξ1D (w : World) (v : Value) (xs : List Rat) (L : Nat) : Prop := ξ0F w v xs.length (atQ xs) L
def encTerm (x : ξ8) : List Value := [.int .i64 x.v, .int .i64 x.c]
theorem ξ0a (x : ξ8) : (encTerm x).length = 2 := rfl
structure RowM where
 name : List UInt8
 group : Int
 kind : Int
 tp : Option Addr
 tc : Nat
 terms : List ξ8
 bound : Int
def RowM.s (x : RowM) : RowS := ⟨x.name, x.group, x.kind, x.terms, x.bound⟩
def encRow (x : RowM) : List Value := [.string ⟨x.name.toArray⟩, .int .i64 x.group, .int .i64 x.kind, .slice x.tp x.terms.length x.tc, .int .i64 x.bound]
theorem ξD (x : RowM) : (encRow x).length = 5 := rfl
def encVar (x : VarM) : List Value := [.int .i64 x.lo, .int .i64 x.up, .bool x.op, .bool x.ig, .int .i64 x.cost]
theorem ξ0D (x : VarM) : (encVar x).length = 5 := rfl
abbrev ξ0s (w : World) (v : Value) (l : List ξ8) : Prop := SlL w 2 encTerm v l
abbrev ξ06 (w : World) (v : Value) (l : List VarM) : Prop := SlL w 5 encVar v l
def ξ1G (w : World) (x : RowM) : Prop := ξ0s w (.slice x.tp x.terms.length x.tc) x.terms
def ξ0H (w : World) (v : Value) (R : List RowS) : Prop := ∃ T : List RowM, SlL w 5 encRow v T ∧ T.map RowM.s = R ∧ ∀ x ∈ T, ξ1G w x
theorem ξ0H.grow {w w' : World} {v : Value} {R : List RowS} (h : ξ0H w v R) (g : Gr w w') : ξ0H w' v R := by
 obtain ⟨T, h1, h2, h3⟩ := h
 exact ⟨T, h1.grow g, h2, fun x hx => SlL.grow (h3 x hx) g⟩
theorem ξ0H.parts {w : World} {v : Value} {R : List RowS} (h : ξ0H w v R) : ∃ p c, v = .slice p R.length c ∧ R.length ≤ c ∧ c ≤ 9223372036854775807 := by
 obtain ⟨T, h1, h2, h3⟩ := h
 rw [← h2, List.length_map]; exact h1.parts
def ξ80 (w : World) (b o : Nat) (x : RowM) : Prop := w.cell? ⟨b, o, none⟩ = some (.string ⟨x.name.toArray⟩) ∧ w.cell? ⟨b, o + 1, none⟩ = some (.int .i64 x.group) ∧ w.cell? ⟨b, o + 2, none⟩ = some (.int .i64 x.kind) ∧
 w.cell? ⟨b, o + 3, none⟩ = some (.slice x.tp x.terms.length x.tc) ∧ w.cell? ⟨b, o + 4, none⟩ = some (.int .i64 x.bound)
theorem ξ0H.at {w : World} {p : Option Addr} {n c : Nat} {R : List RowS} (h : ξ0H w (.slice p n c) R) {k : Nat} (hk : k < R.length) :
  ∃ b o x, p = some ⟨b, o, none⟩ ∧ R[k]? = some x.s ∧ ξ1G w x ∧ ∀ w', Gr w w' → ξ80 w' b (o + k * 5) x := by
 obtain ⟨T, h1, h2, h3⟩ := h
 subst h2
 have hn : T.length = n := by
  obtain ⟨p', c', e, _⟩ := h1.parts
  cases e; rfl
 obtain ⟨b, o, x, hp, hx, hc⟩ := h1.at ξD hn (k := k) (by rw [List.length_map] at hk; omega)
 exact ⟨b, o, x, hp, by rw [List.getElem?_map, hx]; rfl, h3 x (List.mem_of_getElem? hx), fun w' g => ⟨hc 0 _ rfl w' g, hc 1 _ rfl w' g, hc 2 _ rfl w' g, hc 3 _ rfl w' g, hc 4 _ rfl w' g⟩⟩
def ξbt (w : World) (b o : Nat) (x : VarM) : Prop := w.cell? ⟨b, o, none⟩ = some (.int .i64 x.lo) ∧ w.cell? ⟨b, o + 1, none⟩ = some (.int .i64 x.up) ∧ w.cell? ⟨b, o + 2, none⟩ = some (.bool x.op) ∧
 w.cell? ⟨b, o + 3, none⟩ = some (.bool x.ig) ∧ w.cell? ⟨b, o + 4, none⟩ = some (.int .i64 x.cost)
theorem ξ24 {w : World} {p : Option Addr} {n c : Nat} {l : List VarM} (h : ξ06 w (.slice p n c) l) (hn : l.length = n) {k : Nat} (hk : k < n) :
  ∃ b o x, p = some ⟨b, o, none⟩ ∧ l[k]? = some x ∧ ∀ w', Gr w w' → ξbt w' b (o + k * 5) x := by
 obtain ⟨b, o, x, hp, hx, hc⟩ := h.at ξ0D hn hk
 exact ⟨b, o, x, hp, hx, fun w' g => ⟨hc 0 _ rfl w' g, hc 1 _ rfl w' g, hc 2 _ rfl w' g, hc 3 _ rfl w' g, hc 4 _ rfl w' g⟩⟩
def ξaV (w : World) (b o : Nat) (x : ξ8) : Prop := w.cell? ⟨b, o, none⟩ = some (.int .i64 x.v) ∧ w.cell? ⟨b, o + 1, none⟩ = some (.int .i64 x.c)
theorem ξ3h {w : World} {p : Option Addr} {n c : Nat} {l : List ξ8} (h : ξ0s w (.slice p n c) l) (hn : l.length = n) {k : Nat} (hk : k < n) :
  ∃ b o x, p = some ⟨b, o, none⟩ ∧ l[k]? = some x ∧ ∀ w', Gr w w' → ξaV w' b (o + k * 2) x := by
 obtain ⟨b, o, x, hp, hx, hc⟩ := h.at ξ0a hn hk
 exact ⟨b, o, x, hp, hx, fun w' g => ⟨hc 0 _ rfl w' g, hc 1 _ rfl w' g⟩⟩
def I64 (n : Int) : Prop := -9223372036854775808 ≤ n ∧ n ≤ 9223372036854775807
def ξ6p (t : ξ8) : Prop := I64 t.v ∧ I64 t.c
def RowI (r : RowS) : Prop := I64 r.group ∧ I64 r.kind ∧ I64 r.bound ∧ ∀ t ∈ r.terms, ξ6p t
def VarI (v : VarM) : Prop := I64 v.lo ∧ I64 v.up ∧ I64 v.cost
def PrgI (p : Prg) : Prop := (∀ v ∈ p.vars, VarI v) ∧ ∀ r ∈ p.rows, RowI r
def prgV (a : Option Addr) (c : Nat) (b : Option Addr) (d : Nat) (p : Prg) : Value := .agg #[.slice a p.vars.length c, .slice b p.rows.length d]
def ξC (w : World) (v : Value) (p : Prg) : Prop := ∃ a c b d, v = prgV a c b d p ∧ ξ06 w (.slice a p.vars.length c) p.vars ∧ ξ0H w (.slice b p.rows.length d) p.rows
theorem ξC.grow {w w' : World} {v : Value} {p : Prg} (h : ξC w v p) (g : Gr w w') : ξC w' v p := by
 obtain ⟨a, c, b, d, e, h1, h2⟩ := h
 exact ⟨a, c, b, d, e, h1.grow g, h2.grow g⟩
structure ξb where
 kind : Int
 mp : Option Addr
 mn : Nat
 mc : Nat
 var : Int
 pos : Int
 ck : Int
 cp : Option Addr
 cn : Nat
 cc : Nat
 row : Int
 vp : Option Addr
 vn : Nat
 vc : Nat
def ξb.cutV (x : ξb) : Value := .agg #[.int .i64 x.ck, .slice x.cp x.cn x.cc, .int .i64 x.row, .slice x.vp x.vn x.vc]
def encNode (x : ξb) : List Value := [.int .i64 x.kind, .slice x.mp x.mn x.mc, .int .i64 x.var, .int .i64 x.pos, .int .i64 x.ck, .slice x.cp x.cn x.cc, .int .i64 x.row, .slice x.vp x.vn x.vc]
theorem ξp (x : ξb) : (encNode x).length = 8 := rfl
def encI (n : Int) : List Value := [.int .i64 n]
theorem ξ7p (x : Int) : (encI x).length = 1 := rfl
abbrev ξ1d (w : World) (v : Value) (l : List Int) : Prop := SlL w 1 encI v l
theorem ξ1f {w : World} {p : Option Addr} {n c : Nat} {l : List Int} (h : ξ1d w (.slice p n c) l) (hn : l.length = n) {k : Nat} (hk : k < n) : ∃ b o x, p = some ⟨b, o, none⟩ ∧ l[k]? = some x ∧ ∀ w', Gr w w' → w'.cell? ⟨b, o + k, none⟩ = some (.int .i64 x) := by
 obtain ⟨b, o, x, hp, hx, hc⟩ := h.at1 ξ7p hn hk
 exact ⟨b, o, x, hp, hx, fun w' g => hc _ rfl w' g⟩
structure ξ1j (w : World) (v : Value) (c : CutS) (L : Nat) : Prop where
 parts : ∃ p m e q n f, v = .agg #[.int .i64 c.kind, .slice p m e, .int .i64 c.row, .slice q n f] ∧ ξ1D w (.slice p m e) c.mult L ∧ ξ1d w (.slice q n f) c.vars ∧ m = c.mult.length ∧ n = c.vars.length
theorem ξ1j.grow {w w' : World} {v : Value} {c : CutS} {L : Nat} (h : ξ1j w v c L) (g : Gr w w') : ξ1j w' v c L := by
 obtain ⟨p, m, e, q, n, f, h1, h2, h3, h4⟩ := h.parts
 exact ⟨p, m, e, q, n, f, h1, h2.grow g, h3.grow g, h4⟩
structure ξS (w : World) (x : ξb) (s : ξ6) (L : Nat) : Prop where
 kind : x.kind = s.kind
 var : x.var = s.var
 pos : x.pos = s.pos
 mult : ξ1D w (.slice x.mp x.mn x.mc) s.mult L
 mn : x.mn = s.mult.length
 cut : ξ1j w x.cutV s.cut L
theorem ξS.grow {w w' : World} {x : ξb} {s : ξ6} {L : Nat} (h : ξS w x s L) (g : Gr w w') : ξS w' x s L :=
 ⟨h.kind, h.var, h.pos, h.mult.grow g, h.mn, h.cut.grow g⟩
def ξu (w : World) (v : Value) (N : List ξ6) (L : Nat) : Prop := ∃ T : List ξb, SlL w 8 encNode v T ∧ T.length = N.length ∧ ∀ (i : Nat) (t : ξb) (s : ξ6), T[i]? = some t → N[i]? = some s → ξS w t s L
theorem ξu.grow {w w' : World} {v : Value} {N : List ξ6} {L : Nat} (h : ξu w v N L) (g : Gr w w') : ξu w' v N L := by
 obtain ⟨T, h1, h2, h3⟩ := h
 exact ⟨T, h1.grow g, h2, fun i t x ht hx => (h3 i t x ht hx).grow g⟩
theorem ξu.parts {w : World} {v : Value} {N : List ξ6} {L : Nat} (h : ξu w v N L) : ∃ p c, v = .slice p N.length c ∧ N.length ≤ c ∧ c ≤ 9223372036854775807 := by
 obtain ⟨T, h1, h2, h3⟩ := h
 rw [← h2]; exact h1.parts
end Prf
end Go.Proofs.YtcjgimlcefhhmaaGreatDoor
namespace Go.Proofs.YtcjgimlcefhhmaaGreatDoor
namespace Prf
open Go.ChangeShapes Go.WideShapes Go.ChangeAt Go.RowKit Go.Joins
def ξt {H : Type} (t : TypeId) (d : DataW H) : Prop := (d.weights Tryz.prog t).all (· ≤ reachBytes) = true
theorem ξbB {α : Type} {n : Nat} {Q : Nat → α → Prop} (h : ∀ i, i < n → ∃ y, Q i y) : ∃ l : List α, l.length = n ∧ ∀ i y, l[i]? = some y → Q i y := by
 induction n with
 | zero => exact ⟨[], rfl, by simp⟩
 | succ n ih =>
  obtain ⟨l, hl, hq⟩ := ih (fun i hi => h i (by omega))
  obtain ⟨y, hy⟩ := h n (by omega)
  refine ⟨l ++ [y], by simp [hl], fun i z hz => ?_⟩
  rcases Nat.lt_or_ge i l.length with hi | hi
  ·rw [List.getElem?_append_left hi] at hz
   exact hq i z hz
  ·rw [List.getElem?_append_right hi] at hz
   have : i - l.length = 0 := by
    rcases Nat.eq_zero_or_pos (i - l.length) with h | h
    ·exact h
    ·rw [List.getElem?_eq_none (by simp; omega)] at hz; cases hz
   rw [this] at hz
   simp at hz
   subst hz
   rw [show i = n by omega]
   exact hy
theorem ξ3o {H : Type} {e : TypeId} {d : DataW H} : ∀ {l : List (DataW H)}, d ∈ l → (DataW.weightsAll Tryz.prog e l).all (· ≤ reachBytes) = true → ξt e d
 | [], h, _ => by cases h
 | x :: l, h, hw => by
  unfold DataW.weightsAll at hw
  rw [List.all_append, Bool.and_eq_true] at hw
  rcases List.mem_cons.1 h with rfl | h
  ·exact hw.1
  ·exact ξ3o h hw.2
section
variable {H : Type} {enc : TypeId × Value → H} {w : World} {fuel : Nat} {cs : List Value} {x : DataW H × List MemPlace}
theorem ξ1l {α : Type} {en : α → List Value} {sz : Nat} {t e : TypeId} {R : α → Prop} (ht : Tryz.prog.underlying t = some (.slice e)) (hc : Tryz.prog.cellsOf e = sz) (hsz : 0 < sz) (hby : 4 ≤ Tryz.prog.bytesOf e) (hlen : ∀ x, (en x).length = sz)
  (hel : ∀ fuel cs (x : DataW H × List MemPlace), DataW.trod enc Tryz.prog w 0 (fun _ => true) true fuel e cs = some x → ξt e x.1 → ∃ y, cs = en y ∧ R y)
  (h : DataW.trod enc Tryz.prog w 0 (fun _ => true) true fuel t cs = some x) (hw : ξt t x.1) :
  ∃ (p : Option Addr) (l : List α) (c : Nat), cs = [.slice p l.length c] ∧ SlL w sz en (.slice p l.length c) l ∧ l.length ≤ 35184372088832 ∧ ∀ y ∈ l, R y := by
 rcases DataW.trod_slice ht h with ⟨rfl, rfl⟩ | ⟨a, len, cap, elems, rest, n, rfl, rfl, rfl, _, hl, hm, hlen', hel', hsp, _⟩
 ·exact ⟨none, [], 0, rfl, SlL.nil w, by simp, by simp⟩
 ·obtain ⟨hrl, hr⟩ := hsp rfl
  unfold ξt at hw
  simp only [DataW.weights, ht, List.all_cons, List.all_append, Bool.and_eq_true, List.length_map, decide_eq_true_eq] at hw
  obtain ⟨hw1, hw2, _⟩ := hw
  rw [hc] at hel' hr
  have each : ∀ i, i < len → ∃ y, w.cells? 0 (a.add (i * sz)) sz = some (en y) ∧ R y := fun i hi => by
   have h1 := hel' i hi
   have hi' : i < elems.length := by omega
   rw [List.getElem?_eq_getElem hi', Option.bind_eq_some_iff] at h1
   obtain ⟨cs', hcs, hy⟩ := h1
   obtain ⟨y, rfl, hR⟩ := hel _ _ _ hy (ξ3o (List.mem_map.2 ⟨_, List.getElem_mem hi', rfl⟩) hw2)
   exact ⟨y, hcs, hR⟩
  obtain ⟨l, hll, hq⟩ := ξbB each
  have hspot : 0 < cap → a.spot = none := fun h0 => by
   have h1 : ∃ cs', w.cells? 0 a sz = some cs' := by
    by_cases h2 : 0 < len
    ·obtain ⟨y, hy, _⟩ := each 0 h2
     exact ⟨_, by simpa [Addr.add] using hy⟩
    ·have h3 := hr 0 (by omega)
     have h4 : 0 < rest.length := by omega
     rw [List.getElem?_eq_getElem h4, Option.bind_eq_some_iff] at h3
     obtain ⟨cs', hcs, _⟩ := h3
     have e : (len + 0) * sz = 0 := by (have h0 : len = 0 := (by omega)); subst h0; simp
     rw [e] at hcs
     exact ⟨cs', by simpa [Addr.add] using hcs⟩
   obtain ⟨cs', h1⟩ := h1
   obtain ⟨_, h2, h3⟩ := World.cells?_some h1
   have h4 := h3 0 hsz
   rw [List.getElem?_eq_getElem (by omega)] at h4
   unfold World.cell? at h4
   simp only [Addr.add, if_true] at h4
   cases hs : a.spot with
   | none => rfl
   | some s =>
    rw [hs] at h4
    split at h4 <;> simp at h4
  refine ⟨some a, l, cap, by rw [hll], ?_, ?_, fun y hy => ?_⟩
  ·rw [hll]
   unfold SlL
   rw [hll]
   refine ⟨by rw [ξU hlen, hll], some a, cap, rfl, hl, by simp only [maxLen] at hm; omega, ?_⟩
   by_cases h0 : cap = 0
   ·exact .inl h0
   ·obtain ⟨b, o, s⟩ := a
    have hs := hspot (by omega)
    simp only at hs
    subst hs
    refine .inr ⟨b, o, rfl, fun j u hu => ?_⟩
    have hj : j < l.length * sz := by
     have := (List.getElem?_eq_some_iff.1 hu).1
     rwa [ξU hlen] at this
    have hi : j / sz < l.length := by rw [Nat.div_lt_iff_lt_mul hsz]; exact hj
    have hk : j % sz < sz := Nat.mod_lt _ hsz
    have hx : l[j / sz]? = some l[j / sz] := List.getElem?_eq_getElem hi
    have hg := ξ1n hlen l (j / sz) _ (j % sz) hx hk
    have hd : j / sz * sz + j % sz = j := Nat.div_add_mod' j sz
    rw [hd, hu] at hg
    obtain ⟨hq1, _⟩ := hq _ _ hx
    obtain ⟨_, _, h3⟩ := World.cells?_some hq1
    have h4 := h3 (j % sz) hk
    rw [ξ13, ξ13, Nat.add_assoc, hd, ← hg] at h4
    exact h4
  ·have : (elems.length + rest.length) * 4 ≤ (elems.length + rest.length) * Tryz.prog.bytesOf e := Nat.mul_le_mul_left _ hby
   unfold reachBytes at hw1
   omega
  ·obtain ⟨i, hi, e⟩ := List.getElem_of_mem hy
   exact (hq i y (by rw [List.getElem?_eq_getElem hi, e])).2
theorem one2 {α : Type} {l : List α} (h : l.length = 2) : ∃ a0 a1, l = [a0, a1] := by
 match l, h with
 | [a0, a1], _ => exact ⟨a0, a1, rfl⟩
theorem one3 {α : Type} {l : List α} (h : l.length = 3) : ∃ a0 a1 a2, l = [a0, a1, a2] := by
 match l, h with
 | [a0, a1, a2], _ => exact ⟨a0, a1, a2, rfl⟩
theorem one4 {α : Type} {l : List α} (h : l.length = 4) : ∃ a0 a1 a2 a3, l = [a0, a1, a2, a3] := by
 match l, h with
 | [a0, a1, a2, a3], _ => exact ⟨a0, a1, a2, a3, rfl⟩
theorem one5 {α : Type} {l : List α} (h : l.length = 5) : ∃ a0 a1 a2 a3 a4, l = [a0, a1, a2, a3, a4] := by
 match l, h with
 | [a0, a1, a2, a3, a4], _ => exact ⟨a0, a1, a2, a3, a4, rfl⟩
theorem one8 {α : Type} {l : List α} (h : l.length = 8) : ∃ a0 a1 a2 a3 a4 a5 a6 a7, l = [a0, a1, a2, a3, a4, a5, a6, a7] := by
 match l, h with
 | [a0, a1, a2, a3, a4, a5, a6, a7], _ => exact ⟨a0, a1, a2, a3, a4, a5, a6, a7, rfl⟩
theorem cS : Tryz.prog.cellsOf 9 = 1 := by kernel_rfl
theorem cI : Tryz.prog.cellsOf 3 = 1 := by kernel_rfl
theorem cJ : Tryz.prog.cellsOf 2 = 1 := by kernel_rfl
theorem cBo : Tryz.prog.cellsOf 4 = 1 := by kernel_rfl
theorem cN : Tryz.prog.cellsOf 64 = 1 := by kernel_rfl
theorem cZ : Tryz.prog.cellsOf 66 = 2 := by kernel_rfl
theorem cC : Tryz.prog.cellsOf 45 = 4 := by kernel_rfl
theorem cR : Tryz.prog.cellsOf 33 = 1 := by kernel_rfl
theorem cT : Tryz.prog.cellsOf 40 = 1 := by kernel_rfl
theorem cL : Tryz.prog.cellsOf 34 = 1 := by kernel_rfl
theorem cV : Tryz.prog.cellsOf 22 = 1 := by kernel_rfl
theorem cW : Tryz.prog.cellsOf 23 = 1 := by kernel_rfl
theorem ξcn (h : DataW.trod enc Tryz.prog w 0 (fun _ => true) true fuel 9 cs = some x) : ∃ s : List UInt8, cs = [.string ⟨s.toArray⟩] ∧ s.length ≤ 9223372036854775807 := by
 obtain ⟨s, rfl, _, hs⟩ := DataW.trod_string Tryz.underlying9 h
 exact ⟨s.data.toList, by rw [Array.toArray_toList], by simpa [maxLen] using hs⟩
theorem ξ28 (h : DataW.trod enc Tryz.prog w 0 (fun _ => true) true fuel 3 cs = some x) : ∃ n : Int, cs = [.int .i64 n] ∧ I64 n := by
 obtain ⟨n, rfl, _, hw⟩ := DataW.trod_int Tryz.underlying3 h
 exact ⟨n, rfl, by have := bounds_i64 hw; exact this⟩
theorem ξ3k (h : DataW.trod enc Tryz.prog w 0 (fun _ => true) true fuel 2 cs = some x) : ∃ n : Int, cs = [.int .i64 n] ∧ I64 n := by
 obtain ⟨n, rfl, _, hw⟩ := DataW.trod_int Tryz.underlying2 h
 exact ⟨n, rfl, by have := bounds_i64 hw; exact this⟩
def encU (n : Nat) : List Value := [.int .u32 (n : Int)]
theorem ξ6T (x : Nat) : (encU x).length = 1 := rfl
theorem ξce (h : DataW.trod enc Tryz.prog w 0 (fun _ => true) true fuel 153 cs = some x) : ∃ n : Nat, cs = encU n ∧ n < BB := by
 obtain ⟨n, rfl, _, hw⟩ := DataW.trod_int Tryz.underlying153 h
 have hw : 0 ≤ n ∧ n < 4294967296 := by
  simp [Lit.wf, IntKind.min, IntKind.max, IntKind.signed, IntKind.bits] at hw
  omega
 exact ⟨n.toNat, by unfold encU; rw [Int.toNat_of_nonneg hw.1], by rw [ξ5]; omega⟩
theorem ξ6O (h : DataW.trod enc Tryz.prog w 0 (fun _ => true) true fuel 64 cs = some x) (hw : ξt 64 x.1) :
  ∃ (p : Option Addr) (l : List Nat) (c : Nat), cs = [.slice p l.length c] ∧ NatL w (.slice p l.length c) l ∧ l.length ≤ 35184372088832 := by
 obtain ⟨p, l, c, h1, h2, h3, h4⟩ := ξ1l (R := fun n : Nat => n < BB) Tryz.underlying64 (show Tryz.prog.cellsOf 153 = 1 by kernel_rfl) (by decide) (of_decide_eq_true (by kernel_rfl)) ξ6T (fun fuel cs x h _ => ξce h) h hw
 refine ⟨p, l, c, h1, ?_, h3⟩
 obtain ⟨_, p', c', hv, k1, k2, k3⟩ := h2
 injection hv with e1 e2 e3
 subst e1 e3
 refine ⟨h4, p, c, rfl, k1, k2, ?_⟩
 rcases k3 with k3 | ⟨b, o, hp, hc⟩
 ·exact .inl k3
 ·refine .inr ⟨b, o, hp, fun i hi => ?_⟩
  have hx : l[i]? = some l[i] := List.getElem?_eq_getElem hi
  have hg := ξ1n ξ6T l i _ 0 hx (by decide)
  rw [Nat.mul_one, Nat.add_zero] at hg
  have := hc i (.int .u32 (l[i] : Int)) (by rw [hg]; rfl)
  rw [show gd l i = l[i] by unfold gd; simp [List.getD_eq_getElem?_getD, hx]]
  exact this
def RatR (w : World) (x : RatM) : Prop := ∃ l d, NatL w (.slice x.p x.k x.c) l ∧ NatL w (.slice x.q x.m x.e) d ∧ x.k = l.length ∧ x.m = d.length ∧ l.length ≤ 35184372088832 ∧ d.length ≤ 35184372088832
theorem ξ7l (h : DataW.trod enc Tryz.prog w 0 (fun _ => true) true fuel 66 cs = some x) (hw : ξt 66 x.1) : ∃ (b : Bool) (p : Option Addr) (l : List Nat) (c : Nat), cs = [.bool b, .slice p l.length c] ∧ NatL w (.slice p l.length c) l ∧ l.length ≤ 35184372088832 := by
 obtain ⟨xs, n, rfl, rfl, hl, hxl, hf⟩ := DataW.trod_struct Tryz.underlying66 h
 obtain ⟨v0, v1, rfl⟩ := one2 (hl.trans (show Tryz.prog.cellsOf 66 = 2 by kernel_rfl))
 obtain ⟨x0, x1, rfl⟩ := one2 hxl
 have f0 : DataW.trod enc Tryz.prog w 0 (fun _ => true) true n 4 [v0] = some x0 := by simpa [cS, cI, cJ, cBo, cN, cZ, cC, cR, cT, cL, cV, cW] using hf 0 _ rfl
 have f1 : DataW.trod enc Tryz.prog w 0 (fun _ => true) true n 64 [v1] = some x1 := by simpa [cS, cI, cJ, cBo, cN, cZ, cC, cR, cT, cL, cV, cW] using hf 1 _ rfl
 unfold ξt at hw
 simp only [DataW.weights, Tryz.underlying66, List.map_cons, List.map_nil, DataW.weightsEach, List.all_append, Bool.and_eq_true] at hw
 obtain ⟨b, e0, _⟩ := DataW.trod_bool Tryz.underlying4 f0
 obtain ⟨p, l, c, e1, h1, h2⟩ := ξ6O f1 (by unfold ξt; exact hw.2.1)
 simp only [List.cons.injEq, and_true] at e0 e1
 subst e0 e1
 exact ⟨b, p, l, c, rfl, h1, h2⟩
theorem ξaX (h : DataW.trod enc Tryz.prog w 0 (fun _ => true) true fuel 68 cs = some x) (hw : ξt 68 x.1) : ∃ y : RatM, cs = encRat y ∧ RatR w y := by
 obtain ⟨xs, n, rfl, rfl, hl, hxl, hf⟩ := DataW.trod_struct Tryz.underlying68 h
 obtain ⟨v0, v1, v2, rfl⟩ := one3 (hl.trans (show Tryz.prog.cellsOf 68 = 3 by kernel_rfl))
 obtain ⟨x0, x1, rfl⟩ := one2 hxl
 have f0 : DataW.trod enc Tryz.prog w 0 (fun _ => true) true n 66 [v0, v1] = some x0 := by simpa [cS, cI, cJ, cBo, cN, cZ, cC, cR, cT, cL, cV, cW] using hf 0 _ rfl
 have f1 : DataW.trod enc Tryz.prog w 0 (fun _ => true) true n 64 [v2] = some x1 := by simpa [cS, cI, cJ, cBo, cN, cZ, cC, cR, cT, cL, cV, cW] using hf 1 _ rfl
 unfold ξt at hw
 simp only [DataW.weights, Tryz.underlying68, List.map_cons, List.map_nil, DataW.weightsEach, List.all_append, Bool.and_eq_true] at hw
 obtain ⟨b, p, l, c, e0, h1, h2⟩ := ξ7l f0 (by unfold ξt; exact hw.1)
 obtain ⟨q, d, e, e1, h3, h4⟩ := ξ6O f1 (by unfold ξt; exact hw.2.1)
 simp only [List.cons.injEq, and_true] at e0 e1
 obtain ⟨rfl, rfl⟩ := e0
 subst e1
 exact ⟨⟨b, p, l.length, c, q, d.length, e⟩, rfl, l, d, h1, h3, rfl, rfl, h2, h4⟩
theorem ξ63 (h : DataW.trod enc Tryz.prog w 0 (fun _ => true) true fuel 33 cs = some x) (hw : ξt 33 x.1) :
  ∃ (p : Option Addr) (l : List RatM) (c : Nat), cs = [.slice p l.length c] ∧ SlL w 3 encRat (.slice p l.length c) l ∧ l.length ≤ 35184372088832 ∧ ∀ y ∈ l, RatR w y :=
 ξ1l Tryz.underlying33 (show Tryz.prog.cellsOf 68 = 3 by kernel_rfl) (by decide) (of_decide_eq_true (by kernel_rfl)) ξR (fun fuel cs x h hw => ξaX h hw) h hw
theorem ξ98 (h : DataW.trod enc Tryz.prog w 0 (fun _ => true) true fuel 75 cs = some x) (hw : ξt 75 x.1) : ∃ y : ξ8, cs = encTerm y ∧ ξ6p y := by
 obtain ⟨xs, n, rfl, rfl, hl, hxl, hf⟩ := DataW.trod_struct Tryz.underlying75 h
 obtain ⟨v0, v1, rfl⟩ := one2 (hl.trans (show Tryz.prog.cellsOf 75 = 2 by kernel_rfl))
 obtain ⟨x0, x1, rfl⟩ := one2 hxl
 have f0 : DataW.trod enc Tryz.prog w 0 (fun _ => true) true n 3 [v0] = some x0 := by simpa [cS, cI, cJ, cBo, cN, cZ, cC, cR, cT, cL, cV, cW] using hf 0 _ rfl
 have f1 : DataW.trod enc Tryz.prog w 0 (fun _ => true) true n 2 [v1] = some x1 := by simpa [cS, cI, cJ, cBo, cN, cZ, cC, cR, cT, cL, cV, cW] using hf 1 _ rfl
 unfold ξt at hw
 simp only [DataW.weights, Tryz.underlying75, List.map_cons, List.map_nil, DataW.weightsEach, List.all_append, Bool.and_eq_true] at hw
 obtain ⟨a, e0, h0⟩ := ξ28 f0
 obtain ⟨b, e1, h1⟩ := ξ3k f1
 simp only [List.cons.injEq, and_true] at e0 e1
 subst e0 e1
 exact ⟨⟨a, b⟩, rfl, h0, h1⟩
theorem ξ8E (h : DataW.trod enc Tryz.prog w 0 (fun _ => true) true fuel 40 cs = some x) (hw : ξt 40 x.1) :
  ∃ (p : Option Addr) (l : List ξ8) (c : Nat), cs = [.slice p l.length c] ∧ ξ0s w (.slice p l.length c) l ∧ l.length ≤ 35184372088832 ∧ ∀ y ∈ l, ξ6p y :=
 ξ1l Tryz.underlying40 (show Tryz.prog.cellsOf 75 = 2 by kernel_rfl) (by decide) (of_decide_eq_true (by kernel_rfl)) ξ0a (fun fuel cs x h hw => ξ98 h hw) h hw
def RowR (w : World) (x : RowM) : Prop := ξ1G w x ∧ RowI x.s ∧ x.terms.length ≤ 35184372088832
theorem ξ6a (h : DataW.trod enc Tryz.prog w 0 (fun _ => true) true fuel 42 cs = some x) (hw : ξt 42 x.1) : ∃ y : RowM, cs = encRow y ∧ RowR w y ∧ y.name.length ≤ 9223372036854775807 := by
 obtain ⟨xs, n, rfl, rfl, hl, hxl, hf⟩ := DataW.trod_struct Tryz.underlying42 h
 obtain ⟨v0, v1, v2, v3, v4, rfl⟩ := one5 (hl.trans (show Tryz.prog.cellsOf 42 = 5 by kernel_rfl))
 obtain ⟨x0, x1, x2, x3, x4, rfl⟩ := one5 hxl
 have f0 : DataW.trod enc Tryz.prog w 0 (fun _ => true) true n 9 [v0] = some x0 := by simpa [cS, cI, cJ, cBo, cN, cZ, cC, cR, cT, cL, cV, cW] using hf 0 _ rfl
 have f1 : DataW.trod enc Tryz.prog w 0 (fun _ => true) true n 3 [v1] = some x1 := by simpa [cS, cI, cJ, cBo, cN, cZ, cC, cR, cT, cL, cV, cW] using hf 1 _ rfl
 have f2 : DataW.trod enc Tryz.prog w 0 (fun _ => true) true n 3 [v2] = some x2 := by simpa [cS, cI, cJ, cBo, cN, cZ, cC, cR, cT, cL, cV, cW] using hf 2 _ rfl
 have f3 : DataW.trod enc Tryz.prog w 0 (fun _ => true) true n 40 [v3] = some x3 := by simpa [cS, cI, cJ, cBo, cN, cZ, cC, cR, cT, cL, cV, cW] using hf 3 _ rfl
 have f4 : DataW.trod enc Tryz.prog w 0 (fun _ => true) true n 2 [v4] = some x4 := by simpa [cS, cI, cJ, cBo, cN, cZ, cC, cR, cT, cL, cV, cW] using hf 4 _ rfl
 unfold ξt at hw
 simp only [DataW.weights, Tryz.underlying42, List.map_cons, List.map_nil, DataW.weightsEach, List.all_append, Bool.and_eq_true] at hw
 obtain ⟨s, e0, hnm⟩ := ξcn f0
 obtain ⟨g, e1, h1⟩ := ξ28 f1
 obtain ⟨k, e2, h2⟩ := ξ28 f2
 obtain ⟨p, l, c, e3, h3, h4, h5⟩ := ξ8E f3 (by unfold ξt; exact hw.2.2.2.1)
 obtain ⟨b, e4, h6⟩ := ξ3k f4
 simp only [List.cons.injEq, and_true] at e0 e1 e2 e3 e4
 subst e0 e1 e2 e3 e4
 exact ⟨⟨s, g, k, p, c, l, b⟩, rfl, ⟨h3, ⟨h1, h2, h6, h5⟩, h4⟩, hnm⟩
theorem ξaw (h : DataW.trod enc Tryz.prog w 0 (fun _ => true) true fuel 62 cs = some x) (hw : ξt 62 x.1) : ∃ y : VarM, cs = encVar y ∧ VarI y := by
 obtain ⟨xs, n, rfl, rfl, hl, hxl, hf⟩ := DataW.trod_struct Tryz.underlying62 h
 obtain ⟨v0, v1, v2, v3, v4, rfl⟩ := one5 (hl.trans (show Tryz.prog.cellsOf 62 = 5 by kernel_rfl))
 obtain ⟨x0, x1, x2, x3, x4, rfl⟩ := one5 hxl
 have f0 : DataW.trod enc Tryz.prog w 0 (fun _ => true) true n 2 [v0] = some x0 := by simpa [cS, cI, cJ, cBo, cN, cZ, cC, cR, cT, cL, cV, cW] using hf 0 _ rfl
 have f1 : DataW.trod enc Tryz.prog w 0 (fun _ => true) true n 2 [v1] = some x1 := by simpa [cS, cI, cJ, cBo, cN, cZ, cC, cR, cT, cL, cV, cW] using hf 1 _ rfl
 have f2 : DataW.trod enc Tryz.prog w 0 (fun _ => true) true n 4 [v2] = some x2 := by simpa [cS, cI, cJ, cBo, cN, cZ, cC, cR, cT, cL, cV, cW] using hf 2 _ rfl
 have f3 : DataW.trod enc Tryz.prog w 0 (fun _ => true) true n 4 [v3] = some x3 := by simpa [cS, cI, cJ, cBo, cN, cZ, cC, cR, cT, cL, cV, cW] using hf 3 _ rfl
 have f4 : DataW.trod enc Tryz.prog w 0 (fun _ => true) true n 2 [v4] = some x4 := by simpa [cS, cI, cJ, cBo, cN, cZ, cC, cR, cT, cL, cV, cW] using hf 4 _ rfl
 unfold ξt at hw
 simp only [DataW.weights, Tryz.underlying62, List.map_cons, List.map_nil, DataW.weightsEach, List.all_append, Bool.and_eq_true] at hw
 obtain ⟨a, e0, h0⟩ := ξ3k f0
 obtain ⟨b, e1, h1⟩ := ξ3k f1
 obtain ⟨c, e2, _⟩ := DataW.trod_bool Tryz.underlying4 f2
 obtain ⟨d, e3, _⟩ := DataW.trod_bool Tryz.underlying4 f3
 obtain ⟨e, e4, h4⟩ := ξ3k f4
 simp only [List.cons.injEq, and_true] at e0 e1 e2 e3 e4
 subst e0 e1 e2 e3 e4
 exact ⟨⟨a, b, c, d, e⟩, rfl, h0, h1, h4⟩
theorem ξ97 (h : DataW.trod enc Tryz.prog w 0 (fun _ => true) true fuel 22 cs = some x) (hw : ξt 22 x.1) :
  ∃ (p : Option Addr) (l : List VarM) (c : Nat), cs = [.slice p l.length c] ∧ ξ06 w (.slice p l.length c) l ∧ l.length ≤ 35184372088832 ∧ ∀ y ∈ l, VarI y :=
 ξ1l Tryz.underlying22 (show Tryz.prog.cellsOf 62 = 5 by kernel_rfl) (by decide) (of_decide_eq_true (by kernel_rfl)) ξ0D (fun fuel cs x h hw => ξaw h hw) h hw
theorem ξ9f (h : DataW.trod enc Tryz.prog w 0 (fun _ => true) true fuel 23 cs = some x) (hw : ξt 23 x.1) :
  ∃ (p : Option Addr) (l : List RowM) (c : Nat), cs = [.slice p l.length c] ∧ SlL w 5 encRow (.slice p l.length c) l ∧ l.length ≤ 35184372088832 ∧ ∀ y ∈ l, RowR w y ∧ y.name.length ≤ 9223372036854775807 :=
 ξ1l Tryz.underlying23 (show Tryz.prog.cellsOf 42 = 5 by kernel_rfl) (by decide) (of_decide_eq_true (by kernel_rfl)) ξD (fun fuel cs x h hw => ξ6a h hw) h hw
theorem ξ9l (h : DataW.trod enc Tryz.prog w 0 (fun _ => true) true fuel 34 cs = some x) (hw : ξt 34 x.1) :
  ∃ (p : Option Addr) (l : List Int) (c : Nat), cs = [.slice p l.length c] ∧ ξ1d w (.slice p l.length c) l ∧ l.length ≤ 35184372088832 ∧ ∀ y ∈ l, I64 y :=
 ξ1l Tryz.underlying34 (show Tryz.prog.cellsOf 3 = 1 by kernel_rfl) (by decide) (of_decide_eq_true (by kernel_rfl)) ξ7p (fun fuel cs x h hw => ξ28 h) h hw
def ξ3D (w : World) (p : Option Addr) (n c : Nat) : Prop := ∃ T : List RatM, T.length = n ∧ SlL w 3 encRat (.slice p n c) T ∧ n ≤ 35184372088832 ∧ ∀ y ∈ T, RatR w y
def ξbh (w : World) (p : Option Addr) (n c : Nat) : Prop := ∃ T : List Int, T.length = n ∧ ξ1d w (.slice p n c) T ∧ n ≤ 35184372088832 ∧ ∀ y ∈ T, I64 y
structure ξ2Y (w : World) (x : ξb) : Prop where
 mult : ξ3D w x.mp x.mn x.mc
 cmul : ξ3D w x.cp x.cn x.cc
 vars : ξbh w x.vp x.vn x.vc
 kind : I64 x.kind
 var : I64 x.var
 pos : I64 x.pos
 ck : I64 x.ck
 row : I64 x.row
theorem ξaH (h : DataW.trod enc Tryz.prog w 0 (fun _ => true) true fuel 45 cs = some x) (hw : ξt 45 x.1) : ∃ ck cp cn cc row vp vn vc, cs = [.int .i64 ck, .slice cp cn cc, .int .i64 row, .slice vp vn vc] ∧ I64 ck ∧ ξ3D w cp cn cc ∧ I64 row ∧ ξbh w vp vn vc := by
 obtain ⟨xs, n, rfl, rfl, hl, hxl, hf⟩ := DataW.trod_struct Tryz.underlying45 h
 obtain ⟨v0, v1, v2, v3, rfl⟩ := one4 (hl.trans (show Tryz.prog.cellsOf 45 = 4 by kernel_rfl))
 obtain ⟨x0, x1, x2, x3, rfl⟩ := one4 hxl
 have f0 : DataW.trod enc Tryz.prog w 0 (fun _ => true) true n 3 [v0] = some x0 := by simpa [cS, cI, cJ, cBo, cN, cZ, cC, cR, cT, cL, cV, cW] using hf 0 _ rfl
 have f1 : DataW.trod enc Tryz.prog w 0 (fun _ => true) true n 33 [v1] = some x1 := by simpa [cS, cI, cJ, cBo, cN, cZ, cC, cR, cT, cL, cV, cW] using hf 1 _ rfl
 have f2 : DataW.trod enc Tryz.prog w 0 (fun _ => true) true n 3 [v2] = some x2 := by simpa [cS, cI, cJ, cBo, cN, cZ, cC, cR, cT, cL, cV, cW] using hf 2 _ rfl
 have f3 : DataW.trod enc Tryz.prog w 0 (fun _ => true) true n 34 [v3] = some x3 := by simpa [cS, cI, cJ, cBo, cN, cZ, cC, cR, cT, cL, cV, cW] using hf 3 _ rfl
 unfold ξt at hw
 simp only [DataW.weights, Tryz.underlying45, List.map_cons, List.map_nil, DataW.weightsEach, List.all_append, Bool.and_eq_true] at hw
 obtain ⟨a, e0, h0⟩ := ξ28 f0
 obtain ⟨p, l, c, e1, h1, h2, h3⟩ := ξ63 f1 (by unfold ξt; exact hw.2.1)
 obtain ⟨b, e2, h4⟩ := ξ28 f2
 obtain ⟨q, m, d, e3, h5, h6, h7⟩ := ξ9l f3 (by unfold ξt; exact hw.2.2.2.1)
 simp only [List.cons.injEq, and_true] at e0 e1 e2 e3
 subst e0 e1 e2 e3
 exact ⟨a, p, _, c, b, q, _, d, rfl, h0, ⟨l, rfl, h1, h2, h3⟩, h4, ⟨m, rfl, h5, h6, h7⟩⟩
theorem ξ9a (h : DataW.trod enc Tryz.prog w 0 (fun _ => true) true fuel 47 cs = some x) (hw : ξt 47 x.1) : ∃ y : ξb, cs = encNode y ∧ ξ2Y w y := by
 obtain ⟨xs, n, rfl, rfl, hl, hxl, hf⟩ := DataW.trod_struct Tryz.underlying47 h
 obtain ⟨v0, v1, v2, v3, v4, v5, v6, v7, rfl⟩ := one8 (hl.trans (show Tryz.prog.cellsOf 47 = 8 by kernel_rfl))
 obtain ⟨x0, x1, x2, x3, x4, rfl⟩ := one5 hxl
 have f0 : DataW.trod enc Tryz.prog w 0 (fun _ => true) true n 3 [v0] = some x0 := by simpa [cS, cI, cJ, cBo, cN, cZ, cC, cR, cT, cL, cV, cW] using hf 0 _ rfl
 have f1 : DataW.trod enc Tryz.prog w 0 (fun _ => true) true n 33 [v1] = some x1 := by simpa [cS, cI, cJ, cBo, cN, cZ, cC, cR, cT, cL, cV, cW] using hf 1 _ rfl
 have f2 : DataW.trod enc Tryz.prog w 0 (fun _ => true) true n 3 [v2] = some x2 := by simpa [cS, cI, cJ, cBo, cN, cZ, cC, cR, cT, cL, cV, cW] using hf 2 _ rfl
 have f3 : DataW.trod enc Tryz.prog w 0 (fun _ => true) true n 2 [v3] = some x3 := by simpa [cS, cI, cJ, cBo, cN, cZ, cC, cR, cT, cL, cV, cW] using hf 3 _ rfl
 have f4 : DataW.trod enc Tryz.prog w 0 (fun _ => true) true n 45 [v4, v5, v6, v7] = some x4 := by simpa [cS, cI, cJ, cBo, cN, cZ, cC, cR, cT, cL, cV, cW] using hf 4 _ rfl
 unfold ξt at hw
 simp only [DataW.weights, Tryz.underlying47, List.map_cons, List.map_nil, DataW.weightsEach, List.all_append, Bool.and_eq_true] at hw
 obtain ⟨a, e0, h0⟩ := ξ28 f0
 obtain ⟨p, l, c, e1, h1, h2, h3⟩ := ξ63 f1 (by unfold ξt; exact hw.2.1)
 obtain ⟨b, e2, h4⟩ := ξ28 f2
 obtain ⟨d, e3, h5⟩ := ξ3k f3
 obtain ⟨ck, cp, cn, cc, row, vp, vn, vc, e4, k0, k1, k2, k3⟩ := ξaH f4 (by unfold ξt; exact hw.2.2.2.2.1)
 simp only [List.cons.injEq, and_true] at e0 e1 e2 e3 e4
 subst e0 e1 e2 e3
 obtain ⟨rfl, rfl, rfl, rfl⟩ := e4
 exact ⟨⟨a, p, _, c, b, d, ck, cp, cn, cc, row, vp, vn, vc⟩, rfl, ⟨l, rfl, h1, h2, h3⟩, k1, k3, h0, h4, h5, k0, k2⟩
theorem ξ8D (h : DataW.trod enc Tryz.prog w 0 (fun _ => true) true fuel 26 cs = some x) (hw : ξt 26 x.1) :
  ∃ (p : Option Addr) (l : List ξb) (c : Nat), cs = [.slice p l.length c] ∧ SlL w 8 encNode (.slice p l.length c) l ∧ l.length ≤ 35184372088832 ∧ ∀ y ∈ l, ξ2Y w y :=
 ξ1l Tryz.underlying26 (show Tryz.prog.cellsOf 47 = 8 by kernel_rfl) (by decide) (of_decide_eq_true (by kernel_rfl)) ξp (fun fuel cs x h hw => ξ9a h hw) h hw
theorem ξ6g (h : DataW.trod enc Tryz.prog w 0 (fun _ => true) true fuel 25 cs = some x) (hw : ξt 25 x.1) : ∃ (a : Option Addr) (V : List VarM) (c : Nat) (b : Option Addr) (T : List RowM) (d : Nat), cs = [.slice a V.length c, .slice b T.length d] ∧ ξ06 w (.slice a V.length c) V ∧ SlL w 5 encRow (.slice b T.length d) T ∧ (∀ y ∈ V, VarI y) ∧ (∀ y ∈ T, RowR w y ∧ y.name.length ≤ 9223372036854775807) ∧ V.length ≤ 35184372088832 ∧ T.length ≤ 35184372088832 := by
 obtain ⟨xs, n, rfl, rfl, hl, hxl, hf⟩ := DataW.trod_struct Tryz.underlying25 h
 obtain ⟨v0, v1, rfl⟩ := one2 (hl.trans (show Tryz.prog.cellsOf 25 = 2 by kernel_rfl))
 obtain ⟨x0, x1, rfl⟩ := one2 hxl
 have f0 : DataW.trod enc Tryz.prog w 0 (fun _ => true) true n 22 [v0] = some x0 := by simpa [cS, cI, cJ, cBo, cN, cZ, cC, cR, cT, cL, cV, cW] using hf 0 _ rfl
 have f1 : DataW.trod enc Tryz.prog w 0 (fun _ => true) true n 23 [v1] = some x1 := by simpa [cS, cI, cJ, cBo, cN, cZ, cC, cR, cT, cL, cV, cW] using hf 1 _ rfl
 unfold ξt at hw
 simp only [DataW.weights, Tryz.underlying25, List.map_cons, List.map_nil, DataW.weightsEach, List.all_append, Bool.and_eq_true] at hw
 obtain ⟨a, V, c, e0, h0, h1, h2⟩ := ξ97 f0 (by unfold ξt; exact hw.1)
 obtain ⟨b, T, d, e1, h3, h4, h5⟩ := ξ9f f1 (by unfold ξt; exact hw.2.1)
 simp only [List.cons.injEq, and_true] at e0 e1
 subst e0 e1
 exact ⟨a, V, c, b, T, d, rfl, h0, h3, h2, h5, h1, h4⟩
end
end Prf
end Go.Proofs.YtcjgimlcefhhmaaGreatDoor
namespace Go.Proofs.YtcjgimlcefhhmaaGreatDoor
open Go.RowKit
section put
variable {α : Type} {enc : α → List Value} {sz : Nat}
theorem ξ4x (he : ∀ x, (enc x).length = sz) : ∀ (l : List α) (k : Nat) (x y : α) (j : Nat) (u : Value), l[k]? = some x → j < sz → enc y = (enc x).set j u → (l.set k y).flatMap enc = (l.flatMap enc).set (k * sz + j) u
 | [], k, x, y, j, u, h, _, _ => by simp at h
 | z :: l, 0, x, y, j, u, h, hj, hy => by
  simp at h; subst h
  rw [List.set_cons_zero, List.flatMap_cons, List.flatMap_cons, hy, List.set_append_left _ _ (by rw [he]; omega)]
  simp
 | z :: l, k + 1, x, y, j, u, h, hj, hy => by
  have ih := ξ4x he l k x y j u (by simpa using h) hj hy
  rw [List.set_cons_succ, List.flatMap_cons, List.flatMap_cons, ih, List.set_append_right _ _ (by rw [he, Nat.add_mul]; omega), he]
  congr 2
  rw [Nat.add_mul]; omega
theorem OwnL.put {w : World} {base : Nat} {e : TypeId} {v : Value} {l : List α} (he : ∀ x, (enc x).length = sz) (h : OwnL w base e sz enc v l) {k : Nat} {x y : α} {j : Nat} {u : Value} (hx : l[k]? = some x) (hj : j < sz) (hy : enc y = (enc x).set j u) :
  ∃ g cap, v = .slice (some ⟨g, 0, none⟩) l.length cap ∧ base ≤ g ∧ g < w.heap.size ∧ w.cell? ⟨g, k * sz + j, none⟩ = (enc x)[j]? ∧ w.frozen? ⟨g, k * sz + j, none⟩ = false ∧ OwnL (w.setCell ⟨g, k * sz + j, none⟩ u) base e sz enc v (l.set k y) := by
 have hk : k < l.length := (List.getElem?_eq_some_iff.1 hx).1
 have hfl := ξU he l
 have hks : k * sz + j < l.length * sz := by
  have : (k + 1) * sz ≤ l.length * sz := Nat.mul_le_mul_right _ hk
  rw [Nat.add_mul] at this; omega
 obtain ⟨h1, h2⟩ := h
 rcases h2 with ⟨rfl, h0⟩ | ⟨g, cap, cur, rfl, hb, hh, hn, hm, hs, ht⟩
 ·omega
 ·have hcur : k * sz + j < cur.size := by rw [hs]; exact Nat.lt_of_lt_of_le hks (Nat.mul_le_mul_right _ hn)
  have hg := (Array.getElem?_eq_some_iff.1 hh).1
  have hcell : cur[k * sz + j]? = (enc x)[j]? := by
   rw [← ξ1n he l k x j hx hj, ← ht, List.getElem?_take_of_lt (by omega)]
   simp
  refine ⟨g, cap, rfl, hb, hg, ?_, ?_, ?_, ?_⟩
  ·unfold World.cell?
   rw [show (⟨g, k * sz + j, none⟩ : Addr).block = g from rfl, hh]
   exact hcell
  ·unfold World.frozen?
   rw [show (⟨g, k * sz + j, none⟩ : Addr).block = g from rfl, hh]
   simp
  ·rw [ξ4x he l k x y j u hx hj hy, List.length_set, List.length_set]; exact h1
  ·rw [List.length_set]
   refine .inr ⟨g, cap, cur.setIfInBounds (k * sz + j) u, rfl, hb, ?_, hn, hm, by simpa using hs, ?_⟩
   ·simp [World.setCell, Array.getElem?_modify, hh]
   ·rw [ξ4x he l k x y j u hx hj hy, ← ht]
    simp [List.take_set]
theorem OwnL.putS {w : World} {base : Nat} {e : TypeId} {g n cap : Nat} {l : List α} (he : ∀ x, (enc x).length = sz) (h : OwnL w base e sz enc (.slice (some ⟨g, 0, none⟩) n cap) l) {k : Nat} {x : α} (y : α) (j : Nat) (u : Value) (hx : l[k]? = some x) (hj : j < sz) (hy : enc y = (enc x).set j u) :
  base ≤ g ∧ g < w.heap.size ∧ w.cell? ⟨g, k * sz + j, none⟩ = (enc x)[j]? ∧ w.frozen? ⟨g, k * sz + j, none⟩ = false ∧ OwnL (w.setCell ⟨g, k * sz + j, none⟩ u) base e sz enc (.slice (some ⟨g, 0, none⟩) n cap) (l.set k y) := by
 obtain ⟨g', cap', hv, h1, h2, h3, h4, h5⟩ := OwnL.put he h hx hj hy
 injection hv with hv _ _
 injection hv with hv
 injection hv with hv
 subst hv
 exact ⟨h1, h2, h3, h4, h5⟩
theorem OwnL.made {w : World} {base : Nat} {e : TypeId} {v : Value} {l : List α} (h : OwnL w base e sz enc v l) (hl : 0 < l.length) : ∃ g cap, v = .slice (some ⟨g, 0, none⟩) l.length cap ∧ base ≤ g ∧ g < w.heap.size ∧ l.length ≤ cap ∧ cap ≤ 9223372036854775807 := by
 obtain ⟨h1, h2⟩ := h
 rcases h2 with ⟨rfl, h0⟩ | ⟨g, cap, cur, rfl, hb, hh, hn, hm, hs, ht⟩
 ·omega
 ·exact ⟨g, cap, rfl, hb, (Array.getElem?_eq_some_iff.1 hh).1, hn, by simpa [maxLen] using hm⟩
theorem OwnL.other {w : World} {base : Nat} {e : TypeId} {v u : Value} {l : List α} {b i : Nat} (h : OwnL w base e sz enc v l) (hne : v.ownBlock ≠ some b) : OwnL (w.setCell ⟨b, i, none⟩ u) base e sz enc v l := by
 refine World.ownsRow.kept (row := some b) h ⟨rfl, rfl, rfl, ?_, fun k hk hn => Below.heap_setCell _ _ _ _ (fun e => hn (congrArg some e))⟩ (.inr hne)
 simp [World.setCell]
end put
end Go.Proofs.YtcjgimlcefhhmaaGreatDoor
namespace Go.Proofs.YtcjgimlcefhhmaaGreatDoor
namespace Prf
open Go.RowKit
def ξd (w : World) (b n : Nat) (a : Nat → Rat) (L : Nat) : Prop := ∃ T : List RatM, ξ0 w b (T.flatMap encRat).toArray ∧ T.length = n ∧ ∀ (i : Nat) (t : RatM), T[i]? = some t → RatV w t.v (a i) L
theorem ξ72 : ∀ (T : List RatM) (i : Nat) (k : IntKind) (z : Int), (T.flatMap encRat)[i]? ≠ some (Value.int k z) := fun T i k z h => by
 have := List.mem_of_getElem? h
 obtain ⟨t, _, ht⟩ := List.mem_flatMap.1 this
 simp [encRat] at ht
theorem ξd.noInt {w : World} {b n : Nat} {a : Nat → Rat} {L : Nat} (h : ξd w b n a L) : ξ0f w b := by
 obtain ⟨T, ⟨t, ht⟩, _, _⟩ := h
 exact ⟨_, t, ht, fun i k z hi => ξ72 T i k z (by simpa using hi)⟩
theorem ξd.grow {w w' : World} {b n : Nat} {a : Nat → Rat} {L : Nat} (h : ξd w b n a L) (g : Gr w w') : ξd w' b n a L := by
 obtain ⟨T, h1, h2, h3⟩ := h
 exact ⟨T, h1.grow g, h2, fun i t ht => (h3 i t ht).grow g⟩
theorem ξd.upd {w w' : World} {b b' n : Nat} {a : Nat → Rat} {L : Nat} (h : ξd w b n a L) (hb : ξ0f w b') (hu : Upd b' w w') (hne : b ≠ b') : ξd w' b n a L := by
 obtain ⟨T, h1, h2, h3⟩ := h
 exact ⟨T, h1.upd hu hne, h2, fun i t ht => (h3 i t ht).upd hb hu⟩
theorem ξd.congr {w : World} {b n : Nat} {a a' : Nat → Rat} {L : Nat} (h : ξd w b n a L) (e : ∀ i, i < n → a i = a' i) : ξd w b n a' L := by
 obtain ⟨T, h1, h2, h3⟩ := h
 exact ⟨T, h1, h2, fun i t ht => by rw [← e i (by have := (List.getElem?_eq_some_iff.1 ht).1; omega)]; exact h3 i t ht⟩
theorem ξd.mono {w : World} {b n : Nat} {a : Nat → Rat} {L M : Nat} (h : ξd w b n a L) (hM : L ≤ M) : ξd w b n a M := by
 obtain ⟨T, h1, h2, h3⟩ := h
 exact ⟨T, h1, h2, fun i t ht => by
  obtain ⟨n, l, d, k1, k2, k3, k4⟩ := h3 i t ht
  exact ⟨n, l, d, k1, k2, by omega, by omega⟩⟩
theorem ξd.at {w : World} {b n : Nat} {a : Nat → Rat} {L : Nat} (h : ξd w b n a L) {k : Nat} (hk : k < n) :
  ∃ t, RatV w t.v (a k) L ∧ (∀ w', Gr w w' → ξ8d w' b (k * 3) t) := by
 obtain ⟨T, h1, h2, h3⟩ := h
 obtain ⟨t, ht⟩ : ∃ t, T[k]? = some t := ⟨_, List.getElem?_eq_getElem (by omega)⟩
 refine ⟨t, h3 k t ht, fun w' g => ?_⟩
 have hc : ∀ j u, (encRat t)[j]? = some u → w'.cell? ⟨b, k * 3 + j, none⟩ = some u := fun j u hu => by
  have hj : j < 3 := (List.getElem?_eq_some_iff.1 hu).1
  exact (h1.grow g).at _ (by simpa using (ξ1n ξR T k t j ht hj).trans hu)
 exact ⟨hc 0 _ rfl, hc 1 _ rfl, hc 2 _ rfl⟩
theorem ξd.f {w : World} {b n : Nat} {a : Nat → Rat} {L : Nat} (h : ξd w b n a L) (i : Nat) : w.frozen? ⟨b, i, none⟩ = false := by
 obtain ⟨T, h1, _, _⟩ := h
 exact h1.f i
def setRat (w : World) (b k : Nat) (t : RatM) : World := ((w.setCell ⟨b, k * 3, none⟩ (.bool t.n)).setCell ⟨b, k * 3 + 1, none⟩ (.slice t.p t.k t.c)).setCell ⟨b, k * 3 + 2, none⟩ (.slice t.q t.m t.e)
theorem ξ19 (w : World) (b k : Nat) (t : RatM) : Upd b w (setRat w b k t) := fun i hi => by
 unfold setRat
 rw [Below.heap_setCell _ _ _ _ hi, Below.heap_setCell _ _ _ _ hi, Below.heap_setCell _ _ _ _ hi]
theorem ξ5X (t : RatM) : ∀ (T : List RatM) (k : Nat), k < T.length →
  (((T.flatMap encRat).set (k * 3) (.bool t.n)).set (k * 3 + 1) (.slice t.p t.k t.c)).set (k * 3 + 2) (.slice t.q t.m t.e) = (T.set k t).flatMap encRat
 | [], k, h => by simp at h
 | x :: T, 0, _ => by simp [encRat]
 | x :: T, k + 1, h => by
  have ih := ξ5X t T k (by simpa using h)
  have e : (k + 1) * 3 = k * 3 + 1 + 1 + 1 := by omega
  rw [e, List.set_cons_succ, List.flatMap_cons, List.flatMap_cons, ← ih]
  simp [encRat]
theorem ξd.set {w : World} {b n : Nat} {a a' : Nat → Rat} {L : Nat} (h : ξd w b n a L) {k : Nat} (hk : k < n) {t : RatM} (ht : RatV w t.v (a' k) L) (e : ∀ i, i < n → i ≠ k → a i = a' i) : ξd (setRat w b k t) b n a' L := by
 have hni := h.noInt
 obtain ⟨T, h1, h2, h3⟩ := h
 have hu := ξ19 w b k t
 refine ⟨T.set k t, ?_, by simpa using h2, fun i s hs => ?_⟩
 ·have := ((h1.set (k * 3) (.bool t.n)).set (k * 3 + 1) (.slice t.p t.k t.c)).set (k * 3 + 2) (.slice t.q t.m t.e)
  rw [← ξ5X t T k (by omega)]
  unfold setRat
  simpa using this
 ·by_cases hi : i = k
  ·subst hi
   rw [List.getElem?_set_self (by omega)] at hs
   obtain rfl := Option.some.inj hs
   exact ht.upd hni hu
  ·rw [List.getElem?_set_ne (by omega)] at hs
   have hl := (List.getElem?_eq_some_iff.1 hs).1
   rw [← e i (by omega) hi]
   exact (h3 i s hs).upd hni hu
theorem ξd.read {w : World} {b n : Nat} {a : Nat → Rat} {L : Nat} (h : ξd w b n a L) (hn : n ≤ 1000000000) : ξ0F w (.slice (some ⟨b, 0, none⟩) n n) n a L := by
 obtain ⟨T, h1, h2, h3⟩ := h
 refine ⟨T, ?_, h2, h3⟩
 subst h2
 refine ⟨ξU ξR T, _, _, rfl, Nat.le_refl _, by omega, .inr ⟨b, 0, rfl, fun j u hu => ?_⟩⟩
 rw [Nat.zero_add]
 exact h1.at j (by simpa using hu)
def zeroRat : RatM := ⟨false, none, 0, 0, none, 0, 0⟩
theorem ξ41 (w : World) (L : Nat) : RatV w zeroRat.v 0 L := ⟨false, [], [], ⟨none, 0, 0, none, 0, 0, rfl, NatL.nil w, NatL.nil w⟩, by decide +kernel, Nat.zero_le _, Nat.zero_le _⟩
theorem ξd.zero {w : World} {b n : Nat} (L : Nat) {vs : Array Value} (h : ξ0 w b vs) (hv : vs = ((List.replicate n zeroRat).flatMap encRat).toArray) : ξd w b n (fun _ => 0) L := by
 subst hv
 refine ⟨_, h, by simp, fun i t ht => ?_⟩
 have := List.mem_of_getElem? ht
 obtain rfl := (List.mem_replicate.1 this).2
 exact ξ41 w L
end Prf
end Go.Proofs.YtcjgimlcefhhmaaGreatDoor
namespace Go.Proofs.YtcjgimlcefhhmaaGreatDoor
open Go.RowKit
def fkv (d : TypeDesc) (k : Value) : List (Value × Value) → Option (Option Value)
 | [] => some none
 | p :: l => match Instr.sameNow d k p.1 with
  | some true => some (some p.2)
  | some false => fkv d k l
  | none => none
theorem ξ4v (d : TypeDesc) (k : Value) : ∀ (es : List MapEntry) (i : Nat), (Instr.findNow d k es i).map (fun r => r.map fun y => y.2) = fkv d k (es.map fun x => (x.key, x.val))
 | [], _ => rfl
 | e :: es, i => by
  unfold Instr.findNow
  simp only [List.map_cons, fkv]
  cases Instr.sameNow d k e.key with
  | none => rfl
  | some t => cases t with
   | true => rfl
   | false => exact ξ4v d k es (i + 1)
def ξ0P (w : World) (r : Nat) (m : List (Value × Value)) : Prop := ∃ (es : Array MapEntry) (clock : Nat), w.heap[r]? = some (.map es clock) ∧ es.toList.map (fun x => (x.key, x.val)) = m
theorem ξ0P.lt {w : World} {r : Nat} {m : List (Value × Value)} (h : ξ0P w r m) : r < w.heap.size := by
 obtain ⟨es, c, h1, _⟩ := h
 exact (Array.getElem?_eq_some_iff.1 h1).1
theorem ξ0P.grow {w w' : World} {r : Nat} {m : List (Value × Value)} (h : ξ0P w r m) (g : Gr w w') : ξ0P w' r m := by
 have hlt := h.lt
 obtain ⟨es, c, h1, h2⟩ := h
 exact ⟨es, c, by rw [Below.block g r hlt]; exact h1, h2⟩
theorem ξ0P.new (w : World) : Gr w (w.alloc (.map #[] 0)) ∧ ξ0P (w.alloc (.map #[] 0)) w.heap.size [] := ⟨(Gr.refl w).alloc _, #[], 0, (MapKept.heap_alloc w _).1, rfl⟩
theorem ξz {P : Program} {w : World} {r : Nat} {m : List (Value × Value)} (h : ξ0P w r m) {t kt et : TypeId} {d : TypeDesc} {key v : Value} (ht : P.underlying t = some (.map kt et)) (hk : P.underlying kt = some d) (hd : MapKept.IsKey d key)
  (hf : fkv d key m = some (some v)) : (Instr.lookup t (.map (some r)) key false).run P w = .ok v w ∧ (Instr.lookup t (.map (some r)) key true).run P w = .ok (.tuple #[v, .bool true]) w := by
 obtain ⟨es, c, h1, rfl⟩ := h
 rw [← ξ4v d key es.toList 0] at hf
 rcases Option.map_eq_some_iff.1 hf with ⟨a, ha, hb⟩
 rcases Option.map_eq_some_iff.1 hb with ⟨⟨i, u⟩, rfl, rfl⟩
 exact ⟨by simp [Instr.lookup, run_underlying ht, MapKept.run_getObj_map h1, MapKept.run_checkKey hk hd es.isEmpty 9999, MapKept.run_findKey hk ha, Result.andThen],
  by simp [Instr.lookup, run_underlying ht, MapKept.run_getObj_map h1, MapKept.run_checkKey hk hd es.isEmpty 9999, MapKept.run_findKey hk ha, Result.andThen]⟩
theorem ξ1P {P : Program} {w : World} {r : Nat} {m : List (Value × Value)} (h : ξ0P w r m) {t kt et : TypeId} {d : TypeDesc} {key z : Value} (ht : P.underlying t = some (.map kt et)) (hk : P.underlying kt = some d) (hd : MapKept.IsKey d key)
  (hz : (zeroValue et).run P w = .ok z w) (hf : fkv d key m = some none) : (Instr.lookup t (.map (some r)) key false).run P w = .ok z w ∧ (Instr.lookup t (.map (some r)) key true).run P w = .ok (.tuple #[z, .bool false]) w := by
 obtain ⟨es, c, h1, rfl⟩ := h
 rw [← ξ4v d key es.toList 0] at hf
 rcases Option.map_eq_some_iff.1 hf with ⟨a, ha, hb⟩
 rw [Option.map_eq_none_iff] at hb
 subst hb
 exact ⟨by simp [Instr.lookup, run_underlying ht, MapKept.run_getObj_map h1, MapKept.run_checkKey hk hd es.isEmpty 9999, MapKept.run_findKey hk ha, hz, Result.andThen],
  by simp [Instr.lookup, run_underlying ht, MapKept.run_getObj_map h1, MapKept.run_checkKey hk hd es.isEmpty 9999, MapKept.run_findKey hk ha, hz, Result.andThen]⟩
theorem ξj {P : Program} {w : World} {es es' : Array MapEntry} {c : Nat} {t kt et : TypeId} {d : TypeDesc} {key : Value} (v : Value) (ht : P.underlying t = some (.map kt et)) (hk : P.underlying kt = some d) (hd : MapKept.IsKey d key)
  (hf : Instr.findNow d key es.toList 0 = some none) (he : es.push { key := key, val := v, born := c } = es') :
  (Instr.mapUpdate t (.map (some w.heap.size)) key v).run P (w.alloc (.map es c)) = .ok () (w.alloc (.map es' (c + 1))) := by
 subst he
 have h1 := (MapKept.heap_alloc w (.map es c)).1
 have hc : (Instr.checkKey false 10000 kt key).run P (w.alloc (.map es c)) = .ok () (w.alloc (.map es c)) := MapKept.run_checkKey hk hd false 9999
 have e1 : ∀ o, (w.alloc o).heap = w.heap.push o := fun _ => rfl
 have e2 : (w.heap.push (Obj.map es c)).setIfInBounds w.heap.size (.map (es.push { key := key, val := v, born := c }) (c + 1)) = w.heap.push (.map (es.push { key := key, val := v, born := c }) (c + 1)) := by
  have : ∀ (l : List Obj) (a b : Obj), (l ++ [a]).set l.length b = l ++ [b] := fun l a b => by
   induction l with
   | nil => rfl
   | cons x l ih => simp
  apply Array.ext'
  have h := this w.heap.toList (.map es c) (.map (es.push { key := key, val := v, born := c }) (c + 1))
  simp
 have e : ∀ o : Obj, { w.alloc (.map es c) with heap := w.heap.push o } = w.alloc o := fun _ => rfl
 have h3 : (setObj w.heap.size (.map (es.push { key := key, val := v, born := c }) (c + 1))).run P (w.alloc (.map es c)) = .ok () (w.alloc (.map (es.push { key := key, val := v, born := c }) (c + 1))) := by
  rw [MapKept.run_setObj_map _ h1, e1, e2, e]
 simp [Instr.mapUpdate, run_underlying ht, MapKept.run_getObj_map h1, hc, MapKept.run_findKey hk hf, h3, Result.andThen]
end Go.Proofs.YtcjgimlcefhhmaaGreatDoor
namespace Go.Proofs.YtcjgimlcefhhmaaGreatDoor
namespace Prf
open Go.Lib
def wSplit : List UInt8 := [115, 112, 108, 105, 116]
def wFarkas : List UInt8 := [102, 97, 114, 107, 97, 115]
def exW : Nat → List (List UInt8)
 | 0 => [wSplit, [48], [48]]
 | 1 => [wSplit, [49], [48]]
 | 2 => [wFarkas, [49]]
 | 3 => [wFarkas, [45, 49]]
 | 4 => [wFarkas, [45, 49]]
 | _ => []
def exJ : Nat → List UInt8
 | 0 => [115, 112, 108, 105, 116, 32, 48, 32, 48]
 | 1 => [115, 112, 108, 105, 116, 32, 49, 32, 48]
 | 2 => [102, 97, 114, 107, 97, 115, 32, 49]
 | 3 => [102, 97, 114, 107, 97, 115, 32, 45, 49]
 | 4 => [102, 97, 114, 107, 97, 115, 32, 45, 49]
 | _ => []
def exTx : Nat → List UInt8
 | 0 => []
 | k + 1 => exTx k ++ (exJ k ++ [10])
def exText : List UInt8 := [115, 112, 108, 105, 116, 32, 48, 32, 48, 10, 115, 112, 108, 105, 116, 32, 49, 32, 48, 10, 102, 97, 114, 107, 97, 115, 32, 49, 10, 102, 97, 114, 107, 97, 115, 32, 45, 49, 10, 102, 97, 114, 107, 97, 115, 32, 45, 49, 10]
theorem ξcA : exTx 5 = exText := by decide
theorem ξ47 (k : Nat) : (exJ k).length ≤ 9 := by
 match k with
 | 0 | 1 | 2 | 3 | 4 => decide
 | k + 5 => simp [exJ]
theorem ξ77 : ∀ k, (exTx k).length ≤ 10 * k
 | 0 => by simp [exTx]
 | k + 1 => by
  have := ξ77 k
  have := ξ47 k
  simp only [exTx, List.length_append, List.length_singleton]
  omega
theorem ξ6Z (k : Nat) (hk : k < 5) : Lib.join (exW k) [32] = exJ k := by
 match k, hk with
 | 0, _ | 1, _ | 2, _ | 3, _ | 4, _ => decide
theorem ξbp (k : Nat) (hk : k < 5) : (exW k).length ≤ 3 ∧ 0 < (exW k).length := by
 match k, hk with
 | 0, _ | 1, _ | 2, _ | 3, _ | 4, _ => decide
theorem ξb8 : Lib.decDigits 0 = [48] := by decide +kernel
theorem ξcT : Lib.decDigits 1 = [49] := by decide +kernel
def exAll : List (List UInt8) := [exJ 0, exJ 1, exJ 2, exJ 3, exJ 4]
def exRm : Nat → List UInt8
 | 0 => exText.take 48
 | 1 => (exText.take 48).drop 10
 | 2 => (exText.take 48).drop 20
 | 3 => (exText.take 48).drop 29
 | _ => (exText.take 48).drop 39
theorem ξb1 (k : Nat) : (exRm k).length ≤ 49 := by
 match k with
 | 0 | 1 | 2 | 3 => decide
 | k + 4 => simp [exRm, exText]
theorem ξal (k : Nat) (hk : k < 4) : Lib.indexByte (exRm k) 10 = ((exJ k).length : Int) := by
 match k, hk with
 | 0, _ | 1, _ | 2, _ | 3, _ => decide
theorem ξcH : Lib.indexByte (exRm 4) 10 = -1 := by decide
theorem ξb0 (k : Nat) (hk : k < 4) : (⟨(exRm k).toArray⟩ : ByteArray).extract 0 (exJ k).length = ⟨(exJ k).toArray⟩ := by
 match k, hk with
 | 0, _ | 1, _ | 2, _ | 3, _ => decide +kernel
theorem ξa9 (k : Nat) (hk : k < 4) : (⟨(exRm k).toArray⟩ : ByteArray).extract ((exJ k).length + 1) (exRm k).length = ⟨(exRm (k + 1)).toArray⟩ := by
 match k, hk with
 | 0, _ | 1, _ | 2, _ | 3, _ => decide +kernel
theorem ξbj (k : Nat) (hk : k < 4) : (exJ k).length + 1 ≤ (exRm k).length ∧ (exRm (k + 1)).length < (exRm k).length := by
 match k, hk with
 | 0, _ | 1, _ | 2, _ | 3, _ => decide
theorem ξ33 (k : Nat) (hk : k < 5) : exAll.take k ++ [exJ k] = exAll.take (k + 1) := by
 match k, hk with
 | 0, _ | 1, _ | 2, _ | 3, _ | 4, _ => rfl
def nodeS (v : Int) : ξb := ⟨2, none, 0, 0, v, 0, 0, none, 0, 0, 0, none, 0, 0⟩
def nodeF (p : Option Addr) (c : Nat) : ξb := ⟨0, p, 1, c, 0, 0, 0, none, 0, 0, 0, none, 0, 0⟩
end Prf
end Go.Proofs.YtcjgimlcefhhmaaGreatDoor
