/-
 Models: what a model is (plain), how it is read in memory, and which models are valid.
-/
import Derived.Test.YtnlocdijdfclcaaGreatDoorLex
import Derived.Test.YtnlocdijdfclcaaGreatDoorSlc
namespace Go.Proofs.YtnlocdijdfclcaaGreatDoor
open Go.RowKit Lex
set_option linter.unusedVariables false
set_option linter.unusedSimpArgs false

structure RackM where
 name : List UInt8
 site : Int
 feed : Int
structure MachM where
 name : List UInt8
 rack : Int
 cap : Int
structure LinkM where
 a : Int
 b : Int
 cap : Int
structure ItemM where
 name : List UInt8
 kind : Int
 count : Int
 load : Int
 size : Int
 share : Int
 onP : Option Addr
 onC : Nat
 on : List Int
structure RuleM where
 kind : Int
 item : Int
 other : Int
 n : Int
 bye : Int
 always : Bool
 msP : Option Addr
 msC : Nat
 ms : List Int
structure Mdl where
 sites : List (List UInt8)
 feeds : List (List UInt8)
 racks : List RackM
 machs : List MachM
 links : List LinkM
 items : List ItemM
 dark : Int
 slots : Int
 reserve : Int
 failures : Int
 rules : List RuleM
structure Ptrs where
 p0 : Option Addr
 c0 : Nat
 p1 : Option Addr
 c1 : Nat
 p2 : Option Addr
 c2 : Nat
 p3 : Option Addr
 c3 : Nat
 p4 : Option Addr
 c4 : Nat
 p5 : Option Addr
 c5 : Nat
 p6 : Option Addr
 c6 : Nat
def encS (s : List UInt8) : List Value := [.string ⟨s.toArray⟩]
def encI (n : Int) : List Value := [.int .i64 n]
def encRack (x : RackM) : List Value := [.string ⟨x.name.toArray⟩, .int .i64 x.site, .int .i64 x.feed]
def encMach (x : MachM) : List Value := [.string ⟨x.name.toArray⟩, .int .i64 x.rack, .int .i64 x.cap]
def encLink (x : LinkM) : List Value := [.int .i64 x.a, .int .i64 x.b, .int .i64 x.cap]
def encItem (x : ItemM) : List Value := [.string ⟨x.name.toArray⟩, .int .i64 x.kind, .int .i64 x.count, .int .i64 x.load, .int .i64 x.size, .int .i64 x.share, .slice x.onP x.on.length x.onC]
def encRule (x : RuleM) : List Value := [.int .i64 x.kind, .int .i64 x.item, .int .i64 x.other, .int .i64 x.n, .int .i64 x.bye, .bool x.always, .slice x.msP x.ms.length x.msC]
theorem encS_len (x : List UInt8) : (encS x).length = 1 := rfl
theorem encI_len (x : Int) : (encI x).length = 1 := rfl
theorem encRack_len (x : RackM) : (encRack x).length = 3 := rfl
theorem encMach_len (x : MachM) : (encMach x).length = 3 := rfl
theorem encLink_len (x : LinkM) : (encLink x).length = 3 := rfl
theorem encItem_len (x : ItemM) : (encItem x).length = 7 := rfl
theorem encRule_len (x : RuleM) : (encRule x).length = 7 := rfl
abbrev IntL (w : World) (v : Value) (l : List Int) : Prop := SlL w 1 encI v l
abbrev StrL (w : World) (v : Value) (l : List (List UInt8)) : Prop := SlL w 1 encS v l
def ItemOn (w : World) (x : ItemM) : Prop := IntL w (.slice x.onP x.on.length x.onC) x.on
def RuleMs (w : World) (x : RuleM) : Prop := IntL w (.slice x.msP x.ms.length x.msC) x.ms
def mcells (P : Ptrs) (M : Mdl) : Array Value := #[.slice P.p0 M.sites.length P.c0, .slice P.p1 M.feeds.length P.c1, .slice P.p2 M.racks.length P.c2, .slice P.p3 M.machs.length P.c3, .slice P.p4 M.links.length P.c4, .slice P.p5 M.items.length P.c5,
 .int .i64 M.dark, .int .i64 M.slots, .int .i64 M.reserve, .int .i64 M.failures, .slice P.p6 M.rules.length P.c6]
theorem mc0 {w : World} {b : Nat} {P : Ptrs} {M : Mdl} (h : Cells w b (mcells P M)) : ∀ w', Gr w w' → w'.cell? ⟨b, 0, none⟩ = some (.slice P.p0 M.sites.length P.c0) := h.c 0 rfl
theorem mc1 {w : World} {b : Nat} {P : Ptrs} {M : Mdl} (h : Cells w b (mcells P M)) : ∀ w', Gr w w' → w'.cell? ⟨b, 1, none⟩ = some (.slice P.p1 M.feeds.length P.c1) := h.c 1 rfl
theorem mc2 {w : World} {b : Nat} {P : Ptrs} {M : Mdl} (h : Cells w b (mcells P M)) : ∀ w', Gr w w' → w'.cell? ⟨b, 2, none⟩ = some (.slice P.p2 M.racks.length P.c2) := h.c 2 rfl
theorem mc3 {w : World} {b : Nat} {P : Ptrs} {M : Mdl} (h : Cells w b (mcells P M)) : ∀ w', Gr w w' → w'.cell? ⟨b, 3, none⟩ = some (.slice P.p3 M.machs.length P.c3) := h.c 3 rfl
theorem mc4 {w : World} {b : Nat} {P : Ptrs} {M : Mdl} (h : Cells w b (mcells P M)) : ∀ w', Gr w w' → w'.cell? ⟨b, 4, none⟩ = some (.slice P.p4 M.links.length P.c4) := h.c 4 rfl
theorem mc5 {w : World} {b : Nat} {P : Ptrs} {M : Mdl} (h : Cells w b (mcells P M)) : ∀ w', Gr w w' → w'.cell? ⟨b, 5, none⟩ = some (.slice P.p5 M.items.length P.c5) := h.c 5 rfl
theorem mc6 {w : World} {b : Nat} {P : Ptrs} {M : Mdl} (h : Cells w b (mcells P M)) : ∀ w', Gr w w' → w'.cell? ⟨b, 6, none⟩ = some (.int .i64 M.dark) := h.c 6 rfl
theorem mc7 {w : World} {b : Nat} {P : Ptrs} {M : Mdl} (h : Cells w b (mcells P M)) : ∀ w', Gr w w' → w'.cell? ⟨b, 7, none⟩ = some (.int .i64 M.slots) := h.c 7 rfl
theorem mc8 {w : World} {b : Nat} {P : Ptrs} {M : Mdl} (h : Cells w b (mcells P M)) : ∀ w', Gr w w' → w'.cell? ⟨b, 8, none⟩ = some (.int .i64 M.reserve) := h.c 8 rfl
theorem mc9 {w : World} {b : Nat} {P : Ptrs} {M : Mdl} (h : Cells w b (mcells P M)) : ∀ w', Gr w w' → w'.cell? ⟨b, 9, none⟩ = some (.int .i64 M.failures) := h.c 9 rfl
theorem mc10 {w : World} {b : Nat} {P : Ptrs} {M : Mdl} (h : Cells w b (mcells P M)) : ∀ w', Gr w w' → w'.cell? ⟨b, 10, none⟩ = some (.slice P.p6 M.rules.length P.c6) := h.c 10 rfl
structure MdlAt (w : World) (P : Ptrs) (M : Mdl) : Prop where
 sites : StrL w (.slice P.p0 M.sites.length P.c0) M.sites
 feeds : StrL w (.slice P.p1 M.feeds.length P.c1) M.feeds
 racks : SlL w 3 encRack (.slice P.p2 M.racks.length P.c2) M.racks
 machs : SlL w 3 encMach (.slice P.p3 M.machs.length P.c3) M.machs
 links : SlL w 3 encLink (.slice P.p4 M.links.length P.c4) M.links
 items : SlL w 7 encItem (.slice P.p5 M.items.length P.c5) M.items
 rules : SlL w 7 encRule (.slice P.p6 M.rules.length P.c6) M.rules
 ons : ∀ x ∈ M.items, ItemOn w x
 mss : ∀ x ∈ M.rules, RuleMs w x
 big : M.sites.length ≤ 17592186044416 ∧ M.feeds.length ≤ 17592186044416 ∧ M.racks.length ≤ 17592186044416 ∧ M.machs.length ≤ 17592186044416 ∧ M.links.length ≤ 17592186044416 ∧ M.items.length ≤ 17592186044416 ∧ M.rules.length ≤ 17592186044416
 onb : ∀ x ∈ M.items, x.on.length ≤ 17592186044416
 msb : ∀ x ∈ M.rules, x.ms.length ≤ 17592186044416
theorem MdlAt.grow {w w' : World} {P : Ptrs} {M : Mdl} (h : MdlAt w P M) (g : Gr w w') : MdlAt w' P M :=
 ⟨h.sites.grow g, h.feeds.grow g, h.racks.grow g, h.machs.grow g, h.links.grow g, h.items.grow g, h.rules.grow g, fun x hx => SlL.grow (h.ons x hx) g, fun x hx => SlL.grow (h.mss x hx) g, h.big, h.onb, h.msb⟩

def RackCell (w : World) (b o : Nat) (x : RackM) : Prop := w.cell? ⟨b, o, none⟩ = some (.string ⟨x.name.toArray⟩) ∧ w.cell? ⟨b, o + 1, none⟩ = some (.int .i64 x.site) ∧ w.cell? ⟨b, o + 2, none⟩ = some (.int .i64 x.feed)
theorem rack_at {w : World} {p : Option Addr} {n c : Nat} {l : List RackM} (h : SlL w 3 encRack (.slice p n c) l) (hn : l.length = n) {k : Nat} (hk : k < n) : ∃ b o x, p = some ⟨b, o, none⟩ ∧ l[k]? = some x ∧ ∀ w', Gr w w' → RackCell w' b (o + k * 3) x := by
 obtain ⟨b, o, x, hp, hx, hc⟩ := h.at encRack_len hn hk
 exact ⟨b, o, x, hp, hx, fun w' g => ⟨hc 0 _ rfl w' g, hc 1 _ rfl w' g, hc 2 _ rfl w' g⟩⟩
def MachCell (w : World) (b o : Nat) (x : MachM) : Prop := w.cell? ⟨b, o, none⟩ = some (.string ⟨x.name.toArray⟩) ∧ w.cell? ⟨b, o + 1, none⟩ = some (.int .i64 x.rack) ∧ w.cell? ⟨b, o + 2, none⟩ = some (.int .i64 x.cap)
theorem mach_at {w : World} {p : Option Addr} {n c : Nat} {l : List MachM} (h : SlL w 3 encMach (.slice p n c) l) (hn : l.length = n) {k : Nat} (hk : k < n) : ∃ b o x, p = some ⟨b, o, none⟩ ∧ l[k]? = some x ∧ ∀ w', Gr w w' → MachCell w' b (o + k * 3) x := by
 obtain ⟨b, o, x, hp, hx, hc⟩ := h.at encMach_len hn hk
 exact ⟨b, o, x, hp, hx, fun w' g => ⟨hc 0 _ rfl w' g, hc 1 _ rfl w' g, hc 2 _ rfl w' g⟩⟩
def LinkCell (w : World) (b o : Nat) (x : LinkM) : Prop := w.cell? ⟨b, o, none⟩ = some (.int .i64 x.a) ∧ w.cell? ⟨b, o + 1, none⟩ = some (.int .i64 x.b) ∧ w.cell? ⟨b, o + 2, none⟩ = some (.int .i64 x.cap)
theorem link_at {w : World} {p : Option Addr} {n c : Nat} {l : List LinkM} (h : SlL w 3 encLink (.slice p n c) l) (hn : l.length = n) {k : Nat} (hk : k < n) : ∃ b o x, p = some ⟨b, o, none⟩ ∧ l[k]? = some x ∧ ∀ w', Gr w w' → LinkCell w' b (o + k * 3) x := by
 obtain ⟨b, o, x, hp, hx, hc⟩ := h.at encLink_len hn hk
 exact ⟨b, o, x, hp, hx, fun w' g => ⟨hc 0 _ rfl w' g, hc 1 _ rfl w' g, hc 2 _ rfl w' g⟩⟩
def ItemCell (w : World) (b o : Nat) (x : ItemM) : Prop := w.cell? ⟨b, o, none⟩ = some (.string ⟨x.name.toArray⟩) ∧ w.cell? ⟨b, o + 1, none⟩ = some (.int .i64 x.kind) ∧ w.cell? ⟨b, o + 2, none⟩ = some (.int .i64 x.count) ∧ w.cell? ⟨b, o + 3, none⟩ = some (.int .i64 x.load) ∧ w.cell? ⟨b, o + 4, none⟩ = some (.int .i64 x.size) ∧ w.cell? ⟨b, o + 5, none⟩ = some (.int .i64 x.share) ∧ w.cell? ⟨b, o + 6, none⟩ = some (.slice x.onP x.on.length x.onC)
theorem item_at {w : World} {p : Option Addr} {n c : Nat} {l : List ItemM} (h : SlL w 7 encItem (.slice p n c) l) (hn : l.length = n) {k : Nat} (hk : k < n) : ∃ b o x, p = some ⟨b, o, none⟩ ∧ l[k]? = some x ∧ ∀ w', Gr w w' → ItemCell w' b (o + k * 7) x := by
 obtain ⟨b, o, x, hp, hx, hc⟩ := h.at encItem_len hn hk
 exact ⟨b, o, x, hp, hx, fun w' g => ⟨hc 0 _ rfl w' g, hc 1 _ rfl w' g, hc 2 _ rfl w' g, hc 3 _ rfl w' g, hc 4 _ rfl w' g, hc 5 _ rfl w' g, hc 6 _ rfl w' g⟩⟩
def RuleCell (w : World) (b o : Nat) (x : RuleM) : Prop := w.cell? ⟨b, o, none⟩ = some (.int .i64 x.kind) ∧ w.cell? ⟨b, o + 1, none⟩ = some (.int .i64 x.item) ∧ w.cell? ⟨b, o + 2, none⟩ = some (.int .i64 x.other) ∧ w.cell? ⟨b, o + 3, none⟩ = some (.int .i64 x.n) ∧ w.cell? ⟨b, o + 4, none⟩ = some (.int .i64 x.bye) ∧ w.cell? ⟨b, o + 5, none⟩ = some (.bool x.always) ∧ w.cell? ⟨b, o + 6, none⟩ = some (.slice x.msP x.ms.length x.msC)
theorem rule_at {w : World} {p : Option Addr} {n c : Nat} {l : List RuleM} (h : SlL w 7 encRule (.slice p n c) l) (hn : l.length = n) {k : Nat} (hk : k < n) : ∃ b o x, p = some ⟨b, o, none⟩ ∧ l[k]? = some x ∧ ∀ w', Gr w w' → RuleCell w' b (o + k * 7) x := by
 obtain ⟨b, o, x, hp, hx, hc⟩ := h.at encRule_len hn hk
 exact ⟨b, o, x, hp, hx, fun w' g => ⟨hc 0 _ rfl w' g, hc 1 _ rfl w' g, hc 2 _ rfl w' g, hc 3 _ rfl w' g, hc 4 _ rfl w' g, hc 5 _ rfl w' g, hc 6 _ rfl w' g⟩⟩
theorem str_at {w : World} {p : Option Addr} {n c : Nat} {l : List (List UInt8)} (h : StrL w (.slice p n c) l) (hn : l.length = n) {k : Nat} (hk : k < n) : ∃ b o x, p = some ⟨b, o, none⟩ ∧ l[k]? = some x ∧ ∀ w', Gr w w' → w'.cell? ⟨b, o + k, none⟩ = some (.string ⟨x.toArray⟩) := by
 obtain ⟨b, o, x, hp, hx, hc⟩ := h.at1 encS_len hn hk
 exact ⟨b, o, x, hp, hx, fun w' g => hc _ rfl w' g⟩
theorem int_at {w : World} {p : Option Addr} {n c : Nat} {l : List Int} (h : IntL w (.slice p n c) l) (hn : l.length = n) {k : Nat} (hk : k < n) : ∃ b o x, p = some ⟨b, o, none⟩ ∧ l[k]? = some x ∧ ∀ w', Gr w w' → w'.cell? ⟨b, o + k, none⟩ = some (.int .i64 x) := by
 obtain ⟨b, o, x, hp, hx, hc⟩ := h.at1 encI_len hn hk
 exact ⟨b, o, x, hp, hx, fun w' g => hc _ rfl w' g⟩
def Ex (n : Int) (len : Nat) : Prop := 1 ≤ n ∧ n ≤ (len : Int)
def Amount (n : Int) : Prop := 0 ≤ n ∧ n ≤ 1048576
def Within (n a b : Int) : Prop := a ≤ n ∧ n ≤ b
def RackOK (M : Mdl) (x : RackM) (before : List RackM) : Prop := Ex x.site M.sites.length ∧ Ex x.feed M.feeds.length ∧ ∀ y ∈ before, ¬ (y.feed = x.feed ∧ y.site ≠ x.site)
def MachOK (M : Mdl) (x : MachM) : Prop := Ex x.rack M.racks.length ∧ Amount x.cap
def LinkOK (M : Mdl) (x : LinkM) (before : List LinkM) : Prop := 1 ≤ x.a ∧ x.a < x.b ∧ x.b ≤ (M.sites.length : Int) ∧ Amount x.cap ∧ ∀ y ∈ before, ¬ (y.a = x.a ∧ y.b = x.b)
def Sound {α : Type} (ok : α → List α → Prop) (l : List α) : Prop := ∀ i x, l[i]? = some x → ok x (l.take i)
def SiteOK (M : Mdl) : Prop := (1 ≤ M.sites.length ∧ M.sites.length ≤ 4) ∧ M.feeds.length ≤ 16 ∧ M.racks.length ≤ 16 ∧ (1 ≤ M.machs.length ∧ M.machs.length ≤ 16) ∧ M.links.length ≤ 12 ∧
 Sound (RackOK M) M.racks ∧ Sound (fun x _ => MachOK M x) M.machs ∧ Sound (LinkOK M) M.links
def MsOK (M : Mdl) (l : List Int) : Prop := l ≠ [] ∧ ∀ i n, l[i]? = some n → Ex n M.machs.length ∧ (0 < i → ∀ p, l[i - 1]? = some p → p < n)
def CountOK (x : ItemM) : Prop := (x.kind = 0 ∧ (x.count = 1 ∨ x.count = 3 ∨ x.count = 5) ∧ x.count = (x.on.length : Int)) ∨ (x.kind = 1 ∧ Within x.count 1 8) ∨ (x.kind = 2 ∧ x.count = 1 ∧ x.on.length = 1)
def ItemOK (M : Mdl) (x : ItemM) : Prop := CountOK x ∧ MsOK M x.on ∧ Within x.load 0 1048576 ∧ Within x.size 0 1048576 ∧ Within x.share 1 1048576
def ItemNo (M : Mdl) (n : Int) : Prop := Within n 1 (M.items.length : Int)
def RuleOK (M : Mdl) (x : RuleM) : Prop :=
 (x.kind = 0 ∧ (ItemNo M x.item ∧ ∃ it, M.items[(x.item - 1).toNat]? = some it ∧ it.kind = 0) ∧ x.other = 0 ∧ x.n = 0 ∧ x.bye = 0 ∧ x.always = false ∧ x.ms = []) ∨
 (x.kind = 1 ∧ (ItemNo M x.item ∧ Within x.n 0 16) ∧ x.other = 0 ∧ x.bye = 0 ∧ x.ms = []) ∨
 (x.kind = 2 ∧ (ItemNo M x.item ∧ Within x.n 0 16 ∧ Within x.bye 2 4) ∧ x.other = 0 ∧ x.always = false ∧ x.ms = []) ∨
 (x.kind = 3 ∧ (ItemNo M x.item ∧ MsOK M x.ms) ∧ x.other = 0 ∧ x.n = 0 ∧ x.bye = 0 ∧ x.always = false) ∨
 (x.kind = 4 ∧ (ItemNo M x.item ∧ ItemNo M x.other ∧ x.item ≠ x.other) ∧ x.n = 0 ∧ x.bye = 0 ∧ x.always = false ∧ x.ms = []) ∨
 (x.kind = 5 ∧ Within x.n 0 200 ∧ x.item = 0 ∧ x.other = 0 ∧ x.bye = 0 ∧ x.always = false ∧ x.ms = []) ∨
 (x.kind = 6 ∧ (ItemNo M x.item ∧ Within x.n 0 16) ∧ x.other = 0 ∧ x.bye = 0 ∧ x.always = false ∧ x.ms = [])
def names (M : Mdl) : List (List UInt8) := M.sites ++ (M.feeds ++ (M.racks.map RackM.name ++ (M.machs.map MachM.name ++ M.items.map ItemM.name)))
def NamesOK (l : List (List UInt8)) : Prop := ∀ i s, l[i]? = some s → isName s = true ∧ ¬ s ∈ l.take i
def MdlOK (M : Mdl) : Prop := SiteOK M ∧ M.items.length ≤ 8 ∧ M.rules.length ≤ 40 ∧ NamesOK (names M) ∧ (∀ x ∈ M.items, ItemOK M x) ∧ (∀ x ∈ M.rules, RuleOK M x) ∧
 Ex M.dark M.sites.length ∧ Within M.slots 1 16 ∧ Within M.reserve 0 (M.slots - 1) ∧ Within M.failures 0 7
def Few (M : Mdl) : Prop := (M.sites.length ≤ 24 ∧ M.feeds.length ≤ 24 ∧ M.racks.length ≤ 24 ∧ M.machs.length ≤ 24 ∧ M.links.length ≤ 24 ∧ M.items.length ≤ 24 ∧ M.rules.length ≤ 48) ∧
 (∀ s ∈ M.sites, s.length ≤ 100) ∧ (∀ s ∈ M.feeds, s.length ≤ 100) ∧ (∀ x ∈ M.racks, x.name.length ≤ 100) ∧ (∀ x ∈ M.machs, x.name.length ≤ 100) ∧ (∀ x ∈ M.items, x.name.length ≤ 100 ∧ x.on.length ≤ 25) ∧ (∀ x ∈ M.rules, x.ms.length ≤ 25)
def Tells (P : Prop) (r : Value) : Prop := ∃ t : Bool, r = .bool t ∧ (t = true ↔ P)
theorem Tells.yes {P : Prop} (h : P) : Tells P (.bool true) := ⟨true, rfl, by simp [h]⟩
theorem Tells.no {P : Prop} (h : ¬ P) : Tells P (.bool false) := ⟨false, rfl, by simp [h]⟩
theorem Tells.cases {P : Prop} {r : Value} (h : Tells P r) : (r = .bool true ∧ P) ∨ (r = .bool false ∧ ¬ P) := by
 obtain ⟨t, rfl, ht⟩ := h
 cases t
 ·exact .inr ⟨rfl, fun h => by have := ht.2 h; cases this⟩
 ·exact .inl ⟨rfl, ht.1 rfl⟩
end Go.Proofs.YtnlocdijdfclcaaGreatDoor
