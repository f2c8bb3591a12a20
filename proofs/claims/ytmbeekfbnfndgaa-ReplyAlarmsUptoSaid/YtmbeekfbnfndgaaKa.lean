/-
  A symbolic semantics of the model's operations, proved sound: abstract memory and the operations on it; no condition.
-/
import Derived.WalkKit
import Derived.Orders
import Derived.Laws.MakeOwn
import Derived.Laws.Append
namespace Go.Vs
open Go Go.RowKit
set_option linter.unusedSimpArgs false
set_option linter.unusedVariables false

/-- Abstract values: addresses name regions of memory by number. -/
inductive AV where
  | val (v : Value)
  | ptr (b off : Nat)
  | pel (b sz i f : Nat)
  | sl (nl : Bool) (b sz off len cap : Nat)
  | mp (b : Nat)
  | ch (b : Nat)
  | fn (f : Fn) (first captured : List AV)
  | ifc (t : TypeId) (v : AV)
  | agg (cs : List AV)
  | tup (cs : List AV)

/-- Where region b lies: a block, and an offset in it; and what memory is never written again. -/
structure Pt where
  fst : Nat
  snd : Nat
  spot : Option Nat
structure Pl where
  at_ : Nat → Pt
  ice : Nat → Obj → Prop
instance : CoeFun Pl (fun _ => Nat → Pt) := ⟨Pl.at_⟩

/-- What n regions are known by is known yet. -/
structure Pl.Ext (n : Nat) (β β' : Pl) : Prop where
  old : ∀ b, b < n → β' b = β b
  ice : ∀ b o, β.ice b o → β'.ice b o
theorem Pl.Ext.refl {n : Nat} {β : Pl} : Pl.Ext n β β := ⟨fun _ _ => rfl, fun _ _ h => h⟩
theorem Pl.Ext.trans {n m : Nat} {β β' β'' : Pl} (h : Pl.Ext n β β') (h' : Pl.Ext m β' β'') (hm : n ≤ m) : Pl.Ext n β β'' := ⟨fun b hb => (h'.old b (by omega)).trans (h.old b hb), fun b o hi => h'.ice b o (h.ice b o hi)⟩
theorem Pl.Ext.mono {n m : Nat} {β β' : Pl} (h : Pl.Ext n β β') (hm : m ≤ n) : Pl.Ext m β β' := ⟨fun b hb => h.old b (by omega), h.ice⟩

mutual
def AV.conc (β : Pl) : AV → Value
  | .val v => v
  | .ptr b off => .pointer (some ⟨(β b).1, (β b).2 + off, none⟩)
  | .pel b sz i f => .pointer (some ⟨(β b).1, (β b).2 + (i * sz + f), none⟩)
  | .sl nl b sz off len cap => .slice (bif nl then none else some ⟨(β b).1, (β b).2 + off * sz, (β b).spot⟩) len cap
  | .mp b => .map (some (β b).1)
  | .ch b => .chan (some (β b).1)
  | .fn f a c => .func f (AV.concs β a).toArray (AV.concs β c).toArray
  | .ifc t v => .iface t (v.conc β)
  | .agg cs => .agg (AV.concs β cs).toArray
  | .tup cs => .tuple (AV.concs β cs).toArray
def AV.concs (β : Pl) : List AV → List Value
  | [] => []
  | v :: vs => v.conc β :: AV.concs β vs
end

mutual
/-- All regions that are named lie below n. -/
def AV.sc (n : Nat) : AV → Bool
  | .val _ => true
  | .ptr b _ => Nat.blt b n
  | .pel b _ _ _ => Nat.blt b n
  | .sl _ b _ _ _ _ => Nat.blt b n
  | .mp b => Nat.blt b n
  | .ch b => Nat.blt b n
  | .fn _ a c => AV.scs n a && AV.scs n c
  | .ifc _ v => v.sc n
  | .agg cs => AV.scs n cs
  | .tup cs => AV.scs n cs
def AV.scs (n : Nat) : List AV → Bool
  | [] => true
  | v :: vs => v.sc n && AV.scs n vs
end

mutual
theorem AV.conc_same {β β' : Pl} {n : Nat} (h : ∀ b, b < n → β'.at_ b = β.at_ b) : ∀ v : AV, v.sc n = true → v.conc β' = v.conc β
  | .val _, _ => rfl
  | .ptr b off, hs => by simp only [AV.sc, Nat.blt_eq] at hs; simp only [AV.conc, h b hs]
  | .pel b _ _ _, hs => by simp only [AV.sc, Nat.blt_eq] at hs; simp only [AV.conc, h b hs]
  | .sl _ b _ _ _ _, hs => by simp only [AV.sc, Nat.blt_eq] at hs; simp only [AV.conc, h b hs]
  | .mp b, hs => by simp only [AV.sc, Nat.blt_eq] at hs; simp only [AV.conc, h b hs]
  | .ch b, hs => by simp only [AV.sc, Nat.blt_eq] at hs; simp only [AV.conc, h b hs]
  | .fn _ a c, hs => by simp only [AV.sc, Bool.and_eq_true] at hs; simp only [AV.conc, AV.concs_same h a hs.1, AV.concs_same h c hs.2]
  | .ifc _ v, hs => by simp only [AV.sc] at hs; simp only [AV.conc, AV.conc_same h v hs]
  | .agg cs, hs => by simp only [AV.sc] at hs; simp only [AV.conc, AV.concs_same h cs hs]
  | .tup cs, hs => by simp only [AV.sc] at hs; simp only [AV.conc, AV.concs_same h cs hs]
theorem AV.concs_same {β β' : Pl} {n : Nat} (h : ∀ b, b < n → β'.at_ b = β.at_ b) : ∀ vs : List AV, AV.scs n vs = true → AV.concs β' vs = AV.concs β vs
  | [], _ => rfl
  | v :: vs, hs => by simp only [AV.scs, Bool.and_eq_true] at hs; simp only [AV.concs, AV.conc_same h v hs.1, AV.concs_same h vs hs.2]
end

theorem concs_map (β : Pl) : ∀ vs : List AV, AV.concs β vs = vs.map (AV.conc β)
  | [] => rfl
  | v :: vs => by simp only [AV.concs, List.map_cons, concs_map β vs]

/-- A slice that stands in memory that is never written again. -/
structure Hd where
  nl : Bool
  len : Nat
  cap : Nat

/-- What stands at a place of each element of a row. far: slices, of so many elements, of type T, in w columns. -/
inductive Col where
  | int (k : IntKind) (l : List Int)
  | bool (l : List Bool)
  | str (l : List ByteArray)
  | far (n T w : Nat) (hd : Nat → Hd) (cols : Nat → List Col)

mutual
inductive Holds (ice : Nat → Obj → Prop) : Col → Nat → Value → Prop
  | int (k : IntKind) (l : List Int) (i : Nat) : Holds ice (.int k l) i (.int k (l.getD i 0))
  | bool (l : List Bool) (i : Nat) : Holds ice (.bool l) i (.bool (l.getD i false))
  | str (l : List ByteArray) (i : Nat) : Holds ice (.str l) i (.string (l.getD i ByteArray.empty))
  | far (n T w : Nat) (hd : Nat → Hd) (cols : Nat → List Col) (i : Nat) (v : Value) (hw : (cols i).length = w) (h : Far ice T (hd i) (cols i) v) : Holds ice (.far n T w hd cols) i v
inductive Far (ice : Nat → Obj → Prop) : Nat → Hd → List Col → Value → Prop
  | none (T : Nat) (cols : List Col) : Far ice T ⟨true, 0, 0⟩ cols (.slice none 0 0)
  | dead (T : Nat) (cols : List Col) (a : Addr) : Far ice T ⟨false, 0, 0⟩ cols (.slice (some a) 0 0)
  | row (T T' len cap : Nat) (cols : List Col) (b off : Nat) (c : Array Value) (fz : Nat × Nat) (f : Nat → Nat → Value) (hice : ice b (.cells c T' fz)) (hcap : off + cap * cols.length ≤ c.size) (hlen : len ≤ cap)
      (hc : ∀ i, i < len → ∀ j, j < cols.length → c[off + (i * cols.length + j)]? = some (f i j)) (hh : ∀ i, i < len → ∀ (j : Nat) (col : Col), cols[j]? = some col → Holds ice col i (f i j)) :
      Far ice T ⟨false, len, cap⟩ cols (.slice (some ⟨b, off, none⟩) len cap)
end

mutual
theorem Holds.mono {ice ice' : Nat → Obj → Prop} (hi : ∀ b o, ice b o → ice' b o) : ∀ {c : Col} {i : Nat} {v : Value}, Holds ice c i v → Holds ice' c i v
  | _, _, _, .int k l i => .int k l i
  | _, _, _, .bool l i => .bool l i
  | _, _, _, .str l i => .str l i
  | _, _, _, .far n T w hd cols i v hw h => .far n T w hd cols i v hw (Far.mono hi h)
theorem Far.mono {ice ice' : Nat → Obj → Prop} (hi : ∀ b o, ice b o → ice' b o) : ∀ {T : Nat} {h : Hd} {cols : List Col} {v : Value}, Far ice T h cols v → Far ice' T h cols v
  | _, _, _, _, .none T cols => .none T cols
  | _, _, _, _, .dead T cols a => .dead T cols a
  | _, _, _, _, .row T T' len cap cols b off c fz f hice hcap hlen hc hh => .row T T' len cap cols b off c fz f (hi _ _ hice) hcap hlen hc (fun i hl j col hj => Holds.mono hi (hh i hl j col hj))
end

/-- What stands at a place of each element of a map. -/
inductive MCol where
  | int (k : IntKind) (f : Value → Int)
  | bool (f : Value → Bool)
  | str (f : Value → ByteArray)

def MCol.val : MCol → Value → Value
  | .int k f, i => .int k (f i)
  | .bool f, i => .bool (f i)
  | .str f, i => .string (f i)

def MCol.zero : MCol → Value
  | .int k _ => .int k 0
  | .bool _ => .bool false
  | .str _ => .string ByteArray.empty

def mval (agg : Bool) (cols : List MCol) (i : Value) : Value := match agg, cols with | true, cs => .agg (cs.map (·.val i)).toArray | false, c :: _ => c.val i | false, [] => .tuple #[]

/-- What keys a map has. -/
inductive KD where
  | int (k : IntKind)
  | bool
  | str

def KD.ok : KD → Value → Bool
  | .int k, .int k' _ => decide (k = k')
  | .bool, .bool _ => true
  | .str, .string _ => true
  | _, _ => false

def Col.plain : Col → Bool
  | .far _ _ _ _ _ => false
  | _ => true

def Col.av : Col → Nat → AV
  | .int k l, i => .val (.int k (l.getD i 0))
  | .bool l, i => .val (.bool (l.getD i false))
  | .str l, i => .val (.string (l.getD i ByteArray.empty))
  | .far _ _ _ _ _, _ => .val (.tuple #[])

theorem Holds.av {ice : Nat → Obj → Prop} {c : Col} {i : Nat} {v : Value} (h : Holds ice c i v) (hp : c.plain = true) (β : Pl) : v = (c.av i).conc β := by
  cases h <;> first | rfl | cases hp
theorem Holds.of_av {ice : Nat → Obj → Prop} {c : Col} (i : Nat) (hp : c.plain = true) (β : Pl) : Holds ice c i ((c.av i).conc β) := by
  cases c <;> first | (cases hp; done) | constructor

/-- Abstract memory of a region. rw: it is one's own. -/
inductive AO where
  | cells (rw : Bool) (T : TypeId) (cs : List AV)
  | arr (rw : Bool) (T : TypeId) (room n : Nat) (cols : List Col)
  | mapc (rw : Bool) (kd : KD) (agg : Bool) (has : Value → Bool) (cols : List MCol)

def AO.rw : AO → Bool
  | .cells rw _ _ => rw
  | .arr rw _ _ _ _ => rw
  | .mapc rw _ _ _ _ => rw

/-- Must anything be there? -/
def AO.live : AO → Prop
  | .arr _ _ room _ _ => 0 < room
  | _ => True
def AO.wf : AO → Prop
  | .arr _ _ room n _ => n ≤ room
  | _ => True

def AO.sc (n : Nat) : AO → Bool
  | .cells _ _ cs => AV.scs n cs
  | .arr _ _ _ _ _ => true
  | .mapc _ _ _ _ _ => true

def freeM (fz : Nat × Nat) (n : Nat) : Prop := ∀ k, k < n → (decide (fz.1 ≤ k) && decide (k < fz.2)) = false
theorem freeM_zero (n : Nat) : freeM (0, 0) n := fun k _ => by simp

/-- A region that lies at 'at' in an object of memory holds this. -/
def AO.Is (β : Pl) (at_ : Nat) : AO → Obj → Prop
  | .cells rw T cs, o => ∃ c fz, o = .cells c T fz ∧ (rw = true → freeM fz c.size) ∧ ∀ j v, cs[j]? = some v → c[at_ + j]? = some (v.conc β)
  | .arr rw T room n cols, o => ∃ c fz T', o = .cells c T' fz ∧ (rw = true → freeM fz c.size) ∧ at_ + room * cols.length ≤ c.size ∧ ∀ (i : Nat), i < n → ∀ (j : Nat) (col : Col), cols[j]? = some col → ∃ v, c[at_ + (i * cols.length + j)]? = some v ∧ Holds β.ice col i v
  | .mapc _ kd agg has cols, o => ∃ arr clock, o = .map arr clock ∧ at_ = 0 ∧ (∀ e ∈ arr.toList, kd.ok e.key = true ∧ has e.key = true ∧ e.val = mval agg cols e.key) ∧
      (∀ v, kd.ok v = true → has v = true → ∃ e ∈ arr.toList, e.key = v) ∧ (arr.toList.map (·.key)).Nodup ∧ (∀ v, kd.ok v = true → has v = false → ∀ c ∈ cols, c.val v = c.zero)

abbrev AHeap := List (Option AO)

def AHeap.sc (n : Nat) : AHeap → Bool
  | [] => true
  | none :: r => AHeap.sc n r
  | some ao :: r => ao.sc n && AHeap.sc n r

theorem AHeap.sc_get {n : Nat} : ∀ {H : AHeap} {i : Nat} {ao : AO}, AHeap.sc n H = true → H[i]? = some (some ao) → ao.sc n = true
  | [], _, _, _, h => by simp at h
  | none :: r, 0, _, _, h => by simp at h
  | none :: r, i + 1, ao, hs, h => AHeap.sc_get (H := r) (by simpa [AHeap.sc] using hs) (by simpa using h)
  | some a :: r, 0, ao, hs, h => by
    simp only [AHeap.sc, Bool.and_eq_true] at hs
    simp at h
    rw [← h]; exact hs.1
  | some a :: r, i + 1, ao, hs, h => by
    simp only [AHeap.sc, Bool.and_eq_true] at hs
    exact AHeap.sc_get (H := r) hs.2 (by simpa using h)

theorem AO.Is.same {β β' : Pl} {n : Nat} (h : Pl.Ext n β β') {at_ : Nat} {ao : AO} {o : Obj} (hs : ao.sc n = true) (hi : ao.Is β at_ o) : ao.Is β' at_ o := by
  cases ao with
  | cells rw T cs =>
    obtain ⟨c, fz, h1, h2, h3⟩ := hi
    refine ⟨c, fz, h1, h2, fun j v hv => ?_⟩
    simp only [AO.sc] at hs
    have hv' : v.sc n = true := by
      clear h3
      induction cs generalizing j with
      | nil => simp at hv
      | cons x cs ih =>
        simp only [AV.scs, Bool.and_eq_true] at hs
        cases j with
        | zero => simp at hv; rw [← hv]; exact hs.1
        | succ j => exact ih hs.2 j (by simpa using hv)
    rw [AV.conc_same h.old v hv']; exact h3 j v hv
  | arr rw T room n' cols =>
    obtain ⟨c, fz, T', h1, h2, h4, h3⟩ := hi
    exact ⟨c, fz, T', h1, h2, h4, fun i hi j col hc => let ⟨v, hv, hh⟩ := h3 i hi j col hc; ⟨v, hv, hh.mono h.ice⟩⟩
  | mapc rw kk agg has cols => exact hi

/-- What may turn; what was never to be written when it began. -/
structure Fr where
  may : Nat → Prop
  ice : Nat → Obj → Prop

/-- The world w, which came of w0, holds H. F: blocks of w0 that may have turned. -/
structure Sim (F : Fr) (w0 : World) (β : Pl) (H : AHeap) (w : World) : Prop where
  os : w.os = w0.os
  tape : w.tape = w0.tape
  output : w.output = w0.output
  size : w0.heap.size ≤ w.heap.size
  block : ∀ b, b < w0.heap.size → ¬ F.may b → w.heap[b]? = w0.heap[b]?
  ice : ∀ b o, β.ice b o → w.heap[b]? = some o
  iceF : ∀ b o, β.ice b o → F.ice b o ∨ F.may b ∨ w0.heap.size ≤ b
  wf : ∀ (i : Nat) (ao : AO), H[i]? = some (some ao) → ao.wf
  spot : ∀ (i : Nat) (ao : AO), H[i]? = some (some ao) → ao.live → (β i).spot = none
  obj : ∀ (i : Nat) (ao : AO), H[i]? = some (some ao) → ao.live → ∃ o, w.heap[(β i).1]? = some o ∧ ao.Is β (β i).2 o
  own : ∀ (i : Nat) (ao : AO), H[i]? = some (some ao) → ao.live → ao.rw = true → F.may (β i).1 ∨ w0.heap.size ≤ (β i).1
  out : ∀ (i : Nat) (ao : AO), H[i]? = some (some ao) → ao.live → ao.rw = true → ∀ o, ¬ β.ice (β i).1 o
  ro : ∀ (i : Nat) (ao : AO), H[i]? = some (some ao) → ao.live → ao.rw = false → ∃ o, β.ice (β i).1 o
  apart : ∀ (i j : Nat) (ai aj : AO), H[i]? = some (some ai) → H[j]? = some (some aj) → ai.live → aj.live → i ≠ j → ai.rw = true → aj.rw = true → (β i).1 ≠ (β j).1

theorem Sim.drew {F w0 β H w} (h : Sim F w0 β H w) : Sim F w0 β H { w with drawn := w.drawn + 1 } :=
  ⟨h.os, h.tape, h.output, h.size, h.block, h.ice, h.iceF, h.wf, h.spot, h.obj, h.own, h.out, h.ro, h.apart⟩

theorem Sim.lt {F w0 β H w} (h : Sim F w0 β H w) {i : Nat} {ao : AO} (hi : H[i]? = some (some ao)) (hl : ao.live) : (β i).1 < w.heap.size := by
  obtain ⟨o, ho, _⟩ := h.obj i ao hi hl
  exact (Array.getElem?_eq_some_iff.1 ho).1
theorem Sim.ice_lt {F w0 β H w} (h : Sim F w0 β H w) {b : Nat} {o : Obj} (hi : β.ice b o) : b < w.heap.size := (Array.getElem?_eq_some_iff.1 (h.ice b o hi)).1

/-- What is one's own lies apart of all else. -/
theorem Sim.away {F w0 β H w} (h : Sim F w0 β H w) {i j : Nat} {ai aj : AO} (hi : H[i]? = some (some ai)) (hj : H[j]? = some (some aj)) (li : ai.live) (lj : aj.live) (hij : i ≠ j) (hrw : ai.rw = true) : (β i).1 ≠ (β j).1 := by
  cases hr : aj.rw with
  | true => exact h.apart i j ai aj hi hj li lj hij hrw hr
  | false =>
    obtain ⟨o, ho⟩ := h.ro j aj hj lj hr
    intro e
    rw [← e] at ho
    exact h.out i ai hi li hrw o ho

def Pl.put (β : Pl) (n : Nat) (pl : Pt) : Pl := ⟨fun b => if b = n then pl else β b, β.ice⟩
theorem Pl.put_old {β : Pl} {n b : Nat} {pl : Pt} (h : b < n) : β.put n pl b = β b := by show (if b = n then pl else β b) = _; rw [if_neg (by omega)]
theorem Pl.put_new {β : Pl} {n : Nat} {pl : Pt} : β.put n pl n = pl := by show (if n = n then pl else β n) = _; rw [if_pos rfl]
theorem Pl.put_ext {β : Pl} {n : Nat} {pl : Pt} : Pl.Ext n β (β.put n pl) := ⟨fun _ h => Pl.put_old h, fun _ _ h => h⟩
def Pl.ext (β : Pl) (n : Nat) (x : Nat) : Pl := β.put n ⟨x, 0, none⟩
theorem Pl.ext_old {β : Pl} {n x b : Nat} (h : b < n) : β.ext n x b = β b := Pl.put_old h
theorem Pl.ext_new {β : Pl} {n x : Nat} : β.ext n x n = ⟨x, 0, none⟩ := Pl.put_new
theorem Pl.ext_ext {β : Pl} {n x : Nat} : Pl.Ext n β (β.ext n x) := Pl.put_ext

theorem grow_cases {H : AHeap} {ao : AO} {i : Nat} {ai : AO} (hi : (H ++ [some ao])[i]? = some (some ai)) : (i < H.length ∧ H[i]? = some (some ai)) ∨ (i = H.length ∧ ai = ao) := by
  rcases Nat.lt_or_ge i H.length with hl | hl
  · rw [List.getElem?_append_left hl] at hi; exact .inl ⟨hl, hi⟩
  · rw [List.getElem?_append_right hl] at hi
    cases hd : i - H.length with
    | zero => rw [hd] at hi; simp at hi; exact .inr ⟨by omega, hi.symm⟩
    | succ d => rw [hd] at hi; simp at hi

/-- A new block. -/
theorem Sim.alloc {F w0 β H w} (h : Sim F w0 β H w) (hs : AHeap.sc H.length H = true) (ao : AO) (hsa : ao.sc H.length = true) (hwf : ao.wf) (hrw : ao.rw = true) (o : Obj)
    (hi : ao.live → ao.Is β 0 o) : Sim F w0 (β.ext H.length w.heap.size) (H ++ [some ao]) { w with heap := w.heap.push o } := by
  have hβ : ∀ b, b < H.length → β.ext H.length w.heap.size b = β b := fun b hb => Pl.ext_old hb
  refine ⟨h.os, h.tape, h.output, by simp; have := h.size; omega, fun b hb hF => ?_, fun b o' hb => ?_, h.iceF, fun i ai hia => ?_, fun i ai hia hl => ?_, fun i ai hia hl => ?_, fun i ai hia hl hrw => ?_, fun i ai hia hl hrw => ?_, fun i ai hia hl hrw' => ?_, fun i j ai aj hia hja hli hlj hij hrw hrj => ?_⟩
  · have := h.size
    show (w.heap.push o)[b]? = _
    rw [Array.getElem?_push, if_neg (by omega)]; exact h.block b hb hF
  · have := h.ice_lt hb
    show (w.heap.push o)[b]? = _
    rw [Array.getElem?_push, if_neg (by omega)]; exact h.ice b o' hb
  · rcases grow_cases hia with ⟨hl, hi'⟩ | ⟨rfl, rfl⟩
    · exact h.wf i ai hi'
    · exact hwf
  · rcases grow_cases hia with ⟨hl', hi'⟩ | ⟨rfl, rfl⟩
    · rw [hβ i hl']; exact h.spot i ai hi' hl
    · rw [Pl.ext_new]
  · rcases grow_cases hia with ⟨hl', hi'⟩ | ⟨rfl, rfl⟩
    · obtain ⟨o', ho', his⟩ := h.obj i ai hi' hl
      have hlt := h.lt hi' hl
      rw [hβ i hl']
      refine ⟨o', ?_, his.same Pl.ext_ext (AHeap.sc_get hs hi')⟩
      show (w.heap.push o)[_]? = _
      rw [Array.getElem?_push, if_neg (by omega)]; exact ho'
    · rw [Pl.ext_new]
      refine ⟨o, ?_, (hi hl).same Pl.ext_ext hsa⟩
      show (w.heap.push o)[w.heap.size]? = _
      simp
  · rcases grow_cases hia with ⟨hl', hi'⟩ | ⟨rfl, rfl⟩
    · rw [hβ i hl']; exact h.own i ai hi' hl hrw
    · rw [Pl.ext_new]; exact .inr h.size
  · rcases grow_cases hia with ⟨hl', hi'⟩ | ⟨rfl, rfl⟩
    · rw [hβ i hl']; exact h.out i ai hi' hl hrw
    · rw [Pl.ext_new]; intro o' ho'; have := h.ice_lt ho'; simp at this
  · rcases grow_cases hia with ⟨hl', hi'⟩ | ⟨rfl, rfl⟩
    · rw [hβ i hl']; exact h.ro i ai hi' hl hrw'
    · rw [hrw] at hrw'; cases hrw'
  · rcases grow_cases hia with ⟨hl, hi'⟩ | ⟨rfl, rfl⟩ <;> rcases grow_cases hja with ⟨hl2, hj'⟩ | ⟨rfl, rfl⟩
    · rw [hβ i hl, hβ j hl2]; exact h.apart i j ai aj hi' hj' hli hlj hij hrw hrj
    · rw [hβ i hl, Pl.ext_new]; have := h.lt hi' hli; simp only; omega
    · rw [hβ j hl2, Pl.ext_new]; have := h.lt hj' hlj; simp only; omega
    · exact absurd rfl hij

/-- A name for what is never written again; or for what need not be there. -/
theorem Sim.name {F w0 β H w} (h : Sim F w0 β H w) (hs : AHeap.sc H.length H = true) (ao : AO) (hsa : ao.sc H.length = true) (hwf : ao.wf) (pl : Pt)
    (hi : ao.live → pl.spot = none ∧ ao.rw = false ∧ ∃ o, β.ice pl.1 o ∧ ao.Is β pl.2 o) : Sim F w0 (β.put H.length pl) (H ++ [some ao]) w := by
  have hβ : ∀ b, b < H.length → β.put H.length pl b = β b := fun b hb => Pl.put_old hb
  refine ⟨h.os, h.tape, h.output, h.size, h.block, h.ice, h.iceF, fun i ai hia => ?_, fun i ai hia hl => ?_, fun i ai hia hl => ?_, fun i ai hia hl hrw => ?_, fun i ai hia hl hrw => ?_, fun i ai hia hl hrw' => ?_, fun i j ai aj hia hja hli hlj hij hrw hrj => ?_⟩
  · rcases grow_cases hia with ⟨hl, hi'⟩ | ⟨rfl, rfl⟩
    · exact h.wf i ai hi'
    · exact hwf
  · rcases grow_cases hia with ⟨hl', hi'⟩ | ⟨rfl, rfl⟩
    · rw [hβ i hl']; exact h.spot i ai hi' hl
    · rw [Pl.put_new]; exact (hi hl).1
  · rcases grow_cases hia with ⟨hl', hi'⟩ | ⟨rfl, rfl⟩
    · obtain ⟨o', ho', his⟩ := h.obj i ai hi' hl
      rw [hβ i hl']
      exact ⟨o', ho', his.same Pl.put_ext (AHeap.sc_get hs hi')⟩
    · obtain ⟨_, _, o, ho, his⟩ := hi hl
      rw [Pl.put_new]
      exact ⟨o, h.ice _ _ ho, his.same Pl.put_ext hsa⟩
  · rcases grow_cases hia with ⟨hl', hi'⟩ | ⟨rfl, rfl⟩
    · rw [hβ i hl']; exact h.own i ai hi' hl hrw
    · have := (hi hl).2.1; rw [hrw] at this; cases this
  · rcases grow_cases hia with ⟨hl', hi'⟩ | ⟨rfl, rfl⟩
    · rw [hβ i hl']; exact h.out i ai hi' hl hrw
    · have := (hi hl).2.1; rw [hrw] at this; cases this
  · rcases grow_cases hia with ⟨hl', hi'⟩ | ⟨rfl, rfl⟩
    · rw [hβ i hl']; exact h.ro i ai hi' hl hrw'
    · obtain ⟨_, _, o, ho, _⟩ := hi hl
      rw [Pl.put_new]; exact ⟨o, ho⟩
  · rcases grow_cases hia with ⟨hl, hi'⟩ | ⟨rfl, rfl⟩
    · rcases grow_cases hja with ⟨hl2, hj'⟩ | ⟨rfl, rfl⟩
      · rw [hβ i hl, hβ j hl2]; exact h.apart i j ai aj hi' hj' hli hlj hij hrw hrj
      · have := (hi hlj).2.1; rw [hrj] at this; cases this
    · have := (hi hli).2.1; rw [hrw] at this; cases this

theorem set_cases {H : AHeap} {i : Nat} {x : Option AO} {j : Nat} {aj : AO} (hj : (H.set i x)[j]? = some (some aj)) : (j ≠ i ∧ H[j]? = some (some aj)) ∨ (j = i ∧ x = some aj) := by
  by_cases e : j = i
  · subst e
    by_cases hl : j < H.length
    · rw [List.getElem?_set_self hl] at hj; simp at hj; exact .inr ⟨rfl, hj⟩
    · rw [List.getElem?_eq_none (by simp; omega)] at hj; cases hj
  · rw [List.getElem?_set_ne (Ne.symm e)] at hj; exact .inl ⟨e, hj⟩

/-- An object of one's own takes another content. -/
theorem Sim.turn {F w0 β H w} (h : Sim F w0 β H w) {i : Nat} {ao ao' : AO} (hi : H[i]? = some (some ao)) (hl : ao.live) (hrw : ao.rw = true) (hrw' : ao'.rw = true) (hwf : ao'.wf) {o' : Obj} {w' : World}
    (hos : w'.os = w.os) (htape : w'.tape = w.tape) (hout : w'.output = w.output) (hsz : w'.heap.size = w.heap.size)
    (hother : ∀ b, b ≠ (β i).1 → w'.heap[b]? = w.heap[b]?) (hthis : w'.heap[(β i).1]? = some o') (his : ao'.Is β (β i).2 o') :
    Sim F w0 β (H.set i (some ao')) w' := by
  have hnew : ∀ (j : Nat) (aj : AO), (H.set i (some ao'))[j]? = some (some aj) → (j ≠ i ∧ H[j]? = some (some aj)) ∨ (j = i ∧ aj = ao') := fun j aj hj => by
    rcases set_cases hj with h1 | ⟨h1, h2⟩
    · exact .inl h1
    · exact .inr ⟨h1, by cases h2; rfl⟩
  refine ⟨hos.trans h.os, htape.trans h.tape, hout.trans h.output, by rw [hsz]; exact h.size, fun b hb hF => ?_, fun b o hb => ?_, h.iceF, fun j aj hj => ?_, fun j aj hj hlj => ?_, fun j aj hj hlj => ?_, fun j aj hj hlj hr => ?_, fun j aj hj hlj hr => ?_, fun j aj hj hlj hr => ?_, fun j k aj ak hj hk hlj hlk hjk hr hrk => ?_⟩
  · rw [hother b ?_]; exact h.block b hb hF
    intro e; subst e
    rcases h.own i ao hi hl hrw with h1 | h1
    · exact hF h1
    · omega
  · rw [hother b ?_]; exact h.ice b o hb
    intro e; subst e
    exact h.out i ao hi hl hrw o hb
  · rcases hnew j aj hj with ⟨hne, hj'⟩ | ⟨rfl, rfl⟩
    · exact h.wf j aj hj'
    · exact hwf
  · rcases hnew j aj hj with ⟨hne, hj'⟩ | ⟨rfl, rfl⟩
    · exact h.spot j aj hj' hlj
    · exact h.spot j ao hi hl
  · rcases hnew j aj hj with ⟨hne, hj'⟩ | ⟨rfl, rfl⟩
    · obtain ⟨o, ho, h2⟩ := h.obj j aj hj' hlj
      exact ⟨o, by rw [hother _ (fun e => h.away hi hj' hl hlj (Ne.symm hne) hrw e.symm)]; exact ho, h2⟩
    · exact ⟨o', hthis, his⟩
  · rcases hnew j aj hj with ⟨hne, hj'⟩ | ⟨rfl, rfl⟩
    · exact h.own j aj hj' hlj hr
    · exact h.own j ao hi hl hrw
  · rcases hnew j aj hj with ⟨hne, hj'⟩ | ⟨rfl, rfl⟩
    · exact h.out j aj hj' hlj hr
    · exact h.out j ao hi hl hrw
  · rcases hnew j aj hj with ⟨hne, hj'⟩ | ⟨rfl, rfl⟩
    · exact h.ro j aj hj' hlj hr
    · rw [hrw'] at hr; cases hr
  · rcases hnew j aj hj with ⟨hne, hj'⟩ | ⟨rfl, rfl⟩ <;> rcases hnew k ak hk with ⟨hne2, hk'⟩ | ⟨rfl, rfl⟩
    · exact h.apart j k aj ak hj' hk' hlj hlk hjk hr hrk
    · exact h.apart j k aj ao hj' hi hlj hl hjk hr hrw
    · exact h.apart j k ao ak hi hk' hl hlk hjk hrw hrk
    · exact absurd rfl hjk

/-- Regions may be forgotten. -/
theorem Sim.drop {F : Fr} {w0 : World} {β : Pl} {H H' : AHeap} {w : World} (h : Sim F w0 β H w) (hd : ∀ (i : Nat) (ao : AO), H'[i]? = some (some ao) → H[i]? = some (some ao)) : Sim F w0 β H' w :=
  ⟨h.os, h.tape, h.output, h.size, h.block, h.ice, h.iceF, fun i ao hi => h.wf i ao (hd i ao hi), fun i ao hi => h.spot i ao (hd i ao hi), fun i ao hi => h.obj i ao (hd i ao hi), fun i ao hi => h.own i ao (hd i ao hi), fun i ao hi => h.out i ao (hd i ao hi), fun i ao hi => h.ro i ao (hd i ao hi),
    fun i j ai aj hi hj => h.apart i j ai aj (hd i ai hi) (hd j aj hj)⟩
end Go.Vs

namespace Go.Vs
open Go Go.RowKit
set_option linter.unusedSimpArgs false
set_option linter.unusedVariables false

/-- What an operation comes to: a value, contents that are put in the place of others, new regions. -/
structure Res where
  val : AV
  wr : List (Nat × Option AO)
  new : List AO

def Bif (b : Bool) (p q : Prop) : Prop := match b with | true => p | false => q
theorem Bif.mk {b : Bool} {p q : Prop} (h1 : b = true → p) (h2 : b = false → q) : Bif b p q := by cases b; exact h2 rfl; exact h1 rfl
theorem Bif.yes {b : Bool} {p q : Prop} (h : Bif b p q) (hb : b = true) : p := by subst hb; exact h
theorem Bif.no {b : Bool} {p q : Prop} (h : Bif b p q) (hb : b = false) : q := by subst hb; exact h

inductive OutT : Type 1 where
  | ret (r : Res)
  | need (b : Bool) (k : OutT)
  | needP (p : Prop) (k : OutT)
  | split (b : Bool) (t f : OutT)
  | all {α : Type} (a : α) (k : α → OutT)

def OutT.wp : OutT → (Res → Prop) → Prop
  | .ret r, Q => Q r
  | .need b k, Q => Bif b (k.wp Q) False
  | .needP p k, Q => p ∧ k.wp Q
  | .split b t f, Q => Bif b (t.wp Q) (f.wp Q)
  | .all _ k, Q => ∀ x, (k x).wp Q

def OutT.can : OutT → Res → Prop
  | .ret r, r' => r = r'
  | .need b k, r' => b = true ∧ k.can r'
  | .needP p k, r' => p ∧ k.can r'
  | .split b t f, r' => (b = true ∧ t.can r') ∨ (b = false ∧ f.can r')
  | .all _ k, r' => ∃ x, (k x).can r'

theorem OutT.wp_can {Q : Res → Prop} {r : Res} : ∀ {t : OutT}, t.wp Q → t.can r → Q r
  | .ret _, h, rfl => h
  | .need _ k, h, hc => OutT.wp_can (t := k) (h.yes hc.1) hc.2
  | .needP _ k, h, hc => OutT.wp_can (t := k) h.2 hc.2
  | .split _ t f, h, hc => hc.elim (fun hc => OutT.wp_can (t := t) (h.yes hc.1) hc.2) (fun hc => OutT.wp_can (t := f) (h.no hc.1) hc.2)
  | .all _ k, h, ⟨x, hc⟩ => OutT.wp_can (t := k x) (h x) hc

theorem OutT.wp_mono {Q Q' : Res → Prop} (hq : ∀ r, Q r → Q' r) : ∀ {t : OutT}, t.wp Q → t.wp Q'
  | .ret _, h => hq _ h
  | .need _ k, h => Bif.mk (fun hb => OutT.wp_mono hq (t := k) (h.yes hb)) (fun hb => (h.no hb).elim)
  | .needP _ k, h => ⟨h.1, OutT.wp_mono hq (t := k) h.2⟩
  | .split _ t f, h => Bif.mk (fun hb => OutT.wp_mono hq (t := t) (h.yes hb)) (fun hb => OutT.wp_mono hq (t := f) (h.no hb))
  | .all _ k, h => fun x => OutT.wp_mono hq (t := k x) (h x)

/-- Something comes of it. -/
theorem OutT.some_can {Q : Res → Prop} : ∀ {t : OutT}, t.wp Q → ∃ r, t.can r
  | .ret r, _ => ⟨r, rfl⟩
  | .need b k, h => by
    cases b with
    | true => obtain ⟨r, hr⟩ := OutT.some_can (t := k) h; exact ⟨r, rfl, hr⟩
    | false => exact h.elim
  | .needP _ k, h => let ⟨r, hr⟩ := OutT.some_can (t := k) h.2; ⟨r, h.1, hr⟩
  | .split b t f, h => by
    cases b with
    | true => obtain ⟨r, hr⟩ := OutT.some_can (t := t) h; exact ⟨r, .inl ⟨rfl, hr⟩⟩
    | false => obtain ⟨r, hr⟩ := OutT.some_can (t := f) h; exact ⟨r, .inr ⟨rfl, hr⟩⟩
  | .all a k, h => let ⟨r, hr⟩ := OutT.some_can (t := k a) (h a); ⟨r, a, hr⟩

def writes : AHeap → List (Nat × Option AO) → AHeap
  | H, [] => H
  | H, (i, ao) :: r => writes (H.set i ao) r

def Res.apply (r : Res) (H : AHeap) : AHeap := writes H r.wr ++ r.new.map some

def just (v : AV) : Res := ⟨v, [], []⟩
def rv (v : AV) : OutT := .ret (just v)
theorem just_apply (v : AV) (H : AHeap) : (just v).apply H = H := by simp [just, Res.apply, writes]

abbrev Rho := Operand → Option AV

def RunsTo (P : Program) (ev : Operand → Value) (o : Oper) (w : World) (v : Value) (w' : World) : Prop :=
  (execOp ev o).run P w = .ok (.value v) w' ∨ ((execOp ev o).run P w = .ok .skip w' ∧ v = undef)

/-- t tells what comes of the operation. -/
def Tells (P : Program) (o : Oper) (ρ : Rho) (H : AHeap) (t : OutT) : Prop :=
  ∀ (β : Pl) (F : Fr) (w0 w : World) (ev : Operand → Value), (∀ x av, ρ x = some av → ev x = av.conc β) → Sim F w0 β H w → AHeap.sc H.length H = true → t.wp (fun _ => True) →
    ∃ r w' β', t.can r ∧ RunsTo P ev o w (r.val.conc β') w' ∧ Sim F w0 β' (r.apply H) w' ∧ Pl.Ext H.length β β' ∧ (r.new = [] → ∀ b, β' b = β b)

theorem tells_value {P o ρ H} {v : AV} (h : ∀ (β : Pl) (ev : Operand → Value) (F : Fr) (w0 w : World), (∀ x av, ρ x = some av → ev x = av.conc β) → Sim F w0 β H w → (execOp ev o).run P w = .ok (.value (v.conc β)) w) :
    Tells P o ρ H (rv v) := fun β F w0 w ev hev hs _ _ => ⟨just v, w, β, rfl, .inl (h _ _ _ _ _ hev hs), by rw [just_apply]; exact hs, Pl.Ext.refl, fun _ _ => rfl⟩

theorem tells_need {P o ρ H b} {t : OutT} (h : b = true → Tells P o ρ H t) : Tells P o ρ H (.need b t) := fun β F w0 w ev hev hs hsc hw => by
  cases b with
  | false => exact hw.elim
  | true =>
    obtain ⟨r, w', β', h1, h2⟩ := h rfl β F w0 w ev hev hs hsc hw
    exact ⟨r, w', β', ⟨rfl, h1⟩, h2⟩

theorem tells_needP {P o ρ H} {p : Prop} {t : OutT} (h : p → Tells P o ρ H t) : Tells P o ρ H (.needP p t) := fun β F w0 w ev hev hs hsc hw => by
  obtain ⟨r, w', β', h1, h2⟩ := h hw.1 β F w0 w ev hev hs hsc hw.2
  exact ⟨r, w', β', ⟨hw.1, h1⟩, h2⟩

theorem tells_split {P o ρ H b} {t f : OutT} (h1 : b = true → Tells P o ρ H t) (h2 : b = false → Tells P o ρ H f) : Tells P o ρ H (.split b t f) := fun β F w0 w ev hev hs hsc hw => by
  cases b with
  | true =>
    obtain ⟨r, w', β', g1, g2⟩ := h1 rfl β F w0 w ev hev hs hsc hw
    exact ⟨r, w', β', .inl ⟨rfl, g1⟩, g2⟩
  | false =>
    obtain ⟨r, w', β', g1, g2⟩ := h2 rfl β F w0 w ev hev hs hsc hw
    exact ⟨r, w', β', .inr ⟨rfl, g1⟩, g2⟩

/-! ### operations without memory, on values without addresses -/
def evalPure (P : Program) : Sem Next → Option Next
  | .pure a => some a
  | .program k => evalPure P (k P)
  | _ => none

theorem evalPure_run {P : Program} {n : Next} {w : World} : ∀ {s : Sem Next}, evalPure P s = some n → s.run P w = .ok n w
  | .pure a, h => by simp [evalPure] at h; simp [Sem.run, h]
  | .program k, h => by simp only [evalPure] at h; simp only [Sem.run]; exact evalPure_run h
  | .load .., h => by simp [evalPure] at h
  | .store .., h => by simp [evalPure] at h
  | .new .., h => by simp [evalPure] at h
  | .shape .., h => by simp [evalPure] at h
  | .freeze .., h => by simp [evalPure] at h
  | .frozen .., h => by simp [evalPure] at h
  | .getObj .., h => by simp [evalPure] at h
  | .setObj .., h => by simp [evalPure] at h
  | .choose .., h => by simp [evalPure] at h
  | .sys .., h => by simp [evalPure] at h
  | .mark .., h => by simp [evalPure] at h
  | .halt .., h => by simp [evalPure] at h

def plainOf (ρ : Rho) (x : Operand) : Value := match ρ x with | some (.val v) => v | _ => undef
def isPlain (ρ : Rho) (x : Operand) : Bool := match ρ x with | some (.val _) => true | _ => false

def pureH (P : Program) (o : Oper) (ρ : Rho) : Option OutT :=
  match o.op with
  | .select .. => none
  | _ =>
    if o.op.operands.toList.all (isPlain ρ) then
      match evalPure P (execOp (plainOf ρ) o) with
      | some (.value v) => some (rv (.val v))
      | _ => none
    else none

theorem pureH_tells {P o ρ H t} (h : pureH P o ρ = some t) : Tells P o ρ H t := by
  have hsel : ∀ cs b, o.op ≠ .select cs b := by
    intro cs b hc; simp [pureH, hc] at h
  have h' : (if o.op.operands.toList.all (isPlain ρ) then match evalPure P (execOp (plainOf ρ) o) with | some (.value v) => some (rv (.val v)) | _ => none else none) = some t := by
    unfold pureH at h
    split at h
    · cases h
    · exact h
  split at h'
  · rename_i hall
    split at h'
    · rename_i v hv
      cases h'
      refine tells_value fun β ev F w0 w hev hs => ?_
      rw [execOp_congr (ρ := ev) (ρ' := plainOf ρ) o hsel]
      · exact evalPure_run hv
      · intro x hx
        have := List.all_eq_true.1 hall x (by simpa using hx)
        unfold isPlain at this
        split at this
        · rename_i v' hv'
          rw [hev x _ hv']; simp [plainOf, hv', AV.conc]
        · cases this
    · cases h'
  · cases h'

/-! ### the plain operations with addresses -/
def bool? : Option AV → Option Bool
  | some (.val (.bool b)) => some b
  | _ => none

def pickH (c a b : Option AV) : Option OutT :=
  match c with
  | some (.val (.bool cb)) =>
    match a, b with
    | some (.val (.bool x)), some (.val (.bool y)) => some (rv (.val (.bool (bif cb then x else y))))
    | some x, some y => some (.split cb (rv x) (rv y))
    | _, _ => none
  | _ => none

theorem pick_run {P : Program} {w : World} {ev : Operand → Value} {o : Oper} {c a b : Operand} (ho : o.op = .pick c a b) {cb : Bool} (hc : ev c = .bool cb) :
    (execOp ev o).run P w = .ok (.value (if cb then ev a else ev b)) w := by
  simp [execOp, ho, hc, asBool, go_sem]

theorem pickH_tells {P o ρ H t} {c a b : Operand} (ho : o.op = .pick c a b) (h : pickH (ρ c) (ρ a) (ρ b) = some t) : Tells P o ρ H t := by
  unfold pickH at h
  split at h
  · rename_i cb hc
    split at h
    · rename_i x y ha hb
      cases h
      refine tells_value fun β ev F w0 w hev hs => ?_
      rw [pick_run ho (hev c _ hc), hev a _ ha, hev b _ hb]
      cases cb <;> rfl
    · rename_i x y _ ha hb
      cases h
      refine tells_split (fun hcb => tells_value fun β ev F w0 w hev hs => ?_) (fun hcb => tells_value fun β ev F w0 w hev hs => ?_)
      · rw [pick_run ho (hev c _ hc), hcb, hev a _ ha]; rfl
      · rw [pick_run ho (hev c _ hc), hcb, hev b _ hb]; rfl
    · cases h
  · cases h

theorem move_tells {P o ρ H} {x : Operand} {v : AV} (ho : o.op = .move x ∨ o.op = .assign x) (h : ρ x = some v) : Tells P o ρ H (rv v) :=
  tells_value fun β ev F w0 w hev hs => by rcases ho with ho | ho <;> simp [execOp, ho, hev x _ h, go_sem]

def extractH (t : Option AV) (i : Nat) : Option OutT :=
  match t with
  | some (.tup vs) => (vs[i]?).map rv
  | _ => none

theorem concs_get (β : Pl) {vs : List AV} {i : Nat} {v : AV} (h : vs[i]? = some v) : (AV.concs β vs)[i]? = some (v.conc β) := by
  rw [concs_map, List.getElem?_map, h]; rfl

theorem extractH_tells {P o ρ H t} {x : Operand} {i : Nat} (ho : o.op = .extract x i) (h : extractH (ρ x) i = some t) : Tells P o ρ H t := by
  unfold extractH at h
  split at h
  · rename_i vs hx
    simp only [Option.map_eq_some_iff] at h
    obtain ⟨v, hv, rfl⟩ := h
    refine tells_value fun β ev F w0 w hev hs => ?_
    have h1 : ((AV.concs β vs).toArray)[i]? = some (v.conc β) := by rw [List.getElem?_toArray]; exact concs_get β hv
    simp [execOp, ho, hev x _ hx, AV.conc, Instr.extract, h1, go_sem]
  · cases h

def nilCheckH (x : Option AV) : Option OutT :=
  match x with
  | some (.ptr b i) => some (rv (.ptr b i))
  | some (.pel b sz i f) => some (rv (.pel b sz i f))
  | some (.fn (.func f) a c) => some (rv (.fn (.func f) a c))
  | some (.ifc t v) => some (rv (.ifc t v))
  | some (.val (.iface t v)) => some (rv (.val (.iface t v)))
  | _ => none

theorem nilCheckH_tells {P o ρ H t} {x : Operand} (ho : o.op = .nilCheck x) (h : nilCheckH (ρ x) = some t) : Tells P o ρ H t := by
  unfold nilCheckH at h
  split at h
  all_goals first | (cases h; done) | (rename_i hx; cases h; refine tells_value fun β ev F w0 w hev hs => ?_; simp [execOp, ho, hev x _ hx, AV.conc, go_sem])
end Go.Vs

namespace Go.Vs
open Go Go.RowKit
set_option linter.unusedSimpArgs false
set_option linter.unusedVariables false

def szOf (P : Program) (t : TypeId) : Option Nat := (P.info? t).map (·.size)
def isAggT (P : Program) (t : TypeId) : Bool := match P.underlying t with | some (.struct _) => true | some (.array _ _) => true | _ => false

theorem run_sizeOf {P : Program} {t n : Nat} {w : World} (h : szOf P t = some n) : (sizeOf t).run P w = .ok n w := by
  simp only [szOf, Option.map_eq_some_iff] at h
  obtain ⟨i, hi, rfl⟩ := h
  simp [sizeOf, typeInfo, program, Sem.run, hi, go_sem]

theorem run_isAgg {P : Program} {t : Nat} {w : World} (h : (P.underlying t).isSome = true) : (isAgg t).run P w = .ok (isAggT P t) w := by
  obtain ⟨d, hd⟩ := Option.isSome_iff_exists.1 h
  simp only [isAgg, underlying, program, isAggT, hd]
  simp [Sem.run, hd, go_sem]
  cases d <;> simp [Sem.run, go_sem]

theorem cell_of {w : World} {b o : Nat} {c : Array Value} {T : TypeId} {fz : Nat × Nat} (h : w.heap[b]? = some (.cells c T fz)) : w.cell? ⟨b, o, none⟩ = c[o]? := by
  simp [World.cell?, h]

theorem addr_add (b o n : Nat) : Addr.add ⟨b, o, none⟩ n = ⟨b, o + n, none⟩ := by
  unfold Addr.add; split <;> simp_all

theorem run_load_ok {P : Program} {w : World} {a : Addr} {v : Value} (h : w.cell? a = some v) : (load a).run P w = .ok v w := by
  simp [load, Sem.run, h]

theorem run_loadCellsFrom {P : Program} {w : World} {b o : Nat} : ∀ (l : List Value) (i : Nat) (acc : Array Value), (∀ j v, l[j]? = some v → w.cell? ⟨b, o + (i + j), none⟩ = some v) →
    (loadCellsFrom ⟨b, o, none⟩ i l.length acc).run P w = .ok (acc ++ l.toArray) w
  | [], i, acc, _ => by simp [loadCellsFrom, Sem.run, go_sem]
  | v :: l, i, acc, h => by
    have h0 : w.cell? ⟨b, o + i, none⟩ = some v := by simpa using h 0 v rfl
    have ih := run_loadCellsFrom (P := P) l (i + 1) (acc.push v) (fun j u hu => by have := h (j + 1) u (by simpa using hu); rw [show i + 1 + j = i + (j + 1) by omega]; exact this)
    simp only [List.length_cons, loadCellsFrom, addr_add]
    simp [go_sem, h0, ih]

theorem run_loadCells {P : Program} {w : World} {b o : Nat} (l : List Value) (h : ∀ j v, l[j]? = some v → w.cell? ⟨b, o + j, none⟩ = some v) :
    (loadCells ⟨b, o, none⟩ l.length).run P w = .ok l.toArray w := by
  unfold loadCells
  rw [run_loadCellsFrom l 0 #[] (fun j v hv => by simpa using h j v hv)]
  simp

def cellV : Value → Bool
  | .agg _ => false
  | .tuple _ => false
  | _ => true

def AV.cell : AV → Bool
  | .val (.agg _) => false
  | .val (.tuple _) => false
  | .agg _ => false
  | .tup _ => false
  | _ => true

theorem AV.conc_oneCell {β : Pl} {v : AV} (h : v.cell = true) : cellV (v.conc β) = true := by
  cases v with
  | val u => cases u <;> simp_all [AV.cell, AV.conc, cellV]
  | agg _ => cases h
  | tup _ => cases h
  | _ => rfl

/-- Part of a list in the place of another's. -/
def setAt : List AV → Nat → List AV → List AV
  | cs, _, [] => cs
  | cs, o, v :: vs => setAt (cs.set o v) (o + 1) vs

theorem setAt_length : ∀ (vs cs : List AV) (o : Nat), (setAt cs o vs).length = cs.length
  | [], _, _ => rfl
  | v :: vs, cs, o => by simp only [setAt]; rw [setAt_length vs]; simp

theorem run_store_one {P : Program} {w : World} {b o : Nat} {c : Array Value} {T : TypeId} {fz : Nat × Nat} {v : Value} (h : w.heap[b]? = some (.cells c T fz)) (hfz : freeM fz c.size) (ho : o < c.size) (hv : cellV v = true) :
    (store ⟨b, o, none⟩ v).run P w = .ok () (w.setCell ⟨b, o, none⟩ v) := by
  have h1 : w.cell? ⟨b, o, none⟩ = some c[o] := by rw [cell_of h]; exact Array.getElem?_eq_getElem ho
  have h2 : w.frozen? ⟨b, o, none⟩ = false := by
    have := hfz o ho
    obtain ⟨x, y⟩ := fz
    simp only [World.frozen?, h]
    exact this
  cases v <;> first | (simp [cellV] at hv; done) | simp [store, Sem.run, h1, h2]

theorem setCell_heap {w : World} {b o : Nat} {c : Array Value} {T : TypeId} {fz : Nat × Nat} {v : Value} (h : w.heap[b]? = some (.cells c T fz)) :
    (w.setCell ⟨b, o, none⟩ v).heap[b]? = some (.cells (c.setIfInBounds o v) T fz) := by
  simp only [World.setCell, Array.getElem?_modify, h]
  simp

theorem setCell_other {w : World} {b o b' : Nat} {v : Value} (h : b' ≠ b) : (w.setCell ⟨b, o, none⟩ v).heap[b']? = w.heap[b']? := by
  simp only [World.setCell, Array.getElem?_modify]
  rw [if_neg (fun e => h e.symm)]

/-- What a run of stores leaves. -/
structure Turned (w w' : World) (b : Nat) (c' : Array Value) (T : TypeId) (fz : Nat × Nat) : Prop where
  os : w'.os = w.os
  tape : w'.tape = w.tape
  output : w'.output = w.output
  size : w'.heap.size = w.heap.size
  other : ∀ k, k ≠ b → w'.heap[k]? = w.heap[k]?
  this : w'.heap[b]? = some (.cells c' T fz)

def setArr : Array Value → Nat → List Value → Array Value
  | c, _, [] => c
  | c, o, v :: vs => setArr (c.setIfInBounds o v) (o + 1) vs

theorem setArr_size : ∀ (vs : List Value) (c : Array Value) (o : Nat), (setArr c o vs).size = c.size
  | [], _, _ => rfl
  | v :: vs, c, o => by simp only [setArr]; rw [setArr_size vs]; simp

theorem setArr_get : ∀ (vs : List Value) (c : Array Value) (o : Nat), o + vs.length ≤ c.size → ∀ k, (setArr c o vs)[k]? = if o ≤ k ∧ k < o + vs.length then vs[k - o]? else c[k]?
  | [], c, o, _, k => by simp only [setArr, List.length_nil]; rw [if_neg (by omega)]
  | v :: vs, c, o, h, k => by
    simp only [List.length_cons] at h
    simp only [setArr, List.length_cons]
    rw [setArr_get vs _ (o + 1) (by simp; omega) k]
    by_cases h1 : k = o
    · subst h1
      rw [if_neg (by omega), if_pos (by omega)]
      simp [Array.getElem?_setIfInBounds]
      omega
    · by_cases h2 : o + 1 ≤ k ∧ k < o + 1 + vs.length
      · rw [if_pos h2, if_pos (by omega), show k - o = (k - (o + 1)) + 1 by omega]; simp
      · rw [if_neg h2, if_neg (by omega)]
        rw [Array.getElem?_setIfInBounds, if_neg (fun e => h1 e.symm)]

theorem run_storeCells {P : Program} {b o : Nat} {T : TypeId} {fz : Nat × Nat} : ∀ (vs : List Value) (i : Nat) (c : Array Value) (w : World), w.heap[b]? = some (.cells c T fz) → freeM fz c.size → o + i + vs.length ≤ c.size → (∀ v ∈ vs, cellV v = true) →
    ∃ w', (storeCells ⟨b, o, none⟩ vs i).run P w = .ok () w' ∧ Turned w w' b (setArr c (o + i) vs) T fz
  | [], i, c, w, h, _, _, _ => ⟨w, by simp [storeCells, Sem.run, go_sem], ⟨rfl, rfl, rfl, rfl, fun _ _ => rfl, h⟩⟩
  | v :: vs, i, c, w, h, hfz, hl, hv => by
    simp only [List.length_cons] at hl
    obtain ⟨w', h1, h2⟩ := run_storeCells (P := P) (b := b) (o := o) (T := T) vs (i + 1) (c.setIfInBounds (o + i) v) (w.setCell ⟨b, o + i, none⟩ v) (setCell_heap h) (by simpa using hfz) (by simp only [Array.size_setIfInBounds]; omega) (fun u hu => hv u (by simp [hu]))
    refine ⟨w', ?_, ?_⟩
    · have h3 := run_store_one (P := P) h hfz (o := o + i) (by omega) (hv v (by simp))
      simp only [storeCells, addr_add]
      have e : ∀ (k : Unit → Sem Unit), (bind (store ⟨b, o + i, none⟩ v) k).run P w = (k ()).run P (w.setCell ⟨b, o + i, none⟩ v) := fun k => by
        rw [Sem.run_bind, h3]; rfl
      rw [e]; exact h1
    · refine ⟨h2.os, h2.tape, h2.output, by rw [h2.size]; simp [World.setCell], fun k hk => by rw [h2.other k hk, setCell_other hk], ?_⟩
      rw [h2.this]; simp only [setArr]; rw [show o + (i + 1) = o + i + 1 by omega]
end Go.Vs

namespace Go.Vs
open Go Go.RowKit
set_option linter.unusedSimpArgs false
set_option linter.unusedVariables false

/-! ### loads -/
/-- What stands in the columns of an element; slices in memory that is not written again get names from m on. -/
def colsLoad : List Col → Nat → Nat → List AV × List AO
  | [], _, _ => ([], [])
  | .far _ T w hd cs :: r, i, m =>
    match colsLoad r i (m + 1) with
    | (vs, aos) => (.sl (hd i).nl m w 0 (hd i).len (hd i).cap :: vs, .arr false T (hd i).cap (hd i).len (cs i) :: aos)
  | .int k l :: r, i, m => match colsLoad r i m with | (vs, aos) => (.val (.int k (l.getD i 0)) :: vs, aos)
  | .bool l :: r, i, m => match colsLoad r i m with | (vs, aos) => (.val (.bool (l.getD i false)) :: vs, aos)
  | .str l :: r, i, m => match colsLoad r i m with | (vs, aos) => (.val (.string (l.getD i ByteArray.empty)) :: vs, aos)

def loadT : List AV × List AO → OutT
  | (vs, aos) => .ret ⟨.agg vs, [], aos⟩

theorem sc_app_arr {n : Nat} {rw : Bool} {T room k : Nat} {cols : List Col} : ∀ {H : AHeap}, AHeap.sc n H = true → AHeap.sc (n + 1) (H ++ [some (.arr rw T room k cols)]) = true
  | [], _ => rfl
  | none :: r, h => by simp only [AHeap.sc] at h; simp only [List.cons_append, AHeap.sc]; exact sc_app_arr h
  | some ao :: r, h => by
    simp only [AHeap.sc, Bool.and_eq_true] at h
    simp only [List.cons_append, AHeap.sc, Bool.and_eq_true]
    refine ⟨?_, sc_app_arr h.2⟩
    have := h.1
    cases ao with
    | cells rw T cs =>
      simp only [AO.sc] at this ⊢
      exact scs_succ this
    | _ => rfl
where
  sc_succ : ∀ {v : AV}, v.sc n = true → v.sc (n + 1) = true
    | .val _, _ => rfl
    | .ptr b _, h => by simp only [AV.sc, Nat.blt_eq] at *; omega
    | .pel b _ _ _, h => by simp only [AV.sc, Nat.blt_eq] at *; omega
    | .sl _ b _ _ _ _, h => by simp only [AV.sc, Nat.blt_eq] at *; omega
    | .mp b, h => by simp only [AV.sc, Nat.blt_eq] at *; omega
    | .ch b, h => by simp only [AV.sc, Nat.blt_eq] at *; omega
    | .fn _ a c, h => by simp only [AV.sc, Bool.and_eq_true] at *; exact ⟨scs_succ h.1, scs_succ h.2⟩
    | .ifc _ v, h => by simp only [AV.sc] at *; exact sc_succ h
    | .agg cs, h => by simp only [AV.sc] at *; exact scs_succ h
    | .tup cs, h => by simp only [AV.sc] at *; exact scs_succ h
  scs_succ : ∀ {vs : List AV}, AV.scs n vs = true → AV.scs (n + 1) vs = true
    | [], _ => rfl
    | v :: vs, h => by simp only [AV.scs, Bool.and_eq_true] at *; exact ⟨sc_succ h.1, scs_succ h.2⟩

theorem far_conc {ice : Nat → Obj → Prop} {T : Nat} {h : Hd} {cols : List Col} {v : Value} (hf : Far ice T h cols v) : ∃ pl : Pt, v = .slice (bif h.nl then none else some ⟨pl.1, pl.2, pl.spot⟩) h.len h.cap ∧ h.len ≤ h.cap ∧
    (0 < h.cap → pl.spot = none ∧ ∃ o, ice pl.1 o ∧ ∀ β : Pl, β.ice = ice → (AO.arr false T h.cap h.len cols).Is β pl.2 o) := by
  cases hf with
  | none => exact ⟨⟨0, 0, none⟩, rfl, Nat.le_refl _, fun h => absurd h (by simp)⟩
  | dead _ _ a => exact ⟨⟨a.block, a.off, a.spot⟩, rfl, Nat.le_refl _, fun h => absurd h (by simp)⟩
  | row _ T' len cap _ b off c fz f hice hcap hlen hc hh =>
    refine ⟨⟨b, off, none⟩, rfl, hlen, fun _ => ⟨rfl, _, hice, fun β hβ => ⟨c, fz, T', rfl, (fun h => by cases h), hcap, fun i hi j col hj => ⟨f i j, hc i hi j (List.getElem?_eq_some_iff.1 hj).1, by rw [hβ]; exact hh i hi j col hj⟩⟩⟩⟩

theorem colsLoad_sound {F w0} {w : World} {i : Nat} : ∀ (cols : List Col) {β : Pl} {H : AHeap} (vals : Nat → Option Value), Sim F w0 β H w → AHeap.sc H.length H = true → (∀ (j : Nat) (col : Col), cols[j]? = some col → ∃ v, vals j = some v ∧ Holds β.ice col i v) →
    ∃ β', Sim F w0 β' (H ++ (colsLoad cols i H.length).2.map some) w ∧ Pl.Ext H.length β β' ∧ β'.ice = β.ice ∧ ((colsLoad cols i H.length).2 = [] → ∀ b, β' b = β b) ∧ (colsLoad cols i H.length).1.length = cols.length ∧ ∀ (j : Nat) (v : AV), (colsLoad cols i H.length).1[j]? = some v → vals j = some (v.conc β')
  | [], β, H, vals, hs, hsc, hv => ⟨β, by simpa [colsLoad] using hs, Pl.Ext.refl, rfl, fun _ _ => rfl, rfl, fun j v h => by simp [colsLoad] at h⟩
  | .far n T w' hd cs :: r, β, H, vals, hs, hsc, hv => by
    obtain ⟨v0, hv0, hh⟩ := hv 0 _ rfl
    cases hh with
    | far _ _ _ _ _ _ _ hw hf =>
    obtain ⟨pl, hvc, hle, hlive⟩ := far_conc hf
    have hs2 := hs.name hsc (.arr false T (hd i).cap (hd i).len (cs i)) rfl hle pl (fun hl => by
      obtain ⟨sp, o, ho, his⟩ := hlive hl
      exact ⟨sp, rfl, o, ho, his β rfl⟩)
    obtain ⟨β', h1, h2, h3, h4, h5, h6⟩ := colsLoad_sound r (fun j => vals (j + 1)) hs2 (by simpa using sc_app_arr hsc) (fun j col hj => hv (j + 1) col (by simpa using hj))
    simp only [List.length_append, List.length_cons, List.length_nil, Nat.zero_add] at h1 h2 h5 h6
    refine ⟨β', ?_, (Pl.put_ext (n := H.length) (pl := pl)).trans h2 (by omega), by rw [h3]; rfl, fun h => by simp [colsLoad] at h, by simp [colsLoad, h5], fun j v hj => ?_⟩
    · simp only [colsLoad, List.map_cons]
      rw [List.append_assoc] at h1
      exact h1
    · cases j with
      | zero =>
        simp only [colsLoad, List.getElem?_cons_zero, Option.some.injEq] at hj
        subst hj
        rw [hv0, hvc]
        simp only [AV.conc]
        rw [h2.old H.length (by omega), Pl.put_new]
        simp
      | succ j => exact h6 j v (by simpa [colsLoad] using hj)
  | .int k l :: r, β, H, vals, hs, hsc, hv => by
    obtain ⟨v0, hv0, hh⟩ := hv 0 _ rfl
    obtain ⟨β', h1, h2, h3, h4, h5, h6⟩ := colsLoad_sound r (fun j => vals (j + 1)) hs hsc (fun j col hj => hv (j + 1) col (by simpa using hj))
    refine ⟨β', by simpa [colsLoad] using h1, h2, h3, by simpa [colsLoad] using h4, by simp [colsLoad, h5], fun j v hj => ?_⟩
    cases j with
    | zero => simp only [colsLoad, List.getElem?_cons_zero, Option.some.injEq] at hj; subst hj; rw [hv0, hh.av rfl β']; rfl
    | succ j => exact h6 j v (by simpa [colsLoad] using hj)
  | .bool l :: r, β, H, vals, hs, hsc, hv => by
    obtain ⟨v0, hv0, hh⟩ := hv 0 _ rfl
    obtain ⟨β', h1, h2, h3, h4, h5, h6⟩ := colsLoad_sound r (fun j => vals (j + 1)) hs hsc (fun j col hj => hv (j + 1) col (by simpa using hj))
    refine ⟨β', by simpa [colsLoad] using h1, h2, h3, by simpa [colsLoad] using h4, by simp [colsLoad, h5], fun j v hj => ?_⟩
    cases j with
    | zero => simp only [colsLoad, List.getElem?_cons_zero, Option.some.injEq] at hj; subst hj; rw [hv0, hh.av rfl β']; rfl
    | succ j => exact h6 j v (by simpa [colsLoad] using hj)
  | .str l :: r, β, H, vals, hs, hsc, hv => by
    obtain ⟨v0, hv0, hh⟩ := hv 0 _ rfl
    obtain ⟨β', h1, h2, h3, h4, h5, h6⟩ := colsLoad_sound r (fun j => vals (j + 1)) hs hsc (fun j col hj => hv (j + 1) col (by simpa using hj))
    refine ⟨β', by simpa [colsLoad] using h1, h2, h3, by simpa [colsLoad] using h4, by simp [colsLoad, h5], fun j v hj => ?_⟩
    cases j with
    | zero => simp only [colsLoad, List.getElem?_cons_zero, Option.some.injEq] at hj; subst hj; rw [hv0, hh.av rfl β']; rfl
    | succ j => exact h6 j v (by simpa [colsLoad] using hj)

def loadH (P : Program) (t : TypeId) (x : Option AV) (H : AHeap) : Option OutT :=
  if (P.underlying t).isSome then
    match x with
    | some (.ptr b off) =>
      match H[b]? with
      | some (some (.cells _ _ cs)) =>
        if isAggT P t then
          match szOf P t with
          | some n => if Nat.ble (off + n) cs.length then some (rv (.agg ((cs.drop off).take n))) else none
          | none => none
        else (cs[off]?).map rv
      | _ => none
    | some (.pel b sz i f) =>
      match H[b]? with
      | some (some (.arr _ _ _ n cols)) =>
        if Nat.beq sz cols.length then
          if isAggT P t then
            match szOf P t with
            | some m => if Nat.ble (f + m) cols.length then some (.need (decide (i < n)) (loadT (colsLoad ((cols.drop f).take m) i H.length))) else none
            | none => none
          else
            match cols[f]? with
            | some c => match colsLoad [c] i H.length with | ([v], aos) => some (.need (decide (i < n)) (.ret ⟨v, [], aos⟩)) | _ => none
            | none => none
        else none
      | _ => none
    | _ => none
  else none

theorem loadVar_run {P : Program} {w : World} {t : TypeId} {a : Addr} (hu : (P.underlying t).isSome = true) {v : Value}
    (h1 : isAggT P t = false → (load a).run P w = .ok v w) (h2 : isAggT P t = true → ∃ n vs, szOf P t = some n ∧ (loadCells a n).run P w = .ok vs w ∧ v = .agg vs) : (loadVar t a).run P w = .ok v w := by
  simp only [loadVar]
  rw [Sem.run_bind, run_isAgg hu]
  simp only [Result.andThen]
  cases hb : isAggT P t with
  | false => simp only [Bool.false_eq_true, if_false]; exact h1 hb
  | true =>
    obtain ⟨n, vs, hn, hl, rfl⟩ := h2 hb
    simp only [if_true]
    rw [Sem.run_bind, run_sizeOf hn]
    simp only [Result.andThen]
    rw [Sem.run_bind, hl]
    rfl

theorem load_run {P : Program} {o : Oper} {ev : Operand → Value} {w : World} {t : TypeId} {x : Operand} (ho : o.op = .load t x) {a : Addr} (hx : ev x = .pointer (some a)) (hu : (P.underlying t).isSome = true) {v : Value}
    (h1 : isAggT P t = false → (load a).run P w = .ok v w) (h2 : isAggT P t = true → ∃ n vs, szOf P t = some n ∧ (loadCells a n).run P w = .ok vs w ∧ v = .agg vs) :
    (execOp ev o).run P w = .ok (.value v) w := by
  have e : (execOp ev o) = (do let v ← Instr.loadAt t (ev x); pure (.value v)) := by simp [execOp, ho]
  rw [e, hx, Sem.run_bind]
  have : (Instr.loadAt t (.pointer (some a))).run P w = .ok v w := by
    simp only [Instr.loadAt, Instr.sureAddr]
    rw [Sem.run_bind]
    simp only [Sem.run_pure, Result.andThen]
    exact loadVar_run hu h1 h2
  rw [this]; rfl

theorem loadH_tells {P o ρ H t} {T : TypeId} {x : Operand} (ho : o.op = .load T x) (h : loadH P T (ρ x) H = some t) : Tells P o ρ H t := by
  unfold loadH at h
  split at h
  rotate_left
  · cases h
  rename_i hu
  split at h
  · rename_i b off hx
    split at h
    · rename_i rw' T' cs hH
      split at h
      · rename_i hagg
        split at h
        · rename_i n hn
          split at h
          · rename_i hle
            cases h
            have hle := Nat.le_of_ble_eq_true hle
            refine tells_value fun β ev F w0 w hev hs => ?_
            obtain ⟨ob, hob, c, fz, rfl, _, hc⟩ := hs.obj b _ hH trivial
            refine load_run ho (hev x _ hx) hu (fun h => by rw [hagg] at h; cases h) (fun _ => ⟨n, _, hn, ?_, rfl⟩)
            have hlen : ((AV.concs β ((cs.drop off).take n))).length = n := by rw [concs_map]; simp; omega
            have := run_loadCells (P := P) (w := w) (b := (β b).1) (o := (β b).2 + off) (AV.concs β ((cs.drop off).take n)) (fun j v hv => by
              rw [cell_of hob]
              rw [concs_map, List.getElem?_map, Option.map_eq_some_iff] at hv
              obtain ⟨u, hu, rfl⟩ := hv
              rw [List.getElem?_take] at hu
              split at hu
              · rw [List.getElem?_drop] at hu
                have := hc (off + j) u hu
                rw [Nat.add_assoc]; exact this
              · cases hu)
            rw [hlen] at this; exact this
          · cases h
        · cases h
      · rename_i hagg
        simp only [Option.map_eq_some_iff] at h
        obtain ⟨v, hv, rfl⟩ := h
        refine tells_value fun β ev F w0 w hev hs => ?_
        obtain ⟨ob, hob, c, fz, rfl, _, hc⟩ := hs.obj b _ hH trivial
        refine load_run ho (hev x _ hx) hu (fun _ => run_load_ok (by rw [cell_of hob]; exact hc off v hv)) (fun h => by rw [h] at hagg; exact absurd rfl hagg)
    · cases h
  · rename_i b sz i f hx
    split at h
    · rename_i rw' T' room n cols hH
      split at h
      rotate_left
      · cases h
      rename_i hsz
      have hsz := Nat.eq_of_beq_eq_true hsz
      split at h
      · rename_i hagg
        split at h
        · rename_i m hm
          split at h
          · rename_i hle
            cases h
            have hle := Nat.le_of_ble_eq_true hle
            refine tells_need fun hin => fun β F w0 w ev hev hs hsc _ => ?_
            have hin := of_decide_eq_true hin
            have hwf : n ≤ room := hs.wf b _ hH
            obtain ⟨ob, hob, c, fz, T0, rfl, _, _, hc⟩ := hs.obj b _ hH (show 0 < room by omega)
            obtain ⟨β', h1, h2, h3, h4, h5, h6⟩ := colsLoad_sound ((cols.drop f).take m) (i := i) (fun j => w.cell? ⟨(β b).1, (β b).2 + (i * sz + f) + j, none⟩) hs hsc (fun j col hj => by
              rw [List.getElem?_take] at hj
              split at hj
              · rw [List.getElem?_drop] at hj
                obtain ⟨v, hv, hh⟩ := hc i hin (f + j) col hj
                refine ⟨v, ?_, hh⟩
                rw [cell_of hob, hsz, show (β b).2 + (i * cols.length + f) + j = (β b).2 + (i * cols.length + (f + j)) by omega]; exact hv
              · cases hj)
            refine ⟨_, w, β', rfl, .inl (load_run ho (hev x _ hx) hu (fun h => by rw [hagg] at h; cases h) (fun _ => ⟨m, _, hm, ?_, rfl⟩)), by simpa only [Res.apply, writes] using h1, h2, h4⟩
            have hlen : (AV.concs β' (colsLoad ((cols.drop f).take m) i H.length).1).length = m := by rw [concs_map, List.length_map, h5]; simp; omega
            have := run_loadCells (P := P) (w := w) (b := (β b).1) (o := (β b).2 + (i * sz + f)) (AV.concs β' (colsLoad ((cols.drop f).take m) i H.length).1) (fun j v hv => by
              rw [concs_map, List.getElem?_map, Option.map_eq_some_iff] at hv
              obtain ⟨u, hu, rfl⟩ := hv
              exact h6 j u hu)
            rw [hlen] at this; exact this
          · cases h
        · cases h
      · rename_i hagg
        split at h
        rotate_left
        · cases h
        rename_i col hcol
        split at h
        rotate_left
        · cases h
        rename_i v aos hload
        cases h
        refine tells_need fun hin => fun β F w0 w ev hev hs hsc _ => ?_
        have hin := of_decide_eq_true hin
        have hwf : n ≤ room := hs.wf b _ hH
        obtain ⟨ob, hob, c, fz, T0, rfl, _, _, hc⟩ := hs.obj b _ hH (show 0 < room by omega)
        obtain ⟨β', h1, h2, h3, h4, h5, h6⟩ := colsLoad_sound [col] (i := i) (fun j => w.cell? ⟨(β b).1, (β b).2 + (i * sz + f) + j, none⟩) hs hsc (fun j col' hj => by
          cases j with
          | zero =>
            simp at hj; subst hj
            obtain ⟨v, hv, hh⟩ := hc i hin f col hcol
            exact ⟨v, by rw [cell_of hob, hsz]; exact hv, hh⟩
          | succ j => simp at hj)
        rw [hload] at h1 h4 h6
        exact ⟨_, w, β', rfl, .inl (load_run ho (hev x _ hx) hu (fun _ => run_load_ok (h6 0 v rfl)) (fun h => by rw [h] at hagg; exact absurd rfl hagg)), by simpa only [Res.apply, writes] using h1, h2, h4⟩
    · cases h
  · cases h
end Go.Vs

namespace Go.Vs
open Go Go.RowKit
set_option linter.unusedSimpArgs false
set_option linter.unusedVariables false

/-! ### stores -/
def cellsOf : AV → List AV
  | .agg cs => cs
  | v => [v]

def colSet (c : Col) (i : Nat) (v : AV) : Option (Bool × Col) :=
  match c, v with
  | .int k l, .val (.int k' n) => if k = k' then some (decide (i < l.length), .int k (l.set i n)) else none
  | .bool l, .val (.bool b) => some (decide (i < l.length), .bool (l.set i b))
  | .str l, .val (.string s) => some (decide (i < l.length), .str (l.set i s))
  | _, _ => none

def colsSet : List Col → Nat → Nat → List AV → Option (Bool × List Col)
  | cols, _, _, [] => some (true, cols)
  | cols, i, f, v :: vs =>
    match cols[f]? with
    | some c =>
      match colSet c i v with
      | some (b, c') =>
        match colsSet (cols.set f c') i (f + 1) vs with
        | some (b', cols') => some (b && b', cols')
        | none => none
      | none => none
    | none => none

def storeH (P : Program) (t : TypeId) (x v : Option AV) (H : AHeap) : Option OutT :=
  match x, v with
  | some (.ptr b off), some v =>
    match H[b]? with
    | some (some (.cells true T cs)) =>
      match szOf P t with
      | some n =>
        if Nat.beq (cellsOf v).length n && Nat.blt 0 n && Nat.ble (off + n) cs.length && (cellsOf v).all AV.cell then
          some (.ret ⟨.val undef, [(b, some (.cells true T (setAt cs off (cellsOf v))))], []⟩)
        else none
      | none => none
    | _ => none
  | some (.pel b sz i f), some v =>
    match H[b]? with
    | some (some (.arr true T room n cols)) =>
      match szOf P t with
      | some m =>
        if Nat.beq sz cols.length && Nat.beq (cellsOf v).length m && Nat.blt 0 m && (cellsOf v).all AV.cell then
          match colsSet cols i f (cellsOf v) with
          | some (g, cols') => some (.need (decide (i < n) && g) (.ret ⟨.val undef, [(b, some (.arr true T room n cols'))], []⟩))
          | none => none
        else none
      | none => none
    | _ => none
  | _, _ => none

theorem setAt_get : ∀ (vs cs : List AV) (o : Nat), o + vs.length ≤ cs.length → ∀ k, (setAt cs o vs)[k]? = if o ≤ k ∧ k < o + vs.length then vs[k - o]? else cs[k]?
  | [], c, o, _, k => by simp only [setAt, List.length_nil]; rw [if_neg (by omega)]
  | v :: vs, c, o, h, k => by
    simp only [List.length_cons] at h
    simp only [setAt, List.length_cons]
    rw [setAt_get vs _ (o + 1) (by simp; omega) k]
    by_cases h1 : k = o
    · subst h1
      rw [if_neg (by omega), if_pos (by omega)]
      simp [List.getElem?_set]
      omega
    · by_cases h2 : o + 1 ≤ k ∧ k < o + 1 + vs.length
      · rw [if_pos h2, if_pos (by omega), show k - o = (k - (o + 1)) + 1 by omega]; simp
      · rw [if_neg h2, if_neg (by omega)]
        rw [List.getElem?_set, if_neg (fun e => h1 e.symm)]

theorem concs_length (β : Pl) (vs : List AV) : (AV.concs β vs).length = vs.length := by rw [concs_map]; simp

theorem conc_cells (β : Pl) (v : AV) (h : (cellsOf v).all AV.cell = true) : (v.conc β).cells.toList = AV.concs β (cellsOf v) := by
  cases v with
  | val u => cases u <;> simp_all [AV.conc, Value.cells, cellsOf, AV.concs, AV.cell]
  | agg cs => simp [AV.conc, Value.cells, cellsOf]
  | tup cs => simp_all [cellsOf, AV.cell]
  | _ => simp [AV.conc, Value.cells, cellsOf, AV.concs]

theorem store_run {P : Program} {o : Oper} {ev : Operand → Value} {w : World} {t : TypeId} {x y : Operand} (ho : o.op = .store t x y) {b off n : Nat} (hx : ev x = .pointer (some ⟨b, off, none⟩)) {v : Value} (hy : ev y = v)
    (hn : szOf P t = some n) (hl : v.cells.toList.length = n) {c : Array Value} {T : TypeId} {fz : Nat × Nat} (hb : w.heap[b]? = some (.cells c T fz)) (hfz : freeM fz c.size) (hsz : off + n ≤ c.size) (hv : ∀ u ∈ v.cells.toList, cellV u = true) :
    ∃ w', (execOp ev o).run P w = .ok .skip w' ∧ Turned w w' b (setArr c off v.cells.toList) T fz := by
  obtain ⟨w', h1, h2⟩ := run_storeCells (P := P) (b := b) (o := off) (T := T) v.cells.toList 0 c w hb hfz (by omega) hv
  refine ⟨w', ?_, h2⟩
  have e : (execOp ev o) = (do Instr.storeAt t (ev x) (ev y); pure .skip) := by simp [execOp, ho]
  rw [e, hx, hy, Sem.run_bind]
  have : (Instr.storeAt t (.pointer (some ⟨b, off, none⟩)) v).run P w = .ok () w' := by
    simp only [Instr.storeAt, Instr.sureAddr, storeVar]
    rw [Sem.run_bind]
    simp only [Sem.run_pure, Result.andThen]
    rw [Sem.run_bind, run_sizeOf hn]
    simp only [Result.andThen]
    have hl' : v.cells.size = n := by simpa using hl
    rw [if_neg (by simp [hl'])]
    exact h1
  rw [this]; rfl

theorem setArr_at {β : Pl} {at_ off : Nat} {cs vs : List AV} {c : Array Value} (h : ∀ j v, cs[j]? = some v → c[at_ + j]? = some (v.conc β)) (hl : off + vs.length ≤ cs.length) (hc : at_ + off + vs.length ≤ c.size) :
    ∀ j v, (setAt cs off vs)[j]? = some v → (setArr c (at_ + off) (AV.concs β vs))[at_ + j]? = some (v.conc β) := by
  intro j v hj
  rw [setAt_get vs cs off hl] at hj
  rw [setArr_get _ _ _ (by rw [concs_length]; exact hc), concs_length]
  by_cases hr : off ≤ j ∧ j < off + vs.length
  · rw [if_pos hr] at hj
    rw [if_pos (by omega), show at_ + j - (at_ + off) = j - off by omega]
    exact concs_get β hj
  · rw [if_neg hr] at hj
    rw [if_neg (by omega)]
    exact h j v hj

theorem cells_size {β : Pl} {at_ : Nat} {cs : List AV} {c : Array Value} (h : ∀ j v, cs[j]? = some v → c[at_ + j]? = some (v.conc β)) (h0 : 0 < cs.length) : at_ + cs.length ≤ c.size := by
  have h1 : cs[cs.length - 1]? = some cs[cs.length - 1] := List.getElem?_eq_getElem (by omega)
  have := (Array.getElem?_eq_some_iff.1 (h _ _ h1)).1
  omega

theorem all_cellV {β : Pl} {vs : List AV} (h : vs.all AV.cell = true) : ∀ u ∈ AV.concs β vs, cellV u = true := by
  intro u hu
  rw [concs_map] at hu
  obtain ⟨v, hv, rfl⟩ := List.mem_map.1 hu
  exact AV.conc_oneCell (List.all_eq_true.1 h v hv)

theorem Holds.int_eq {ice : Nat → Obj → Prop} {k : IntKind} {l l' : List Int} {j : Nat} {u : Value} (h : Holds ice (.int k l) j u) (e : l'.getD j 0 = l.getD j 0) : Holds ice (.int k l') j u := by
  cases h; rw [← e]; exact .int ..
theorem Holds.bool_eq {ice : Nat → Obj → Prop} {l l' : List Bool} {j : Nat} {u : Value} (h : Holds ice (.bool l) j u) (e : l'.getD j false = l.getD j false) : Holds ice (.bool l') j u := by
  cases h; rw [← e]; exact .bool ..
theorem Holds.str_eq {ice : Nat → Obj → Prop} {l l' : List ByteArray} {j : Nat} {u : Value} (h : Holds ice (.str l) j u) (e : l'.getD j ByteArray.empty = l.getD j ByteArray.empty) : Holds ice (.str l') j u := by
  cases h; rw [← e]; exact .str ..

theorem lgetD_set_ne {α : Type} {l : List α} {i j : Nat} {x d : α} (h : j ≠ i) : (l.set i x).getD j d = l.getD j d := by
  simp only [List.getD_eq_getElem?_getD, List.getElem?_set_ne (fun e => h e.symm)]
theorem lgetD_set_self {α : Type} {l : List α} {i : Nat} {x d : α} (h : i < l.length) : (l.set i x).getD i d = x := by
  simp only [List.getD_eq_getElem?_getD, List.getElem?_set_self h]; rfl

theorem colSet_spec {ice : Nat → Obj → Prop} {c c' : Col} {i : Nat} {v : AV} {g : Bool} (h : colSet c i v = some (g, c')) (hg : g = true) (β : Pl) : (∀ j u, j ≠ i → Holds ice c j u → Holds ice c' j u) ∧ Holds ice c' i (v.conc β) := by
  unfold colSet at h
  split at h
  · rename_i k l k' n
    split at h
    · rename_i hk; cases h; subst hk
      have hl := of_decide_eq_true hg
      refine ⟨fun j u hj hh => hh.int_eq (lgetD_set_ne hj), ?_⟩
      have := Holds.int (ice := ice) k (l.set i n) i
      rw [lgetD_set_self hl] at this; exact this
    · cases h
  · rename_i l n
    cases h
    have hl := of_decide_eq_true hg
    refine ⟨fun j u hj hh => hh.bool_eq (lgetD_set_ne hj), ?_⟩
    have := Holds.bool (ice := ice) (l.set i n) i
    rw [lgetD_set_self hl] at this; exact this
  · rename_i l n
    cases h
    have hl := of_decide_eq_true hg
    refine ⟨fun j u hj hh => hh.str_eq (lgetD_set_ne hj), ?_⟩
    have := Holds.str (ice := ice) (l.set i n) i
    rw [lgetD_set_self hl] at this; exact this
  · cases h

theorem colsSet_spec {ice : Nat → Obj → Prop} (β : Pl) : ∀ {vs : List AV} {cols cols' : List Col} {i f : Nat} {g : Bool}, colsSet cols i f vs = some (g, cols') → g = true →
    cols'.length = cols.length ∧ f + vs.length ≤ max f cols.length ∧ ∀ (k : Nat) (col' : Col), cols'[k]? = some col' → ∃ col, cols[k]? = some col ∧ (∀ j u, ¬ (j = i ∧ f ≤ k ∧ k < f + vs.length) → Holds ice col j u → Holds ice col' j u) ∧ (f ≤ k → ∀ x, vs[k - f]? = some x → Holds ice col' i (x.conc β))
  | [], cols, cols', i, f, g, h, hg => by
    simp only [colsSet, Option.some.injEq, Prod.mk.injEq] at h
    obtain ⟨_, rfl⟩ := h
    exact ⟨rfl, by simp only [List.length_nil]; omega, fun k col' hk => ⟨col', hk, fun j u _ hh => hh, fun _ x hx => by simp at hx⟩⟩
  | v :: vs, cols, cols', i, f, g, h, hg => by
    simp only [colsSet] at h
    split at h
    rotate_left
    · cases h
    rename_i c hc
    split at h
    rotate_left
    · cases h
    rename_i b c' hc'
    split at h
    rotate_left
    · cases h
    rename_i b' cols'' hrec
    simp only [Option.some.injEq, Prod.mk.injEq] at h
    obtain ⟨hb, rfl⟩ := h
    rw [hg] at hb
    simp only [Bool.and_eq_true] at hb
    have hf : f < cols.length := (List.getElem?_eq_some_iff.1 hc).1
    obtain ⟨h1, h2, h3⟩ := colsSet_spec β hrec hb.2
    rw [List.length_set] at h1 h2
    refine ⟨h1, by simp only [List.length_cons]; omega, fun k col' hk => ?_⟩
    obtain ⟨col1, hcol1, hkeep, hput⟩ := h3 k col' hk
    by_cases hkf : k = f
    · subst hkf
      rw [List.getElem?_set_self hf] at hcol1
      cases hcol1
      obtain ⟨g1, g2⟩ := colSet_spec (ice := ice) hc' hb.1 β
      refine ⟨c, hc, fun j u hj hh => ?_, fun _ x hx => ?_⟩
      · exact hkeep j u (by omega) (g1 j u (fun e => hj ⟨e, by omega, by simp only [List.length_cons]; omega⟩) hh)
      · simp at hx; subst hx
        exact hkeep i _ (by omega) g2
    · rw [List.getElem?_set_ne (fun e => hkf e.symm)] at hcol1
      refine ⟨col1, hcol1, fun j u hj hh => hkeep j u (fun e => hj ⟨e.1, by omega, by simp only [List.length_cons]; omega⟩) hh, fun hfk x hx => hput (by omega) x ?_⟩
      rw [show k - f = (k - (f + 1)) + 1 by omega] at hx
      simpa using hx

theorem storeH_tells {P o ρ H t} {T : TypeId} {x y : Operand} (ho : o.op = .store T x y) (h : storeH P T (ρ x) (ρ y) H = some t) : Tells P o ρ H t := by
  unfold storeH at h
  split at h
  · rename_i b off v hx hy
    split at h
    rotate_left
    · cases h
    rename_i T' cs hH
    split at h
    rotate_left
    · cases h
    rename_i n hn
    split at h
    rotate_left
    · cases h
    rename_i hc
    simp only [Bool.and_eq_true] at hc
    obtain ⟨⟨⟨hc1, hc2⟩, hc3⟩, hc4⟩ := hc
    have hc1 := Nat.eq_of_beq_eq_true hc1
    have hc2 : 0 < n := by simpa using hc2
    have hc3 := Nat.le_of_ble_eq_true hc3
    cases h
    intro β F w0 w ev hev hs _ _
    obtain ⟨ob, hob, c, fz, rfl, hfz, hcs⟩ := hs.obj b _ hH trivial
    have hfz := hfz rfl
    have hsz := cells_size hcs (by omega)
    have hcl := conc_cells β v hc4
    obtain ⟨w', h1, h2⟩ := store_run (P := P) (n := n) (c := c) ho (hev x _ hx) (hev y _ hy) hn (by rw [hcl, concs_length, hc1]) hob hfz (by omega) (by rw [hcl]; exact all_cellV hc4)
    refine ⟨_, w', β, rfl, .inr ⟨h1, rfl⟩, ?_, Pl.Ext.refl, fun _ _ => rfl⟩
    simp only [Res.apply, writes, List.map_nil, List.append_nil]
    refine hs.turn hH trivial rfl rfl (by trivial) h2.os h2.tape h2.output h2.size h2.other h2.this ⟨_, fz, rfl, fun _ => by rw [setArr_size]; exact hfz, ?_⟩
    rw [hcl]
    exact setArr_at hcs (by omega) (by omega)
  · rename_i b sz i f v hx hy
    split at h
    rotate_left
    · cases h
    rename_i T' room n cols hH
    split at h
    rotate_left
    · cases h
    rename_i m hm
    split at h
    rotate_left
    · cases h
    rename_i hc
    simp only [Bool.and_eq_true] at hc
    obtain ⟨⟨⟨hc1, hc2⟩, hc3⟩, hc4⟩ := hc
    have hc1 := Nat.eq_of_beq_eq_true hc1
    have hc2 := Nat.eq_of_beq_eq_true hc2
    have hc3 : 0 < m := by simpa using hc3
    split at h
    rotate_left
    · cases h
    rename_i g cols' hset
    cases h
    refine tells_need fun hg => ?_
    simp only [Bool.and_eq_true] at hg
    have hin := of_decide_eq_true hg.1
    intro β F w0 w ev hev hs _ _
    obtain ⟨hl, hlt, hav⟩ := colsSet_spec (ice := β.ice) β hset hg.2
    have hwf : n ≤ room := hs.wf b _ hH
    obtain ⟨ob, hob, c, fz, T0, rfl, hfz, hrm, hcs⟩ := hs.obj b _ hH (show 0 < room by omega)
    have hfz := hfz rfl
    have hcl := conc_cells β v hc4
    have hfm : f + m ≤ cols.length := by omega
    have hend : (β b).2 + (i * cols.length + cols.length) ≤ c.size := by
      have h0 : 0 < cols.length := by omega
      have h1 : cols[cols.length - 1]? = some cols[cols.length - 1] := List.getElem?_eq_getElem (by omega)
      obtain ⟨_, hv1, _⟩ := hcs i hin _ _ h1
      have := (Array.getElem?_eq_some_iff.1 hv1).1
      omega
    have hx' := hev x _ hx
    simp only [AV.conc] at hx'
    rw [hc1] at hx'
    obtain ⟨w', h1, h2⟩ := store_run (P := P) (n := m) (c := c) ho hx' (hev y _ hy) hm (by rw [hcl, concs_length, hc2]) hob hfz (by omega) (by rw [hcl]; exact all_cellV hc4)
    refine ⟨_, w', β, rfl, .inr ⟨h1, rfl⟩, ?_, Pl.Ext.refl, fun _ _ => rfl⟩
    simp only [Res.apply, writes, List.map_nil, List.append_nil]
    refine hs.turn hH (show 0 < room by omega) rfl rfl (by exact hwf) h2.os h2.tape h2.output h2.size h2.other h2.this ⟨_, fz, T0, rfl, fun _ => by rw [setArr_size]; exact hfz, by rw [setArr_size, hl]; exact hrm, ?_⟩
    intro i' hi' j col' hcol'
    obtain ⟨col, hcol, hkeep, hput⟩ := hav j col' hcol'
    have hj : j < cols.length := (List.getElem?_eq_some_iff.1 hcol).1
    obtain ⟨u, hu, hh⟩ := hcs i' hi' j col hcol
    rw [hl, hcl, setArr_get _ _ _ (by rw [concs_length]; omega), concs_length, hc2]
    by_cases hii : i' = i
    · subst hii
      by_cases hr : f ≤ j ∧ j < f + m
      · rw [if_pos (by omega), show (β b).2 + (i' * cols.length + j) - ((β b).2 + (i' * cols.length + f)) = j - f by omega]
        have : (cellsOf v)[j - f]? = some (cellsOf v)[j - f] := List.getElem?_eq_getElem (by omega)
        exact ⟨_, concs_get β this, hput hr.1 _ this⟩
      · rw [if_neg (by omega)]
        exact ⟨u, hu, hkeep i' u (by omega) hh⟩
    · have hne : ¬ ((β b).2 + (i * cols.length + f) ≤ (β b).2 + (i' * cols.length + j) ∧ (β b).2 + (i' * cols.length + j) < (β b).2 + (i * cols.length + f) + m) := by
        rcases Nat.lt_or_gt_of_ne hii with hlt' | hgt
        · have : (i' + 1) * cols.length ≤ i * cols.length := Nat.mul_le_mul_right _ hlt'
          rw [Nat.succ_mul] at this
          omega
        · have : (i + 1) * cols.length ≤ i' * cols.length := Nat.mul_le_mul_right _ hgt
          rw [Nat.succ_mul] at this
          omega
      rw [if_neg hne]
      exact ⟨u, hu, hkeep i' u (fun h => hii h.1) hh⟩
  · cases h
end Go.Vs

namespace Go.Vs
open Go Go.RowKit
set_option linter.unusedSimpArgs false
set_option linter.unusedVariables false

/-! ### new memory -/
def valsAV (vs : Array Value) : List AV := vs.toList.map .val
theorem concs_vals (β : Pl) : ∀ l : List Value, AV.concs β (l.map .val) = l
  | [] => rfl
  | v :: l => by simp only [List.map_cons, AV.concs, AV.conc, concs_vals β l]

def zeroCells? (P : Program) (t : TypeId) : Option (List Value) :=
  match P.info? t with
  | some i => i.zero.map fun v => v.cells.toList
  | none => none

theorem run_zeroValue {P : Program} {t : TypeId} {cs : List Value} {w : World} (h : zeroCells? P t = some cs) : ∃ v, (zeroValue t).run P w = .ok v w ∧ v.cells = cs.toArray := by
  unfold zeroCells? at h
  split at h
  · rename_i i hi
    simp only [Option.map_eq_some_iff] at h
    obtain ⟨v, hv, rfl⟩ := h
    exact ⟨v, by simp [zeroValue, typeInfo, program, Sem.run, hi, hv, go_sem], by simp⟩
  · cases h

theorem tells_new {P o ρ H} {ao : AO} {v : AV} (hsa : ao.sc H.length = true) (hwf : ao.wf) (hrw : ao.rw = true)
    (h : ∀ (β : Pl) (ev : Operand → Value) (F : Fr) (w0 w : World), (∀ x av, ρ x = some av → ev x = av.conc β) → Sim F w0 β H w →
      ∃ ob, (ao.live → ao.Is β 0 ob) ∧ (execOp ev o).run P w = .ok (.value (v.conc (β.ext H.length w.heap.size))) { w with heap := w.heap.push ob }) :
    Tells P o ρ H (.ret ⟨v, [], [ao]⟩) := fun β F w0 w ev hev hs hsH _ => by
  obtain ⟨ob, his, hrun⟩ := h β ev F w0 w hev hs
  refine ⟨_, _, β.ext H.length w.heap.size, rfl, .inl hrun, ?_, Pl.ext_ext, fun h => by simp at h⟩
  simp only [Res.apply, writes, List.map_cons, List.map_nil]
  exact hs.alloc hsH ao hsa hwf hrw ob his

theorem cells_is (β : Pl) (T : TypeId) (cs : List AV) : (AO.cells true T cs).Is β 0 (.cells (AV.concs β cs).toArray T) :=
  ⟨_, (0, 0), rfl, fun _ => freeM_zero _, fun j v hj => by rw [Nat.zero_add, List.getElem?_toArray]; exact concs_get β hj⟩

theorem ptr_new (β : Pl) (n x : Nat) : (AV.ptr n 0).conc (β.ext n x) = .pointer (some ⟨x, 0, none⟩) := by simp [AV.conc, Pl.ext_new]

def allocH (P : Program) (t : TypeId) (H : AHeap) : Option OutT :=
  match zeroCells? P t with
  | some cs => some (.ret ⟨.ptr H.length 0, [], [.cells true t (cs.map .val)]⟩)
  | none => none

theorem scs_vals (n : Nat) : ∀ l : List Value, AV.scs n (l.map .val) = true
  | [] => rfl
  | v :: l => by simp only [List.map_cons, AV.scs, AV.sc, scs_vals n l, Bool.and_self]

theorem allocH_tells {P o ρ H t} {T : TypeId} (ho : o.op = .alloc T) (h : allocH P T H = some t) : Tells P o ρ H t := by
  unfold allocH at h
  split at h
  rotate_left
  · cases h
  rename_i cs hcs
  cases h
  refine tells_new (scs_vals _ cs) trivial rfl fun β ev F w0 w hev hs => ?_
  obtain ⟨z, hz, hzc⟩ := run_zeroValue (w := w) hcs
  have := cells_is β T (cs.map .val)
  rw [concs_vals] at this
  refine ⟨_, fun _ => this, ?_⟩
  have e : (execOp ev o) = (do let v ← Instr.alloc T true (.tuple #[]); pure (.value v)) := by simp [execOp, ho]
  rw [e, Sem.run_bind]
  simp only [Instr.alloc]
  rw [Sem.run_bind, hz]
  simp only [Result.andThen, newVar, newRow, hzc]
  rw [ptr_new]
  simp [newObj, Sem.run, go_sem]

def boxH (P : Program) (t : TypeId) (x : Option AV) (H : AHeap) : Option OutT :=
  match x with
  | some v =>
    if v.sc H.length && (cellsOf v).all AV.cell then some (.ret ⟨.ptr H.length 0, [], [.cells true t (cellsOf v)]⟩) else none
  | none => none

theorem cellsOf_sc {n : Nat} {v : AV} (h : v.sc n = true) : AV.scs n (cellsOf v) = true := by
  cases v <;> simp_all [cellsOf, AV.scs, AV.sc]

theorem boxH_tells {P o ρ H t} {T : TypeId} {x : Operand} (ho : o.op = .box T x) (h : boxH P T (ρ x) H = some t) : Tells P o ρ H t := by
  unfold boxH at h
  split at h
  rotate_left
  · cases h
  rename_i v hx
  split at h
  rotate_left
  · cases h
  rename_i hc
  simp only [Bool.and_eq_true] at hc
  cases h
  refine tells_new (cellsOf_sc hc.1) trivial rfl fun β ev F w0 w hev hs => ?_
  have := cells_is β T (cellsOf v)
  rw [← conc_cells β v hc.2] at this
  refine ⟨_, fun _ => this, ?_⟩
  have e : (execOp ev o) = (do let v ← Instr.box T (ev x); pure (.value v)) := by simp [execOp, ho]
  rw [e, Sem.run_bind, hev x _ hx, ptr_new]
  simp [Instr.box, newVar, newRow, newObj, Sem.run, go_sem]

/-! ### addresses -/
def structFields (P : Program) (t : TypeId) : Option (Array Field) := match P.underlying t with | some (.struct fs) => some fs | _ => none

def fieldAddrH (P : Program) (t : TypeId) (x : Option AV) (i : Nat) : Option OutT :=
  match structFields P t with
  | some fs =>
    match fs[i]? with
    | some f =>
      match szOf P f.type with
      | some n =>
        if Nat.blt 0 n then
          match x with
          | some (.ptr b off) => some (rv (.ptr b (off + f.offset)))
          | some (.pel b sz j g) => some (rv (.pel b sz j (g + f.offset)))
          | _ => none
        else none
      | none => none
    | none => none
  | none => none

theorem run_underlying {P : Program} {t : TypeId} {d : TypeDesc} {w : World} (h : P.underlying t = some d) : (underlying t).run P w = .ok d w := by
  simp [underlying, program, Sem.run, h, go_sem]

theorem fieldAddr_run {P : Program} {o : Oper} {ev : Operand → Value} {w : World} {t : TypeId} {x : Operand} {i : Nat} (ho : o.op = .fieldAddr t x i) {fs : Array Field} (hfs : structFields P t = some fs) {f : Field} (hf : fs[i]? = some f) {n : Nat} (hn : szOf P f.type = some n) (hn0 : 0 < n) {b off : Nat} (hx : ev x = .pointer (some ⟨b, off, none⟩)) :
    (execOp ev o).run P w = .ok (.value (.pointer (some ⟨b, off + f.offset, none⟩))) w := by
  have hu : P.underlying t = some (.struct fs) := by
    unfold structFields at hfs; split at hfs
    · cases hfs; assumption
    · cases hfs
  have e : (execOp ev o) = (do let v ← Instr.fieldAt t (ev x) i; pure (.value v)) := by simp [execOp, ho]
  rw [e, Sem.run_bind, hx]
  simp only [Instr.fieldAt]
  rw [Sem.run_bind, run_underlying hu]
  simp only [Result.andThen, hf, Instr.sureAddr]
  simp only [Sem.run_bind, Sem.run_pure, Result.andThen, fieldPlace]
  rw [run_sizeOf hn]
  simp only [Result.andThen]
  rw [if_neg (by omega)]
  simp [addr_add, go_sem]

theorem fieldAddrH_tells {P o ρ H t} {T : TypeId} {x : Operand} {i : Nat} (ho : o.op = .fieldAddr T x i) (h : fieldAddrH P T (ρ x) i = some t) : Tells P o ρ H t := by
  unfold fieldAddrH at h
  split at h
  rotate_left
  · cases h
  rename_i fs hfs
  split at h
  rotate_left
  · cases h
  rename_i f hf
  split at h
  rotate_left
  · cases h
  rename_i n hn
  split at h
  rotate_left
  · cases h
  rename_i hn0
  have hn0 : 0 < n := by simpa using hn0
  split at h
  · rename_i b off hx
    cases h
    refine tells_value fun β ev F w0 w hev hs => ?_
    rw [fieldAddr_run ho hfs hf hn hn0 (hev x _ hx)]
    simp only [AV.conc, Nat.add_assoc]
  · rename_i b sz j g hx
    cases h
    refine tells_value fun β ev F w0 w hev hs => ?_
    rw [fieldAddr_run ho hfs hf hn hn0 (hev x _ hx)]
    simp only [AV.conc, Nat.add_assoc]
  · cases h

def partH (P : Program) (t : TypeId) (cs : List AV) (off : Nat) : Option AV :=
  if (P.underlying t).isSome then
    if isAggT P t then
      match szOf P t with
      | some n => if Nat.ble (off + n) cs.length then some (.agg ((cs.drop off).take n)) else none
      | none => none
    else cs[off]?
  else none

theorem concs_extract (β : Pl) (cs : List AV) (a n : Nat) : (AV.concs β cs).toArray.extract a (a + n) = (AV.concs β ((cs.drop a).take n)).toArray := by
  rw [concs_map, concs_map, List.extract_toArray]
  congr 1
  simp [List.extract, List.map_drop, List.map_take]

theorem partH_run {P : Program} {t : TypeId} {cs : List AV} {off : Nat} {v : AV} (h : partH P t cs off = some v) (β : Pl) (w : World) : (part t (AV.concs β cs).toArray off).run P w = .ok (v.conc β) w := by
  unfold partH at h
  split at h
  rotate_left
  · cases h
  rename_i hu
  simp only [part]
  rw [Sem.run_bind, run_isAgg hu]
  split at h
  · rename_i hagg
    split at h
    rotate_left
    · cases h
    rename_i n hn
    split at h
    rotate_left
    · cases h
    cases h
    simp only [Result.andThen, hagg, if_true]
    rw [Sem.run_bind, run_sizeOf hn]
    simp only [Result.andThen, AV.conc, concs_extract]
    rfl
  · rename_i hagg
    simp only [Result.andThen, hagg]
    have h1 : ((AV.concs β cs).toArray)[off]? = some (v.conc β) := by rw [List.getElem?_toArray]; exact concs_get β h
    simp [h1, go_sem]

def fieldH (P : Program) (t : TypeId) (x : Option AV) (i : Nat) : Option OutT :=
  match structFields P t with
  | some fs =>
    match fs[i]? with
    | some f =>
      match x with
      | some (.agg cs) => (partH P f.type cs f.offset).map rv
      | _ => none
    | none => none
  | none => none

theorem underlying_struct {P : Program} {t : TypeId} {fs : Array Field} (hfs : structFields P t = some fs) : P.underlying t = some (.struct fs) := by
  unfold structFields at hfs; split at hfs
  · cases hfs; assumption
  · cases hfs

theorem fieldH_tells {P o ρ H t} {T : TypeId} {x : Operand} {i : Nat} (ho : o.op = .field T x i) (h : fieldH P T (ρ x) i = some t) : Tells P o ρ H t := by
  unfold fieldH at h
  split at h
  rotate_left
  · cases h
  rename_i fs hfs
  split at h
  rotate_left
  · cases h
  rename_i f hf
  split at h
  rotate_left
  · cases h
  rename_i cs hx
  simp only [Option.map_eq_some_iff] at h
  obtain ⟨v, hv, rfl⟩ := h
  refine tells_value fun β ev F w0 w hev hs => ?_
  have e : (execOp ev o) = (do let v ← Instr.field T (ev x) i; pure (.value v)) := by simp [execOp, ho]
  rw [e, Sem.run_bind, hev x _ hx]
  simp only [Instr.field]
  rw [Sem.run_bind, run_underlying (underlying_struct hfs)]
  simp only [Result.andThen, hf, AV.conc, asAgg]
  rw [Sem.run_bind]
  simp only [Sem.run_pure, Result.andThen]
  rw [partH_run hv]
end Go.Vs

namespace Go.Vs
open Go Go.RowKit
set_option linter.unusedSimpArgs false
set_option linter.unusedVariables false

/-! ### indexes, lengths, cuts -/
def idxSplit (i : Int) (mk : Nat → OutT) : Nat → Nat → OutT
  | 0, _ => .need false (rv (.val undef))
  | n + 1, j => .split (decide (i = (j : Int))) (mk j) (idxSplit i mk n (j + 1))

theorem idxSplit_tells {P o ρ H} {i : Int} {mk : Nat → OutT} : ∀ (n j : Nat), (∀ k, j ≤ k → k < j + n → i = (k : Int) → Tells P o ρ H (mk k)) → Tells P o ρ H (idxSplit i mk n j)
  | 0, j, _ => tells_need fun h => by cases h
  | n + 1, j, h => tells_split (fun hd => h j (Nat.le_refl _) (by omega) (of_decide_eq_true hd)) (fun _ => idxSplit_tells n (j + 1) (fun k h1 h2 => h k (by omega) (by omega)))

def arrayT (P : Program) (t : TypeId) : Option (Nat × TypeId) := match P.underlying t with | some (.array n e) => some (n, e) | _ => none
def sliceT (P : Program) (t : TypeId) : Option TypeId := match P.underlying t with | some (.slice e) => some e | _ => none
theorem underlying_array {P : Program} {t n e : Nat} (h : arrayT P t = some (n, e)) : P.underlying t = some (.array n e) := by
  unfold arrayT at h; split at h
  · cases h; assumption
  · cases h
theorem underlying_slice {P : Program} {t e : Nat} (h : sliceT P t = some e) : P.underlying t = some (.slice e) := by
  unfold sliceT at h; split at h
  · cases h; assumption
  · cases h

def inR (i : Int) (n : Nat) : Bool := decide (0 ≤ i) && decide (i < (n : Int))
theorem inR_iff {i : Int} {n : Nat} : inR i n = true ↔ 0 ≤ i ∧ i < (n : Int) := by simp [inR]

def indexAddrH (P : Program) (t : TypeId) (x ix : Option AV) (H : AHeap) : Option OutT :=
  match x, ix with
  | some (.sl nl b sz off len cap), some (.val (.int k i)) =>
    match sliceT P t, H[b]? with
    | some e, some (some (.arr _ _ _ m _)) =>
      match szOf P e with
      | some n => if Nat.beq n sz then some (.need (!nl && (inR i len && decide (off + i.toNat < m))) (rv (.pel b sz (off + i.toNat) 0))) else none
      | none => none
    | _, _ => none
  | some (.ptr b o), some (.val (.int k i)) =>
    match arrayT P t with
    | some (n, e) =>
      match szOf P e with
      | some s => if Nat.ble n 64 then some (idxSplit i (fun j => rv (.ptr b (o + j * s))) n 0) else none
      | none => none
    | none => none
  | some (.val (.slice none _ _)), some (.val (.int k i)) =>
    match sliceT P t with
    | some _ => some (.need false (rv (.val undef)))
    | none => none
  | _, _ => none

theorem indexAddr_run {P : Program} {o : Oper} {ev : Operand → Value} {w : World} {t : TypeId} {x ix : Operand} (ho : o.op = .indexAddr t x ix) {k : IntKind} {i : Int} (hi : ev ix = .int k i) {a : Addr} {len e s : Nat}
    (hd : (∃ cap, P.underlying t = some (.slice e) ∧ ev x = .slice (some a) len cap) ∨ (P.underlying t = some (.array len e) ∧ ev x = .pointer (some a))) (hs : szOf P e = some s) (hr : 0 ≤ i ∧ i < (len : Int)) :
    (execOp ev o).run P w = .ok (.value (.pointer (some (a.add (i.toNat * s))))) w := by
  have e1 : (execOp ev o) = (do let v ← Instr.indexAt t (ev x) (ev ix); pure (.value v)) := by simp [execOp, ho]
  rw [e1, Sem.run_bind, hi]
  rcases hd with ⟨cap, hu, hx⟩ | ⟨hu, hx⟩
  · simp only [hx, Instr.indexAt, asIntOf]
    simp only [Sem.run_bind, Sem.run_pure, Result.andThen]
    rw [run_underlying hu]
    simp only [Sem.run_bind, Sem.run_pure, Result.andThen]
    rw [run_underlying hu]
    simp only [Sem.run_bind, Sem.run_pure, Result.andThen]
    rw [if_pos hr]
    simp only [Sem.run_bind, Sem.run_pure, Result.andThen]
    rw [run_sizeOf hs]
  · simp only [hx, Instr.indexAt, asIntOf]
    simp only [Sem.run_bind, Sem.run_pure, Result.andThen]
    rw [run_underlying hu]
    simp only [Instr.sureAddr, Sem.run_bind, Sem.run_pure, Result.andThen]
    rw [run_underlying hu]
    simp only [Sem.run_bind, Sem.run_pure, Result.andThen]
    rw [if_pos hr]
    simp only [Sem.run_bind, Sem.run_pure, Result.andThen]
    rw [run_sizeOf hs]

theorem indexAddrH_tells {P o ρ H t} {T : TypeId} {x ix : Operand} (ho : o.op = .indexAddr T x ix) (h : indexAddrH P T (ρ x) (ρ ix) H = some t) : Tells P o ρ H t := by
  unfold indexAddrH at h
  split at h
  · rename_i nl b sz off len cap k i hx hi
    split at h
    rotate_left
    · cases h
    rename_i e rw' T' room m cols he hH
    split at h
    rotate_left
    · cases h
    rename_i n hn
    split at h
    rotate_left
    · cases h
    rename_i hnz
    obtain rfl := Nat.eq_of_beq_eq_true hnz
    cases h
    refine tells_need fun hr => tells_value fun β ev F w0 w hev hs => ?_
    simp only [Bool.and_eq_true, Bool.not_eq_true', decide_eq_true_eq] at hr
    obtain ⟨rfl, hr, hm⟩ := hr
    have hr := inR_iff.1 hr
    have hwf : m ≤ room := hs.wf b _ hH
    have hsp := hs.spot b _ hH (show 0 < room by omega)
    have hx' := hev x _ hx
    simp only [AV.conc, cond_false, hsp] at hx'
    rw [indexAddr_run ho (hev ix _ hi) (.inl ⟨cap, underlying_slice he, hx'⟩) hn hr, addr_add]
    simp only [AV.conc, Nat.add_mul, Nat.add_assoc, Nat.add_zero]
  · rename_i b off k i hx hi
    split at h
    rotate_left
    · cases h
    rename_i n e he
    split at h
    rotate_left
    · cases h
    rename_i s hs
    split at h
    rotate_left
    · cases h
    cases h
    refine idxSplit_tells n 0 fun j _ hj hij => tells_value fun β ev F w0 w hev hsim => ?_
    subst hij
    rw [indexAddr_run ho (hev ix _ hi) (.inr ⟨underlying_array he, hev x _ hx⟩) hs (by omega), addr_add]
    simp only [AV.conc, Int.toNat_natCast, Nat.add_assoc]
  · split at h
    · cases h; exact tells_need fun h => by cases h
    · cases h
  · cases h

def byteAt (s : ByteArray) (i : Int) : Int := ((s.data.toList.getD i.toNat 0).toNat : Int)

def isStringT (P : Program) (t : TypeId) : Bool := match P.underlying t with | some .string => true | _ => false
theorem underlying_string {P : Program} {t : Nat} (h : isStringT P t = true) : P.underlying t = some .string := by
  unfold isStringT at h; split at h
  · assumption
  · cases h

def indexH (P : Program) (t : TypeId) (x ix : Option AV) : Option OutT :=
  match x, ix with
  | some (.val (.string s)), some (.val (.int k i)) => if isStringT P t then some (.need (inR i s.size) (rv (.val (.int .u8 (byteAt s i))))) else none
  | some (.agg cs), some (.val (.int k i)) =>
    match arrayT P t with
    | some (n, e) =>
      match szOf P e with
      | some s => if Nat.ble n 64 then some (idxSplit i (fun j => match partH P e cs (j * s) with | some v => rv v | none => .need false (rv (.val undef))) n 0) else none
      | none => none
    | none => none
  | _, _ => none

theorem indexH_tells {P o ρ H t} {T : TypeId} {x ix : Operand} (ho : o.op = .index T x ix) (h : indexH P T (ρ x) (ρ ix) = some t) : Tells P o ρ H t := by
  have e1 : ∀ ev, (execOp ev o) = (do let v ← Instr.index T (ev x) (ev ix); pure (.value v)) := by intro ev; simp [execOp, ho]
  unfold indexH at h
  split at h
  · rename_i s k i hx hi
    split at h
    rotate_left
    · cases h
    rename_i hst
    cases h
    refine tells_need fun hr => tells_value fun β ev F w0 w hev hs => ?_
    have hr := inR_iff.1 hr
    rw [e1, Sem.run_bind, hev x _ hx, hev ix _ hi]
    simp only [AV.conc, Instr.index, asIntOf]
    simp only [Sem.run_bind, Sem.run_pure, Result.andThen]
    rw [run_underlying (underlying_string hst)]
    simp only [Sem.run_bind, Sem.run_pure, Result.andThen]
    rw [if_pos hr.1]
    have hlt : i.toNat < s.size := by omega
    have : s[i.toNat]? = some s[i.toNat] := by simp [hlt]
    rw [this]
    have hd : s.data.toList.getD i.toNat 0 = s[i.toNat] := by
      rw [List.getD_eq_getElem?_getD, List.getElem?_eq_getElem (by simpa using hlt)]; rfl
    simp only [byteAt, hd]
    simp [go_sem]
  · rename_i cs k i hx hi
    split at h
    rotate_left
    · cases h
    rename_i n e he
    split at h
    rotate_left
    · cases h
    rename_i s hs
    split at h
    rotate_left
    · cases h
    cases h
    refine idxSplit_tells n 0 fun j _ hj hij => ?_
    split
    · rename_i v hv
      refine tells_value fun β ev F w0 w hev hsim => ?_
      subst hij
      rw [e1, Sem.run_bind, hev x _ hx, hev ix _ hi]
      simp only [AV.conc, Instr.index, asIntOf]
      simp only [Sem.run_bind, Sem.run_pure, Result.andThen]
      rw [run_underlying (underlying_array he)]
      simp only [Sem.run_bind, Sem.run_pure, Result.andThen]
      rw [if_pos (by omega)]
      simp only [Sem.run_bind, Sem.run_pure, Result.andThen]
      rw [run_sizeOf hs]
      simp only [Int.toNat_natCast, Result.andThen]
      rw [partH_run hv]
    · exact tells_need fun h => by cases h
  · cases h

theorem builtin_run {P : Program} {o : Oper} {b : Builtin} {args : Array Operand} {ats : Array TypeId} (ho : o.op = .call ⟨.builtin b, args, ats⟩) (ev : Operand → Value) (w : World) :
    ∃ consts, (execOp ev o).run P w = (builtin b ats o.type consts (args.map ev)).run P w := by
  simp only [execOp, ho, resolve]
  rw [Sem.run_bind]
  simp only [Sem.run_pure, Result.andThen, invoke]
  exact ⟨_, rfl⟩

def lenH (P : Program) (ats : Array TypeId) (x : Option AV) : Option OutT :=
  match x, ats.toList with
  | some (.sl nl b sz off len cap), [t] => match sliceT P t with | some _ => some (rv (.val (.int .i64 (len : Int)))) | none => none
  | _, _ => none

def capH (P : Program) (ats : Array TypeId) (x : Option AV) : Option OutT :=
  match x, ats.toList with
  | some (.sl nl b sz off len cap), [t] => match sliceT P t with | some _ => some (rv (.val (.int .i64 (cap : Int)))) | none => none
  | _, _ => none

theorem toList_one {α : Type} {a : Array α} {x : α} (h : a.toList = [x]) : a = #[x] := by
  cases a; simp at h; simp [h]

theorem lenH_tells {P o ρ H t} {x : Operand} {ats : Array TypeId} (ho : o.op = .call ⟨.builtin .len, #[x], ats⟩) (h : lenH P ats (ρ x) = some t) : Tells P o ρ H t := by
  unfold lenH at h
  split at h
  rotate_left
  · cases h
  rename_i b sz off len cap T hx hat
  obtain rfl := toList_one hat
  split at h
  rotate_left
  · cases h
  rename_i e he
  cases h
  refine tells_value fun β ev F w0 w hev hs => ?_
  obtain ⟨consts, hrun⟩ := builtin_run ho ev w
  rw [hrun]
  simp only [List.map_toArray, List.map_cons, List.map_nil, hev x _ hx, AV.conc, builtin, Builtin.len_]
  simp only [Sem.run_bind]
  simp [run_underlying (underlying_slice he), go_sem, goInt]

theorem capH_tells {P o ρ H t} {x : Operand} {ats : Array TypeId} (ho : o.op = .call ⟨.builtin .cap, #[x], ats⟩) (h : capH P ats (ρ x) = some t) : Tells P o ρ H t := by
  unfold capH at h
  split at h
  rotate_left
  · cases h
  rename_i b sz off len cap T hx hat
  obtain rfl := toList_one hat
  split at h
  rotate_left
  · cases h
  rename_i e he
  cases h
  refine tells_value fun β ev F w0 w hev hs => ?_
  obtain ⟨consts, hrun⟩ := builtin_run ho ev w
  rw [hrun]
  simp only [List.map_toArray, List.map_cons, List.map_nil, hev x _ hx, AV.conc, builtin, Builtin.cap_]
  simp only [Sem.run_bind]
  simp [run_underlying (underlying_slice he), go_sem, goInt]

/-! ### cuts -/
/-- A bound of a cut: a number, or what stands for none. -/
def bnd (x : Option (Option AV)) (d : Nat) : Option (Bool × Int × Bool) :=   -- is it told; its number
  match x with
  | none => some (false, (d : Int), true)
  | some (some (.val (.int k i))) => some (true, i, true)
  | _ => none

def inC (i : Int) (n : Nat) : Bool := decide (0 ≤ i) && decide (i ≤ (n : Int))
theorem inC_iff {i : Int} {n : Nat} : inC i n = true ↔ 0 ≤ i ∧ i ≤ (n : Int) := by simp [inC]

def cutOff (m l : Nat) : Nat := if m = l then 0 else l

/-- May the row be cut behind its first element? -/
def slOk0 (H : AHeap) (b m l : Nat) : Bool := Nat.beq l 0 || (decide (m = l) || (match H[b]? with | some (some (.arr _ _ room _ _)) => Nat.blt 0 room | _ => false))
def slOk (H : AHeap) (b m l : Nat) : Bool := match H[b]? with | some (some (.arr _ _ room _ _)) => Nat.beq l 0 || (decide (m = l) || Nat.blt 0 room) | _ => Nat.beq l 0 || (decide (m = l) || false)
theorem slOk_0 (H : AHeap) (b m l : Nat) : slOk H b m l = slOk0 H b m l := by unfold slOk slOk0; split <;> rfl

/-- x[lo:hi], x[lo:], x[:hi], x[:], x[lo:hi:max] -/
def sliceH (P : Program) (t : TypeId) (x : Option AV) (lo hi mx : Option (Option AV)) (H : AHeap) : Option OutT :=
  match x with
  | some (.sl nl b sz off len cap) =>
    match sliceT P t with
    | some e =>
      match szOf P e with
      | some n =>
        if Nat.beq n sz then
          match mx, hi, lo with
          | none, none, none => some (rv (.sl nl b sz (off + cutOff cap 0) len cap))
          | none, none, some (some (.val (.int _ l))) => some (.need (inC l len && slOk H b cap l.toNat) (rv (.sl nl b sz (off + cutOff cap l.toNat) (len - l.toNat) (cap - l.toNat))))
          | none, some (some (.val (.int _ h))), none => some (.need (inC h cap) (rv (.sl nl b sz (off + cutOff cap 0) h.toNat cap)))
          | none, some (some (.val (.int _ h))), some (some (.val (.int _ l))) => some (.need ((inC h cap && inC l h.toNat) && slOk H b cap l.toNat) (rv (.sl nl b sz (off + cutOff cap l.toNat) (h.toNat - l.toNat) (cap - l.toNat))))
          | some (some (.val (.int _ m))), some (some (.val (.int _ h))), some (some (.val (.int _ l))) =>
            some (.need ((inC m cap && inC h m.toNat && inC l h.toNat) && slOk H b m.toNat l.toNat) (rv (.sl nl b sz (off + cutOff m.toNat l.toNat) (h.toNat - l.toNat) (m.toNat - l.toNat))))
          | _, _, _ => none
        else none
      | none => none
    | none => none
  | some (.val (.string s)) =>
    if isStringT P t then
      match mx, hi, lo with
      | none, none, none => some (rv (.val (.string (s.extract 0 s.size))))
      | none, none, some (some (.val (.int _ l))) => some (.need (inC l s.size) (rv (.val (.string (s.extract l.toNat s.size)))))
      | none, some (some (.val (.int _ h))), none => some (.need (inC h s.size) (rv (.val (.string (s.extract 0 h.toNat)))))
      | none, some (some (.val (.int _ h))), some (some (.val (.int _ l))) => some (.need (inC h s.size && inC l h.toNat) (rv (.val (.string (s.extract l.toNat h.toNat)))))
      | _, _, _ => none
    else none
  | some (.val (.slice none len cap)) =>
    match sliceT P t with
    | some e =>
      match szOf P e with
      | some n =>
        match mx, hi, lo with
        | none, none, none => some (rv (.val (.slice none len cap)))
        | none, none, some (some (.val (.int _ l))) => some (.need (inC l len) (rv (.val (.slice none (len - l.toNat) (cap - l.toNat)))))
        | none, some (some (.val (.int _ h))), none => some (.need (inC h cap) (rv (.val (.slice none h.toNat cap))))
        | none, some (some (.val (.int _ h))), some (some (.val (.int _ l))) => some (.need (inC h cap && inC l h.toNat) (rv (.val (.slice none (h.toNat - l.toNat) (cap - l.toNat)))))
        | _, _, _ => none
      | none => none
    | none => none
  | _ => none

theorem run_sliceBound {P : Program} {w : World} {k : IntKind} {i : Int} {y : Nat} {c : BoundsCode} (h : 0 ≤ i ∧ i ≤ (y : Int)) : (Instr.sliceBound (.int k i) y c).run P w = .ok i.toNat w := by
  simp only [Instr.sliceBound, asIntOf]
  simp only [Sem.run_bind, Sem.run_pure, Result.andThen]
  rw [if_pos h]; rfl

theorem slice_run {P : Program} {o : Oper} {ev : Operand → Value} {w : World} {t : TypeId} {x : Operand} {lo hi mx : Option Operand} (ho : o.op = .slice t x lo hi mx) {e n : Nat} (he : P.underlying t = some (.slice e)) (hn : szOf P e = some n)
    {a : Option Addr} {len cap : Nat} (hx : ev x = .slice a len cap) {l h m : Nat} (hb : (Instr.sliceBounds true len cap (lo.map ev) (hi.map ev) (mx.map ev)).run P w = .ok (l, h, m) w) :
    (execOp ev o).run P w = .ok (.value (.slice (if m = l then a else a.map (·.add (l * n))) (h - l) (m - l))) w := by
  have e1 : (execOp ev o) = (do let v ← Instr.sliceAt t (ev x) (lo.map ev) (hi.map ev) (mx.map ev); pure (.value v)) := by simp [execOp, ho]
  rw [e1, Sem.run_bind, hx]
  simp only [Instr.sliceAt]
  rw [Sem.run_bind, run_underlying he]
  simp only [Result.andThen, Instr.slice]
  rw [Sem.run_bind, run_underlying he]
  simp only [Result.andThen]
  rw [Sem.run_bind, hb]
  simp only [Result.andThen]
  rw [Sem.run_bind, run_sizeOf hn]
  rfl

theorem strslice_run {P : Program} {o : Oper} {ev : Operand → Value} {w : World} {t : TypeId} {x : Operand} {lo hi : Option Operand} (ho : o.op = .slice t x lo hi none) (he : P.underlying t = some .string)
    {s : ByteArray} (hx : ev x = .string s) {l h m : Nat} (hb : (Instr.sliceBounds false s.size s.size (lo.map ev) (hi.map ev) none).run P w = .ok (l, h, m) w) :
    (execOp ev o).run P w = .ok (.value (.string (s.extract l h))) w := by
  have e1 : (execOp ev o) = (do let v ← Instr.sliceAt t (ev x) (lo.map ev) (hi.map ev) none; pure (.value v)) := by simp [execOp, ho]
  rw [e1, Sem.run_bind, hx]
  simp only [Instr.sliceAt]
  rw [Sem.run_bind, run_underlying he]
  simp only [Result.andThen, Instr.slice]
  rw [Sem.run_bind, run_underlying he]
  simp only [Result.andThen, Option.isSome_none, Bool.false_eq_true, if_false]
  rw [Sem.run_bind, hb]
  rfl

theorem slOk_spot {F w0 β H w} (hs : Sim F w0 β H w) {b m l : Nat} (h : slOk H b m l = true) : l = 0 ∨ m = l ∨ (β b).spot = none := by
  rw [slOk_0] at h
  simp only [slOk0, Bool.or_eq_true, decide_eq_true_eq] at h
  rcases h with h | h | h
  · exact .inl (Nat.eq_of_beq_eq_true h)
  · exact .inr (.inl h)
  · split at h
    · rename_i hH; exact .inr (.inr (hs.spot b _ hH (by simpa [AO.live] using h)))
    · cases h

theorem sl_conc {β : Pl} {nl : Bool} {b sz off m l : Nat} (hsp : l = 0 ∨ m = l ∨ (β b).spot = none) : (if m = l then (bif nl then none else some (⟨(β b).1, (β b).2 + off * sz, (β b).spot⟩ : Addr)) else (bif nl then none else some (⟨(β b).1, (β b).2 + off * sz, (β b).spot⟩ : Addr)).map (·.add (l * sz))) = bif nl then none else some ⟨(β b).1, (β b).2 + (off + cutOff m l) * sz, (β b).spot⟩ := by
  unfold cutOff
  cases nl
  · split
    · simp
    · rename_i hne
      rcases hsp with rfl | h | h
      · simp [Addr.add]
      · exact absurd h hne
      · rw [h]; simp [addr_add, Nat.add_mul, Nat.add_assoc]
  · split <;> rfl
end Go.Vs

namespace Go.Vs
open Go Go.RowKit
set_option linter.unusedSimpArgs false
set_option linter.unusedVariables false

theorem sb0 {P : Program} {w : World} {b : Bool} {len cap : Nat} : (Instr.sliceBounds b len cap none none none).run P w = .ok (0, len, cap) w := by
  simp [Instr.sliceBounds, go_sem]
theorem sb1 {P : Program} {w : World} {b : Bool} {len cap : Nat} {k : IntKind} {l : Int} (h : inC l len = true) : (Instr.sliceBounds b len cap (some (.int k l)) none none).run P w = .ok (l.toNat, len, cap) w := by
  simp only [Instr.sliceBounds]
  simp only [Sem.run_bind, Sem.run_pure, Result.andThen]
  rw [run_sliceBound (inC_iff.1 h)]
theorem sb2 {P : Program} {w : World} {b : Bool} {len cap : Nat} {k : IntKind} {h : Int} (hh : inC h cap = true) : (Instr.sliceBounds b len cap none (some (.int k h)) none).run P w = .ok (0, h.toNat, cap) w := by
  simp only [Instr.sliceBounds]
  simp only [Sem.run_bind, Sem.run_pure, Result.andThen]
  rw [run_sliceBound (inC_iff.1 hh)]
theorem sb3 {P : Program} {w : World} {b : Bool} {len cap : Nat} {k k' : IntKind} {l h : Int} (hh : inC h cap = true) (hl : inC l h.toNat = true) : (Instr.sliceBounds b len cap (some (.int k' l)) (some (.int k h)) none).run P w = .ok (l.toNat, h.toNat, cap) w := by
  simp only [Instr.sliceBounds]
  simp only [Sem.run_bind, Sem.run_pure, Result.andThen]
  rw [run_sliceBound (inC_iff.1 hh)]
  simp only [Sem.run_bind, Sem.run_pure, Result.andThen]
  rw [run_sliceBound (inC_iff.1 hl)]
theorem sb4 {P : Program} {w : World} {b : Bool} {len cap : Nat} {k k' k'' : IntKind} {l h m : Int} (hm : inC m cap = true) (hh : inC h m.toNat = true) (hl : inC l h.toNat = true) : (Instr.sliceBounds b len cap (some (.int k' l)) (some (.int k h)) (some (.int k'' m))).run P w = .ok (l.toNat, h.toNat, m.toNat) w := by
  simp only [Instr.sliceBounds]
  simp only [Sem.run_bind, Sem.run_pure, Result.andThen]
  rw [run_sliceBound (inC_iff.1 hm)]
  simp only [Sem.run_bind, Sem.run_pure, Result.andThen]
  rw [run_sliceBound (inC_iff.1 hh)]
  simp only [Sem.run_bind, Sem.run_pure, Result.andThen]
  rw [run_sliceBound (inC_iff.1 hl)]

theorem map_none {α β : Type} {f : α → β} {x : Option α} (h : x.map f = none) : x = none := by cases x <;> simp_all
theorem map_some {α β : Type} {f : α → β} {x : Option α} {y : β} (h : x.map f = some y) : ∃ a, x = some a ∧ f a = y := by cases x <;> simp_all

theorem sliceH_tells {P o ρ H t} {T : TypeId} {x : Operand} {lo hi mx : Option Operand} (ho : o.op = .slice T x lo hi mx) (h : sliceH P T (ρ x) (lo.map ρ) (hi.map ρ) (mx.map ρ) H = some t) : Tells P o ρ H t := by
  unfold sliceH at h
  split at h
  · rename_i b sz off len cap hx
    split at h
    rotate_left
    · cases h
    rename_i e he
    split at h
    rotate_left
    · cases h
    rename_i n hn
    split at h
    rotate_left
    · cases h
    rename_i hnz
    obtain rfl := Nat.eq_of_beq_eq_true hnz
    split at h
    · rename_i h1 h2 h3
      have h1 := map_none h1; have h2 := map_none h2; have h3 := map_none h3
      subst h1; subst h2; subst h3
      cases h
      refine tells_value fun β ev F w0 w hev hs => ?_
      rw [slice_run ho (underlying_slice he) hn (hev x _ hx) sb0, sl_conc (.inl rfl)]
      simp [AV.conc]
    · rename_i k l h1 h2 h3
      have h1 := map_none h1; have h2 := map_none h2; obtain ⟨y, rfl, hy⟩ := map_some h3
      subst h1; subst h2
      cases h
      refine tells_need fun hc => tells_value fun β ev F w0 w hev hs => ?_
      simp only [Bool.and_eq_true] at hc
      rw [slice_run ho (underlying_slice he) hn (hev x _ hx) (by rw [Option.map_some, hev y _ hy]; exact sb1 hc.1), sl_conc (slOk_spot hs hc.2)]
      simp [AV.conc]
    · rename_i k l h1 h2 h3
      have h1 := map_none h1; have h3 := map_none h3; obtain ⟨y, rfl, hy⟩ := map_some h2
      subst h1; subst h3
      cases h
      refine tells_need fun hc => tells_value fun β ev F w0 w hev hs => ?_
      rw [slice_run ho (underlying_slice he) hn (hev x _ hx) (by rw [Option.map_some, hev y _ hy]; exact sb2 hc), sl_conc (.inl rfl)]
      simp [AV.conc]
    · rename_i k l k' l' h1 h2 h3
      have h1 := map_none h1; obtain ⟨y, rfl, hy⟩ := map_some h2; obtain ⟨z, rfl, hz⟩ := map_some h3
      subst h1
      cases h
      refine tells_need fun hc => tells_value fun β ev F w0 w hev hs => ?_
      simp only [Bool.and_eq_true] at hc
      rw [slice_run ho (underlying_slice he) hn (hev x _ hx) (by rw [Option.map_some, Option.map_some, hev y _ hy, hev z _ hz]; exact sb3 hc.1.1 hc.1.2), sl_conc (slOk_spot hs hc.2)]
      simp [AV.conc]
    · rename_i k l k' l' k'' l'' h1 h2 h3
      obtain ⟨u, rfl, hu⟩ := map_some h1; obtain ⟨y, rfl, hy⟩ := map_some h2; obtain ⟨z, rfl, hz⟩ := map_some h3
      cases h
      refine tells_need fun hc => tells_value fun β ev F w0 w hev hs => ?_
      simp only [Bool.and_eq_true] at hc
      rw [slice_run ho (underlying_slice he) hn (hev x _ hx) (by rw [Option.map_some, Option.map_some, Option.map_some, hev y _ hy, hev z _ hz, hev u _ hu]; exact sb4 hc.1.1.1 hc.1.1.2 hc.1.2), sl_conc (slOk_spot hs hc.2)]
      simp [AV.conc]
    · cases h
  · rename_i s hx
    split at h
    rotate_left
    · cases h
    rename_i hst
    split at h
    · rename_i h1 h2 h3
      have h1 := map_none h1; have h2 := map_none h2; have h3 := map_none h3
      subst h1; subst h2; subst h3
      cases h
      refine tells_value fun β ev F w0 w hev hs => ?_
      rw [strslice_run ho (underlying_string hst) (hev x _ hx) sb0]; rfl
    · rename_i k l h1 h2 h3
      have h1 := map_none h1; have h2 := map_none h2; obtain ⟨y, rfl, hy⟩ := map_some h3
      subst h1; subst h2
      cases h
      refine tells_need fun hc => tells_value fun β ev F w0 w hev hs => ?_
      rw [strslice_run ho (underlying_string hst) (hev x _ hx) (by rw [Option.map_some, hev y _ hy]; exact sb1 hc)]; rfl
    · rename_i k l h1 h2 h3
      have h1 := map_none h1; have h3 := map_none h3; obtain ⟨y, rfl, hy⟩ := map_some h2
      subst h1; subst h3
      cases h
      refine tells_need fun hc => tells_value fun β ev F w0 w hev hs => ?_
      rw [strslice_run ho (underlying_string hst) (hev x _ hx) (by rw [Option.map_some, hev y _ hy]; exact sb2 hc)]; rfl
    · rename_i k l k' l' h1 h2 h3
      have h1 := map_none h1; obtain ⟨y, rfl, hy⟩ := map_some h2; obtain ⟨z, rfl, hz⟩ := map_some h3
      subst h1
      cases h
      refine tells_need fun hc => tells_value fun β ev F w0 w hev hs => ?_
      simp only [Bool.and_eq_true] at hc
      rw [strslice_run ho (underlying_string hst) (hev x _ hx) (by rw [Option.map_some, Option.map_some, hev y _ hy, hev z _ hz]; exact sb3 hc.1 hc.2)]; rfl
    · cases h
  · rename_i len cap hx
    split at h
    rotate_left
    · cases h
    rename_i e he
    split at h
    rotate_left
    · cases h
    rename_i n hn
    split at h
    · rename_i h1 h2 h3
      have h1 := map_none h1; have h2 := map_none h2; have h3 := map_none h3
      subst h1; subst h2; subst h3
      cases h
      refine tells_value fun β ev F w0 w hev hs => ?_
      rw [slice_run ho (underlying_slice he) hn (hev x _ hx) sb0]
      simp [AV.conc]
    · rename_i k l h1 h2 h3
      have h1 := map_none h1; have h2 := map_none h2; obtain ⟨y, rfl, hy⟩ := map_some h3
      subst h1; subst h2
      cases h
      refine tells_need fun hc => tells_value fun β ev F w0 w hev hs => ?_
      rw [slice_run ho (underlying_slice he) hn (hev x _ hx) (by rw [Option.map_some, hev y _ hy]; exact sb1 hc)]
      simp [AV.conc]
    · rename_i k l h1 h2 h3
      have h1 := map_none h1; have h3 := map_none h3; obtain ⟨y, rfl, hy⟩ := map_some h2
      subst h1; subst h3
      cases h
      refine tells_need fun hc => tells_value fun β ev F w0 w hev hs => ?_
      rw [slice_run ho (underlying_slice he) hn (hev x _ hx) (by rw [Option.map_some, hev y _ hy]; exact sb2 hc)]
      simp [AV.conc]
    · rename_i k l k' l' h1 h2 h3
      have h1 := map_none h1; obtain ⟨y, rfl, hy⟩ := map_some h2; obtain ⟨z, rfl, hz⟩ := map_some h3
      subst h1
      cases h
      refine tells_need fun hc => tells_value fun β ev F w0 w hev hs => ?_
      simp only [Bool.and_eq_true] at hc
      rw [slice_run ho (underlying_slice he) hn (hev x _ hx) (by rw [Option.map_some, Option.map_some, hev y _ hy, hev z _ hz]; exact sb3 hc.1 hc.2)]
      simp [AV.conc]
    · cases h
  · cases h

/-! ### division, shifts, nil -/
def arithH (op : BinOp) (x y : Option AV) : Option OutT :=
  match op, x, y with
  | .quo, some (.val (.int k a)), some (.val (.int k' b)) => if k = k' then some (.need (!(decide (b = 0))) (rv (.val (.int k (k.wrap (a.tdiv b)))))) else none
  | .rem, some (.val (.int k a)), some (.val (.int k' b)) => if k = k' then some (.need (!(decide (b = 0))) (rv (.val (.int k (a.tmod b))))) else none
  | .shl, some (.val (.int k a)), some (.val (.int _ b)) => some (.need (decide (0 ≤ b)) (rv (.val (.int k (k.wrap (a * 2 ^ (min b.toNat k.bits)))))))
  | .shr, some (.val (.int k a)), some (.val (.int _ b)) => some (.need (decide (0 ≤ b)) (rv (.val (.int k (a.fdiv (2 ^ (min b.toNat k.bits)))))))
  | _, _, _ => none

def nilOf : Option AV → Option Bool
  | some (.ptr _ _) => some false
  | some (.pel _ _ _ _) => some false
  | some (.sl nl _ _ _ _ _) => some nl
  | _ => none

def isNilC : Option AV → Bool
  | some (.val (.pointer none)) => true
  | some (.val (.slice none _ _)) => true
  | _ => false

def isPtrT (P : Program) (t : TypeId) : Bool := match P.underlying t with | some (.pointer _) => true | _ => false

def nilEqH (P : Program) (op : BinOp) (T : TypeId) (x y : Option AV) : Option OutT :=
  match op, x, y with
  | .eql, some (.ptr _ _), some (.val (.pointer none)) => if isPtrT P T then some (rv (.val (.bool false))) else none
  | .eql, some (.pel _ _ _ _), some (.val (.pointer none)) => if isPtrT P T then some (rv (.val (.bool false))) else none
  | .neq, some (.ptr _ _), some (.val (.pointer none)) => if isPtrT P T then some (rv (.val (.bool true))) else none
  | .neq, some (.pel _ _ _ _), some (.val (.pointer none)) => if isPtrT P T then some (rv (.val (.bool true))) else none
  | .eql, some (.sl nl _ _ _ _ _), some (.val (.slice none _ _)) => match sliceT P T with | some _ => some (rv (.val (.bool nl))) | none => none
  | .neq, some (.sl nl _ _ _ _ _), some (.val (.slice none _ _)) => match sliceT P T with | some _ => some (rv (.val (.bool (!nl)))) | none => none
  | _, _, _ => none

theorem bin_run {P : Program} {o : Oper} {ev : Operand → Value} {w : World} {op : BinOp} {T T' : TypeId} {x y : Operand} (ho : o.op = .binOp op T x y T') {v : Value} (hg : eqGuard op T x y (ev x) (ev y) = pure ()) (h : (binOp op T (ev x) (ev y)).run P w = .ok v w) :
    (execOp ev o).run P w = .ok (.value v) w := by
  have e1 : (execOp ev o) = (do let v ← (do eqGuard op T x y (ev x) (ev y); binOp op T (ev x) (ev y)); pure (.value v)) := by simp [execOp, ho]
  rw [e1, Sem.run_bind, Sem.run_bind, hg]
  simp only [Sem.run_pure, Result.andThen, h]

theorem arithH_tells {P o ρ H t} {op : BinOp} {T T' : TypeId} {x y : Operand} (ho : o.op = .binOp op T x y T') (h : arithH op (ρ x) (ρ y) = some t) : Tells P o ρ H t := by
  unfold arithH at h
  split at h
  · rename_i k a k' b hx hy
    split at h
    rotate_left
    · cases h
    rename_i hk
    subst hk
    cases h
    refine tells_need fun hc => tells_value fun β ev F w0 w hev hs => bin_run ho ?_ ?_
    · rw [hev x _ hx]; simp only [AV.conc, go_sem]
    · rw [hev x _ hx, hev y _ hy]; simp only [AV.conc, go_sem, Op.intDiv]; rw [if_neg (by simpa using hc)]; simp [go_sem]
  · rename_i k a k' b hx hy
    split at h
    rotate_left
    · cases h
    rename_i hk
    subst hk
    cases h
    refine tells_need fun hc => tells_value fun β ev F w0 w hev hs => bin_run ho ?_ ?_
    · rw [hev x _ hx]; simp only [AV.conc, go_sem]
    · rw [hev x _ hx, hev y _ hy]; simp only [AV.conc, go_sem, Op.intDiv]; rw [if_neg (by simpa using hc)]; simp [go_sem]
  · rename_i k a k' b hx hy
    cases h
    refine tells_need fun hc => tells_value fun β ev F w0 w hev hs => bin_run ho ?_ ?_
    · rw [hev x _ hx]; simp only [AV.conc, go_sem]
    · have hc := of_decide_eq_true hc
      rw [hev x _ hx, hev y _ hy]; simp only [AV.conc, binOp, Op.shift]; rw [if_neg (by omega)]; rfl
  · rename_i k a k' b hx hy
    cases h
    refine tells_need fun hc => tells_value fun β ev F w0 w hev hs => bin_run ho ?_ ?_
    · rw [hev x _ hx]; simp only [AV.conc, go_sem]
    · have hc := of_decide_eq_true hc
      rw [hev x _ hx, hev y _ hy]; simp only [AV.conc, binOp, Op.shift]; rw [if_neg (by omega)]; rfl
  · cases h

theorem eqIn_ptr_nil {P : Program} {T e d : Nat} {w : World} {a : Addr} (he : P.underlying T = some (.pointer e)) : (Op.equalIn (d + 1) T (.pointer (some a)) (.pointer none)).run P w = .ok false w := by
  unfold Op.equalIn
  rw [Sem.run_bind, run_underlying he]; rfl
theorem eqIn_slice_nil {P : Program} {T e d : Nat} {w : World} {a : Addr} {n c n' c' : Nat} (he : P.underlying T = some (.slice e)) : (Op.equalIn (d + 1) T (.slice (some a) n c) (.slice none n' c')).run P w = .ok false w := by
  unfold Op.equalIn
  rw [Sem.run_bind, run_underlying he]; rfl
theorem eq_ptr_nil {P : Program} {T e : TypeId} {w : World} {a : Addr} (he : P.underlying T = some (.pointer e)) : (Op.equal T (.pointer (some a)) (.pointer none)).run P w = .ok false w := eqIn_ptr_nil (d := 9999) he
theorem eq_slice_nil {P : Program} {T e : TypeId} {w : World} {a : Addr} {n c n' c' : Nat} (he : P.underlying T = some (.slice e)) : (Op.equal T (.slice (some a) n c) (.slice none n' c')).run P w = .ok false w := eqIn_slice_nil (d := 9999) he

theorem nil_run {P : Program} {T : TypeId} {w : World} {u v : Value} {op : BinOp} (hop : op = .eql ∨ op = .neq) (h : (Op.equal T u v).run P w = .ok false w)
    (hu : (∃ a b, u = .pointer a ∧ v = .pointer b) ∨ (∃ a n c a' n' c', u = .slice a n c ∧ v = .slice a' n' c')) : (binOp op T u v).run P w = .ok (.bool (op matches .neq)) w := by
  rcases hop with rfl | rfl <;> rcases hu with ⟨a, b, rfl, rfl⟩ | ⟨a, n, c, a', n', c', rfl, rfl⟩ <;> simp only [binOp] <;> rw [Sem.run_bind, h] <;> rfl

theorem eqIn_slice_nils {P : Program} {T e d : Nat} {w : World} {n c n' c' : Nat} (he : P.underlying T = some (.slice e)) : (Op.equalIn (d + 1) T (.slice none n c) (.slice none n' c')).run P w = .ok true w := by
  unfold Op.equalIn
  rw [Sem.run_bind, run_underlying he]; rfl
theorem eq_slice_nils {P : Program} {T e : TypeId} {w : World} {n c n' c' : Nat} (he : P.underlying T = some (.slice e)) : (Op.equal T (.slice none n c) (.slice none n' c')).run P w = .ok true w := eqIn_slice_nils (d := 9999) he

theorem nils_run {P : Program} {T e : TypeId} {w : World} {op : BinOp} (hop : op = .eql ∨ op = .neq) {n c n' c' : Nat} (he : P.underlying T = some (.slice e)) : (binOp op T (.slice none n c) (.slice none n' c')).run P w = .ok (.bool (op matches .eql)) w := by
  rcases hop with rfl | rfl <;> simp only [binOp] <;> rw [Sem.run_bind, eq_slice_nils he] <;> rfl

theorem nlEql_run {P : Program} {T e : TypeId} {w : World} {nl : Bool} {a : Addr} {n c n' c' : Nat} (he : P.underlying T = some (.slice e)) : (binOp .eql T (.slice (bif nl then none else some a) n c) (.slice none n' c')).run P w = .ok (.bool nl) w := by
  cases nl
  · exact nil_run (.inl rfl) (eq_slice_nil he) (.inr ⟨_, _, _, _, _, _, rfl, rfl⟩)
  · exact nils_run (.inl rfl) he
theorem nlNeq_run {P : Program} {T e : TypeId} {w : World} {nl : Bool} {a : Addr} {n c n' c' : Nat} (he : P.underlying T = some (.slice e)) : (binOp .neq T (.slice (bif nl then none else some a) n c) (.slice none n' c')).run P w = .ok (.bool (!nl)) w := by
  cases nl
  · exact nil_run (.inr rfl) (eq_slice_nil he) (.inr ⟨_, _, _, _, _, _, rfl, rfl⟩)
  · exact nils_run (.inr rfl) he

theorem underlying_ptr {P : Program} {T : TypeId} (h : isPtrT P T = true) : ∃ e, P.underlying T = some (.pointer e) := by
  unfold isPtrT at h; split at h
  · rename_i e he; exact ⟨e, he⟩
  · cases h

theorem nilEqH_tells {P o ρ H t} {op : BinOp} {T T' : TypeId} {x y : Operand} (ho : o.op = .binOp op T x y T') (h : nilEqH P op T (ρ x) (ρ y) = some t) : Tells P o ρ H t := by
  unfold nilEqH at h
  split at h
  all_goals first
    | (cases h; done)
    | (rename_i hx hy
       split at h
       rotate_left
       · cases h
       rename_i hT
       obtain ⟨e, he⟩ := underlying_ptr hT
       cases h
       refine tells_value fun β ev F w0 w hev hs => bin_run ho ?_ ?_
       · rw [hev x _ hx]; simp only [AV.conc, go_sem]
       · rw [hev x _ hx, hev y _ hy]
         simp only [AV.conc]
         exact nil_run (by simp) (eq_ptr_nil he) (.inl ⟨_, _, rfl, rfl⟩))
    | (rename_i hx hy
       split at h
       rotate_left
       · cases h
       rename_i e hT
       cases h
       refine tells_value fun β ev F w0 w hev hs => bin_run ho ?_ ?_
       · rw [hev x _ hx]; simp only [AV.conc, go_sem]
       · rw [hev x _ hx, hev y _ hy]
         simp only [AV.conc]
         first | exact nlEql_run (underlying_slice hT) | exact nlNeq_run (underlying_slice hT))
end Go.Vs

namespace Go.Vs
open Go Go.RowKit
set_option linter.unusedSimpArgs false
set_option linter.unusedVariables false

/-! ### rows: made, appended to -/
def zeroCol : Value → Nat → Option Col
  | .int k z, n => match decide (z = 0) with | true => some (.int k (List.replicate n 0)) | false => none
  | .bool b, n => match b with | false => some (.bool (List.replicate n false)) | true => none
  | .string s, n => match s.data.toList with | [] => some (.str (List.replicate n ByteArray.empty)) | _ => none
  | .slice none 0 0, n => some (.far n 0 0 (fun _ => ⟨true, 0, 0⟩) (fun _ => []))
  | _, _ => none

def zeroCols : List Value → Nat → Option (List Col)
  | [], _ => some []
  | v :: r, n => match zeroCol v n, zeroCols r n with | some c, some l => some (c :: l) | _, _ => none

theorem Holds.mk_int {ice : Nat → Obj → Prop} {k : IntKind} {l : List Int} {i : Nat} {z : Int} (h : l.getD i 0 = z) : Holds ice (.int k l) i (.int k z) := by rw [← h]; exact .int ..
theorem Holds.mk_bool {ice : Nat → Obj → Prop} {l : List Bool} {i : Nat} {z : Bool} (h : l.getD i false = z) : Holds ice (.bool l) i (.bool z) := by rw [← h]; exact .bool ..
theorem Holds.mk_str {ice : Nat → Obj → Prop} {l : List ByteArray} {i : Nat} {z : ByteArray} (h : l.getD i ByteArray.empty = z) : Holds ice (.str l) i (.string z) := by rw [← h]; exact .str ..

theorem getD_replicate {α : Type} {n i : Nat} {d : α} : (List.replicate n d).getD i d = d := by
  simp only [List.getD_eq_getElem?_getD, List.getElem?_replicate]; split <;> rfl

def colLen : Col → Nat
  | .int _ l => l.length
  | .bool l => l.length
  | .str l => l.length
  | .far n _ _ _ _ => n

theorem zeroCol_holds {ice : Nat → Obj → Prop} {v : Value} {n : Nat} {c : Col} (h : zeroCol v n = some c) : (∀ i, Holds ice c i v) ∧ colLen c = n := by
  unfold zeroCol at h
  split at h
  · split at h
    · rename_i hz; cases h; have := of_decide_eq_true hz; subst this
      exact ⟨fun i => .mk_int getD_replicate, by simp [colLen]⟩
    · cases h
  · split at h
    · cases h; exact ⟨fun i => .mk_bool getD_replicate, by simp [colLen]⟩
    · cases h
  · rename_i s
    split at h
    · rename_i hs; cases h
      have : s = ByteArray.empty := by cases s with | mk d => simp at hs; subst hs; rfl
      subst this
      exact ⟨fun i => .mk_str getD_replicate, by simp [colLen]⟩
    · cases h
  · cases h
    exact ⟨fun i => .far _ _ _ _ _ _ _ rfl (.none _ _), rfl⟩
  · cases h

theorem zeroCols_holds {ice : Nat → Obj → Prop} : ∀ {vs : List Value} {n : Nat} {cols : List Col}, zeroCols vs n = some cols → cols.length = vs.length ∧ ∀ (j : Nat) (c : Col), cols[j]? = some c → ∃ v, vs[j]? = some v ∧ (∀ i, Holds ice c i v) ∧ colLen c = n
  | [], n, cols, h => by simp only [zeroCols, Option.some.injEq] at h; subst h; exact ⟨rfl, fun j c h => by simp at h⟩
  | v :: r, n, cols, h => by
    simp only [zeroCols] at h
    split at h
    · rename_i c l hc hl
      cases h
      obtain ⟨h1, h2⟩ := zeroCols_holds (ice := ice) hl
      refine ⟨by simp [h1], fun j c' hj => ?_⟩
      cases j with
      | zero => simp at hj; subst hj; exact ⟨v, rfl, zeroCol_holds hc⟩
      | succ j => simp at hj; simpa using h2 j c' hj
    · cases h

def bytesOf? (P : Program) (t : TypeId) : Option Nat := (P.info? t).map (·.bytes)

def makeSliceH (P : Program) (t : TypeId) (l c : Option AV) (H : AHeap) : Option OutT :=
  match sliceT P t, l, c with
  | some e, some (.val (.int _ l)), some (.val (.int _ c)) =>
    match szOf P e, bytesOf? P e, zeroCells? P e with
    | some sz, some by_, some zs =>
      match zeroCols zs c.toNat with
      | some cols =>
        if Nat.beq zs.length sz && Nat.blt 0 sz && Nat.blt 0 by_ then
          some (.need (decide (0 ≤ l) && decide (l ≤ c) && decide ((by_ : Int) * c ≤ 281474976710656)) (.ret ⟨.sl false H.length sz 0 l.toNat c.toNat, [], [.arr true e c.toNat c.toNat cols]⟩))
        else none
      | none => none
    | _, _, _ => none
  | _, _, _ => none

theorem info_of {P : Program} {t : TypeId} {sz by_ : Nat} {zs : List Value} (h1 : szOf P t = some sz) (h2 : bytesOf? P t = some by_) (h3 : zeroCells? P t = some zs) : ∃ i z, P.info? t = some i ∧ i.size = sz ∧ i.bytes = by_ ∧ i.zero = some z ∧ z.cells.toList = zs := by
  simp only [szOf, bytesOf?, Option.map_eq_some_iff] at h1 h2
  obtain ⟨i, hi, rfl⟩ := h1
  obtain ⟨i', hi', rfl⟩ := h2
  rw [hi] at hi'; cases hi'
  unfold zeroCells? at h3
  rw [hi] at h3
  simp only [Option.map_eq_some_iff] at h3
  obtain ⟨z, hz, rfl⟩ := h3
  exact ⟨i, z, hi, rfl, rfl, hz, rfl⟩

theorem sl_new (β : Pl) (n x sz len cap : Nat) : (AV.sl false n sz 0 len cap).conc (β.ext n x) = .slice (some ⟨x, 0, none⟩) len cap := by simp [AV.conc, Pl.ext_new]

theorem makeSliceH_tells {P o ρ H t} {T : TypeId} {x y : Operand} (ho : o.op = .makeSlice T x y) (h : makeSliceH P T (ρ x) (ρ y) H = some t) : Tells P o ρ H t := by
  unfold makeSliceH at h
  split at h
  rotate_left
  · cases h
  rename_i e k l k' c he hx hy
  split at h
  rotate_left
  · cases h
  rename_i sz by_ zs hsz hby hzs
  split at h
  rotate_left
  · cases h
  rename_i cols hcols
  split at h
  rotate_left
  · cases h
  rename_i hc
  simp only [Bool.and_eq_true] at hc
  have c1 := Nat.eq_of_beq_eq_true hc.1.1
  have c2 : 0 < sz := by simpa using hc.1.2
  have c3 : 0 < by_ := by simpa using hc.2
  cases h
  refine tells_need fun hn => tells_new rfl (Nat.le_refl _) rfl fun β ev F w0 w hev hs => ?_
  simp only [Bool.and_eq_true, decide_eq_true_eq] at hn
  obtain ⟨⟨n1, n2⟩, n3⟩ := hn
  obtain ⟨i, z, hi, hisz, hiby, hz, hzc⟩ := info_of hsz hby hzs
  have h63 : c ≤ 9223372036854775807 := by
    have : c ≤ (by_ : Int) * c := by
      have : (1 : Int) * c ≤ (by_ : Int) * c := Int.mul_le_mul_of_nonneg_right (by omega) (by omega)
      omega
    omega
  have hrun := run_make (P := P) w T e i z (underlying_slice he) hi hz k k' l c n1 n2 (by rw [hiby]; exact n3) h63
  obtain ⟨hl1, hl2⟩ := zeroCols_holds (ice := β.ice) hcols
  refine ⟨.cells (madeCells z.cells (c.toNat * i.size)) e, fun _ => ⟨_, (0, 0), _, rfl, fun _ => freeM_zero _, by simp [size_madeCells, hl1, hisz, c1], fun a ha j col hcol => ?_⟩, ?_⟩
  · have hj : j < cols.length := (List.getElem?_eq_some_iff.1 hcol).1
    have hzl : z.cells.size = sz := by rw [← Array.length_toList, hzc, c1]
    have hlt : a * cols.length + j < c.toNat * i.size := by
      rw [hl1, c1, hisz]
      have : (a + 1) * sz ≤ c.toNat * sz := Nat.mul_le_mul_right _ ha
      rw [Nat.succ_mul] at this
      omega
    have hmod : (a * cols.length + j) % z.cells.size = j := by
      rw [hzl, hl1, c1, Nat.add_comm, Nat.add_mul_mod_self_right]; exact Nat.mod_eq_of_lt (by omega)
    rw [Nat.zero_add]
    simp only [madeCells, Array.getElem?_map, Array.getElem?_range, hlt, if_true, Option.map_some, hmod]
    obtain ⟨v, hv, hh, _⟩ := hl2 j col hcol
    have : z.cells.toList[j]? = zs[j]? := by rw [hzc]
    rw [hv] at this
    have hjz : j < z.cells.size := by omega
    refine ⟨v, ?_, hh a⟩
    rw [Array.getElem?_toList, Array.getElem?_eq_getElem hjz] at this
    rw [getElem!_pos z.cells j hjz]; exact this
  · have e1 : (execOp ev o) = (do let v ← Instr.makeSlice T (ev x) (ev y); pure (.value v)) := by simp [execOp, ho]
    rw [e1, Sem.run_bind, hev x _ hx, hev y _ hy, sl_new]
    simp only [AV.conc]
    rw [hrun]; rfl

/-! append -/
def cutCol (c : Col) (a n : Nat) : Col :=
  match c with
  | .int k l => .int k ((l.drop a).take n)
  | .bool l => .bool ((l.drop a).take n)
  | .str l => .str ((l.drop a).take n)
  | .far _ T w hd cols => .far n T w (fun i => hd (a + i)) (fun i => cols (a + i))
def joinCol (a b : Col) : Option Col :=
  match a, b with
  | .int k l, .int k' l' => if k = k' then some (.int k (l ++ l')) else none
  | .bool l, .bool l' => some (.bool (l ++ l'))
  | .str l, .str l' => some (.str (l ++ l'))
  | .far n T w hd cols, .far n' T' w' hd' cols' =>
    if Nat.beq w 0 && Nat.beq n 0 then some (.far n' T' w' hd' cols')
    else if Nat.beq w w' && Nat.beq T T' then some (.far (n + n') T w (fun i => bif Nat.blt i n then hd i else hd' (i - n)) (fun i => bif Nat.blt i n then cols i else cols' (i - n)))
    else none
  | _, _ => none
def joinCols : List Col → List Col → Option (List Col)
  | [], [] => some []
  | a :: r, b :: s => match joinCol a b, joinCols r s with | some c, some l => some (c :: l) | _, _ => none
  | _, _ => none
def longEnough (n : Nat) : List Col → Bool
  | [] => true
  | c :: r => decide (n ≤ colLen c) && longEnough n r

theorem cutCol_holds {ice : Nat → Obj → Prop} {c : Col} {a n i : Nat} {v : Value} (hi : i < n) (h : Holds ice c (a + i) v) : Holds ice (cutCol c a n) i v := by
  cases h with
  | int k l _ => exact .mk_int (by simp [List.getD_eq_getElem?_getD, List.getElem?_take, hi, List.getElem?_drop])
  | bool l _ => exact .mk_bool (by simp [List.getD_eq_getElem?_getD, List.getElem?_take, hi, List.getElem?_drop])
  | str l _ => exact .mk_str (by simp [List.getD_eq_getElem?_getD, List.getElem?_take, hi, List.getElem?_drop])
  | far n T w hd cols _ _ hw hf => exact .far _ _ _ _ _ _ _ hw hf
theorem cutCol_len {c : Col} {a n : Nat} (h : a + n ≤ colLen c) : colLen (cutCol c a n) = n := by
  cases c <;> simp_all [cutCol, colLen] <;> omega

theorem getD_app {α : Type} {l l' : List α} {i : Nat} {d : α} : (l ++ l').getD i d = if i < l.length then l.getD i d else l'.getD (i - l.length) d := by
  simp only [List.getD_eq_getElem?_getD, List.getElem?_append]; split <;> rfl

theorem joinCol_holds {ice : Nat → Obj → Prop} {a b c : Col} (h : joinCol a b = some c) {i : Nat} {v : Value} (h1 : i < colLen a → Holds ice a i v) (h2 : ¬ i < colLen a → Holds ice b (i - colLen a) v) : Holds ice c i v := by
  unfold joinCol at h
  split at h
  · split at h
    · rename_i hk; cases h; subst hk
      simp only [colLen] at h1 h2
      rename_i k l l'
      by_cases hi : i < l.length
      · cases h1 hi; exact .mk_int (by rw [getD_app, if_pos hi])
      · have := h2 hi
        generalize hj : i - l.length = j at this
        cases this; exact .mk_int (by rw [getD_app, if_neg hi, hj])
    · cases h
  · cases h
    simp only [colLen] at h1 h2
    rename_i l l'
    by_cases hi : i < l.length
    · cases h1 hi; exact .mk_bool (by rw [getD_app, if_pos hi])
    · have := h2 hi
      generalize hj : i - l.length = j at this
      cases this; exact .mk_bool (by rw [getD_app, if_neg hi, hj])
  · cases h
    simp only [colLen] at h1 h2
    rename_i l l'
    by_cases hi : i < l.length
    · cases h1 hi; exact .mk_str (by rw [getD_app, if_pos hi])
    · have := h2 hi
      generalize hj : i - l.length = j at this
      cases this; exact .mk_str (by rw [getD_app, if_neg hi, hj])
  · rename_i n T w hd cols n' T' w' hd' cols'
    split at h
    · rename_i hz
      simp only [Bool.and_eq_true] at hz
      cases h
      have := Nat.eq_of_beq_eq_true hz.2
      subst this
      exact h2 (by simp [colLen])
    · split at h
      · rename_i hk
        simp only [Bool.and_eq_true] at hk
        cases h
        have hw := Nat.eq_of_beq_eq_true hk.1
        have hT := Nat.eq_of_beq_eq_true hk.2
        subst hw; subst hT
        simp only [colLen] at h1 h2
        by_cases hi : i < n
        · cases h1 hi with
          | far _ _ _ _ _ _ _ hw hf =>
            have hb : Nat.blt i n = true := by simpa using hi
            exact .far _ _ _ _ _ _ _ (by simp only [hb, cond_true]; exact hw) (by simp only [hb, cond_true]; exact hf)
        · have hh := h2 hi
          generalize hj : i - n = j at hh
          cases hh with
          | far _ _ _ _ _ _ _ hw hf =>
            have hb : Nat.blt i n = false := Bool.eq_false_iff.2 (by simpa using hi)
            exact .far _ _ _ _ _ _ _ (by simp only [hb, cond_false, hj]; exact hw) (by simp only [hb, cond_false, hj]; exact hf)
      · cases h
  · cases h

theorem joinCols_get : ∀ {as bs cs : List Col}, joinCols as bs = some cs → as.length = bs.length ∧ cs.length = as.length ∧ ∀ (j : Nat) (c : Col), cs[j]? = some c → ∃ a b, as[j]? = some a ∧ bs[j]? = some b ∧ joinCol a b = some c
  | [], [], cs, h => by simp only [joinCols, Option.some.injEq] at h; subst h; exact ⟨rfl, rfl, fun j c h => by simp at h⟩
  | a :: r, b :: s, cs, h => by
    simp only [joinCols] at h
    split at h
    · rename_i c l hc hl
      cases h
      obtain ⟨h1, h2, h3⟩ := joinCols_get hl
      refine ⟨by simp [h1], by simp [h2], fun j c' hj => ?_⟩
      cases j with
      | zero => simp at hj; subst hj; exact ⟨a, b, rfl, rfl, hc⟩
      | succ j => simp at hj; simpa using h3 j c' hj
    · cases h
  | [], _ :: _, _, h => by simp [joinCols] at h
  | _ :: _, [], _, h => by simp [joinCols] at h

theorem longEnough_get {n : Nat} : ∀ {cols : List Col}, longEnough n cols = true → ∀ (j : Nat) (c : Col), cols[j]? = some c → n ≤ colLen c
  | [], _, j, c, h => by simp at h
  | x :: r, h, j, c, hj => by
    simp only [longEnough, Bool.and_eq_true, decide_eq_true_eq] at h
    cases j with
    | zero => simp at hj; subst hj; exact h.1
    | succ j => simp at hj; exact longEnough_get h.2 j c hj

/-- What is taken as a row of elements: under a condition, so many, their columns. -/
def rowsOf (P : Program) (u : TypeId) (zs : List Value) (x : Option AV) (H : AHeap) : Option (Bool × Nat × List Col) :=
  match x with
  | some (.val (.slice none 0 _)) => match sliceT P u with | some _ => (zeroCols zs 0).map fun cs => (true, 0, cs) | none => none
  | some (.sl nl b sz off len cap) =>
    match sliceT P u, H[b]? with
    | some _, some (some (.arr _ _ _ n cols)) => if Nat.beq sz cols.length && Nat.beq sz zs.length then some (decide (off + len ≤ n) && (longEnough (off + len) cols && (!nl || decide (len = 0))), len, cols.map fun c => cutCol c off len) else none
    | _, _ => none
  | some (.val (.string s)) => if isStringT P u && Nat.beq zs.length 1 then some (true, s.size, [.int .u8 (s.data.toList.map fun b => (b.toNat : Int))]) else none
  | _ => none

/-- Cells hold n elements of these columns. -/
structure RowsAre (ice : Nat → Obj → Prop) (cols : List Col) (n : Nat) (cells : List Value) : Prop where
  len : cells.length = n * cols.length
  at_ : ∀ i, i < n → ∀ (j : Nat) (c : Col), cols[j]? = some c → ∃ v, cells[i * cols.length + j]? = some v ∧ Holds ice c i v

theorem Holds.cellV {ice : Nat → Obj → Prop} {c : Col} {i : Nat} {v : Value} (h : Holds ice c i v) : cellV v = true := by
  cases h with
  | far n T w hd cols i v hw hf =>
    generalize hd i = x at hf
    cases hf <;> rfl
  | _ => rfl

theorem place_of {w k n : Nat} (h : k < n * w) : ∃ i j, i < n ∧ j < w ∧ k = i * w + j := by
  have hw : 0 < w := by
    rcases Nat.eq_zero_or_pos w with h0 | h0
    · rw [h0] at h; omega
    · exact h0
  exact ⟨k / w, k % w, Nat.div_lt_of_lt_mul (by rw [Nat.mul_comm]; exact h), Nat.mod_lt _ hw, by rw [Nat.mul_comm]; exact (Nat.div_add_mod k w).symm⟩

theorem RowsAre.cellV {ice : Nat → Obj → Prop} {cols : List Col} {n : Nat} {cells : List Value} (h : RowsAre ice cols n cells) : ∀ v ∈ cells, cellV v = true := by
  intro v hv
  obtain ⟨k, hk, rfl⟩ := List.getElem_of_mem hv
  obtain ⟨i, j, hi, hj, hke⟩ := place_of (by rw [← h.len]; exact hk)
  obtain ⟨u, hu, hh⟩ := h.at_ i hi j cols[j] (List.getElem?_eq_getElem hj)
  rw [← hke, List.getElem?_eq_getElem hk] at hu
  cases hu
  exact hh.cellV

/-- What is read of a row; where it stands. -/
theorem rowsOf_run {P : Program} {u : TypeId} {zs : List Value} {x : Option AV} {H : AHeap} {g : Bool} {n : Nat} {cols : List Col} (h : rowsOf P u zs x H = some (g, n, cols)) (hg : g = true) {β F w0 w} (hs : Sim F w0 β H w) {v : AV} (hx : x = some v) (hzs : 0 < zs.length) :
    cols.length = zs.length ∧ (∀ (j : Nat) (c : Col), cols[j]? = some c → colLen c = n) ∧ ((∃ e', P.underlying u = some (.slice e')) ∨ P.underlying u = some .string) ∧
    ∃ cells, RowsAre β.ice cols n cells ∧ (∀ w2 : World, w2.heap = w.heap → (Builtin.lenOf (v.conc β)).run P w2 = .ok n w2 ∧ (Builtin.firstCells zs.length n (v.conc β)).run P w2 = .ok cells.toArray w2) ∧
      (∀ nl b sz off len cap, v = .sl nl b sz off len cap → 0 < len → ∃ c T fz, w.heap[(β b).1]? = some (.cells c T fz) ∧ ∀ (k : Nat) (u : Value), cells[k]? = some u → c[(β b).2 + off * sz + k]? = some u) := by
  subst hx
  unfold rowsOf at h
  split at h
  · rename_i hx
    simp only [Option.some.injEq] at hx
    subst hx
    split at h
    rotate_left
    · cases h
    rename_i e' he'
    simp only [Option.map_eq_some_iff, Prod.mk.injEq] at h
    obtain ⟨cs, hcs, rfl, rfl, rfl⟩ := h
    obtain ⟨hl, hz⟩ := zeroCols_holds (ice := β.ice) hcs
    refine ⟨hl, fun j c hj => (hz j c hj).choose_spec.2.2, .inl ⟨_, underlying_slice he'⟩, [], ⟨by simp, fun i hi => by omega⟩, fun w2 hw2 => ⟨rfl, ?_⟩, fun nl b sz off len cap h => by cases h⟩
    simp [Builtin.firstCells, AV.conc, go_sem]
  · rename_i nl b sz off len cap hx
    simp only [Option.some.injEq] at hx
    subst hx
    split at h
    rotate_left
    · cases h
    rename_i e' rw' T' room m cols' he' hH
    split at h
    rotate_left
    · cases h
    rename_i hsz
    simp only [Bool.and_eq_true] at hsz
    have s1 := Nat.eq_of_beq_eq_true hsz.1
    have s2 := Nat.eq_of_beq_eq_true hsz.2
    simp only [Option.some.injEq, Prod.mk.injEq] at h
    obtain ⟨h1, h2, rfl⟩ := h
    subst h2
    rw [hg] at h1
    simp only [Bool.and_eq_true, decide_eq_true_eq, Bool.or_eq_true, Bool.not_eq_true'] at h1
    have hlen : (cols'.map fun c => cutCol c off len).length = zs.length := by rw [List.length_map, ← s1, s2]
    refine ⟨hlen, fun j c' hj => ?_, .inl ⟨_, underlying_slice he'⟩, ?_⟩
    · rw [List.getElem?_map, Option.map_eq_some_iff] at hj
      obtain ⟨c0, hc0, rfl⟩ := hj
      exact cutCol_len (longEnough_get h1.2.1 j c0 hc0)
    · rcases Nat.eq_zero_or_pos len with h0 | hpos
      · subst h0
        refine ⟨[], ⟨by simp, fun i hi => by omega⟩, fun w2 hw2 => ⟨rfl, ?_⟩, fun nl b sz off len cap h hp => by cases h; omega⟩
        cases nl
        · simp [Builtin.firstCells, AV.conc, loadCells, loadCellsFrom, go_sem]
        · simp [Builtin.firstCells, AV.conc, go_sem]
      · have hnl : nl = false := by rcases h1.2.2 with h | h; exact h; omega
        subst hnl
        have hwf : m ≤ room := hs.wf b _ hH
        obtain ⟨ob, hob, c, fz, T0, rfl, hfz, hrm, hcs⟩ := hs.obj b _ hH (show 0 < room by omega)
        have hsp := hs.spot b _ hH (show 0 < room by omega)
        have hcell : ∀ k, k < len * zs.length → (β b).2 + off * sz + k < c.size := fun k hk => by
          obtain ⟨i, j, hi, hj, hke⟩ := place_of hk
          obtain ⟨v, hv, _⟩ := hcs (off + i) (by omega) j cols'[j] (List.getElem?_eq_getElem (by omega))
          have := (Array.getElem?_eq_some_iff.1 hv).1
          rw [← s1, Nat.add_mul] at this
          rw [hke, ← s2]; omega
        have hslice : ((c.toList.drop ((β b).2 + off * sz)).take (len * zs.length)).length = len * zs.length := by
          rw [List.length_take, List.length_drop, Array.length_toList (xs := c)]
          have : 0 < len * zs.length := Nat.mul_pos hpos hzs
          have := hcell (len * zs.length - 1) (by omega)
          omega
        have hget : ∀ (k : Nat) (u : Value), ((c.toList.drop ((β b).2 + off * sz)).take (len * zs.length))[k]? = some u → c[(β b).2 + off * sz + k]? = some u := fun k u hu => by
          rw [List.getElem?_take] at hu
          split at hu
          · rw [List.getElem?_drop, Array.getElem?_toList] at hu; exact hu
          · cases hu
        refine ⟨(c.toList.drop ((β b).2 + off * sz)).take (len * zs.length), ⟨by rw [hslice, hlen], fun i hi j cc hj => ?_⟩, fun w2 hw2 => ⟨rfl, ?_⟩, fun nl b' sz' off' len' cap' h _ => by cases h; exact ⟨c, T0, fz, hob, hget⟩⟩
        · rw [List.getElem?_map, Option.map_eq_some_iff] at hj
          obtain ⟨c0, hc0, rfl⟩ := hj
          obtain ⟨v, hv, hh⟩ := hcs (off + i) (by omega) j c0 hc0
          refine ⟨v, ?_, cutCol_holds hi hh⟩
          have hjl : j < zs.length := by have := (List.getElem?_eq_some_iff.1 hc0).1; omega
          have hlt : i * zs.length + j < len * zs.length := by
            have : (i + 1) * zs.length ≤ len * zs.length := Nat.mul_le_mul_right _ hi
            rw [Nat.succ_mul] at this; omega
          rw [hlen, List.getElem?_take, if_pos hlt, List.getElem?_drop, Array.getElem?_toList, ← hv]
          congr 1
          rw [← s1, s2, Nat.add_mul]; omega
        · simp only [AV.conc, Builtin.firstCells, cond_false, hsp]
          have := run_loadCells (P := P) (w := w2) (b := (β b).1) (o := (β b).2 + off * sz) ((c.toList.drop ((β b).2 + off * sz)).take (len * zs.length)) (fun k v hk => by
            rw [cell_of (by rw [hw2]; exact hob)]; exact hget k v hk)
          rw [hslice] at this
          exact this
  · rename_i s hx
    simp only [Option.some.injEq] at hx
    subst hx
    split at h
    rotate_left
    · cases h
    rename_i hst
    simp only [Bool.and_eq_true] at hst
    have s1 := Nat.eq_of_beq_eq_true hst.2
    simp only [Option.some.injEq, Prod.mk.injEq] at h
    obtain ⟨_, rfl, rfl⟩ := h
    refine ⟨by simp [s1], fun j c hj => ?_, .inr (underlying_string hst.1), s.data.toList.map (fun b => Value.int .u8 (b.toNat : Int)), ⟨by simp, fun i hi j c hj => ?_⟩, fun w2 hw2 => ⟨rfl, ?_⟩, fun nl b sz off len cap h => by cases h⟩
    · cases j with
      | zero => simp at hj; subst hj; simp [colLen]
      | succ j => simp at hj
    · cases j with
      | succ j => simp at hj
      | zero =>
        simp at hj; subst hj
        have hi' : i < s.data.toList.length := by simpa using hi
        refine ⟨.int .u8 ((s.data.toList[i]).toNat : Int), by simp [List.getElem?_eq_getElem hi'], .mk_int ?_⟩
        simp [List.getD_eq_getElem?_getD, List.getElem?_eq_getElem hi']
    · simp only [AV.conc, Builtin.firstCells]
      have e1 : (s.extract 0 s.size).data = s.data := by simp
      rw [Sem.run_pure, e1]
      congr 1
      apply Array.ext'
      simp
  · cases h
end Go.Vs

namespace Go.Vs
open Go Go.RowKit
set_option linter.unusedSimpArgs false
set_option linter.unusedVariables false

theorem app_grow {P : Program} {w : World} {t u ty e : TypeId} {i : TypeInfo} {z : Value} (ht : P.underlying t = some (.slice e)) (hu : (∃ e', P.underlying u = some (.slice e')) ∨ P.underlying u = some .string) (hi : P.info? e = some i) (hz : i.zero = some z)
    {base : Option Addr} {sLen sCap n : Nat} {x : Value} {olds news : Array Value} (hlen : (Builtin.lenOf x).run P w = .ok n w) (hold : (Builtin.firstCells i.size sLen (.slice base sLen sCap)).run P w.drew = .ok olds w.drew) (hnew : (Builtin.firstCells i.size n x).run P w.drew = .ok news w.drew)
    (hg : sCap < sLen + n) (h63 : sLen + n ≤ 9223372036854775807) (hfit : Builtin.nextslicecap (sLen + n) sCap * i.bytes ≤ 281474976710656) :
    (Builtin.append_ #[t, u] ty #[.slice base sLen sCap, x]).run P w = .ok (.slice (some ⟨w.heap.size, 0, none⟩) (sLen + n) (grownCap w (sLen + n) sCap e)) (w.drew.alloc (.cells (olds ++ news ++ Builtin.zeroCells z.cells (grownCap w (sLen + n) sCap e - (sLen + n))) e)) := by
  have hn : ¬ (sLen + n ≤ sCap) := by omega
  have h63' : ¬ (9223372036854775807 < ((sLen : Int) + (n : Int))) := by omega
  have h48' : ¬ (281474976710656 < Builtin.nextslicecap (sLen + n) sCap * i.bytes) := by omega
  rcases hu with ⟨e', hu⟩ | hu <;> simp [Builtin.append_, run_underlying ht, run_underlying hu, sizeOf, typeInfo, zeroValue, hi, hz, hlen, hn, h63', h48', Question.forced, hold, hnew, newRow, grownCap]

theorem app_room {P : Program} {w : World} {t u ty e : TypeId} {i : TypeInfo} (ht : P.underlying t = some (.slice e)) (hu : (∃ e', P.underlying u = some (.slice e')) ∨ P.underlying u = some .string) (hi : P.info? e = some i)
    {a : Addr} {sLen sCap n : Nat} {x : Value} {news : Array Value} (hlen : (Builtin.lenOf x).run P w = .ok n w) (hnew : (Builtin.firstCells i.size n x).run P w = .ok news w) (hg : sLen + n ≤ sCap) {w' : World} (hst : (storeCells (a.add (sLen * i.size)) news.toList).run P w = .ok () w') :
    (Builtin.append_ #[t, u] ty #[.slice (some a) sLen sCap, x]).run P w = .ok (.slice (some a) (sLen + n) sCap) w' := by
  rcases hu with ⟨e', hu⟩ | hu <;> simp [Builtin.append_, run_underlying ht, run_underlying hu, sizeOf, typeInfo, hi, hlen, hg, hnew, hst]

theorem app_none {P : Program} {w : World} {t u ty e : TypeId} {i : TypeInfo} (ht : P.underlying t = some (.slice e)) (hu : (∃ e', P.underlying u = some (.slice e')) ∨ P.underlying u = some .string) (hi : P.info? e = some i)
    {sLen sCap n : Nat} {x : Value} {news : Array Value} (hlen : (Builtin.lenOf x).run P w = .ok n w) (hnew : (Builtin.firstCells i.size n x).run P w = .ok news w) (hg : sLen + n ≤ sCap) :
    (Builtin.append_ #[t, u] ty #[.slice none sLen sCap, x]).run P w = .ok (.slice none (sLen + n) sCap) w := by
  rcases hu with ⟨e', hu⟩ | hu <;> simp [Builtin.append_, run_underlying ht, run_underlying hu, sizeOf, typeInfo, hi, hlen, hg, hnew]

/-- A region of one's own is told anew, as another one, at the same block. -/
theorem Sim.move {F w0 β} {H : AHeap} {w : World} (h : Sim F w0 β H w) (hsc : AHeap.sc H.length H = true) {b : Nat} {ao ao' : AO} (hb : H[b]? = some (some ao)) (hl : ao.live) (hrw : ao.rw = true) (hsa : ao'.sc H.length = true) (hrw' : ao'.rw = true) (hwf : ao'.wf) {o' : Obj} {w' : World} {pl : Pt} (hpl : pl.1 = (β b).1) (hps : pl.spot = none)
    (hos : w'.os = w.os) (htape : w'.tape = w.tape) (hout : w'.output = w.output) (hsz : w'.heap.size = w.heap.size) (hother : ∀ k, k ≠ (β b).1 → w'.heap[k]? = w.heap[k]?) (hthis : w'.heap[(β b).1]? = some o') (his : ao'.Is β pl.2 o') :
    Sim F w0 (β.put H.length pl) (H.set b none ++ [some ao']) w' := by
  have hbl : b < H.length := (List.getElem?_eq_some_iff.1 hb).1
  have hβ : ∀ id, id < H.length → β.put H.length pl id = β id := fun id hid => Pl.put_old hid
  have hnew : ∀ (j : Nat) (aj : AO), (H.set b none ++ [some ao'])[j]? = some (some aj) → (j < H.length ∧ j ≠ b ∧ H[j]? = some (some aj)) ∨ (j = H.length ∧ aj = ao') := by
    intro j aj hj
    rcases grow_cases hj with ⟨h1, h2⟩ | ⟨h1, h2⟩
    · rcases set_cases h2 with ⟨h3, h4⟩ | ⟨h3, h4⟩
      · exact .inl ⟨by simpa using h1, h3, h4⟩
      · cases h4
    · exact .inr ⟨by simpa using h1, h2⟩
  refine ⟨hos.trans h.os, htape.trans h.tape, hout.trans h.output, by rw [hsz]; exact h.size, fun k hk hF => ?_, fun k o hk => ?_, h.iceF, fun j aj hj => ?_, fun j aj hj hlj => ?_, fun j aj hj hlj => ?_, fun j aj hj hlj hr => ?_, fun j aj hj hlj hr => ?_, fun j aj hj hlj hr => ?_, fun j k aj ak hj hk hlj hlk hjk hr hrk => ?_⟩
  · rw [hother k ?_]; exact h.block k hk hF
    intro e; subst e
    rcases h.own b ao hb hl hrw with h1 | h1
    · exact hF h1
    · omega
  · rw [hother k ?_]; exact h.ice k o hk
    intro e; subst e
    exact h.out b ao hb hl hrw o hk
  · rcases hnew j aj hj with ⟨hl', hne, hj'⟩ | ⟨rfl, rfl⟩
    · exact h.wf j aj hj'
    · exact hwf
  · rcases hnew j aj hj with ⟨hl', hne, hj'⟩ | ⟨rfl, rfl⟩
    · rw [hβ j hl']; exact h.spot j aj hj' hlj
    · rw [Pl.put_new]; exact hps
  · rcases hnew j aj hj with ⟨hl', hne, hj'⟩ | ⟨rfl, rfl⟩
    · obtain ⟨o, ho, h2⟩ := h.obj j aj hj' hlj
      rw [hβ j hl']
      exact ⟨o, by rw [hother _ (fun e => h.away hb hj' hl hlj (Ne.symm hne) hrw e.symm)]; exact ho, h2.same Pl.put_ext (AHeap.sc_get hsc hj')⟩
    · rw [Pl.put_new, hpl]
      exact ⟨o', hthis, his.same Pl.put_ext hsa⟩
  · rcases hnew j aj hj with ⟨hl', hne, hj'⟩ | ⟨rfl, rfl⟩
    · rw [hβ j hl']; exact h.own j aj hj' hlj hr
    · rw [Pl.put_new, hpl]; exact h.own b ao hb hl hrw
  · rcases hnew j aj hj with ⟨hl', hne, hj'⟩ | ⟨rfl, rfl⟩
    · rw [hβ j hl']; exact h.out j aj hj' hlj hr
    · rw [Pl.put_new, hpl]; exact h.out b ao hb hl hrw
  · rcases hnew j aj hj with ⟨hl', hne, hj'⟩ | ⟨rfl, rfl⟩
    · rw [hβ j hl']; exact h.ro j aj hj' hlj hr
    · rw [hrw'] at hr; cases hr
  · rcases hnew j aj hj with ⟨hl', hne, hj'⟩ | ⟨rfl, rfl⟩ <;> rcases hnew k ak hk with ⟨hl2, hne2, hk'⟩ | ⟨rfl, rfl⟩
    · rw [hβ j hl', hβ k hl2]; exact h.apart j k aj ak hj' hk' hlj hlk hjk hr hrk
    · rw [hβ j hl', Pl.put_new, hpl]; exact h.apart j b aj ao hj' hb hlj hl hne hr hrw
    · rw [hβ k hl2, Pl.put_new, hpl]; exact h.apart b k ao ak hb hk' hl hlk (Ne.symm hne2) hrw hrk
    · exact absurd rfl hjk

theorem sc_set_none {n : Nat} : ∀ {H : AHeap} {b : Nat}, AHeap.sc n H = true → AHeap.sc n (H.set b none) = true
  | [], _, h => h
  | none :: r, 0, h => h
  | none :: r, b + 1, h => sc_set_none (H := r) h
  | some a :: r, 0, h => by simp only [AHeap.sc, Bool.and_eq_true] at h; exact h.2
  | some a :: r, b + 1, h => by
    simp only [AHeap.sc, Bool.and_eq_true] at h
    simp only [List.set_cons_succ, AHeap.sc, Bool.and_eq_true]
    exact ⟨h.1, sc_set_none h.2⟩

def madeT (nl : Bool) (m sz e n : Nat) (cols : List Col) (wr : List (Nat × Option AO)) : OutT := .all (0 : Nat) fun c => .ret ⟨.sl nl m sz 0 n (n + c), wr, [.arr true e (n + c) n cols]⟩

def appendH (P : Program) (ats : Array TypeId) (s x : Option AV) (H : AHeap) : Option OutT :=
  match ats.toList with
  | [t, u] =>
    match sliceT P t with
    | some e =>
      match szOf P e, bytesOf? P e, zeroCells? P e with
      | some sz, some by_, some zs =>
        if Nat.beq zs.length sz && Nat.blt 0 sz then
          match rowsOf P t zs s H, rowsOf P u zs x H with
          | some (g1, n1, c1), some (g2, n2, c2) =>
            match joinCols c1 c2 with
            | some cols =>
              match s with
              | some (.val (.slice none 0 0)) =>
                some (.need (g1 && (g2 && (decide ((n1 + n2) * by_ ≤ 140737488355328) && decide (n1 + n2 ≤ 9223372036854775807)))) (madeT (!(Nat.blt 0 n2)) H.length sz e (n1 + n2) cols []))
              | some (.sl nl b sz' off len cap) =>
                match H[b]? with
                | some (some (.arr true T' room _ _)) =>
                  if Nat.beq T' e then some (.need (g1 && (g2 && (decide ((n1 + n2) * by_ ≤ 140737488355328) && decide (n1 + n2 ≤ 9223372036854775807))) && (decide (off + cap ≤ room) && (!nl || decide (cap = 0)))) (madeT (nl && !(Nat.blt 0 n2)) H.length sz e (n1 + n2) cols [(b, none)])) else none
                | some (some (.arr false _ _ _ _)) =>
                  some (.need (g1 && (g2 && (decide ((n1 + n2) * by_ ≤ 140737488355328) && decide (n1 + n2 ≤ 9223372036854775807)))) (.split (decide (cap < n1 + n2)) (madeT false H.length sz e (n1 + n2) cols []) (.need (decide (n2 = 0)) (rv (.sl nl b sz' off len cap)))))
                | _ => none
              | _ => none
            | none => none
          | _, _ => none
        else none
      | _, _, _ => none
    | none => none
  | _ => none

theorem toList_two {α : Type} {a : Array α} {x y : α} (h : a.toList = [x, y]) : a = #[x, y] := by
  cases a; simp at h; simp [h]

/-- The new row's content, as the columns tell it. -/
theorem made_is {β : Pl} {c sz : Nat} {c1 c2 cols : List Col} {n1 n2 : Nat} (hj : joinCols c1 c2 = some cols) (h1 : c1.length = sz) (h2 : c2.length = sz) (hl1 : ∀ (j : Nat) (c : Col), c1[j]? = some c → colLen c = n1) {l1 l2 : List Value} (r1 : RowsAre β.ice c1 n1 l1) (r2 : RowsAre β.ice c2 n2 l2)
    {arr : Array Value} {at_ : Nat} {T T2 : TypeId} {fz : Nat × Nat} (hfz : freeM fz arr.size) (hroom : at_ + (n1 + n2 + c) * sz ≤ arr.size) (hcell : ∀ (k : Nat) (v : Value), (l1 ++ l2)[k]? = some v → arr[at_ + k]? = some v) :
    (AO.arr true T (n1 + n2 + c) (n1 + n2) cols).Is β at_ (.cells arr T2 fz) := by
  obtain ⟨g1, g2, g3⟩ := joinCols_get hj
  refine ⟨arr, fz, T2, rfl, fun _ => hfz, by rw [g2, h1]; exact hroom, fun i hi j col hcol => ?_⟩
  obtain ⟨a, b, ha, hb, hjc⟩ := g3 j col hcol
  have hla := hl1 j a ha
  have hjw : j < sz := by have := (List.getElem?_eq_some_iff.1 ha).1; omega
  by_cases hlt : i < n1
  · obtain ⟨v, hv, hh⟩ := r1.at_ i hlt j a ha
    refine ⟨v, ?_, joinCol_holds hjc (fun _ => hh) (fun h => absurd (by rw [hla]; exact hlt) h)⟩
    rw [g2, h1]
    refine hcell _ _ ?_
    rw [h1] at hv
    rw [List.getElem?_append_left (List.getElem?_eq_some_iff.1 hv).1]; exact hv
  · obtain ⟨v, hv, hh⟩ := r2.at_ (i - n1) (by omega) j b hb
    refine ⟨v, ?_, joinCol_holds hjc (fun h => absurd (by rw [hla] at h; exact h) hlt) (fun _ => by rw [hla]; exact hh)⟩
    rw [g2, h1]
    refine hcell _ _ ?_
    have hl : l1.length = n1 * sz := by rw [r1.len, h1]
    have hge : n1 * sz ≤ i * sz := Nat.mul_le_mul_right _ (by omega)
    rw [h2] at hv
    rw [List.getElem?_append_right (by omega), hl, show i * sz + j - n1 * sz = (i - n1) * sz + j by rw [Nat.sub_mul]; omega]; exact hv

theorem grown_ge (w : World) (need old : Nat) (e : TypeId) : need ≤ grownCap w need old e := by simp [grownCap, Question.cut]

theorem arr_get_cat {l1 l2 : List Value} {rest : Array Value} : ∀ (k : Nat) (v : Value), (l1 ++ l2)[k]? = some v → (l1.toArray ++ l2.toArray ++ rest)[0 + k]? = some v := by
  intro k v hk
  have hlt := (List.getElem?_eq_some_iff.1 hk).1
  rw [Nat.zero_add, Array.getElem?_append_left (by simpa using hlt)]
  rw [← hk, ← Array.getElem?_toList, Array.toList_append]

theorem madeT_can {nl : Bool} {m sz e n : Nat} {cols : List Col} {wr : List (Nat × Option AO)} (c : Nat) : (madeT nl m sz e n cols wr).can ⟨.sl nl m sz 0 n (n + c), wr, [.arr true e (n + c) n cols]⟩ := ⟨c, rfl⟩

/-- A new row comes of the two. -/
theorem grow_tells {P : Program} {w : World} {H H' : AHeap} {t u ty e sz by_ : Nat} {zs : List Value} {n1 n2 : Nat} {c1 c2 cols : List Col} {vx : Value} {base : Option Addr} {cap : Nat} {F w0} {β : Pl} {l1 l2 : List Value}
    (he : P.underlying t = some (.slice e)) (hu : (∃ e', P.underlying u = some (.slice e')) ∨ P.underlying u = some .string) (hsz : szOf P e = some sz) (hby : bytesOf? P e = some by_) (hzs : zeroCells? P e = some zs) (hzl : zs.length = sz)
    (hj : joinCols c1 c2 = some cols) (h1 : c1.length = sz) (h2 : c2.length = sz) (hl1 : ∀ (j : Nat) (c : Col), c1[j]? = some c → colLen c = n1) (r1 : RowsAre β.ice c1 n1 l1) (r2 : RowsAre β.ice c2 n2 l2)
    (hs : Sim F w0 β H w) (hd : ∀ (i : Nat) (ao : AO), H'[i]? = some (some ao) → H[i]? = some (some ao)) (hll : H'.length = H.length) (hsc : AHeap.sc H.length H' = true)
    (hlen : (Builtin.lenOf vx).run P w = .ok n2 w) (hold : (Builtin.firstCells sz n1 (.slice base n1 cap)).run P w.drew = .ok l1.toArray w.drew) (hnew : (Builtin.firstCells sz n2 vx).run P w.drew = .ok l2.toArray w.drew)
    (hg : cap < n1 + n2) (h48 : (n1 + n2) * by_ ≤ 140737488355328) (h63 : n1 + n2 ≤ 9223372036854775807) :
    ∃ c w', (Builtin.append_ #[t, u] ty #[.slice base n1 cap, vx]).run P w = .ok ((AV.sl false H.length sz 0 (n1 + n2) (n1 + n2 + c)).conc (β.ext H.length w.heap.size)) w' ∧ Sim F w0 (β.ext H.length w.heap.size) (H' ++ [some (.arr true e (n1 + n2 + c) (n1 + n2) cols)]) w' := by
  obtain ⟨i, z, hi, hisz, hiby, hz, hzc⟩ := info_of hsz hby hzs
  refine ⟨grownCap w (n1 + n2) cap e - (n1 + n2), w.drew.alloc (.cells (l1.toArray ++ l2.toArray ++ Builtin.zeroCells z.cells (grownCap w (n1 + n2) cap e - (n1 + n2))) e), ?_, ?_⟩
  · rw [app_grow he hu hi hz hlen (by rw [hisz]; exact hold) (by rw [hisz]; exact hnew) hg h63 (by rw [hiby]; exact growslice_fits hg h48)]
    rw [sl_new, Nat.add_sub_cancel' (grown_ge w _ _ _)]
  · have hs2 := (hs.drop hd).drew
    rw [← hll]
    rw [← hll] at hsc
    have := hs2.alloc hsc (.arr true e (n1 + n2 + (grownCap w (n1 + n2) cap e - (n1 + n2))) (n1 + n2) cols) rfl (by show _ ≤ _; omega) rfl (.cells (l1.toArray ++ l2.toArray ++ Builtin.zeroCells z.cells (grownCap w (n1 + n2) cap e - (n1 + n2))) e) (fun _ => made_is hj h1 h2 hl1 r1 r2 (freeM_zero _) ?_ arr_get_cat)
    · exact this
    · have hzsz : z.cells.size = sz := by rw [← Array.length_toList, hzc, hzl]
      simp only [Array.size_append, List.size_toArray, r1.len, r2.len, h1, h2, Builtin.zeroCells, Array.size_map, Array.size_range, hzsz, Nat.add_mul]
      omega

theorem madeConc (β : Pl) (nl : Bool) (b m sz off len cap : Nat) : (AV.sl nl m sz 0 len cap).conc (β.put m ⟨(β b).1, (β b).2 + off * sz, (β b).spot⟩) = .slice (bif nl then none else some ⟨(β b).1, (β b).2 + off * sz, (β b).spot⟩) len cap := by simp [AV.conc, Pl.put_new]

theorem rowsOf_nl {P : Program} {u : TypeId} {zs : List Value} {nl : Bool} {b sz off len cap : Nat} {H : AHeap} {g : Bool} {n : Nat} {cols : List Col} (h : rowsOf P u zs (some (.sl nl b sz off len cap)) H = some (g, n, cols)) : n = len ∧ sz = zs.length ∧
    ∃ rw T room m cols', H[b]? = some (some (.arr rw T room m cols')) ∧ cols'.length = sz := by
  simp only [rowsOf] at h
  split at h
  · rename_i e' rw T room m cols' he hH
    split at h
    · rename_i hh
      simp only [Bool.and_eq_true] at hh
      simp at h
      exact ⟨h.2.1.symm, Nat.eq_of_beq_eq_true hh.2, rw, T, room, m, cols', hH, (Nat.eq_of_beq_eq_true hh.1).symm⟩
    · cases h
  · cases h

theorem appendH_tells {P o ρ H t} {x y : Operand} {ats : Array TypeId} (ho : o.op = .call ⟨.builtin .append, #[x, y], ats⟩) (h : appendH P ats (ρ x) (ρ y) H = some t) : Tells P o ρ H t := by
  unfold appendH at h
  split at h
  rotate_left
  · cases h
  rename_i T u hat
  obtain rfl := toList_two hat
  split at h
  rotate_left
  · cases h
  rename_i e he
  split at h
  rotate_left
  · cases h
  rename_i sz by_ zs hsz hby hzs
  split at h
  rotate_left
  · cases h
  rename_i hc
  simp only [Bool.and_eq_true] at hc
  have hzl := Nat.eq_of_beq_eq_true hc.1
  have hz0 : 0 < sz := by simpa using hc.2
  split at h
  rotate_left
  · cases h
  rename_i g1 n1 c1 g2 n2 c2 hr1 hr2
  split at h
  rotate_left
  · cases h
  rename_i cols hj
  have hrun : ∀ (ev : Operand → Value) (w : World) (v : Value) (w' : World), (Builtin.append_ #[T, u] o.type #[ev x, ev y]).run P w = .ok v w' → (execOp ev o).run P w = .ok (.value v) w' := by
    intro ev w v w' hh
    obtain ⟨consts, hrun⟩ := builtin_run ho ev w
    rw [hrun]
    simp only [List.map_toArray, List.map_cons, List.map_nil, builtin]
    rw [Sem.run_bind, hh]; rfl
  have hsy : ∃ ay, ρ y = some ay := by
    cases hy : ρ y with
    | some a => exact ⟨a, rfl⟩
    | none => rw [hy] at hr2; simp [rowsOf] at hr2
  obtain ⟨ay, hy⟩ := hsy
  split at h
  · -- nil
    rename_i hx
    simp only [Option.some.injEq] at h
    subst h
    refine tells_need fun hn => ?_
    simp only [Bool.and_eq_true, decide_eq_true_eq] at hn
    obtain ⟨hg1, hg2, h48, h63⟩ := hn
    intro β F w0 w ev hev hs hsc _
    obtain ⟨a1, a2, a3, l1, ar1, a4, _⟩ := rowsOf_run hr1 hg1 hs hx (by omega)
    obtain ⟨b1, b2, b3, l2, br2, b4, _⟩ := rowsOf_run hr2 hg2 hs hy (by omega)
    have hn1 : n1 = 0 := by
      rw [hx] at hr1; simp [rowsOf] at hr1
      split at hr1
      · simp at hr1; obtain ⟨_, _, _, rfl, _⟩ := hr1; rfl
      · cases hr1
    subst hn1
    rw [hzl] at a4 b4
    rcases Nat.eq_zero_or_pos n2 with hz | hpos
    · subst hz
      obtain ⟨i, z, hi, hisz, hiby, hz, hzc⟩ := info_of hsz hby hzs
      have hs2 := hs.name hsc (.arr true e (0 + 0 + 0) (0 + 0) cols) rfl (Nat.le_refl _) ⟨0, 0, none⟩ (fun hl => absurd hl (by simp [AO.live]))
      refine ⟨_, w, β.put H.length ⟨0, 0, none⟩, madeT_can 0, .inl (hrun ev w _ w ?_), by simpa only [Res.apply, writes, List.map_cons, List.map_nil] using hs2, Pl.put_ext, fun h => by simp at h⟩
      rw [hev x _ hx, hev y _ hy]
      have := app_none (ty := o.type) (sLen := 0) (sCap := 0) (underlying_slice he) b3 hi (b4 w rfl).1 (by rw [hisz]; exact (b4 w rfl).2) (by omega)
      exact this
    · have hb : Nat.blt 0 n2 = true := by simpa using hpos
      obtain ⟨c, w', hh, hsim⟩ := grow_tells (ty := o.type) (underlying_slice he) b3 hsz hby hzs hzl hj (by omega) (by omega) a2 ar1 br2 hs (fun _ _ h => h) rfl hsc (b4 w rfl).1 (a4 w.drew rfl).2 (b4 w.drew rfl).2 (by omega) h48 h63
      refine ⟨_, w', β.ext H.length w.heap.size, madeT_can c, .inl (hrun ev w _ w' ?_), ?_, Pl.ext_ext, fun h => by simp at h⟩
      · rw [hev x _ hx, hev y _ hy, hb]; exact hh
      · simpa only [Res.apply, writes, List.map_cons, List.map_nil] using hsim
  · -- a row
    rename_i nl b sz' off len cap hx
    obtain ⟨rfl, hsz', rwb, Tb, roomb, mb, colsb, hHb, hcl⟩ := rowsOf_nl (hx ▸ hr1)
    have hsz'2 : sz' = sz := by omega
    subst hsz'2
    split at h
    · -- one's own
      rename_i T' room n' cols' hH
      rw [hH] at hHb
      simp only [Option.some.injEq, AO.arr.injEq] at hHb
      obtain ⟨rfl, rfl, rfl, rfl, rfl⟩ := hHb
      split at h
      rotate_left
      · cases h
      rename_i hT
      have hT := Nat.eq_of_beq_eq_true hT
      subst hT
      simp only [Option.some.injEq] at h
      subst h
      refine tells_need fun hn => ?_
      simp only [Bool.and_eq_true, decide_eq_true_eq, Bool.or_eq_true, Bool.not_eq_true'] at hn
      obtain ⟨⟨hg1, hg2, h48, h63⟩, hroom, hnl⟩ := hn
      intro β F w0 w ev hev hs hsc _
      obtain ⟨a1, a2, a3, l1, ar1, a4, a5⟩ := rowsOf_run hr1 hg1 hs hx (by omega)
      obtain ⟨b1, b2, b3, l2, br2, b4, _⟩ := rowsOf_run hr2 hg2 hs hy (by omega)
      rw [hzl] at a4 b4
      have hdrop : ∀ (i : Nat) (ao : AO), (H.set b none)[i]? = some (some ao) → H[i]? = some (some ao) := fun i ao h => by
        rcases set_cases h with ⟨_, h2⟩ | ⟨_, h2⟩
        · exact h2
        · cases h2
      by_cases hcap : cap < n1 + n2
      · have hfalse : (nl && !(Nat.blt 0 n2)) = false := by
          cases nl with
          | false => rfl
          | true =>
            have hc0 : cap = 0 := by rcases hnl with h | h; cases h; exact h
            have hl0 : n1 = 0 := by
              have := hr1
              rw [hx] at this
              simp only [rowsOf, hH] at this
              split at this
              · rename_i e2 _ _ _ _ _ _ hHH
                split at this
                · simp only [Option.some.injEq, Prod.mk.injEq] at this
                  have h3 := this.1
                  rw [hg1] at h3
                  simp at h3
                  exact h3.2.2
                · cases this
              · cases this
            have : Nat.blt 0 n2 = true := by simp; omega
            rw [this]; rfl
        obtain ⟨c, w', hh, hsim⟩ := grow_tells (ty := o.type) (H' := H.set b none) (underlying_slice he) b3 hsz hby hzs hzl hj (by omega) (by omega) a2 ar1 br2 hs hdrop (by simp) (sc_set_none hsc) (b4 w rfl).1 (a4 w.drew rfl).2 (b4 w.drew rfl).2 hcap h48 h63
        refine ⟨_, w', β.ext H.length w.heap.size, madeT_can c, .inl (hrun ev w _ w' ?_), ?_, Pl.ext_ext, fun h => by simp at h⟩
        · rw [hev x _ hx, hev y _ hy, hfalse]; exact hh
        · simpa only [Res.apply, writes, List.map_cons, List.map_nil] using hsim
      · obtain ⟨i, z, hi, hisz, hiby, hz, hzc⟩ := info_of hsz hby hzs
        rcases Nat.eq_zero_or_pos cap with hc0 | hcpos
        · subst hc0
          have h10 : n1 = 0 := by omega
          have h20 : n2 = 0 := by omega
          subst h10; subst h20
          have hs2 := (hs.drop hdrop).name (by simpa using sc_set_none hsc) (.arr true T' (0 + 0 + 0) (0 + 0) cols) rfl (Nat.le_refl _) ⟨(β b).1, (β b).2 + off * sz', (β b).spot⟩ (fun hl => absurd hl (by simp [AO.live]))
          simp only [List.length_set] at hs2
          refine ⟨_, w, β.put H.length ⟨(β b).1, (β b).2 + off * sz', (β b).spot⟩, madeT_can 0, .inl (hrun ev w _ w ?_), by simpa only [Res.apply, writes, List.map_cons, List.map_nil] using hs2, Pl.put_ext, fun h => by simp at h⟩
          rw [hev x _ hx, hev y _ hy, madeConc]
          have hl2 : l2 = [] := List.eq_nil_of_length_eq_zero (by rw [br2.len]; simp)
          cases nl with
          | true => exact app_none (ty := o.type) (sLen := 0) (sCap := 0) (underlying_slice he) b3 hi (b4 w rfl).1 (by rw [hisz]; exact (b4 w rfl).2) (by omega)
          | false =>
            have := app_room (ty := o.type) (a := ⟨(β b).1, (β b).2 + off * sz', (β b).spot⟩) (sLen := 0) (sCap := 0) (underlying_slice he) b3 hi (b4 w rfl).1 (by rw [hisz]; exact (b4 w rfl).2) (by omega) (w' := w) (by rw [hl2]; simp [storeCells, go_sem])
            exact this
        · have hnlf : nl = false := by rcases hnl with h | h; exact h; omega
          subst hnlf
          obtain ⟨ob, hob, ar, fz, T0, rfl, hfz, hrm1, hcs⟩ := hs.obj b _ hH (show 0 < room by omega)
          have hfree := hfz rfl
          have hsp := hs.spot b _ hH (show 0 < room by omega)
          have hsize : (β b).2 + room * sz' ≤ ar.size := by rw [hcl] at hrm1; exact hrm1
          have hoc : (off + cap) * sz' ≤ room * sz' := Nat.mul_le_mul_right _ hroom
          have hnc : (n1 + n2) * sz' ≤ cap * sz' := Nat.mul_le_mul_right _ (by omega)
          rw [Nat.add_mul] at hoc hnc
          have hl1 : l1.length = n1 * sz' := by rw [ar1.len, show c1.length = sz' by omega]
          have hl2 : l2.length = n2 * sz' := by rw [br2.len, show c2.length = sz' by omega]
          obtain ⟨w', hst, htu⟩ := run_storeCells (P := P) (b := (β b).1) (o := (β b).2 + off * sz' + n1 * sz') (T := T0) l2 0 ar w hob hfree (by rw [hl2]; omega) br2.cellV
          have hadd : (⟨(β b).1, (β b).2 + off * sz', (β b).spot⟩ : Addr).add (n1 * i.size) = ⟨(β b).1, (β b).2 + off * sz' + n1 * sz', none⟩ := by rw [hsp, hisz, addr_add]
          have hh := app_room (ty := o.type) (a := ⟨(β b).1, (β b).2 + off * sz', (β b).spot⟩) (sLen := n1) (sCap := cap) (underlying_slice he) b3 hi (b4 w rfl).1 (by rw [hisz]; exact (b4 w rfl).2) (by omega) (w' := w') (by rw [hadd]; exact hst)
          have his : (AO.arr true T' (n1 + n2 + (cap - (n1 + n2))) (n1 + n2) cols).Is β ((β b).2 + off * sz') (.cells (setArr ar ((β b).2 + off * sz' + n1 * sz' + 0) l2) T0 fz) := by
            refine made_is (sz := sz') (arr := setArr ar ((β b).2 + off * sz' + n1 * sz' + 0) l2) hj (by omega) (by omega) a2 ar1 br2 (by rw [setArr_size]; exact hfree) ?_ ?_
            · rw [setArr_size, show n1 + n2 + (cap - (n1 + n2)) = cap by omega]; omega
            · intro k v hk
              rw [setArr_get l2 ar ((β b).2 + off * sz' + n1 * sz' + 0) (by rw [hl2]; omega), hl2, Nat.add_zero]
              by_cases hkl : k < n1 * sz'
              · rw [if_neg (by omega)]
                rw [List.getElem?_append_left (by rw [hl1]; exact hkl)] at hk
                rcases Nat.eq_zero_or_pos n1 with h0 | hp
                · rw [h0] at hkl; omega
                · obtain ⟨c', T'', fz', hob', hget⟩ := a5 false b sz' off n1 cap rfl hp
                  rw [hob] at hob'
                  cases hob'
                  exact hget k v hk
              · rw [List.getElem?_append_right (by rw [hl1]; omega), hl1] at hk
                have := (List.getElem?_eq_some_iff.1 hk).1
                rw [if_pos (by omega), ← hk]
                congr 1
                omega
          have hsim := hs.move hsc hH (show 0 < room by omega) rfl (ao' := .arr true T' (n1 + n2 + (cap - (n1 + n2))) (n1 + n2) cols) rfl rfl (by show _ ≤ _; omega) (pl := ⟨(β b).1, (β b).2 + off * sz', (β b).spot⟩) rfl hsp htu.os htu.tape htu.output htu.size htu.other htu.this his
          refine ⟨_, w', β.put H.length ⟨(β b).1, (β b).2 + off * sz', (β b).spot⟩, madeT_can (cap - (n1 + n2)), .inl (hrun ev w _ w' ?_), ?_, Pl.put_ext, fun h => by simp at h⟩
          · rw [hev x _ hx, hev y _ hy, madeConc, show n1 + n2 + (cap - (n1 + n2)) = cap by omega]; exact hh
          · simpa only [Res.apply, writes, List.map_cons, List.map_nil] using hsim
    · -- read only
      rename_i T' room n' cols' hH
      simp only [Option.some.injEq] at h
      subst h
      refine tells_need fun hn => ?_
      simp only [Bool.and_eq_true, decide_eq_true_eq] at hn
      obtain ⟨hg1, hg2, h48, h63⟩ := hn
      refine tells_split (fun hpos => fun β F w0 w ev hev hs hsc _ => ?_) (fun hpos => tells_need fun hz => tells_value fun β ev F w0 w hev hs => ?_)
      · have hcap := of_decide_eq_true hpos
        obtain ⟨a1, a2, a3, l1, ar1, a4, a5⟩ := rowsOf_run hr1 hg1 hs hx (by omega)
        obtain ⟨b1, b2, b3, l2, br2, b4, _⟩ := rowsOf_run hr2 hg2 hs hy (by omega)
        rw [hzl] at a4 b4
        obtain ⟨c, w', hh, hsim⟩ := grow_tells (ty := o.type) (underlying_slice he) b3 hsz hby hzs hzl hj (by omega) (by omega) a2 ar1 br2 hs (fun _ _ h => h) rfl hsc (b4 w rfl).1 (a4 w.drew rfl).2 (b4 w.drew rfl).2 hcap h48 h63
        refine ⟨_, w', β.ext H.length w.heap.size, madeT_can c, .inl (hrun ev w _ w' ?_), ?_, Pl.ext_ext, fun h => by simp at h⟩
        · rw [hev x _ hx, hev y _ hy]; exact hh
        · simpa only [Res.apply, writes, List.map_cons, List.map_nil] using hsim
      · have hcap := of_decide_eq_false hpos
        have hz := of_decide_eq_true hz
        subst hz
        obtain ⟨b1, b2, b3, l2, br2, b4, _⟩ := rowsOf_run hr2 hg2 hs hy (by omega)
        obtain ⟨i, z, hi, hisz, hiby, hz, hzc⟩ := info_of hsz hby hzs
        rw [hzl] at b4
        refine hrun ev w _ w ?_
        have hl2 : l2 = [] := List.eq_nil_of_length_eq_zero (by rw [br2.len]; simp)
        rw [hev x _ hx, hev y _ hy]
        cases nl with
        | true => exact app_none (ty := o.type) (sLen := n1) (sCap := cap) (underlying_slice he) b3 hi (b4 w rfl).1 (by rw [hisz]; exact (b4 w rfl).2) (by omega)
        | false => exact app_room (ty := o.type) (a := ⟨(β b).1, (β b).2 + off * sz', (β b).spot⟩) (sLen := n1) (sCap := cap) (underlying_slice he) b3 hi (b4 w rfl).1 (by rw [hisz]; exact (b4 w rfl).2) (by omega) (w' := w) (by rw [hl2]; simp [storeCells, go_sem])
    · cases h
  · cases h
end Go.Vs
