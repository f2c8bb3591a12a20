/-
  The same: maps, structs, strings, code, loops, functions; no condition.
-/
import Derived.Test.YtmbeekfbnfndgaaKa
import Derived.Laws.StructEq
import Derived.Laws.BytesArg
import Derived.Laws.IdiomStrings
import Derived.Laws.Tables
import Derived.Laws.Build
import Derived.Deep.LoopGhost
namespace Go.Vs
open Go Go.RowKit
set_option linter.unusedSimpArgs false
set_option linter.unusedVariables false

/-! ### maps -/
def mapT (P : Program) (t : TypeId) : Option (TypeId × TypeId) := match P.underlying t with | some (.map k e) => some (k, e) | _ => none
theorem underlying_map {P : Program} {t k e : Nat} (h : mapT P t = some (k, e)) : P.underlying t = some (.map k e) := by
  unfold mapT at h; split at h
  · cases h; assumption
  · cases h

def kdT (P : Program) (k : TypeId) : Option KD :=
  match P.underlying k with
  | some (.int i) => some (.int i)
  | some .bool => some .bool
  | some .string => some .str
  | _ => none

def sameKD : KD → KD → Bool
  | .int k, .int k' => decide (k = k')
  | .bool, .bool => true
  | .str, .str => true
  | _, _ => false
theorem sameKD_eq {a b : KD} (h : sameKD a b = true) : a = b := by
  cases a <;> cases b <;> simp_all [sameKD]

/-- Are these keys one? -/
def keq : Value → Value → Bool
  | .int _ a, .int _ b => decide (a = b)
  | .bool a, .bool b => decide (a = b)
  | .string a, .string b => decide (a = b)
  | _, _ => false

theorem keq_iff {kd : KD} {u v : Value} (hu : kd.ok u = true) (hv : kd.ok v = true) : keq u v = true ↔ u = v := by
  cases kd <;> cases u <;> simp_all [KD.ok] <;> cases v <;> simp_all [KD.ok, keq]

theorem keq_self {kd : KD} {u : Value} (hu : kd.ok u = true) : keq u u = true := (keq_iff hu hu).2 rfl

def kdDesc : KD → TypeDesc
  | .int k => .int k
  | .bool => .bool
  | .str => .string

theorem kdT_desc {P : Program} {k : TypeId} {kd : KD} (h : kdT P k = some kd) : P.underlying k = some (kdDesc kd) := by
  unfold kdT at h
  split at h <;> first | (cases h; assumption) | cases h

theorem beqBytes (a b : ByteArray) : (a == b) = decide (a = b) := by
  rw [Bool.eq_iff_iff, beq_toListBytes, ByteArray.toList_eq, ByteArray.toList_eq]
  obtain ⟨⟨x⟩⟩ := a
  obtain ⟨⟨y⟩⟩ := b
  simp

theorem sameNow_keq {kd : KD} {u v : Value} (hu : kd.ok u = true) (hv : kd.ok v = true) : Instr.sameNow (kdDesc kd) u v = some (keq u v) := by
  cases kd <;> cases u <;> simp_all [KD.ok] <;> cases v <;> simp_all [KD.ok, keq, kdDesc, Instr.sameNow, beqBytes] <;> (rw [Bool.eq_iff_iff]; simp)

theorem findNow_spec {kd : KD} {v : Value} (hv : kd.ok v = true) : ∀ (es : List MapEntry) (n : Nat), (∀ e ∈ es, kd.ok e.key = true) →
    (∃ i e, es[i]? = some e ∧ e.key = v ∧ Instr.findNow (kdDesc kd) v es n = some (some (n + i, e.val))) ∨ ((∀ e ∈ es, e.key ≠ v) ∧ Instr.findNow (kdDesc kd) v es n = some none)
  | [], n, _ => .inr ⟨fun e he => by simp at he, rfl⟩
  | e :: es, n, h => by
    have he := h e (by simp)
    simp only [Instr.findNow, sameNow_keq hv he]
    cases hk : keq v e.key with
    | true =>
      have := (keq_iff hv he).1 hk
      exact .inl ⟨0, e, rfl, this.symm, by simp⟩
    | false =>
      have hne : e.key ≠ v := fun e2 => by
        rw [← e2, keq_self he] at hk; cases hk
      rcases findNow_spec hv es (n + 1) (fun x hx => h x (by simp [hx])) with ⟨i, x, h1, h2, h3⟩ | ⟨h1, h2⟩
      · exact .inl ⟨i + 1, x, by simpa using h1, h2, by simp only; rw [h3]; congr 3; omega⟩
      · exact .inr ⟨fun x hx => by rcases List.mem_cons.1 hx with rfl | hx; exact hne; exact h1 x hx, by simp only; exact h2⟩

theorem run_checkKey {P : Program} {w : World} {k : TypeId} {kd : KD} (hk : kdT P k = some kd) {v : Value} (b : Bool) : (Instr.checkKey b 10000 k v).run P w = .ok () w := by
  have hu := kdT_desc hk
  show (Instr.checkKey b (9999 + 1) k v).run P w = _
  unfold Instr.checkKey
  rw [Sem.run_bind, run_underlying hu]
  cases kd <;> rfl

theorem run_findKey {P : Program} {w : World} {k : TypeId} {kd : KD} (hk : kdT P k = some kd) {v : Value} {es : List MapEntry} {r : Option (Nat × Value)} (h : Instr.findNow (kdDesc kd) v es 0 = some r) : (Instr.findKey k v es).run P w = .ok r w := by
  simp only [Instr.findKey]
  rw [Sem.run_bind, run_underlying (kdT_desc hk)]
  simp only [Result.andThen, h, Sem.run_pure]

def mAV (agg : Bool) (cols : List MCol) (v : Value) : AV :=
  match agg, cols with
  | true, cs => .agg (cs.map fun c => .val (c.val v))
  | false, c :: _ => .val (c.val v)
  | false, [] => .val (.tuple #[])

theorem mAV_conc (agg : Bool) (cols : List MCol) (v : Value) (β : Pl) : (mAV agg cols v).conc β = mval agg cols v := by
  unfold mAV mval
  split
  · simp only [AV.conc]
    have : ∀ l : List MCol, AV.concs β (l.map fun c => AV.val (c.val v)) = l.map (·.val v) := fun l => by
      induction l with
      | nil => rfl
      | cons c l ih => simp only [List.map_cons, AV.concs, AV.conc, ih]
    rw [this]
  · rfl
  · rfl

/-- Are these the zeros of the columns? -/
def zeroIs (c : MCol) (v : Value) : Bool :=
  match c, v with
  | .int k _, .int k' z => decide (k = k') && decide (z = 0)
  | .bool _, .bool z => !z
  | .str _, .string z => (match z.data.toList with | [] => true | _ => false)
  | _, _ => false
def zerosAre : List MCol → List Value → Bool
  | [], zs => zs.isEmpty
  | c :: r, zs => match zs with | z :: s => zeroIs c z && zerosAre r s | [] => false

theorem zeroIs_spec {c : MCol} {v : Value} (h : zeroIs c v = true) : v = c.zero := by
  unfold zeroIs at h
  split at h
  · simp only [Bool.and_eq_true, decide_eq_true_eq] at h
    obtain ⟨rfl, rfl⟩ := h; rfl
  · simp only [Bool.not_eq_true'] at h; subst h; rfl
  · rename_i z
    split at h
    · rename_i hd; cases z with | mk d => simp at hd; subst hd; rfl
    · cases h
  · cases h

theorem zerosAre_spec : ∀ {cols : List MCol} {zs : List Value}, zerosAre cols zs = true → zs = cols.map MCol.zero
  | [], zs, h => by simp only [zerosAre, List.isEmpty_iff] at h; subst h; rfl
  | c :: r, zs, h => by
    simp only [zerosAre] at h
    split at h
    · simp only [Bool.and_eq_true] at h
      rw [zeroIs_spec h.1, zerosAre_spec h.2]; rfl
    · cases h

def mcolSet (c : MCol) (key : Value) (v : AV) : Option MCol :=
  match c, v with
  | .int k f, .val (.int k' n) => if k = k' then some (.int k fun u => bif keq u key then n else f u) else none
  | .bool f, .val (.bool b) => some (.bool fun u => bif keq u key then b else f u)
  | .str f, .val (.string s) => some (.str fun u => bif keq u key then s else f u)
  | _, _ => none
def mcolsSet (key : Value) : List MCol → List AV → Option (List MCol)
  | [], vs => match vs with | [] => some [] | _ => none
  | c :: r, vs => match vs with | v :: s => (match mcolSet c key v, mcolsSet key r s with | some c', some l => some (c' :: l) | _, _ => none) | [] => none

def mcolClear (key : Value) : MCol → MCol
  | .int k f => .int k fun u => bif keq u key then 0 else f u
  | .bool f => .bool fun u => bif keq u key then false else f u
  | .str f => .str fun u => bif keq u key then ByteArray.empty else f u

theorem mcolSet_spec {c c' : MCol} {key : Value} {v : AV} (h : mcolSet c key v = some c') (β : Pl) : (∀ u, keq u key = true → c'.val u = v.conc β) ∧ (∀ u, keq u key = false → c'.val u = c.val u) ∧ c'.zero = c.zero := by
  unfold mcolSet at h
  split at h
  · split at h
    · rename_i hk; cases h; subst hk
      exact ⟨fun u hu => by simp only [MCol.val, hu, cond_true, AV.conc], fun u hu => by simp only [MCol.val, hu, cond_false], rfl⟩
    · cases h
  · cases h; exact ⟨fun u hu => by simp only [MCol.val, hu, cond_true, AV.conc], fun u hu => by simp only [MCol.val, hu, cond_false], rfl⟩
  · cases h; exact ⟨fun u hu => by simp only [MCol.val, hu, cond_true, AV.conc], fun u hu => by simp only [MCol.val, hu, cond_false], rfl⟩
  · cases h

theorem mcolsSet_spec {key : Value} (β : Pl) : ∀ {cols : List MCol} {vs : List AV} {cols' : List MCol}, mcolsSet key cols vs = some cols' →
    (∀ u, keq u key = true → cols'.map (·.val u) = AV.concs β vs) ∧ (∀ u, keq u key = false → cols'.map (·.val u) = cols.map (·.val u) ∧ ∀ c' ∈ cols', ∃ c ∈ cols, c'.val u = c.val u ∧ c'.zero = c.zero)
  | [], vs, cols', h => by
    simp only [mcolsSet] at h
    split at h
    · cases h; exact ⟨fun u _ => rfl, fun u _ => ⟨rfl, fun c hc => by simp at hc⟩⟩
    · cases h
  | c :: r, vs, cols', h => by
    simp only [mcolsSet] at h
    split at h
    · split at h
      · rename_i v s _ _ c' l hc hl
        cases h
        obtain ⟨a1, a2, a3⟩ := mcolSet_spec hc β
        obtain ⟨b1, b2⟩ := mcolsSet_spec β hl
        refine ⟨fun u hu => by simp only [List.map_cons, AV.concs, a1 u hu, b1 u hu], fun u hu => ⟨by simp only [List.map_cons, a2 u hu, (b2 u hu).1], fun x hx => ?_⟩⟩
        rcases List.mem_cons.1 hx with rfl | hx
        · exact ⟨c, by simp, a2 u hu, a3⟩
        · obtain ⟨y, hy, h1, h2⟩ := (b2 u hu).2 x hx
          exact ⟨y, by simp [hy], h1, h2⟩
      · cases h
    · cases h

theorem mcolClear_spec (key : Value) (c : MCol) : (∀ u, keq u key = true → (mcolClear key c).val u = c.zero) ∧ (∀ u, keq u key = false → (mcolClear key c).val u = c.val u) ∧ (mcolClear key c).zero = c.zero := by
  cases c <;> exact ⟨fun u hu => by simp only [mcolClear, MCol.val, hu, cond_true, MCol.zero], fun u hu => by simp only [mcolClear, MCol.val, hu, cond_false], rfl⟩

def zOk (agg : Bool) (cols : List MCol) (z : Value) : Bool :=
  match agg, z with
  | true, .agg zs => zerosAre cols zs.toList
  | false, .agg _ => false
  | true, _ => false
  | false, z => zerosAre cols [z]

/-- m[k] -/
def lookupH (P : Program) (t : TypeId) (x ix : Option AV) (ok : Bool) (H : AHeap) : Option OutT :=
  match x, ix with
  | some (.mp b), some (.val kv) =>
    match mapT P t, H[b]? with
    | some (k, e), some (some (.mapc _ kd agg has cols)) =>
      match kdT P k, (P.info? e).bind (·.zero) with
      | some kd', some z =>
        if sameKD kd kd' && kd.ok kv && zOk agg cols z then
          some (rv (match ok with | true => .tup [mAV agg cols kv, .val (.bool (has kv))] | false => mAV agg cols kv))
        else none
      | _, _ => none
    | _, _ => none
  | _, _ => none

theorem zeroValue_run {P : Program} {w : World} {e : TypeId} {z : Value} (h : (P.info? e).bind (·.zero) = some z) : (zeroValue e).run P w = .ok z w := by
  cases hi : P.info? e with
  | none => rw [hi] at h; cases h
  | some i =>
    rw [hi] at h
    simp only [Option.bind_some] at h
    simp [zeroValue, typeInfo, program, Sem.run, hi, h, go_sem]

theorem mval_zero {agg : Bool} {cols : List MCol} {z kv : Value} (hz : zOk agg cols z = true) (hc : ∀ c ∈ cols, c.val kv = c.zero) : mval agg cols kv = z := by
  have e : cols.map (·.val kv) = cols.map MCol.zero := List.map_congr_left hc
  unfold zOk at hz
  split at hz
  · have := zerosAre_spec hz
    simp only [mval]
    rw [e, ← this]
  · cases hz
  · cases hz
  · have := zerosAre_spec hz
    cases cols with
    | nil => simp at this
    | cons c r =>
      simp at this
      simp only [mval, hc c (by simp), ← this.1]

theorem lookupH_tells {P o ρ H t} {T : TypeId} {x ix : Operand} {ok : Bool} (ho : o.op = .lookup T x ix ok) (h : lookupH P T (ρ x) (ρ ix) ok H = some t) : Tells P o ρ H t := by
  unfold lookupH at h
  split at h
  rotate_left
  · cases h
  rename_i b kv hx hix
  split at h
  rotate_left
  · cases h
  rename_i k e rw' kd agg has cols hm hH
  split at h
  rotate_left
  · cases h
  rename_i kd' z hkd hz
  split at h
  rotate_left
  · cases h
  rename_i hc
  simp only [Bool.and_eq_true] at hc
  obtain ⟨⟨h1, hkv⟩, h2⟩ := hc
  obtain rfl := sameKD_eq h1
  cases h
  refine tells_value fun β ev F w0 w hev hs => ?_
  obtain ⟨ob, hob, es, clock, rfl, hat, he1, he2, hnd, he3⟩ := hs.obj b _ hH trivial
  have e1 : (execOp ev o) = (do let v ← Instr.lookup T (ev x) (ev ix) ok; pure (.value v)) := by simp [execOp, ho]
  rw [e1, Sem.run_bind, hev x _ hx, hev ix _ hix]
  simp only [AV.conc]
  have hfound : ∃ r, Instr.findNow (kdDesc kd) kv es.toList 0 = some r ∧ ((r = none ∧ has kv = false) ∨ (∃ i, r = some (i, mval agg cols kv)) ∧ has kv = true) := by
    rcases findNow_spec hkv es.toList 0 (fun e he => (he1 e he).1) with ⟨i, x, hi, hxk, hf⟩ | ⟨hn, hf⟩
    · have hm := he1 x (List.mem_of_getElem? hi)
      rw [hxk] at hm
      exact ⟨_, hf, .inr ⟨⟨0 + i, by rw [hm.2.2]⟩, hm.2.1⟩⟩
    · refine ⟨_, hf, .inl ⟨rfl, ?_⟩⟩
      cases hh : has kv with
      | false => rfl
      | true => obtain ⟨x, hx1, hx2⟩ := he2 kv hkv hh; exact absurd hx2 (hn x hx1)
  obtain ⟨r, hf, hr⟩ := hfound
  have hrun : (Instr.lookup T (.map (some (β b).1)) kv ok).run P w = .ok (if ok then .tuple #[mval agg cols kv, .bool (has kv)] else mval agg cols kv) w := by
    simp only [Instr.lookup]
    rw [Sem.run_bind, run_underlying (underlying_map hm)]
    simp only [Result.andThen]
    have hg : (getObj (β b).1).run P w = .ok (.map es clock) w := by simp [getObj, Sem.run, hob]
    simp only [Sem.run_bind, hg, Result.andThen, Sem.run_pure]
    rw [run_checkKey hkd]
    simp only [Sem.run_bind, Result.andThen, Sem.run_pure]
    rw [run_findKey hkd hf]
    rcases hr with ⟨rfl, hh⟩ | ⟨⟨i, rfl⟩, hh⟩
    · simp only [Sem.run_bind, Result.andThen, Sem.run_pure]
      rw [zeroValue_run hz]
      simp only [Result.andThen, Sem.run_pure]
      rw [mval_zero h2 (he3 kv hkv hh), hh]
    · simp only [Sem.run_bind, Result.andThen, Sem.run_pure, hh]
  rw [hrun]
  cases ok
  · simp only [Result.andThen, Sem.run_pure, Bool.false_eq_true, if_false]
    rw [mAV_conc]
  · simp only [Result.andThen, Sem.run_pure, if_true, AV.conc, AV.concs]
    rw [mAV_conc]

theorem sameBits_keq {kd : KD} {u v : Value} (hu : kd.ok u = true) (h : u = v) : Instr.sameBits 10000 u v = true := by
  subst h
  cases kd <;> cases u <;> simp_all [KD.ok, Instr.sameBits, beqBytes]

theorem run_setMap {P : Program} {w : World} {b : Nat} {es : Array MapEntry} {clock : Nat} {o : Obj} (h : w.heap[b]? = some (.map es clock)) : (setObj b o).run P w = .ok () { w with heap := w.heap.setIfInBounds b o } := by
  simp [setObj, Sem.run, h]

theorem nodup_idx {α : Type} {l : List α} (h : l.Nodup) {i j : Nat} {a : α} (hi : l[i]? = some a) (hj : l[j]? = some a) : i = j := by
  obtain ⟨h1, e1⟩ := List.getElem?_eq_some_iff.1 hi
  obtain ⟨h2, e2⟩ := List.getElem?_eq_some_iff.1 hj
  rcases Nat.lt_trichotomy i j with h3 | h3 | h3
  · exact absurd (e1.trans e2.symm) (List.pairwise_iff_getElem.1 h i j h1 h2 h3)
  · exact h3
  · exact absurd (e2.trans e1.symm) (List.pairwise_iff_getElem.1 h j i h2 h1 h3)

def vOk (agg : Bool) (v : AV) : Bool :=
  match agg, v with
  | true, .agg _ => true
  | false, .val (.agg _) => false
  | false, .val _ => true
  | _, _ => false
def cOk (agg : Bool) (cols : List MCol) : Bool := match agg with | true => true | false => Nat.beq cols.length 1

def mapUpdateH (P : Program) (t : TypeId) (x ix v : Option AV) (H : AHeap) : Option OutT :=
  match x, ix, v with
  | some (.mp b), some (.val kv), some v =>
    match mapT P t, H[b]? with
    | some (k, e), some (some (.mapc true kd agg has cols)) =>
      match kdT P k, mcolsSet kv cols (cellsOf v) with
      | some kd', some cols' =>
        if sameKD kd kd' && kd.ok kv && vOk agg v && cOk agg cols then
          some (.ret ⟨.val undef, [(b, some (.mapc true kd agg (fun u => keq u kv || has u) cols'))], []⟩)
        else none
      | _, _ => none
    | _, _ => none
  | some (.val (.map none)), _, _ => some (.need false (rv (.val undef)))
  | _, _, _ => none

theorem mval_set {agg : Bool} {cols cols' : List MCol} {kv u : Value} {v : AV} {β : Pl} (h : mcolsSet kv cols (cellsOf v) = some cols') (ha : vOk agg v = true) :
    (keq u kv = true → mval agg cols' u = v.conc β) ∧ (keq u kv = false → mval agg cols' u = mval agg cols u) := by
  obtain ⟨h1, h2⟩ := mcolsSet_spec β h
  have hmv : ∀ (cs ds : List MCol), cs.map (·.val u) = ds.map (·.val u) → mval agg cs u = mval agg ds u := by
    intro cs ds e
    cases agg with
    | true => simp only [mval, e]
    | false =>
      cases cs <;> cases ds <;> simp_all [mval]
  refine ⟨fun hk => ?_, fun hk => hmv _ _ (h2 u hk).1⟩
  have e := h1 u hk
  unfold vOk at ha
  split at ha
  · simp only [mval, AV.conc, cellsOf] at *; rw [e]
  · cases ha
  · simp only [cellsOf, AV.concs, AV.conc] at e ⊢
    cases cols' with
    | nil => simp at e
    | cons c r => simp at e; simp only [mval, e.1]
  · cases ha

theorem nodup_keys_modify {es : List MapEntry} {i : Nat} {e : MapEntry} (h : (es.map (·.key)).Nodup) (hi : es[i]? = some e) (v : Value) : ((es.modify i fun x => { x with key := e.key, val := v }).map (·.key)) = es.map (·.key) := by
  apply List.ext_getElem?
  intro j
  simp only [List.getElem?_map, List.getElem?_modify]
  by_cases hij : i = j
  · subst hij; simp [hi]
  · simp [hij]

/-- A map of one's own takes another content. -/
theorem Sim.turnMap {F w0 β H w} (h : Sim F w0 β H w) {b : Nat} {kd : KD} {agg : Bool} {has has' : Value → Bool} {cols cols' : List MCol} (hb : H[b]? = some (some (.mapc true kd agg has cols))) {es es' : Array MapEntry} {c c' : Nat} (hob : w.heap[(β b).1]? = some (.map es c)) (hat : (β b).2 = 0)
    (h1 : ∀ e ∈ es'.toList, kd.ok e.key = true ∧ has' e.key = true ∧ e.val = mval agg cols' e.key) (h2 : ∀ v, kd.ok v = true → has' v = true → ∃ e ∈ es'.toList, e.key = v) (h3 : (es'.toList.map (·.key)).Nodup) (h4 : ∀ v, kd.ok v = true → has' v = false → ∀ c ∈ cols', c.val v = c.zero) :
    Sim F w0 β (H.set b (some (.mapc true kd agg has' cols'))) { w with heap := w.heap.setIfInBounds (β b).1 (.map es' c') } := by
  have hlt : (β b).1 < w.heap.size := (Array.getElem?_eq_some_iff.1 hob).1
  refine h.turn (ao' := .mapc true kd agg has' cols') hb trivial rfl rfl trivial (o' := .map es' c') (w' := { w with heap := w.heap.setIfInBounds (β b).1 (.map es' c') }) rfl rfl rfl (by simp) (fun k hk => ?_) ?_ ⟨es', c', rfl, hat, h1, h2, h3, h4⟩
  · show (w.heap.setIfInBounds _ _)[k]? = _
    rw [Array.getElem?_setIfInBounds_ne (Ne.symm hk)]
  · show (w.heap.setIfInBounds _ _)[_]? = _
    rw [Array.getElem?_setIfInBounds_self_of_lt hlt]

theorem mapUpdateH_tells {P o ρ H t} {T : TypeId} {x ix y : Operand} (ho : o.op = .mapUpdate T x ix y ∨ o.op = .insert T x ix y) (h : mapUpdateH P T (ρ x) (ρ ix) (ρ y) H = some t) : Tells P o ρ H t := by
  unfold mapUpdateH at h
  split at h
  rotate_left
  · cases h; exact tells_need fun h => by cases h
  · cases h
  rename_i b kv v hx hix hy
  split at h
  rotate_left
  · cases h
  rename_i k e kd agg has cols hm hH
  split at h
  rotate_left
  · cases h
  rename_i kd' cols' hkd hset
  split at h
  rotate_left
  · cases h
  rename_i hc
  simp only [Bool.and_eq_true] at hc
  obtain ⟨⟨⟨h1, hkv⟩, h2⟩, h3⟩ := hc
  obtain rfl := sameKD_eq h1
  cases h
  intro β F w0 w ev hev hs hsc _
  obtain ⟨ob, hob, es, clock, rfl, hat, he1, he2, hnd, he3⟩ := hs.obj b _ hH trivial
  have e1 : (execOp ev o) = (do Instr.mapUpdate T (ev x) (ev ix) (ev y); pure .skip) := by rcases ho with ho | ho <;> simp [execOp, ho]
  have hg : (getObj (β b).1).run P w = .ok (.map es clock) w := by simp [getObj, Sem.run, hob]
  have hms : ∀ u, (keq u kv = true → mval agg cols' u = v.conc β) ∧ (keq u kv = false → mval agg cols' u = mval agg cols u) := fun u => mval_set hset h2
  obtain ⟨_, hz⟩ := mcolsSet_spec β hset
  have hzero : ∀ u, kd.ok u = true → (keq u kv || has u) = false → ∀ c ∈ cols', c.val u = c.zero := fun u hu hn c hc => by
    simp only [Bool.or_eq_false_iff] at hn
    obtain ⟨c0, hc0, g1, g2⟩ := (hz u hn.1).2 c hc
    rw [g1, g2]; exact he3 u hu hn.2 c0 hc0
  have key : ∃ es' c', (Instr.mapUpdate T (.map (some (β b).1)) kv (v.conc β)).run P w = .ok () { w with heap := w.heap.setIfInBounds (β b).1 (.map es' c') } ∧
      (∀ e ∈ es'.toList, kd.ok e.key = true ∧ (keq e.key kv || has e.key) = true ∧ e.val = mval agg cols' e.key) ∧ (∀ u, kd.ok u = true → (keq u kv || has u) = true → ∃ e ∈ es'.toList, e.key = u) ∧ (es'.toList.map (·.key)).Nodup := by
    rcases findNow_spec hkv es.toList 0 (fun e he => (he1 e he).1) with ⟨i, x, hi, hxk, hf⟩ | ⟨hn, hf⟩
    · refine ⟨es.modify i fun e => { e with key := kv, val := v.conc β }, clock, ?_, ?_, ?_, ?_⟩
      · simp only [Instr.mapUpdate]
        rw [Sem.run_bind, run_underlying (underlying_map hm)]
        simp only [Sem.run_bind, hg, Result.andThen, Sem.run_pure]
        rw [run_checkKey hkd]
        simp only [Sem.run_bind, Result.andThen, Sem.run_pure]
        rw [run_findKey hkd hf]
        simp only [Sem.run_bind, Result.andThen, Sem.run_pure, Nat.zero_add]
        have hi' : es[i]? = some x := by rw [← Array.getElem?_toList]; exact hi
        have hstay : (Instr.keyThatStays (((es[i]?).map (·.key)).getD kv) kv).run P w = .ok kv w := by
          rw [hi']
          simp only [Option.map_some, Option.getD_some, hxk, Instr.keyThatStays, sameBits_keq hkv rfl, if_true, Sem.run_pure]
        rw [hstay]
        simp only [Result.andThen]
        exact run_setMap hob
      · intro e he
        rw [Array.toList_modify] at he
        obtain ⟨j, hj⟩ := List.mem_iff_getElem?.1 he
        rw [List.getElem?_modify] at hj
        obtain ⟨e0, he0, hj⟩ := Option.map_eq_some_iff.1 hj
        have hm0 := he1 e0 (List.mem_of_getElem? he0)
        by_cases hij : i = j
        · rw [if_pos hij] at hj; subst hj
          exact ⟨hkv, by simp [keq_self hkv], ((hms kv).1 (keq_self hkv)).symm⟩
        · rw [if_neg hij] at hj
          have hj : e0 = e := hj
          subst hj
          have hne : keq e0.key kv = false := by
            cases hk : keq e0.key kv with
            | false => rfl
            | true =>
              exfalso
              have hke := (keq_iff hm0.1 hkv).1 hk
              have h1 : (es.toList.map (·.key))[i]? = some kv := by rw [List.getElem?_map, hi]; simp [hxk]
              have h2 : (es.toList.map (·.key))[j]? = some kv := by rw [List.getElem?_map, he0]; simp [hke]
              exact hij (nodup_idx hnd h1 h2)
          exact ⟨hm0.1, by rw [hm0.2.1]; simp, by rw [(hms _).2 hne]; exact hm0.2.2⟩
      · intro u hu hh
        have hh' : has u = true := by
          simp only [Bool.or_eq_true] at hh
          rcases hh with h | h
          · rw [(keq_iff hu hkv).1 h, ← hxk]; exact (he1 x (List.mem_of_getElem? hi)).2.1
          · exact h
        obtain ⟨e, he, hek⟩ := he2 u hu hh'
        obtain ⟨j, hj⟩ := List.mem_iff_getElem?.1 he
        by_cases hij : i = j
        · subst hij
          rw [hi] at hj; cases hj
          refine ⟨{ x with key := kv, val := v.conc β }, ?_, by rw [← hek, hxk]⟩
          rw [Array.toList_modify]
          refine List.mem_iff_getElem?.2 ⟨i, ?_⟩
          rw [List.getElem?_modify, hi]; simp
        · refine ⟨e, ?_, hek⟩
          rw [Array.toList_modify]
          refine List.mem_iff_getElem?.2 ⟨j, ?_⟩
          rw [List.getElem?_modify, hj]; simp [hij]
      · rw [Array.toList_modify]
        have := nodup_keys_modify hnd hi (v.conc β)
        rw [hxk] at this
        rw [this]; exact hnd
    · refine ⟨es.push ⟨kv, v.conc β, clock⟩, clock + 1, ?_, ?_, ?_, ?_⟩
      · simp only [Instr.mapUpdate]
        rw [Sem.run_bind, run_underlying (underlying_map hm)]
        simp only [Sem.run_bind, hg, Result.andThen, Sem.run_pure]
        rw [run_checkKey hkd]
        simp only [Sem.run_bind, Result.andThen, Sem.run_pure]
        rw [run_findKey hkd hf]
        simp only [Sem.run_bind, Result.andThen, Sem.run_pure]
        exact run_setMap hob
      · intro e he
        rw [Array.toList_push] at he
        rcases List.mem_append.1 he with he | he
        · have hm0 := he1 e he
          have hne : keq e.key kv = false := by
            cases hk : keq e.key kv with
            | false => rfl
            | true => exact absurd ((keq_iff hm0.1 hkv).1 hk) (hn e he)
          exact ⟨hm0.1, by rw [hm0.2.1]; simp, by rw [(hms _).2 hne]; exact hm0.2.2⟩
        · simp at he; subst he
          exact ⟨hkv, by simp [keq_self hkv], ((hms kv).1 (keq_self hkv)).symm⟩
      · intro u hu hh
        rw [Array.toList_push]
        simp only [Bool.or_eq_true] at hh
        rcases hh with h | h
        · exact ⟨⟨kv, v.conc β, clock⟩, by simp, ((keq_iff hu hkv).1 h).symm⟩
        · obtain ⟨e, he, hek⟩ := he2 u hu h
          exact ⟨e, by simp [he], hek⟩
      · rw [Array.toList_push, List.map_append]
        refine List.nodup_append.2 ⟨hnd, by simp, fun a ha b hb => ?_⟩
        simp at hb; subst hb
        obtain ⟨e, he, rfl⟩ := List.mem_map.1 ha
        exact hn e he
  obtain ⟨es', c', hrun, k1, k2, k3⟩ := key
  refine ⟨_, { w with heap := w.heap.setIfInBounds (β b).1 (.map es' c') }, β, rfl, .inr ⟨?_, rfl⟩, ?_, Pl.Ext.refl, fun _ _ => rfl⟩
  · rw [e1, Sem.run_bind, hev x _ hx, hev ix _ hix, hev y _ hy]
    simp only [AV.conc]
    rw [hrun]; rfl
  · simp only [Res.apply, writes, List.map_nil, List.append_nil]
    exact hs.turnMap hH hob hat k1 k2 k3 hzero

def deleteH (P : Program) (ats : Array TypeId) (x ix : Option AV) (H : AHeap) : Option OutT :=
  match ats.toList, x, ix with
  | t :: _, some (.mp b), some (.val kv) =>
    match mapT P t, H[b]? with
    | some (k, e), some (some (.mapc true kd agg has cols)) =>
      match kdT P k with
      | some kd' =>
        if sameKD kd kd' && kd.ok kv then
          some (.ret ⟨.tup [], [(b, some (.mapc true kd agg (fun u => has u && !keq u kv) (cols.map (mcolClear kv))))], []⟩)
        else none
      | none => none
    | _, _ => none
  | _, _, _ => none

theorem mval_clear {agg : Bool} {cols : List MCol} {kv u : Value} (h : keq u kv = false) : mval agg (cols.map (mcolClear kv)) u = mval agg cols u := by
  have e : (cols.map (mcolClear kv)).map (·.val u) = cols.map (·.val u) := by
    rw [List.map_map]; exact List.map_congr_left fun c _ => (mcolClear_spec kv c).2.1 u h
  cases agg with
  | true => simp only [mval, e]
  | false => cases cols <;> simp_all [mval]

theorem deleteH_tells {P o ρ H t} {x ix : Operand} {ats : Array TypeId} (ho : o.op = .call ⟨.builtin .delete, #[x, ix], ats⟩) (h : deleteH P ats (ρ x) (ρ ix) H = some t) : Tells P o ρ H t := by
  unfold deleteH at h
  split at h
  rotate_left
  · cases h
  rename_i T rest b kv hat0 hx hix
  split at h
  rotate_left
  · cases h
  rename_i k e kd agg has cols hm hH
  split at h
  rotate_left
  · cases h
  rename_i kd' hkd
  split at h
  rotate_left
  · cases h
  rename_i hc
  simp only [Bool.and_eq_true] at hc
  obtain ⟨h1, hkv⟩ := hc
  obtain rfl := sameKD_eq h1
  cases h
  intro β F w0 w ev hev hs hsc _
  obtain ⟨ob, hob, es, clock, rfl, hat, he1, he2, hnd, he3⟩ := hs.obj b _ hH trivial
  have hg : (getObj (β b).1).run P w = .ok (.map es clock) w := by simp [getObj, Sem.run, hob]
  have hzero : ∀ u, kd.ok u = true → (has u && !keq u kv) = false → ∀ c ∈ cols.map (mcolClear kv), c.val u = c.zero := fun u hu hn c hc => by
    obtain ⟨c0, hc0, rfl⟩ := List.mem_map.1 hc
    obtain ⟨g1, g2, g3⟩ := mcolClear_spec kv c0
    rw [g3]
    cases hk : keq u kv with
    | true => exact g1 u hk
    | false =>
      rw [g2 u hk]
      rw [hk] at hn
      simp at hn
      exact he3 u hu hn c0 hc0
  have hat1 : ats[0]? = some T := by rw [← Array.getElem?_toList, hat0]; rfl
  have key : ∃ es', (Builtin.delete_ ats o.type #[.map (some (β b).1), kv]).run P w = .ok (.tuple #[]) { w with heap := w.heap.setIfInBounds (β b).1 (.map es' clock) } ∧
      (∀ e ∈ es'.toList, kd.ok e.key = true ∧ (has e.key && !keq e.key kv) = true ∧ e.val = mval agg (cols.map (mcolClear kv)) e.key) ∧ (∀ u, kd.ok u = true → (has u && !keq u kv) = true → ∃ e ∈ es'.toList, e.key = u) ∧ (es'.toList.map (·.key)).Nodup := by
    rcases findNow_spec hkv es.toList 0 (fun e he => (he1 e he).1) with ⟨i, x, hi, hxk, hf⟩ | ⟨hn, hf⟩
    · have hil : i < es.size := by have := (List.getElem?_eq_some_iff.1 hi).1; simpa using this
      have hel : (es.eraseIdxIfInBounds i).toList = es.toList.eraseIdx i := by
        rw [Array.eraseIdxIfInBounds, dif_pos hil, Array.toList_eraseIdx]
      have hne : ∀ e ∈ es.toList.eraseIdx i, e ∈ es.toList ∧ e.key ≠ kv := fun e he => by
        obtain ⟨j, hij, hj⟩ := List.mem_eraseIdx_iff_getElem?.1 he
        refine ⟨List.mem_of_getElem? hj, fun hk => hij ?_⟩
        have h1 : (es.toList.map (·.key))[i]? = some kv := by rw [List.getElem?_map, hi]; simp [hxk]
        have h2 : (es.toList.map (·.key))[j]? = some kv := by rw [List.getElem?_map, hj]; simp [hk]
        exact nodup_idx hnd h2 h1
      refine ⟨es.eraseIdxIfInBounds i, ?_, ?_, ?_, ?_⟩
      · simp only [Builtin.delete_, hat1]
        simp only [List.getElem?_toArray, List.getElem?_cons_zero, List.getElem?_cons_succ]
        rw [Sem.run_bind, run_underlying (underlying_map hm)]
        simp only [Sem.run_bind, hg, Result.andThen, Sem.run_pure]
        rw [run_checkKey hkd]
        simp only [Sem.run_bind, Result.andThen, Sem.run_pure]
        rw [run_findKey hkd hf]
        simp only [Sem.run_bind, Result.andThen, Sem.run_pure, Nat.zero_add]
        rw [run_setMap hob]
      · intro e he
        rw [hel] at he
        obtain ⟨hm0, hk⟩ := hne e he
        obtain ⟨g1, g2, g3⟩ := he1 e hm0
        have hkf : keq e.key kv = false := by
          cases hh : keq e.key kv with
          | false => rfl
          | true => exact absurd ((keq_iff g1 hkv).1 hh) hk
        exact ⟨g1, by rw [g2, hkf]; rfl, by rw [mval_clear hkf]; exact g3⟩
      · intro u hu hh
        simp only [Bool.and_eq_true, Bool.not_eq_true'] at hh
        obtain ⟨e, he, hek⟩ := he2 u hu hh.1
        refine ⟨e, ?_, hek⟩
        rw [hel]
        obtain ⟨j, hj⟩ := List.mem_iff_getElem?.1 he
        refine List.mem_eraseIdx_iff_getElem?.2 ⟨j, fun hij => ?_, hj⟩
        subst hij
        rw [hi] at hj; cases hj
        rw [← hek, hxk, keq_self hkv] at hh
        cases hh.2
      · rw [hel]
        exact List.Nodup.sublist ((List.eraseIdx_sublist _ _).map _) hnd
    · refine ⟨es, ?_, ?_, ?_, hnd⟩
      · simp only [Builtin.delete_, hat1]
        simp only [List.getElem?_toArray, List.getElem?_cons_zero, List.getElem?_cons_succ]
        rw [Sem.run_bind, run_underlying (underlying_map hm)]
        simp only [Sem.run_bind, hg, Result.andThen, Sem.run_pure]
        rw [run_checkKey hkd]
        simp only [Sem.run_bind, Result.andThen, Sem.run_pure]
        rw [run_findKey hkd hf]
        simp only [Sem.run_bind, Result.andThen, Sem.run_pure]
        rw [run_setMap hob]
      · intro e he
        obtain ⟨g1, g2, g3⟩ := he1 e he
        have hkf : keq e.key kv = false := by
          cases hh : keq e.key kv with
          | false => rfl
          | true => exact absurd ((keq_iff g1 hkv).1 hh) (hn e he)
        exact ⟨g1, by rw [g2, hkf]; rfl, by rw [mval_clear hkf]; exact g3⟩
      · intro u hu hh
        simp only [Bool.and_eq_true, Bool.not_eq_true'] at hh
        exact he2 u hu hh.1
  obtain ⟨es', hrun, k1, k2, k3⟩ := key
  refine ⟨_, { w with heap := w.heap.setIfInBounds (β b).1 (.map es' clock) }, β, rfl, .inl ?_, ?_, Pl.Ext.refl, fun _ _ => rfl⟩
  · obtain ⟨consts, hr⟩ := builtin_run ho ev w
    rw [hr]
    simp only [List.map_toArray, List.map_cons, List.map_nil, builtin]
    rw [Sem.run_bind, hev x _ hx, hev ix _ hix]
    simp only [AV.conc]
    rw [hrun]; rfl
  · simp only [Res.apply, writes, List.map_nil, List.append_nil]
    exact hs.turnMap hH hob hat k1 k2 k3 hzero

/-! make(map[K]V) -/
def zeroM : Value → Option MCol
  | .int k z => match decide (z = 0) with | true => some (.int k fun _ => 0) | false => none
  | .bool b => match b with | false => some (.bool fun _ => false) | true => none
  | .string s => match s.data.toList with | [] => some (.str fun _ => ByteArray.empty) | _ => none
  | _ => none
def zeroMs : List Value → Option (List MCol)
  | [] => some []
  | v :: r => match zeroM v, zeroMs r with | some c, some l => some (c :: l) | _, _ => none

theorem zeroMs_zero : ∀ {vs : List Value} {cols : List MCol}, zeroMs vs = some cols → ∀ c ∈ cols, ∀ u, c.val u = c.zero
  | [], cols, h, c, hc => by simp only [zeroMs, Option.some.injEq] at h; subst h; simp at hc
  | v :: r, cols, h, c, hc => by
    simp only [zeroMs] at h
    split at h
    · rename_i c0 l h0 hl
      cases h
      rcases List.mem_cons.1 hc with rfl | hc
      · intro u
        unfold zeroM at h0
        repeat' split at h0
        all_goals first | (cases h0; done) | (cases h0; rfl)
      · exact zeroMs_zero hl c hc
    · cases h

def makeMapH (P : Program) (t : TypeId) (reserve : Option (Option AV)) (H : AHeap) : Option OutT :=
  match mapT P t with
  | some (k, e) =>
    match kdT P k, (P.info? e).bind (·.zero) with
    | some kd, some z =>
      match zeroMs z.cells.toList with
      | some cols =>
        match reserve with
        | none => some (.ret ⟨.mp H.length, [], [.mapc true kd (match z with | .agg _ => true | _ => false) (fun _ => false) cols]⟩)
        | _ => none
      | none => none
    | _, _ => none
  | none => none

theorem makeMapH_tells {P o ρ H t} {T : TypeId} {r : Option Operand} (ho : o.op = .makeMap T r) (h : makeMapH P T (r.map ρ) H = some t) : Tells P o ρ H t := by
  unfold makeMapH at h
  split at h
  rotate_left
  · cases h
  rename_i k e hm
  split at h
  rotate_left
  · cases h
  rename_i kd z hkd hz
  split at h
  rotate_left
  · cases h
  rename_i cols hcols
  split at h
  rotate_left
  · cases h
  rename_i hr
  cases r with
  | some x => cases hr
  | none =>
  cases h
  refine tells_new rfl trivial rfl fun β ev F w0 w hev hs => ⟨.map #[] 0, fun _ => ⟨#[], 0, rfl, rfl, (fun e he => absurd he (by simp)), (fun v _ hh => Bool.noConfusion hh), (by simp), fun v _ _ c hc => zeroMs_zero hcols c hc v⟩, ?_⟩
  have e1 : (execOp ev o) = (do let v ← Instr.makeMap T none; pure (.value v)) := by simp [execOp, ho]
  rw [e1, Sem.run_bind]
  have : (AV.mp H.length).conc (β.ext H.length w.heap.size) = .map (some w.heap.size) := by simp [AV.conc, Pl.ext_new]
  rw [this]
  simp [Instr.makeMap, newObj, Sem.run, go_sem]
end Go.Vs

namespace Go.Vs
open Go Go.RowKit
set_option linter.unusedSimpArgs false
set_option linter.unusedVariables false

/-! ### structs that are compared -/
def eqL (P : Program) (g : TypeId → List Value → List Value → Option Bool) (xs ys : List Value) : List Field → Option Bool
  | [] => some true
  | f :: fs =>
    if f.name = "_" then eqL P g xs ys fs
    else
      match szOf P f.type with
      | some n =>
        if Nat.ble (f.offset + n) xs.length && Nat.ble (f.offset + n) ys.length then
          match g f.type ((xs.drop f.offset).take n) ((ys.drop f.offset).take n), eqL P g xs ys fs with
          | some a, some b => some (a && b)
          | _, _ => none
        else none
      | none => none

def eqV (P : Program) : Nat → TypeId → List Value → List Value → Option Bool
  | 0, _, _, _ => none
  | d + 1, t, xs, ys =>
    match P.underlying t with
    | some (.int _) => match xs, ys with | [.int k a], [.int k' b] => if k = k' then some (decide (a = b)) else none | _, _ => none
    | some .bool => match xs, ys with | [.bool a], [.bool b] => some (decide (a = b)) | _, _ => none
    | some .string => match xs, ys with | [.string a], [.string b] => some (decide (a = b)) | _, _ => none
    | some (.struct fs) => if P.stoodInHeld t then none else eqL P (eqV P d) xs ys fs.toList
    | _ => none

def valOf (P : Program) (t : TypeId) (xs : List Value) : Value := if isAggT P t then .agg xs.toArray else xs.headD undef

theorem run_part {P : Program} {w : World} {t n off : Nat} {xs : List Value} (hu : (P.underlying t).isSome = true) (hn : szOf P t = some n) (hl : off + n ≤ xs.length) (h1 : isAggT P t = false → 0 < n) :
    (part t xs.toArray off).run P w = .ok (valOf P t ((xs.drop off).take n)) w := by
  simp only [part]
  rw [Sem.run_bind, run_isAgg hu]
  simp only [Result.andThen]
  cases hb : isAggT P t with
  | true =>
    simp only [if_true]
    rw [Sem.run_bind, run_sizeOf hn]
    simp only [Result.andThen, Sem.run_pure, valOf, hb, if_true]
    congr 2
    apply Array.ext'
    simp [List.take_drop]
  | false =>
    have h1 := h1 hb
    have : xs[off]? = some xs[off] := List.getElem?_eq_getElem (by omega)
    simp only [Bool.false_eq_true, if_false, List.getElem?_toArray, this, Sem.run_pure, valOf, hb]
    congr 1
    cases n with
    | zero => omega
    | succ n => rw [List.drop_eq_getElem_cons (by omega)]; rfl

theorem eqV_one {P : Program} {d : Nat} {t : TypeId} {xs ys : List Value} {b : Bool} (h : eqV P d t xs ys = some b) : (P.underlying t).isSome = true ∧ (isAggT P t = false → 0 < xs.length) := by
  cases d with
  | zero => cases h
  | succ d =>
    simp only [eqV] at h
    split at h
    · rename_i k hk
      refine ⟨by rw [hk]; rfl, fun _ => ?_⟩
      split at h
      · simp
      · cases h
    · rename_i hk
      refine ⟨by rw [hk]; rfl, fun _ => ?_⟩
      split at h
      · simp
      · cases h
    · rename_i hk
      refine ⟨by rw [hk]; rfl, fun _ => ?_⟩
      split at h
      · simp
      · cases h
    · rename_i fs hk
      exact ⟨by rw [hk]; rfl, fun h => by simp [isAggT, hk] at h⟩
    · cases h

theorem eqV_run {P : Program} {w : World} : ∀ (d : Nat) {t : TypeId} {xs ys : List Value} {b : Bool}, eqV P d t xs ys = some b → ∀ D, d ≤ D → (Op.equalIn D t (valOf P t xs) (valOf P t ys)).run P w = .ok b w
  | 0, _, _, _, _, h, _, _ => by cases h
  | d + 1, t, xs, ys, b, h, D, hD => by
    obtain ⟨D, rfl⟩ : ∃ e, D = e + 1 := ⟨D - 1, by omega⟩
    simp only [eqV] at h
    split at h
    · rename_i k hk
      have ha : isAggT P t = false := by simp [isAggT, hk]
      split at h
      · rename_i k1 a k2 c
        split at h
        · rename_i hkk; subst hkk
          cases h
          simp only [valOf, ha, Bool.false_eq_true, if_false, List.headD_cons]
          rw [run_equalIn_int w D t k1 k a c hk]; rfl
        · cases h
      · cases h
    · rename_i hk
      have ha : isAggT P t = false := by simp [isAggT, hk]
      split at h
      · rename_i a c
        cases h
        simp only [valOf, ha, Bool.false_eq_true, if_false, List.headD_cons]
        rw [run_equalIn_bool' w D t a c hk]
        cases a <;> cases c <;> rfl
      · cases h
    · rename_i hk
      have ha : isAggT P t = false := by simp [isAggT, hk]
      split at h
      · rename_i a c
        cases h
        simp only [valOf, ha, Bool.false_eq_true, if_false, List.headD_cons]
        rw [run_equalIn_string w D t a c hk, ← beq_toListBytes, beqBytes]
      · cases h
    · rename_i fs hk
      have ha : isAggT P t = true := by simp [isAggT, hk]
      split at h
      · cases h
      rename_i hst
      have hst : P.stoodInHeld t = false := by simpa using hst
      simp only [valOf, ha, if_true]
      have hf : P.fieldsOf t = fs := by simp [Program.fieldsOf, hk]
      rw [run_equalIn_struct w D t xs.toArray ys.toArray (by rw [hf]; exact hk) hst, hf]
      have hD' : d ≤ D := by omega
      clear hk hf hst ha
      generalize fs.toList = l at h
      clear fs
      induction l generalizing b with
      | nil => simp only [eqL, Option.some.injEq] at h; subst h; simp [Op.eqFields, go_sem]
      | cons f l ih =>
        simp only [eqL] at h
        simp only [Op.eqFields]
        split at h
        · rename_i hn
          rw [if_neg (by simp [hn])]
          exact ih _ h
        · rename_i hn
          rw [if_pos hn]
          split at h
          rotate_left
          · cases h
          rename_i n hsz
          split at h
          rotate_left
          · cases h
          rename_i hle
          simp only [Bool.and_eq_true] at hle
          have hl1 := Nat.le_of_ble_eq_true hle.1
          have hl2 := Nat.le_of_ble_eq_true hle.2
          split at h
          rotate_left
          · cases h
          rename_i a c ha hc
          cases h
          obtain ⟨q1, q2⟩ := eqV_one ha
          have q2' : isAggT P f.type = false → 0 < n := fun hh => by
            have := q2 hh
            simp at this
            omega
          rw [Sem.run_bind, run_part q1 hsz hl1 q2']
          simp only [Result.andThen]
          rw [Sem.run_bind, run_part q1 hsz hl2 q2']
          simp only [Result.andThen]
          rw [Sem.run_bind, eqV_run d ha D hD']
          simp only [Result.andThen]
          cases a
          · simp [go_sem]
          · simp only [Bool.not_true, Bool.false_eq_true, if_false, Bool.true_and]
            exact ih _ hc
    · cases h

def plainVals : List AV → Option (List Value)
  | [] => some []
  | .val v :: r => (plainVals r).map (v :: ·)
  | _ :: _ => none

theorem plainVals_conc (β : Pl) : ∀ {l : List AV} {vs : List Value}, plainVals l = some vs → AV.concs β l = vs
  | [], vs, h => by simp only [plainVals, Option.some.injEq] at h; subst h; rfl
  | .val v :: r, vs, h => by
    simp only [plainVals, Option.map_eq_some_iff] at h
    obtain ⟨l, hl, rfl⟩ := h
    simp only [AV.concs, AV.conc, plainVals_conc β hl]
  | .ptr .. :: r, vs, h => by simp [plainVals] at h
  | .pel .. :: r, vs, h => by simp [plainVals] at h
  | .sl .. :: r, vs, h => by simp [plainVals] at h
  | .mp .. :: r, vs, h => by simp [plainVals] at h
  | .ch .. :: r, vs, h => by simp [plainVals] at h
  | .fn .. :: r, vs, h => by simp [plainVals] at h
  | .ifc .. :: r, vs, h => by simp [plainVals] at h
  | .agg .. :: r, vs, h => by simp [plainVals] at h
  | .tup .. :: r, vs, h => by simp [plainVals] at h

def isStructT (P : Program) (t : TypeId) : Bool := match P.underlying t with | some (.struct _) => true | _ => false

def structEqH (P : Program) (op : BinOp) (T : TypeId) (x y : Option AV) : Option OutT :=
  match x, y with
  | some (.agg xs), some (.agg ys) =>
    match plainVals xs, plainVals ys with
    | some vs, some us =>
      match eqV P 16 T vs us with
      | some b =>
        if isStructT P T && !(P.eqGuardType P.depth T) then
          match op with
          | .eql => some (rv (.val (.bool b)))
          | .neq => some (rv (.val (.bool (!b))))
          | _ => none
        else none
      | none => none
    | _, _ => none
  | _, _ => none

theorem structEqH_tells {P o ρ H t} {op : BinOp} {T T' : TypeId} {x y : Operand} (ho : o.op = .binOp op T x y T') (h : structEqH P op T (ρ x) (ρ y) = some t) : Tells P o ρ H t := by
  unfold structEqH at h
  split at h
  rotate_left
  · cases h
  rename_i xs ys hx hy
  split at h
  rotate_left
  · cases h
  rename_i vs us hvs hus
  split at h
  rotate_left
  · cases h
  rename_i b hb
  split at h
  rotate_left
  · cases h
  rename_i hc
  simp only [Bool.and_eq_true, Bool.not_eq_true'] at hc
  have hagg : isAggT P T = true := by
    have := hc.1
    unfold isStructT at this
    split at this
    · rename_i fs hk; simp [isAggT, hk]
    · cases this
  have hrun : ∀ w : World, (Op.equalIn 10000 T (.agg vs.toArray) (.agg us.toArray)).run P w = .ok b w := fun w => by
    have := eqV_run (w := w) 16 hb 10000 (by omega)
    simpa only [valOf, hagg, if_true] using this
  have hbin : ∀ (ev : Operand → Value) (w : World) (v : Value), ev x = .agg vs.toArray → ev y = .agg us.toArray → (binOp op T (.agg vs.toArray) (.agg us.toArray)).run P w = .ok v w → (execOp ev o).run P w = .ok (.value v) w := fun ev w v hx hy hv => by
    have e1 : (execOp ev o) = (do let v ← (do eqGuard op T x y (ev x) (ev y); binOp op T (ev x) (ev y)); pure (.value v)) := by simp [execOp, ho]
    rw [e1, Sem.run_bind, Sem.run_bind, hx, hy, run_eqGuard_agg w op T x y _ _ hc.2]
    simp only [Result.andThen, hv, Sem.run_pure]
  split at h
  · cases h
    refine tells_value fun β ev F w0 w hev hs => hbin ev w _ (by rw [hev x _ hx, AV.conc, plainVals_conc β hvs]) (by rw [hev y _ hy, AV.conc, plainVals_conc β hus]) ?_
    rw [run_eql_struct w, hrun]; rfl
  · cases h
    refine tells_value fun β ev F w0 w hev hs => hbin ev w _ (by rw [hev x _ hx, AV.conc, plainVals_conc β hvs]) (by rw [hev y _ hy, AV.conc, plainVals_conc β hus]) ?_
    rw [run_neq_struct w, hrun]; rfl
  · cases h

/-! ### rows that are written down -/
theorem foldl_setArr : ∀ (vs : List Value) (k off : Nat) (c : Array Value), (vs.zipIdx k).foldl (fun cs (x : Value × Nat) => cs.setIfInBounds (off + x.2) x.1) c = setArr c (off + k) vs
  | [], k, off, c => rfl
  | v :: vs, k, off, c => by
    simp only [List.zipIdx_cons, List.foldl_cons, setArr]
    rw [foldl_setArr vs (k + 1) off, show off + (k + 1) = off + k + 1 by omega]

def fillCols (sz len : Nat) (cols : List Col) : List (Nat × AV) → Option (Bool × List Col)
  | [] => some (true, cols)
  | (i, v) :: r =>
    if Nat.blt i len && Nat.beq (cellsOf v).length sz && (cellsOf v).all AV.cell then
      match colsSet cols i 0 (cellsOf v) with
      | some (g, cols') => match fillCols sz len cols' r with | some (g', c) => some (g && g', c) | none => none
      | none => none
    else none

theorem fillCols_fill {ice : Nat → Obj → Prop} {β : Pl} {sz len : Nat} : ∀ {parts : List (Nat × AV)} {cols cols' : List Col} {g : Bool} {c : Array Value}, fillCols sz len cols parts = some (g, cols') → g = true → cols.length = sz → c.size = len * sz →
    (∀ i, i < len → ∀ (j : Nat) (col : Col), cols[j]? = some col → ∃ v, c[i * sz + j]? = some v ∧ Holds ice col i v) →
    ∃ c', Instr.fill (fun i => some (i * sz, sz)) c (parts.map fun p => (p.1, p.2.conc β)) = some c' ∧ cols'.length = sz ∧ c'.size = len * sz ∧ ∀ i, i < len → ∀ (j : Nat) (col : Col), cols'[j]? = some col → ∃ v, c'[i * sz + j]? = some v ∧ Holds ice col i v
  | [], cols, cols', g, c, h, hg, hl, hs, hc => by
    simp only [fillCols, Option.some.injEq, Prod.mk.injEq] at h
    obtain ⟨_, rfl⟩ := h
    exact ⟨c, rfl, hl, hs, hc⟩
  | (i, v) :: r, cols, cols', g, c, h, hg, hl, hs, hc => by
    simp only [fillCols] at h
    split at h
    rotate_left
    · cases h
    rename_i hcond
    simp only [Bool.and_eq_true] at hcond
    obtain ⟨⟨hi, hlen⟩, hcell⟩ := hcond
    have hi : i < len := by simpa using hi
    have hlen := Nat.eq_of_beq_eq_true hlen
    split at h
    rotate_left
    · cases h
    rename_i g1 cols1 hset
    split at h
    rotate_left
    · cases h
    rename_i g2 cols2 hrec
    simp only [Option.some.injEq, Prod.mk.injEq] at h
    obtain ⟨hgg, rfl⟩ := h
    rw [hg] at hgg
    simp only [Bool.and_eq_true] at hgg
    obtain ⟨s1, s2, s3⟩ := colsSet_spec (ice := ice) β hset hgg.1
    have hcl := conc_cells β v hcell
    have hle : (i + 1) * sz ≤ len * sz := Nat.mul_le_mul_right _ hi
    rw [Nat.succ_mul] at hle
    have hsz : (v.conc β).cells.size = sz := by rw [← Array.length_toList, hcl, concs_length, hlen]
    have hset' : (v.conc β).cells.zipIdx.foldl (fun cs (x : Value × Nat) => cs.setIfInBounds (i * sz + x.2) x.1) c = setArr c (i * sz) (AV.concs β (cellsOf v)) := by
      rw [← Array.foldl_toList, Array.toList_zipIdx, hcl]
      exact foldl_setArr _ 0 (i * sz) c
    obtain ⟨c', h1, h2, h3, h4⟩ := fillCols_fill (ice := ice) (β := β) (c := setArr c (i * sz) (AV.concs β (cellsOf v))) hrec hgg.2 (by rw [s1, hl]) (by rw [setArr_size, hs]) (fun i' hi' j col hj => by
      obtain ⟨col0, hcol0, hkeep, hput⟩ := s3 j col hj
      have hjl : j < sz := by have := (List.getElem?_eq_some_iff.1 hcol0).1; omega
      obtain ⟨u, hu, hh⟩ := hc i' hi' j col0 hcol0
      rw [setArr_get _ _ _ (by rw [concs_length, hlen]; omega), concs_length, hlen]
      by_cases hii : i' = i
      · subst hii
        rw [if_pos (by omega), show i' * sz + j - i' * sz = j by omega]
        have : (cellsOf v)[j]? = some (cellsOf v)[j] := List.getElem?_eq_getElem (by omega)
        exact ⟨_, concs_get β this, hput (by omega) _ (by simp)⟩
      · have hne : ¬ (i * sz ≤ i' * sz + j ∧ i' * sz + j < i * sz + sz) := by
          rcases Nat.lt_or_gt_of_ne hii with hlt' | hgt
          · have : (i' + 1) * sz ≤ i * sz := Nat.mul_le_mul_right _ hlt'
            rw [Nat.succ_mul] at this
            omega
          · have : (i + 1) * sz ≤ i' * sz := Nat.mul_le_mul_right _ hgt
            rw [Nat.succ_mul] at this
            omega
        rw [if_neg hne]
        exact ⟨u, hu, hkeep i' u (fun h => hii h.1) hh⟩)
    refine ⟨c', ?_, h2, h3, h4⟩
    simp only [List.map_cons, Instr.fill]
    rw [if_neg (by simp [hsz, hs]; omega)]
    rw [hset']; exact h1

def partsAV (ρ : Rho) : List (Nat × Operand) → Option (List (Nat × AV))
  | [] => some []
  | (i, x) :: r =>
    match ρ x, partsAV ρ r with
    | some v, some l => some ((i, v) :: l)
    | _, _ => none

theorem partsAV_spec {ρ : Rho} {β : Pl} {ev : Operand → Value} (hev : ∀ x av, ρ x = some av → ev x = av.conc β) : ∀ {ps : List (Nat × Operand)} {l : List (Nat × AV)}, partsAV ρ ps = some l →
    ps.map (fun p => (p.1, ev p.2)) = l.map fun p => (p.1, p.2.conc β)
  | [], l, h => by simp only [partsAV, Option.some.injEq] at h; subst h; rfl
  | (i, x) :: r, l, h => by
    simp only [partsAV] at h
    split at h
    · rename_i v l' hv hl
      cases h
      simp only [List.map_cons, hev x v hv, partsAV_spec hev hl]
    · cases h

def buildSliceH (P : Program) (t : TypeId) (len : Nat) (parts : Array (Nat × Operand)) (ρ : Rho) (H : AHeap) : Option OutT :=
  match sliceT P t with
  | some e =>
    match szOf P e, zeroCells? P e, partsAV ρ parts.toList with
    | some sz, some zs, some l =>
      match zeroCols zs len with
      | some cols =>
        if Nat.beq zs.length sz && Nat.blt 0 sz && Nat.ble (len * sz) 16777216 then
          match fillCols sz len cols l with
          | some (g, cols') => some (.need g (.ret ⟨.sl false H.length sz 0 len len, [], [.arr true e len len cols']⟩))
          | none => none
        else none
      | none => none
    | _, _, _ => none
  | none => none

theorem buildSliceH_tells {P o ρ H t} {T : TypeId} {len : Nat} {parts : Array (Nat × Operand)} (ho : o.op = .buildSlice T len parts) (h : buildSliceH P T len parts ρ H = some t) : Tells P o ρ H t := by
  unfold buildSliceH at h
  split at h
  rotate_left
  · cases h
  rename_i e he
  split at h
  rotate_left
  · cases h
  rename_i sz zs l hsz hzs hl
  split at h
  rotate_left
  · cases h
  rename_i cols hcols
  split at h
  rotate_left
  · cases h
  rename_i hc
  simp only [Bool.and_eq_true] at hc
  obtain ⟨⟨hc1, hc2⟩, hc3⟩ := hc
  have hzl := Nat.eq_of_beq_eq_true hc1
  have hz0 : 0 < sz := by simpa using hc2
  have hc3 := Nat.le_of_ble_eq_true hc3
  split at h
  rotate_left
  · cases h
  rename_i g cols' hfill
  cases h
  refine tells_need fun hg => tells_new rfl (Nat.le_refl _) rfl fun β ev F w0 w hev hs => ?_
  obtain ⟨z, hzr, hzc⟩ := run_zeroValue (w := w) hzs
  obtain ⟨hl1, hl2⟩ := zeroCols_holds (ice := β.ice) hcols
  have hzsz : zs.toArray.size = sz := by simp [hzl]
  obtain ⟨c', hf, k1, k2, k3⟩ := fillCols_fill (ice := β.ice) (β := β) (c := (Array.range (len * sz)).map (zs.toArray[· % zs.toArray.size]!)) hfill hg (by omega) (by simp) (fun i hi j col hj => by
    obtain ⟨v, hv, hh, _⟩ := hl2 j col hj
    have hjl : j < sz := by have := (List.getElem?_eq_some_iff.1 hj).1; omega
    have hle : (i + 1) * sz ≤ len * sz := Nat.mul_le_mul_right _ hi
    rw [Nat.succ_mul] at hle
    refine ⟨v, ?_, hh i⟩
    have hmod : (i * sz + j) % zs.toArray.size = j := by rw [hzsz, Nat.add_comm, Nat.add_mul_mod_self_right]; exact Nat.mod_eq_of_lt hjl
    simp only [Array.getElem?_map, Array.getElem?_range, show i * sz + j < len * sz by omega, if_true, Option.map_some, hmod]
    have hjz : j < zs.toArray.size := by omega
    rw [getElem!_pos zs.toArray j hjz]
    have := (List.getElem?_eq_some_iff.1 hv)
    obtain ⟨hlt, hv'⟩ := this
    simp [hv'])
  refine ⟨.cells c' e, fun _ => ⟨c', (0, 0), _, rfl, fun _ => freeM_zero _, by rw [k1, k2]; omega, fun i hi j col hj => by
    obtain ⟨v, hv, hh⟩ := k3 i hi j col hj
    exact ⟨v, by rw [k1, Nat.zero_add]; exact hv, hh⟩⟩, ?_⟩
  have e1 : (execOp ev o) = (do let v ← Instr.buildSlice T len (parts.map fun (i, x) => (i, ev x)); pure (.value v)) := by simp [execOp, ho]
  have hparts : (parts.map fun x => (x.1, ev x.2)).toList = l.map fun p => (p.1, p.2.conc β) := by
    rw [← partsAV_spec hev hl]; simp
  rw [e1, Sem.run_bind]
  have hrun : (Instr.buildSlice T len (parts.map fun (i, x) => (i, ev x))).run P w = .ok (.slice (some ⟨w.heap.size, 0, none⟩) len len) (w.alloc (.cells c' e)) := by
    simp only [Instr.buildSlice]
    rw [Sem.run_bind, run_underlying (underlying_slice he)]
    simp only [Result.andThen]
    rw [Sem.run_bind, run_sizeOf hsz]
    simp only [Result.andThen]
    rw [if_neg (by omega)]
    by_cases h0 : len * sz = 0
    · rw [if_pos h0, Sem.run_bind]
      simp only [Sem.run_pure, Result.andThen]
      have hlz : len = 0 := by
        rcases Nat.eq_zero_or_pos len with h | h
        · exact h
        · have := Nat.mul_pos h hz0; omega
      have : (Array.range (len * sz)).map ((#[] : Array Value)[· % (#[] : Array Value).size]!) = (Array.range (len * sz)).map (zs.toArray[· % zs.toArray.size]!) := by
        rw [h0]; simp
      rw [this, hparts, hf]
      simp [newRow]
    · rw [if_neg h0, Sem.run_bind, hzr]
      simp only [Sem.run_bind, Sem.run_pure, Result.andThen, hzc]
      rw [hparts, hf]
      simp [newRow]
  rw [hrun, sl_new]
  rfl
end Go.Vs

namespace Go.Vs
open Go Go.RowKit
set_option linter.unusedSimpArgs false
set_option linter.unusedVariables false

/-! ### bytes of a string; a string of bytes -/
def isU8 (P : Program) (t : TypeId) : Bool := match P.underlying t with | some (.int .u8) => true | _ => false
theorem underlying_u8 {P : Program} {t : Nat} (h : isU8 P t = true) : P.underlying t = some (.int .u8) := by
  unfold isU8 at h; split at h
  · assumption
  · cases h

def strBytes (s : ByteArray) : List Int := s.data.toList.map fun b => (b.toNat : Int)

def convertH (P : Program) (src dst : TypeId) (x : Option AV) (H : AHeap) : Option OutT :=
  match sliceT P src with
  | some e =>
    if isStringT P dst && isU8 P e then
      match rowsOf P src [.int .u8 0] x H with
      | some (g, _, [.int .u8 l]) => some (.need g (rv (.val (.string (strOfNums l)))))
      | _ => none
    else none
  | none =>
    match sliceT P dst, x with
    | some e, some (.val (.string s)) => if isStringT P src && isU8 P e then some (madeT false H.length 1 e s.size [.int .u8 (strBytes s)] []) else none
    | _, _ => none

theorem strBytes_length (s : ByteArray) : (strBytes s).length = s.size := by rw [strBytes, List.length_map, Array.length_toList]; rfl

theorem convertH_tells {P o ρ H t} {src dst : TypeId} {x : Operand} (ho : o.op = .convert src dst x) (h : convertH P src dst (ρ x) H = some t) : Tells P o ρ H t := by
  have e1 : ∀ ev : Operand → Value, execOp ev o = (do let v ← convert src dst (ev x); pure (.value v)) := fun ev => by unfold execOp; rw [ho]
  unfold convertH at h
  split at h
  · rename_i e he
    split at h
    rotate_left
    · cases h
    rename_i hc
    simp only [Bool.and_eq_true] at hc
    split at h
    rotate_left
    · cases h
    rename_i g n l hr
    simp only [Option.some.injEq] at h
    subst h
    refine tells_need fun hg => tells_value fun β ev F w0 w hev hs => ?_
    cases hx : ρ x with
    | none => rw [hx] at hr; simp [rowsOf] at hr
    | some v =>
      obtain ⟨_, a2, _, cells, ar, a4, _⟩ := rowsOf_run hr hg hs hx (by simp)
      have hln : l.length = n := a2 0 _ rfl
      have hcells : cells = l.map (Value.int .u8) := by
        apply List.ext_getElem?
        intro i
        have hlen := ar.len
        simp only [List.length_singleton, Nat.mul_one] at hlen
        by_cases hi : i < n
        · obtain ⟨v, hv, hh⟩ := ar.at_ i hi 0 _ rfl
          simp only [List.length_singleton, Nat.mul_one, Nat.add_zero] at hv
          rw [hv]
          cases hh
          simp [List.getD_eq_getElem?_getD, List.getElem?_eq_getElem (show i < l.length by omega)]
        · rw [List.getElem?_eq_none (by omega), List.getElem?_eq_none (by simp; omega)]
      have hv : ∃ base len cap, v.conc β = .slice base len cap ∧ len = n ∧ (base = none → len = 0) := by
        subst hcells
        rw [hx] at hr
        unfold rowsOf at hr
        split at hr
        · rename_i hxx; simp only [Option.some.injEq] at hxx; subst hxx
          rw [he] at hr
          simp only [Option.map_eq_some_iff, Prod.mk.injEq] at hr
          obtain ⟨cs, hcs, rfl, rfl, rfl⟩ := hr
          exact ⟨_, _, _, rfl, rfl, fun _ => rfl⟩
        · rename_i nl b sz off len cap hxx; simp only [Option.some.injEq] at hxx; subst hxx
          rw [he] at hr
          split at hr
          · split at hr
            · simp only [Option.some.injEq, Prod.mk.injEq] at hr
              obtain ⟨hg', rfl, _⟩ := hr
              rw [hg] at hg'
              simp only [Bool.and_eq_true, Bool.or_eq_true, Bool.not_eq_true', decide_eq_true_eq] at hg'
              refine ⟨_, _, _, rfl, rfl, fun hb => ?_⟩
              cases nl with
              | false => simp at hb
              | true => simpa using hg'.2.2
            · cases hr
          · cases hr
        · split at hr
          · rename_i hst; simp only [Bool.and_eq_true] at hst
            have := underlying_string hst.1
            rw [underlying_slice he] at this; cases this
          · cases hr
        · cases hr
      obtain ⟨base, len, cap, hv, rfl, hb⟩ := hv
      rw [e1, Sem.run_bind, hev x _ hx, hv, run_convert_bytes_string w src dst e base len cap (underlying_slice he) (underlying_u8 hc.2) (underlying_string hc.1)]
      cases base with
      | none =>
        have h0 := hb rfl
        subst h0
        obtain rfl : l = [] := List.eq_nil_of_length_eq_zero hln
        simp only [Conv.bytesToString, Sem.run_pure, AV.conc]
        rfl
      | some a =>
        have h4 := (a4 w rfl).2
        rw [hv] at h4
        simp only [Builtin.firstCells, List.length_singleton, Nat.mul_one] at h4
        rw [hcells] at h4
        rw [run_bytesToString w a len cap l h4, foldl_push_bytes]
        simp [strOfNums, ByteArray.empty, ByteArray.emptyWithCapacity, AV.conc]
        rfl
  · rename_i hns
    split at h
    rotate_left
    · cases h
    rename_i e s he hx
    split at h
    rotate_left
    · cases h
    rename_i hc
    simp only [Bool.and_eq_true] at hc
    simp only [Option.some.injEq] at h
    subst h
    intro β F w0 w ev hev hs hsc _
    have hrun := run_bytes_of_string (P := P) w src dst e s (underlying_string hc.1) (underlying_slice he) (underlying_u8 hc.2)
    generalize hC : grownCap w s.size 0 e = C at hrun
    have hge : s.size ≤ C := by rw [← hC]; exact grown_ge w _ _ _
    obtain ⟨c, rfl⟩ : ∃ c, C = s.size + c := ⟨C - s.size, by omega⟩
    refine ⟨_, w.drew.alloc (.cells (bytesRow s (s.size + c)) e ((bytesRow s (s.size + c)).size, (bytesRow s (s.size + c)).size + 1)), β.ext H.length w.heap.size, madeT_can c, .inl ?_, ?_, Pl.ext_ext, fun h => by simp at h⟩
    · rw [e1, Sem.run_bind, hev x _ hx]
      simp only [AV.conc]
      rw [hrun]
      simp [Sem.run_pure, Pl.ext_new]
    · simp only [Res.apply, writes, List.map_cons, List.map_nil]
      have hsz : (bytesRow s (s.size + c)).size = s.size + c := by simp [bytesRow]
      refine hs.drew.alloc hsc (.arr true e (s.size + c) s.size [.int .u8 (strBytes s)]) rfl (by show _ ≤ _; omega) rfl _ (fun _ => ⟨_, _, _, rfl, fun _ k hk => by simp; omega, by simp [hsz], fun i hi j col hcol => ?_⟩)
      obtain ⟨rfl, rfl⟩ : j = 0 ∧ col = .int .u8 (strBytes s) := by
        cases j with
        | zero => simp at hcol; exact ⟨rfl, hcol.symm⟩
        | succ j => simp at hcol
      have hi' : i < s.data.size := hi
      refine ⟨.int .u8 (s.data[i].toNat : Int), ?_, .mk_int ?_⟩
      · simp [bytesRow, Array.getElem?_append, hi', hi]
      · simp [strBytes, List.getD_eq_getElem?_getD, hi', hi]
end Go.Vs

namespace Go.Vs
open Go Go.RowKit
set_option linter.unusedSimpArgs false
set_option linter.unusedVariables false

/-! ### structs that are built -/
def fillAV (place : Nat → Option (Nat × Nat)) (cells : List AV) : List (Nat × AV) → Option (List AV)
  | [] => some cells
  | (i, v) :: rest =>
    match place i with
    | none => none
    | some (off, size) =>
      if Nat.beq (cellsOf v).length size && Nat.ble (off + (cellsOf v).length) cells.length && (cellsOf v).all AV.cell then fillAV place (setAt cells off (cellsOf v)) rest else none

theorem setArr_concs (β : Pl) : ∀ (vs cs : List AV) (off : Nat), setArr (AV.concs β cs).toArray off (AV.concs β vs) = (AV.concs β (setAt cs off vs)).toArray
  | [], cs, off => rfl
  | v :: vs, cs, off => by
    simp only [AV.concs, setArr, setAt]
    rw [← setArr_concs β vs (cs.set off v) (off + 1)]
    congr 1
    simp only [concs_map, List.setIfInBounds_toArray, List.map_set]

theorem fillAV_fill (β : Pl) {place : Nat → Option (Nat × Nat)} : ∀ {parts : List (Nat × AV)} {cells out : List AV}, fillAV place cells parts = some out →
    Instr.fill place (AV.concs β cells).toArray (parts.map fun p => (p.1, p.2.conc β)) = some (AV.concs β out).toArray
  | [], cells, out, h => by simp only [fillAV, Option.some.injEq] at h; subst h; rfl
  | (i, v) :: rest, cells, out, h => by
    simp only [fillAV] at h
    simp only [List.map_cons, Instr.fill]
    split at h
    · cases h
    · rename_i off size hp
      simp only [hp]
      split at h
      rotate_left
      · cases h
      rename_i hc
      simp only [Bool.and_eq_true] at hc
      have h1 := Nat.eq_of_beq_eq_true hc.1.1
      have h2 := Nat.le_of_ble_eq_true hc.1.2
      have hcl := conc_cells β v hc.2
      have hsz : (v.conc β).cells.size = size := by rw [← Array.length_toList, hcl, concs_length, h1]
      rw [if_neg (by simp [hsz, concs_length]; omega)]
      rw [← fillAV_fill β h]
      congr 1
      have e1 : ((v.conc β).cells.zipIdx.foldl (fun cs (x : Value × Nat) => cs.setIfInBounds (off + x.2) x.1) (AV.concs β cells).toArray) = setArr (AV.concs β cells).toArray off ((v.conc β).cells.toList) := by
        rw [← Array.foldl_toList, Array.toList_zipIdx, foldl_setArr]; rfl
      rw [← setArr_concs, ← hcl]
      exact e1

def builtAV (P : Program) (t : TypeId) (parts : List (Nat × AV)) : Option (List AV) :=
  match P.info? t, P.underlying t with
  | some it, some (.array _ e) =>
    match it.zero, P.info? e with
    | some z, some ie => fillAV (fun i => some (i * ie.size, ie.size)) (z.cells.toList.map .val) parts
    | _, _ => none
  | some it, some (.struct fields) =>
    match it.zero, fields.toList.mapM (fun f => (P.info? f.type).map fun i => (f.offset, i.size)) with
    | some z, some places => fillAV (fun i => places[i]?) (z.cells.toList.map .val) parts
    | _, _ => none
  | _, _ => none

theorem builtAV_built (β : Pl) {P : Program} {t : TypeId} {parts : List (Nat × AV)} {out : List AV} (h : builtAV P t parts = some out) : P.built t (parts.map fun p => (p.1, p.2.conc β)) = some (AV.concs β out).toArray := by
  unfold builtAV at h
  unfold Program.built
  split at h
  · rename_i it n e h1 h2
    split at h
    · rename_i z ie h3 h4
      simp only [h1, h2, h3, h4]
      have := fillAV_fill β h
      rw [concs_vals] at this
      simpa using this
    · cases h
  · rename_i it fields h1 h2
    split at h
    · rename_i z places h3 h4
      simp only [h1, h2, h3, h4]
      have := fillAV_fill β h
      rw [concs_vals] at this
      simpa using this
    · cases h
  · cases h

def buildH (P : Program) (t : TypeId) (parts : Array (Nat × Operand)) (ρ : Rho) : Option OutT :=
  match partsAV ρ parts.toList with
  | some l => (builtAV P t l).map fun cs => rv (.agg cs)
  | none => none

theorem buildH_tells {P o ρ H t} {T : TypeId} {parts : Array (Nat × Operand)} (ho : o.op = .build T parts) (h : buildH P T parts ρ = some t) : Tells P o ρ H t := by
  unfold buildH at h
  split at h
  rotate_left
  · cases h
  rename_i l hl
  simp only [Option.map_eq_some_iff] at h
  obtain ⟨cs, hcs, rfl⟩ := h
  refine tells_value fun β ev F w0 w hev hs => ?_
  have e1 : (execOp ev o) = (do let v ← Instr.build T (parts.map fun (i, x) => (i, ev x)); pure (.value v)) := by simp [execOp, ho]
  rw [e1, Sem.run_bind, run_build w T _ (AV.concs β cs).toArray]
  · rfl
  · have := builtAV_built β hcs
    rw [← partsAV_spec hev hl] at this
    simpa using this

/-! ### values of functions, of interfaces -/
def opsAV (ρ : Rho) : List Operand → Option (List AV)
  | [] => some []
  | x :: r =>
    match ρ x, opsAV ρ r with
    | some v, some l => some (v :: l)
    | _, _ => none

theorem opsAV_spec {ρ : Rho} {β : Pl} {ev : Operand → Value} (hev : ∀ x av, ρ x = some av → ev x = av.conc β) : ∀ {xs : List Operand} {l : List AV}, opsAV ρ xs = some l → xs.map ev = AV.concs β l
  | [], l, h => by simp only [opsAV, Option.some.injEq] at h; subst h; rfl
  | x :: r, l, h => by
    simp only [opsAV] at h
    split at h
    · rename_i v l' hv hl
      cases h
      simp only [List.map_cons, hev x v hv, opsAV_spec hev hl, AV.concs]
    · cases h

def makeFuncH (fn : Fn) (first captured : Array Operand) (ρ : Rho) : Option OutT :=
  match opsAV ρ first.toList, opsAV ρ captured.toList with
  | some a, some c => some (rv (.fn fn a c))
  | _, _ => none

theorem makeFuncH_tells {P o ρ H t} {fn : Fn} {first captured : Array Operand} (ho : o.op = .makeFunc fn first captured) (h : makeFuncH fn first captured ρ = some t) : Tells P o ρ H t := by
  unfold makeFuncH at h
  split at h
  rotate_left
  · cases h
  rename_i a c ha hc
  cases h
  refine tells_value fun β ev F w0 w hev hs => ?_
  have e1 : first.map ev = (AV.concs β a).toArray := by rw [← opsAV_spec hev ha, ← Array.toList_map, Array.toArray_toList]
  have e2 : captured.map ev = (AV.concs β c).toArray := by rw [← opsAV_spec hev hc, ← Array.toList_map, Array.toArray_toList]
  simp [execOp, ho, Instr.makeFunc, e1, e2, AV.conc, go_sem]

def makeIfaceH (P : Program) (t : TypeId) (x : Option AV) : Option OutT :=
  match x with
  | some v => if P.concrete t then some (rv (.ifc t v)) else none
  | none => none

theorem makeIfaceH_tells {P o ρ H t} {T : TypeId} {x : Operand} (ho : o.op = .makeInterface T x) (h : makeIfaceH P T (ρ x) = some t) : Tells P o ρ H t := by
  unfold makeIfaceH at h
  split at h
  rotate_left
  · cases h
  rename_i v hx
  split at h
  rotate_left
  · cases h
  rename_i hc
  cases h
  refine tells_value fun β ev F w0 w hev hs => ?_
  have e1 : (execOp ev o) = (do let v ← Instr.makeInterface T (ev x); pure (.value v)) := by simp [execOp, ho]
  rw [e1, Sem.run_bind, hev x _ hx, run_makeInterface w T _ hc]; rfl

/-! ### all of them -/
def constAV : Value → AV
  | .agg cs => .agg (cs.toList.map .val)
  | .tuple cs => .tup (cs.toList.map .val)
  | v => .val v

theorem constAV_conc (β : Pl) (v : Value) : (constAV v).conc β = v := by
  cases v <;> simp [constAV, AV.conc, concs_vals]

def minH (x y : Option AV) : Option OutT :=
  match x, y with
  | some (.val (.int k a)), some (.val (.int _ b)) => some (rv (.val (.int k (if b < a then b else a))))
  | _, _ => none
def maxH (x y : Option AV) : Option OutT :=
  match x, y with
  | some (.val (.int k a)), some (.val (.int _ b)) => some (rv (.val (.int k (if b > a then b else a))))
  | _, _ => none

theorem minH_tells {P o ρ H t} {x y : Operand} {ats : Array TypeId} (ho : o.op = .call ⟨.builtin .min, #[x, y], ats⟩) (h : minH (ρ x) (ρ y) = some t) : Tells P o ρ H t := by
  unfold minH at h
  split at h
  rotate_left
  · cases h
  rename_i k a k' b hx hy
  cases h
  refine tells_value fun β ev F w0 w hev hs => ?_
  have e1 : (execOp ev o) = (do let v ← Builtin.min_ ats o.type #[ev x, ev y]; pure (.value v)) := by simp [execOp, ho, Deferred.ofValue, resolve, invoke, builtin]
  rw [e1, Sem.run_bind, hev x _ hx, hev y _ hy]
  simp only [AV.conc, run_min_int2]
  rfl
theorem maxH_tells {P o ρ H t} {x y : Operand} {ats : Array TypeId} (ho : o.op = .call ⟨.builtin .max, #[x, y], ats⟩) (h : maxH (ρ x) (ρ y) = some t) : Tells P o ρ H t := by
  unfold maxH at h
  split at h
  rotate_left
  · cases h
  rename_i k a k' b hx hy
  cases h
  refine tells_value fun β ev F w0 w hev hs => ?_
  have e1 : (execOp ev o) = (do let v ← Builtin.max_ ats o.type #[ev x, ev y]; pure (.value v)) := by simp [execOp, ho, Deferred.ofValue, resolve, invoke, builtin]
  rw [e1, Sem.run_bind, hev x _ hx, hev y _ hy]
  simp only [AV.conc, run_max_int2]
  rfl

def orElse (a b : Option OutT) : Option OutT := match a with | some t => some t | none => b

def aop (P : Program) (o : Oper) (ρ : Rho) (H : AHeap) : Option OutT :=
  match o.op with
  | .move x => (ρ x).map rv
  | .assign x => (ρ x).map rv
  | .pick c a b => pickH (ρ c) (ρ a) (ρ b)
  | .alloc t => allocH P t H
  | .box t x => boxH P t (ρ x) H
  | .build t parts => buildH P t parts ρ
  | .load t x => loadH P t (ρ x) H
  | .store t x y => storeH P t (ρ x) (ρ y) H
  | .nilCheck x => nilCheckH (ρ x)
  | .binOp op t x y _ => orElse (arithH op (ρ x) (ρ y)) (orElse (nilEqH P op t (ρ x) (ρ y)) (orElse (structEqH P op t (ρ x) (ρ y)) (pureH P o ρ)))
  | .makeInterface t x => makeIfaceH P t (ρ x)
  | .makeFunc fn a c => makeFuncH fn a c ρ
  | .slice t x lo hi mx => sliceH P t (ρ x) (lo.map ρ) (hi.map ρ) (mx.map ρ) H
  | .fieldAddr t x i => fieldAddrH P t (ρ x) i
  | .field t x i => fieldH P t (ρ x) i
  | .indexAddr t x i => indexAddrH P t (ρ x) (ρ i) H
  | .index t x i => indexH P t (ρ x) (ρ i)
  | .extract x i => extractH (ρ x) i
  | .makeSlice t l c => makeSliceH P t (ρ l) (ρ c) H
  | .buildSlice t len parts => buildSliceH P t len parts ρ H
  | .makeMap t r => makeMapH P t (r.map ρ) H
  | .lookup t x ix ok => lookupH P t (ρ x) (ρ ix) ok H
  | .mapUpdate t x ix v => mapUpdateH P t (ρ x) (ρ ix) (ρ v) H
  | .call ⟨.builtin .len, args, ats⟩ => match args.toList with | [x] => orElse (lenH P ats (ρ x)) (pureH P o ρ) | _ => none
  | .call ⟨.builtin .cap, args, ats⟩ => match args.toList with | [x] => orElse (capH P ats (ρ x)) (pureH P o ρ) | _ => none
  | .call ⟨.builtin .append, args, ats⟩ => match args.toList with | [x, y] => appendH P ats (ρ x) (ρ y) H | _ => none
  | .call ⟨.builtin .delete, args, ats⟩ => match args.toList with | [x, y] => deleteH P ats (ρ x) (ρ y) H | _ => none
  | .call ⟨.builtin .min, args, _⟩ => match args.toList with | [x, y] => minH (ρ x) (ρ y) | _ => none
  | .call ⟨.builtin .max, args, _⟩ => match args.toList with | [x, y] => maxH (ρ x) (ρ y) | _ => none
  | .call ⟨.builtin _, _, _⟩ => pureH P o ρ
  | .call _ => none
  | .insert t x ix v => mapUpdateH P t (ρ x) (ρ ix) (ρ v) H
  | .convert src dst x => orElse (convertH P src dst (ρ x) H) (pureH P o ρ)
  | _ => pureH P o ρ

theorem orElse_tells {P o ρ H t} {a b : Option OutT} (h : orElse a b = some t) (ha : ∀ t, a = some t → Tells P o ρ H t) (hb : ∀ t, b = some t → Tells P o ρ H t) : Tells P o ρ H t := by
  unfold orElse at h
  split at h
  · cases h; exact ha _ rfl
  · exact hb _ h

theorem aop_tells {P o ρ H t} (h : aop P o ρ H = some t) : Tells P o ρ H t := by
  unfold aop at h
  split at h
  case h_1 x ho => simp only [Option.map_eq_some_iff] at h; obtain ⟨v, hv, rfl⟩ := h; exact move_tells (.inl ho) hv
  case h_2 x ho => simp only [Option.map_eq_some_iff] at h; obtain ⟨v, hv, rfl⟩ := h; exact move_tells (.inr ho) hv
  case h_3 ho => exact pickH_tells ho h
  case h_4 ho => exact allocH_tells ho h
  case h_5 ho => exact boxH_tells ho h
  case h_6 ho => exact buildH_tells ho h
  case h_7 ho => exact loadH_tells ho h
  case h_8 ho => exact storeH_tells ho h
  case h_9 ho => exact nilCheckH_tells ho h
  case h_10 ho => exact orElse_tells h (fun _ h => arithH_tells ho h) (fun _ h => orElse_tells h (fun _ h => nilEqH_tells ho h) (fun _ h => orElse_tells h (fun _ h => structEqH_tells ho h) (fun _ h => pureH_tells h)))
  case h_11 ho => exact makeIfaceH_tells ho h
  case h_12 ho => exact makeFuncH_tells ho h
  case h_13 ho => exact sliceH_tells ho h
  case h_14 ho => exact fieldAddrH_tells ho h
  case h_15 ho => exact fieldH_tells ho h
  case h_16 ho => exact indexAddrH_tells ho h
  case h_17 ho => exact indexH_tells ho h
  case h_18 ho => exact extractH_tells ho h
  case h_19 ho => exact makeSliceH_tells ho h
  case h_20 ho => exact buildSliceH_tells ho h
  case h_21 ho => exact makeMapH_tells ho h
  case h_22 ho => exact lookupH_tells ho h
  case h_23 ho => exact mapUpdateH_tells (.inl ho) h
  case h_24 args ats ho =>
    split at h
    · rename_i x hx
      obtain rfl := toList_one hx
      exact orElse_tells h (fun _ h => lenH_tells ho h) (fun _ h => pureH_tells h)
    · cases h
  case h_25 args ats ho =>
    split at h
    · rename_i x hx
      obtain rfl := toList_one hx
      exact orElse_tells h (fun _ h => capH_tells ho h) (fun _ h => pureH_tells h)
    · cases h
  case h_26 args ats ho =>
    split at h
    · rename_i x y hx
      obtain rfl := toList_two hx
      exact appendH_tells ho h
    · cases h
  case h_27 args ats ho =>
    split at h
    · rename_i x y hx
      obtain rfl := toList_two hx
      exact deleteH_tells ho h
    · cases h
  case h_28 args ats ho =>
    split at h
    · rename_i x y hx
      obtain rfl := toList_two hx
      exact minH_tells ho h
    · cases h
  case h_29 args ats ho =>
    split at h
    · rename_i x y hx
      obtain rfl := toList_two hx
      exact maxH_tells ho h
    · cases h
  case h_30 => exact pureH_tells h
  case h_31 => cases h
  case h_32 ho => exact mapUpdateH_tells (.inr ho) h
  case h_33 ho => exact orElse_tells h (fun _ h => convertH_tells ho h) (fun _ h => pureH_tells h)
  case h_34 => exact pureH_tells h
end Go.Vs

namespace Go.Vs
open Go Go.RowKit
set_option linter.unusedSimpArgs false
set_option linter.unusedVariables false

abbrev Env := List (Nat × AV)
def look : Env → Nat → Option AV
  | [], _ => none
  | (d, v) :: r, t => match Nat.beq d t with | true => some v | false => look r t

structure AS where
  env : Env
  heap : AHeap

def rho (env : Env) : Rho
  | .tmp t => look env t
  | .const v => some (constAV v)
  | .global _ => none
  | .func f => some (.fn (.func f) [] [])

structure EnvOk (N : Nat) (β : Pl) (env : Env) (a : Act) : Prop where
  size : a.tmps.size = N
  at_ : ∀ t v, look env t = some v → a.tmps[t]? = some (v.conc β)
  defers : a.defers = []

theorem EnvOk.eval {N β env a} (h : EnvOk N β env a) : ∀ x av, rho env x = some av → a.eval x = av.conc β := by
  intro x av hx
  cases x with
  | tmp t => simp only [rho] at hx; simp only [Act.eval, Array.getD_eq_getD_getElem?, h.at_ t av hx, Option.getD_some]
  | const v => simp only [rho, Option.some.injEq] at hx; subst hx; simp only [Act.eval, constAV_conc]
  | global g => cases hx
  | func f => simp only [rho, Option.some.injEq] at hx; subst hx; rfl

def putE (env : Env) (d : Option Tmp) (v : AV) : Env := match d with | some d => (d, v) :: env | none => env
def okDst (N : Nat) (d : Option Tmp) : Bool := match d with | some d => Nat.blt d N | none => true

theorem EnvOk.put {N β env a} (h : EnvOk N β env a) {d : Option Tmp} {v : AV} (hd : okDst N d = true) : EnvOk N β (putE env d v) (a.put d (v.conc β)) := by
  cases d with
  | none => exact h
  | some d =>
    simp only [okDst, Nat.blt_eq] at hd
    refine ⟨by simp [Act.put, h.size], fun t u hu => ?_, h.defers⟩
    simp only [putE, look] at hu
    simp only [Act.put]
    cases hb : Nat.beq d t with
    | true =>
      rw [hb] at hu
      simp only [Option.some.injEq] at hu
      have := Nat.eq_of_beq_eq_true hb
      subst this; subst hu
      rw [Array.getElem?_setIfInBounds_self_of_lt (by rw [h.size]; exact hd)]
    | false =>
      rw [hb] at hu
      have hne : d ≠ t := fun e => by subst e; simp at hb
      rw [Array.getElem?_setIfInBounds_ne hne]
      exact h.at_ t u hu

def scE (n : Nat) : Env → Bool
  | [] => true
  | (_, v) :: r => v.sc n && scE n r

theorem look_sc {n : Nat} : ∀ {env : Env} {t : Nat} {v : AV}, scE n env = true → look env t = some v → v.sc n = true
  | [], _, _, _, h => by simp [look] at h
  | (d, u) :: r, t, v, hs, h => by
    simp only [scE, Bool.and_eq_true] at hs
    simp only [look] at h
    split at h
    · simp only [Option.some.injEq] at h; subst h; exact hs.1
    · exact look_sc hs.2 h

theorem EnvOk.same {N β env a} (h : EnvOk N β env a) {β' : Pl} {n : Nat} (hb : ∀ b, b < n → β' b = β b) (hs : scE n env = true) : EnvOk N β' env a :=
  ⟨h.size, fun t v hv => by rw [AV.conc_same hb v (look_sc hs hv)]; exact h.at_ t v hv, h.defers⟩

theorem writes_length : ∀ (l : List (Nat × Option AO)) (H : AHeap), (writes H l).length = H.length
  | [], _ => rfl
  | (i, ao) :: r, H => by simp only [writes]; rw [writes_length r]; simp

theorem apply_le (r : Res) (H : AHeap) : H.length ≤ (r.apply H).length := by
  simp only [Res.apply, List.length_append, writes_length]; omega

/-! ### one operation -/
def finish (N : Nat) (o : Oper) (s : AS) (r : Res) (K : AS → Prop) : Prop :=
  Bif ((r.new.isEmpty || scE s.heap.length s.env) && okDst N o.dst) (K ⟨putE s.env o.dst r.val, r.apply s.heap⟩) False

/-- What a function does, told for the memory of whoever calls it. -/
abbrev Ct := List AV → AHeap → Option OutT

def CtOk (P : Program) (f : FuncId) (c : Ct) : Prop :=
  ∀ args H t, c args H = some t → ∀ (β : Pl) (F : Fr) (w0 w : World), Sim F w0 β H w → AHeap.sc H.length H = true → t.wp (fun _ => True) →
    Calls P f (AV.concs β args).toArray w fun e w' => ∃ r β', t.can r ∧ e = .returned (r.val.conc β') ∧ Sim F w0 β' (r.apply H) w' ∧ Pl.Ext H.length β β' ∧ (r.new = [] → ∀ b, β' b = β b)

abbrev Cts := FuncId → Option Ct
def CtsOk (P : Program) (Γ : Cts) : Prop := ∀ f c, Γ f = some c → CtOk P f c ∧ ∃ fn, P.funcs[f]? = some fn ∧ fn.body.isSome = true ∧ (fn.name == "runtime.NumGoroutine") = false

def callAt (Γ : Cts) (o : Oper) (ρ : Rho) (H : AHeap) : Option (FuncId × OutT) :=
  match o.op with
  | .call ⟨.value x, args, _⟩ =>
    match ρ x, opsAV ρ args.toList with
    | some (.fn (.func f) first cap), some l =>
      match Γ f with
      | some c => (c (first ++ (l ++ cap)) H).map fun t => (f, t)
      | none => none
    | _, _ => none
  | _ => none

def stepV (P : Program) (Γ : Cts) (N : Nat) (o : Oper) (s : AS) (K : AS → Prop) : Prop :=
  Bif (AHeap.sc s.heap.length s.heap)
    (match aop P o (rho s.env) s.heap with
    | some t => t.wp fun r => finish N o s r K
    | none =>
      match callAt Γ o (rho s.env) s.heap with
      | some (_, t) => t.wp fun r => finish N o s r K
      | none => False) False

mutual
theorem AV.conc_congr {β β' : Pl} (h : ∀ b, β'.at_ b = β.at_ b) : ∀ v : AV, v.conc β' = v.conc β
  | .val _ => rfl
  | .ptr b off => by simp only [AV.conc, h b]
  | .pel b _ _ _ => by simp only [AV.conc, h b]
  | .sl _ b _ _ _ _ => by simp only [AV.conc, h b]
  | .mp b => by simp only [AV.conc, h b]
  | .ch b => by simp only [AV.conc, h b]
  | .fn _ a c => by simp only [AV.conc, AV.concs_congr h a, AV.concs_congr h c]
  | .ifc _ v => by simp only [AV.conc, AV.conc_congr h v]
  | .agg cs => by simp only [AV.conc, AV.concs_congr h cs]
  | .tup cs => by simp only [AV.conc, AV.concs_congr h cs]
theorem AV.concs_congr {β β' : Pl} (h : ∀ b, β'.at_ b = β.at_ b) : ∀ vs : List AV, AV.concs β' vs = AV.concs β vs
  | [] => rfl
  | v :: vs => by simp only [AV.concs, AV.conc_congr h v, AV.concs_congr h vs]
end

/-- A state of the machine is told by s; what was there when it began is where it was. -/
structure At (N : Nat) (F : Fr) (w0 : World) (k0 : Nat) (β0 : Pl) (s : AS) (a : Act) (w : World) : Prop where
  ex : ∃ β, EnvOk N β s.env a ∧ Sim F w0 β s.heap w ∧ Pl.Ext k0 β0 β ∧ k0 ≤ s.heap.length

theorem finish_at {N F w0 k0 β0} {o : Oper} {s : AS} {r : Res} {K : AS → Prop} (hf : finish N o s r K) {β β' : Pl} {a : Act} {w' : World} (he : EnvOk N β s.env a) (hs' : Sim F w0 β' (r.apply s.heap) w') (hb : Pl.Ext s.heap.length β β')
    (h0 : Pl.Ext k0 β0 β) (hk : k0 ≤ s.heap.length) (hsame : r.new = [] → ∀ b, β' b = β b) :
    ∃ s', K s' ∧ At N F w0 k0 β0 s' (a.put o.dst (r.val.conc β')) w' := by
  unfold finish at hf
  cases hc : ((r.new.isEmpty || scE s.heap.length s.env) && okDst N o.dst) with
  | false => rw [hc] at hf; exact hf.elim
  | true =>
    have hK := hf.yes hc
    simp only [Bool.and_eq_true, Bool.or_eq_true] at hc
    refine ⟨_, hK, ⟨β', ?_, hs', h0.trans hb hk, Nat.le_trans hk (apply_le r _)⟩⟩
    refine EnvOk.put ?_ hc.2
    rcases hc.1 with h | h
    · have : r.new = [] := by simpa using h
      exact ⟨he.size, fun t v hv => by rw [AV.conc_congr (hsame this)]; exact he.at_ t v hv, he.defers⟩
    · exact he.same hb.old h
end Go.Vs

namespace Go.Vs
open Go Go.RowKit
set_option linter.unusedSimpArgs false
set_option linter.unusedVariables false

theorem call_run {P : Program} {o : Oper} {x : Operand} {args : Array Operand} {ats : Array TypeId} (ho : o.op = .call ⟨.value x, args, ats⟩) {ev : Operand → Value} {f : FuncId} {first cap : Array Value} (hx : ev x = .func (.func f) first cap)
    {fn : Func} (hfn : P.funcs[f]? = some fn) (hb : fn.body.isSome = true) (hname : (fn.name == "runtime.NumGoroutine") = false) (w : World) :
    (execOp ev o).run P w = .ok (.enter f (first ++ args.map ev ++ cap)) w := by
  have hnb : fn.body.isNone = false := by cases h : fn.body <;> simp_all
  simp only [execOp, ho, resolve, hx]
  rw [Sem.run_bind]
  simp only [Deferred.ofValue, Sem.run_pure, Result.andThen, invoke, callFunc]
  rw [Sem.run_bind]
  simp only [program, Sem.run, Result.andThen, hfn, hname, hnb]
  simp [Sem.run_pure]

theorem stepV_sound {P : Program} {Γ : Cts} (hΓ : CtsOk P Γ) {N : Nat} {o : Oper} {s : AS} {K : AS → Prop} (hst : stepV P Γ N o s K) {F w0 k0 β0} {a : Act} {w : World} (hat : At N F w0 k0 β0 s a w) {next : Act → World → Prop} {Q : Exit → Act → World → Prop}
    (hn : ∀ s' a' w', K s' → At N F w0 k0 β0 s' a' w' → next a' w') : o.wp P a w next Q := by
  obtain ⟨β, he, hs, h0, hk⟩ := hat.ex
  unfold stepV at hst
  cases hsc : AHeap.sc s.heap.length s.heap with
  | false => rw [hsc] at hst; exact hst.elim
  | true =>
  have hst := hst.yes hsc
  split at hst
  · rename_i t ht
    obtain ⟨r, w', β', hcan, hrun, hs', hb, hsame⟩ := aop_tells ht β F w0 w a.eval he.eval hs hsc (OutT.wp_mono (fun _ _ => trivial) hst)
    have hf := OutT.wp_can hst hcan
    obtain ⟨s', hK, hat'⟩ := finish_at hf he hs' hb h0 hk hsame
    unfold Oper.wp
    rcases hrun with hrun | ⟨hrun, hv⟩
    · rw [hrun, Oper.upon_value]; exact hn _ _ _ hK hat'
    · rw [hrun, Oper.upon_skip, ← hv]; exact hn _ _ _ hK hat'
  · split at hst
    · rename_i f t hcall
      unfold callAt at hcall
      split at hcall
      rotate_left
      · cases hcall
      rename_i x args ats ho
      split at hcall
      rotate_left
      · cases hcall
      rename_i f' first cap l hx hl
      split at hcall
      rotate_left
      · cases hcall
      rename_i c hc
      simp only [Option.map_eq_some_iff, Prod.mk.injEq] at hcall
      obtain ⟨t', ht', rfl, rfl⟩ := hcall
      obtain ⟨hok, fn, hfn, hb, hname⟩ := hΓ _ _ hc
      have hcl := hok _ _ _ ht' β F w0 w hs hsc (OutT.wp_mono (fun _ _ => trivial) hst)
      unfold Oper.wp
      have hxe : a.eval x = .func (.func f') (AV.concs β first).toArray (AV.concs β cap).toArray := by rw [he.eval x _ hx]; rfl
      rw [call_run ho hxe hfn hb hname, Oper.upon_enter]
      have hargs : (AV.concs β first).toArray ++ args.map a.eval ++ (AV.concs β cap).toArray = (AV.concs β (first ++ (l ++ cap))).toArray := by
        have : args.map a.eval = (AV.concs β l).toArray := by rw [← opsAV_spec he.eval hl, ← Array.toList_map, Array.toArray_toList]
        rw [this]
        simp [concs_map]
      rw [hargs]
      refine hcl.mono fun e w' ⟨r, β', hcan, hee, hs', hbb, hsame⟩ => ?_
      subst hee
      have hf := OutT.wp_can hst hcan
      obtain ⟨s', hK, hat'⟩ := finish_at hf he hs' hbb h0 hk hsame
      exact hn _ _ _ hK hat'
    · exact hst.elim

/-! ### regions in the text's order -/
def guardSlot (ops : Array Oper) (j : Nat) : Option Tmp := (ops[j]?).bind (·.dst)

def seqOps (P : Program) (Γ : Cts) (N : Nat) (ops : Array Oper) : List Oper → (AS → Prop) → AS → Prop
  | [], K, s => K s
  | o :: rest, K, s =>
    match o.guard with
    | none => stepV P Γ N o s (seqOps P Γ N ops rest K)
    | some (j, want) =>
      match guardSlot ops j with
      | none => False
      | some d =>
        match look s.env d with
        | some (.val (.bool b)) =>
          Bif (Nat.blt d N && okDst N o.dst)
            (match want with
            | true => Bif b (stepV P Γ N o ⟨(d, .val (.bool true)) :: s.env, s.heap⟩ (seqOps P Γ N ops rest K)) (seqOps P Γ N ops rest K ⟨putE ((d, .val (.bool false)) :: s.env) o.dst (.val undef), s.heap⟩)
            | false => Bif b (seqOps P Γ N ops rest K ⟨putE ((d, .val (.bool true)) :: s.env) o.dst (.val undef), s.heap⟩) (stepV P Γ N o ⟨(d, .val (.bool false)) :: s.env, s.heap⟩ (seqOps P Γ N ops rest K))) False
        | some (.val (.tuple _)) => Bif (okDst N o.dst) (seqOps P Γ N ops rest K ⟨putE s.env o.dst (.val undef), s.heap⟩) False
        | _ => False

theorem EnvOk.again {N β env a} (h : EnvOk N β env a) {d : Nat} {v : AV} (hd : a.tmps[d]? = some (v.conc β)) : EnvOk N β ((d, v) :: env) a :=
  ⟨h.size, fun t u hu => by
    simp only [look] at hu
    split at hu
    · rename_i hb
      have := Nat.eq_of_beq_eq_true hb
      subst this
      simp only [Option.some.injEq] at hu; subst hu; exact hd
    · exact h.at_ t u hu, h.defers⟩

theorem seqOps_sound {P : Program} {Γ : Cts} (hΓ : CtsOk P Γ) {N : Nat} {ops : Array Oper} {F w0 k0 β0} {Q : Exit → Act → World → Prop} : ∀ (l : List Oper) {K : AS → Prop} {s : AS} {a : Act} {w : World}, seqOps P Γ N ops l K s → At N F w0 k0 β0 s a w →
    (∀ s' a' w', K s' → At N F w0 k0 β0 s' a' w' → Q .normal a' w') → wpList P ops Q l a w
  | [], K, s, a, w, h, hat, hK => hK s a w h hat
  | o :: rest, K, s, a, w, h, hat, hK => by
    simp only [seqOps] at h
    simp only [wpList]
    have ih : ∀ s' a' w', seqOps P Γ N ops rest K s' → At N F w0 k0 β0 s' a' w' → wpList P ops Q rest a' w' := fun s' a' w' h' hat' => seqOps_sound hΓ rest h' hat' hK
    split at h
    · rename_i hg
      rw [if_pos (by simp [Region.wanted, hg])]
      exact .inl (stepV_sound hΓ h hat ih)
    · rename_i j want hg
      split at h
      · exact h.elim
      rename_i d hd
      obtain ⟨β, he, hs, h0, hk⟩ := hat.ex
      split at h
      · rename_i b hb
        cases hN : (Nat.blt d N && okDst N o.dst) with
        | false => rw [hN] at h; exact h.elim
        | true =>
        have h := h.yes hN
        simp only [Bool.and_eq_true] at hN
        have hat0 := he.at_ d _ hb
        have hy : yielded ops a.tmps j = some b := by
          unfold yielded; unfold guardSlot at hd; rw [hd]; simp only [Option.bind_some, hat0, AV.conc]
        cases want <;> cases b
        · rw [if_pos (by simp [Region.wanted, hg, hy])]
          exact .inl (stepV_sound hΓ h ⟨β, he.again hat0, hs, h0, hk⟩ ih)
        · rw [if_neg (by simp [Region.wanted, hg, hy])]
          exact ih _ _ _ h ⟨β, (he.again hat0).put (v := .val undef) hN.2, hs, h0, hk⟩
        · rw [if_neg (by simp [Region.wanted, hg, hy])]
          exact ih _ _ _ h ⟨β, (he.again hat0).put (v := .val undef) hN.2, hs, h0, hk⟩
        · rw [if_pos (by simp [Region.wanted, hg, hy])]
          exact .inl (stepV_sound hΓ h ⟨β, he.again hat0, hs, h0, hk⟩ ih)
      · rename_i vs hb
        cases hN : okDst N o.dst with
        | false => rw [hN] at h; exact h.elim
        | true =>
        have h := h.yes hN
        have hat0 := he.at_ d _ hb
        have hy : yielded ops a.tmps j = none := by
          unfold yielded; unfold guardSlot at hd; rw [hd]; simp only [Option.bind_some, hat0, AV.conc]
        rw [if_neg (by simp [Region.wanted, hg, hy])]
        exact ih _ _ _ h ⟨β, he.put hN, hs, h0, hk⟩
      · exact h.elim

/-! ### code -/
inductive Ex where
  | normal
  | exit (id : Nat)
  | ret

/-- What holds at the head of a loop: for some x that is right, the state is st x; each round lowers mu. nx: from the state behind a round, the next x, and where its regions are. -/
structure LI where
  X : Type
  x0 : X
  t0 : List Nat
  ok : X → Prop
  st : X → AS
  mu : X → Nat
  nx : X → AS → Option (X × List Nat)

def ren1 (τ : List Nat) (i : Nat) : Nat := τ.getD i i

mutual
def AV.ren (τ : List Nat) : AV → AV
  | .val v => .val v
  | .ptr b off => .ptr (ren1 τ b) off
  | .pel b sz i f => .pel (ren1 τ b) sz i f
  | .sl nl b sz off len cap => .sl nl (ren1 τ b) sz off len cap
  | .mp b => .mp (ren1 τ b)
  | .ch b => .ch (ren1 τ b)
  | .fn f a c => .fn f (AV.rens τ a) (AV.rens τ c)
  | .ifc t v => .ifc t (v.ren τ)
  | .agg cs => .agg (AV.rens τ cs)
  | .tup cs => .tup (AV.rens τ cs)
def AV.rens (τ : List Nat) : List AV → List AV
  | [] => []
  | v :: vs => v.ren τ :: AV.rens τ vs
end

def AO.ren (τ : List Nat) : AO → AO
  | .cells rw T cs => .cells rw T (AV.rens τ cs)
  | .arr rw T room n cols => .arr rw T room n cols
  | .mapc rw kd agg has cols => .mapc rw kd agg has cols

def Pl.pull (β : Pl) (τ : List Nat) : Pl := ⟨fun i => β (ren1 τ i), β.ice⟩

mutual
theorem AV.ren_conc (β : Pl) (τ : List Nat) : ∀ v : AV, (v.ren τ).conc β = v.conc (β.pull τ)
  | .val _ => rfl
  | .ptr b off => rfl
  | .pel b _ _ _ => rfl
  | .sl _ b _ _ _ _ => rfl
  | .mp b => rfl
  | .ch b => rfl
  | .fn _ a c => by simp only [AV.ren, AV.conc, AV.rens_concs β τ a, AV.rens_concs β τ c]
  | .ifc _ v => by simp only [AV.ren, AV.conc, AV.ren_conc β τ v]
  | .agg cs => by simp only [AV.ren, AV.conc, AV.rens_concs β τ cs]
  | .tup cs => by simp only [AV.ren, AV.conc, AV.rens_concs β τ cs]
theorem AV.rens_concs (β : Pl) (τ : List Nat) : ∀ vs : List AV, AV.concs β (AV.rens τ vs) = AV.concs (β.pull τ) vs
  | [] => rfl
  | v :: vs => by simp only [AV.rens, AV.concs, AV.ren_conc β τ v, AV.rens_concs β τ vs]
end

theorem rens_get {τ : List Nat} : ∀ {cs : List AV} {j : Nat} {v : AV}, cs[j]? = some v → (AV.rens τ cs)[j]? = some (v.ren τ)
  | x :: cs, 0, v, h => by simp at h; subst h; rfl
  | x :: cs, j + 1, v, h => by simp at h; simpa [AV.rens] using rens_get h

theorem AO.ren_is {β : Pl} {τ : List Nat} {at_ : Nat} {ao : AO} {o : Obj} (h : (ao.ren τ).Is β at_ o) : ao.Is (β.pull τ) at_ o := by
  cases ao with
  | cells rw T cs =>
    obtain ⟨c, fz, h1, h2, h3⟩ := h
    exact ⟨c, fz, h1, h2, fun j v hj => by rw [← AV.ren_conc]; exact h3 j _ (rens_get hj)⟩
  | arr rw T room n cols => exact h
  | mapc rw kd agg has cols => exact h
theorem AO.ren_rw (τ : List Nat) (ao : AO) : (ao.ren τ).rw = ao.rw := by cases ao <;> rfl
theorem AO.ren_live {τ : List Nat} {ao : AO} (h : ao.live) : (ao.ren τ).live := by cases ao <;> exact h
theorem AO.ren_wf {τ : List Nat} {ao : AO} (h : (ao.ren τ).wf) : ao.wf := by cases ao <;> exact h

def AO.deadB : AO → Bool
  | .arr _ _ room n _ => Nat.beq room 0 && Nat.beq n 0
  | _ => false

/-! u stands where v is wanted. -/
mutual
def fitsV (τ : List Nat) (u : AV) : AV → Prop
  | .sl nl b sz off len cap => match u with
    | .val (.slice none 0 0) => nl = true ∧ len = 0 ∧ cap = 0
    | u => u = .sl nl (ren1 τ b) sz off len cap
  | .agg cs => match u with
    | .agg us => fitsVs τ us cs
    | _ => False
  | .tup cs => match u with
    | .tup us => fitsVs τ us cs
    | _ => False
  | .val v => u = .val v
  | .ptr b off => u = .ptr (ren1 τ b) off
  | .pel b sz i f => u = .pel (ren1 τ b) sz i f
  | .mp b => u = .mp (ren1 τ b)
  | .ch b => u = .ch (ren1 τ b)
  | .fn f a c => u = .fn f (AV.rens τ a) (AV.rens τ c)
  | .ifc t v => u = .ifc t (v.ren τ)
def fitsVs (τ : List Nat) (us : List AV) : List AV → Prop
  | [] => match us with | [] => True | _ => False
  | v :: vs => match us with
    | u :: us => fitsV τ u v ∧ fitsVs τ us vs
    | [] => False
end

mutual
theorem fitsV_conc {β : Pl} {τ : List Nat} {u : AV} : ∀ {v : AV}, fitsV τ u v → u.conc β = v.conc (β.pull τ)
  | .sl nl b sz off len cap, h => by
    rw [fitsV.eq_def] at h; dsimp only at h
    split at h
    · obtain ⟨rfl, rfl, rfl⟩ := h; rfl
    · subst h; rfl
  | .agg cs, h => by
    rw [fitsV.eq_def] at h; dsimp only at h
    split at h
    · simp only [AV.conc, fitsVs_conc h]
    · exact h.elim
  | .tup cs, h => by
    rw [fitsV.eq_def] at h; dsimp only at h
    split at h
    · simp only [AV.conc, fitsVs_conc h]
    · exact h.elim
  | .val v, h => by simp only [fitsV] at h; subst h; rfl
  | .ptr b off, h => by simp only [fitsV] at h; subst h; rfl
  | .pel b sz i f, h => by simp only [fitsV] at h; subst h; rfl
  | .mp b, h => by simp only [fitsV] at h; subst h; rfl
  | .ch b, h => by simp only [fitsV] at h; subst h; rfl
  | .fn f a c, h => by simp only [fitsV] at h; subst h; exact AV.ren_conc β τ (.fn f a c)
  | .ifc t v, h => by simp only [fitsV] at h; subst h; exact AV.ren_conc β τ (.ifc t v)
theorem fitsVs_conc {β : Pl} {τ : List Nat} {us : List AV} : ∀ {vs : List AV}, fitsVs τ us vs → AV.concs β us = AV.concs (β.pull τ) vs
  | [], h => by
    rw [fitsVs.eq_def] at h; dsimp only at h
    split at h
    · rfl
    · exact h.elim
  | v :: vs, h => by
    rw [fitsVs.eq_def] at h; dsimp only at h
    split at h
    · simp only [AV.concs, fitsV_conc h.1, fitsVs_conc h.2]
    · exact h.elim
end

/-- A region that is told so stands where one is wanted that is told so. -/
def fitsO (τ : List Nat) (x : AO) : AO → Prop
  | .cells rw T cs => match x with
    | .cells rw' T' us => rw' = rw ∧ T' = T ∧ fitsVs τ us cs
    | _ => False
  | ao => x = ao

theorem fitsVs_get {β : Pl} {τ : List Nat} : ∀ {us vs : List AV} {j : Nat} {v : AV}, fitsVs τ us vs → vs[j]? = some v → ∃ u, us[j]? = some u ∧ u.conc β = v.conc (β.pull τ)
  | us, [], j, v, h, hj => by simp at hj
  | [], x :: vs, j, v, h, hj => by simp [fitsVs] at h
  | u :: us, x :: vs, 0, v, h, hj => by simp at hj; subst hj; simp only [fitsVs] at h; exact ⟨u, rfl, fitsV_conc h.1⟩
  | u :: us, x :: vs, j + 1, v, h, hj => by simp only [fitsVs] at h; simpa using fitsVs_get (j := j) h.2 (by simpa using hj)

theorem fitsO_ren {τ : List Nat} : ∀ {ao : AO}, fitsO τ (ao.ren τ) ao
  | .cells rw T cs => ⟨rfl, rfl, fits_rens cs⟩
  | .arr .. => rfl
  | .mapc .. => rfl
where
  fits_ren : ∀ v : AV, fitsV τ (v.ren τ) v
    | .sl nl b sz off len cap => by simp [fitsV, AV.ren]
    | .agg cs => by simp only [fitsV, AV.ren]; exact fits_rens cs
    | .tup cs => by simp only [fitsV, AV.ren]; exact fits_rens cs
    | .val v => by simp [fitsV, AV.ren]
    | .ptr .. => by simp [fitsV, AV.ren]
    | .pel .. => by simp [fitsV, AV.ren]
    | .mp .. => by simp [fitsV, AV.ren]
    | .ch .. => by simp [fitsV, AV.ren]
    | .fn .. => by simp [fitsV, AV.ren]
    | .ifc .. => by simp [fitsV, AV.ren]
  fits_rens : ∀ vs : List AV, fitsVs τ (AV.rens τ vs) vs
    | [] => trivial
    | v :: vs => ⟨fits_ren v, fits_rens vs⟩

theorem fitsO_is {β : Pl} {τ : List Nat} {at_ : Nat} {x ao : AO} {o : Obj} (hf : fitsO τ x ao) (h : x.Is β at_ o) : ao.Is (β.pull τ) at_ o := by
  cases ao with
  | cells rw T cs =>
    cases x with
    | cells rw' T' us =>
      obtain ⟨rfl, rfl, hv⟩ := hf
      obtain ⟨c, fz, h1, h2, h3⟩ := h
      exact ⟨c, fz, h1, h2, fun j v hj => by
        obtain ⟨u, hu, hc⟩ := fitsVs_get (β := β) hv hj
        rw [← hc]; exact h3 j _ hu⟩
    | arr => exact hf.elim
    | mapc => exact hf.elim
  | arr rw T room n cols => obtain rfl := hf; exact h
  | mapc rw kd agg has cols => obtain rfl := hf; exact h
theorem fitsO_rw {τ : List Nat} {x ao : AO} (hf : fitsO τ x ao) : x.rw = ao.rw := by
  cases ao with
  | cells rw T cs =>
    cases x with
    | cells rw' T' us => obtain ⟨rfl, rfl, hv⟩ := hf; rfl
    | arr => exact hf.elim
    | mapc => exact hf.elim
  | arr => obtain rfl := hf; rfl
  | mapc => obtain rfl := hf; rfl
theorem fitsO_live {τ : List Nat} {x ao : AO} (hf : fitsO τ x ao) (h : ao.live) : x.live := by
  cases ao with
  | cells rw T cs =>
    cases x with
    | cells rw' T' us => obtain ⟨rfl, rfl, hv⟩ := hf; exact h
    | arr => exact hf.elim
    | mapc => exact hf.elim
  | arr => obtain rfl := hf; exact h
  | mapc => obtain rfl := hf; exact h
theorem fitsO_wf {τ : List Nat} {x ao : AO} (hf : fitsO τ x ao) (h : x.wf) : ao.wf := by
  cases ao with
  | cells rw T cs =>
    cases x with
    | cells rw' T' us => obtain ⟨rfl, rfl, hv⟩ := hf; exact h
    | arr => exact hf.elim
    | mapc => exact hf.elim
  | arr => obtain rfl := hf; exact h
  | mapc => obtain rfl := hf; exact h

def envFits (τ : List Nat) (env : Env) : Env → Prop
  | [] => True
  | (d, v) :: r => (match look env d with | some u => fitsV τ u v | none => False) ∧ envFits τ env r

def heapFits (τ : List Nat) (H : AHeap) : Nat → AHeap → Prop
  | _, [] => True
  | i, none :: r => heapFits τ H (i + 1) r
  | i, some ao :: r => Bif ao.deadB True (match H[ren1 τ i]? with | some (some x) => fitsO τ x ao | _ => False) ∧ heapFits τ H (i + 1) r

def nodupB : List Nat → Bool
  | [] => true
  | x :: r => !(r.any (Nat.beq x)) && nodupB r
/-- Where the regions stand that are there. -/
def standsAt (τ : List Nat) : Nat → AHeap → List Nat
  | _, [] => []
  | i, none :: r => standsAt τ (i + 1) r
  | i, some _ :: r => ren1 τ i :: standsAt τ (i + 1) r
def idUpTo (τ : List Nat) : Nat → Bool
  | 0 => true
  | k + 1 => Nat.beq (ren1 τ k) k && idUpTo τ k

/-- s tells at least what t tells, if its regions are called otherwise. -/
def Fits (k0 : Nat) (τ : List Nat) (s t : AS) : Prop :=
  Bif (nodupB (standsAt τ 0 t.heap) && Nat.beq τ.length t.heap.length && idUpTo τ k0 && Nat.ble k0 t.heap.length) (envFits τ s.env t.env ∧ heapFits τ s.heap 0 t.heap) False

theorem envFits_look {τ : List Nat} {env : Env} : ∀ {l : Env} {t : Nat} {v : AV}, envFits τ env l → look l t = some v → ∃ u, look env t = some u ∧ fitsV τ u v
  | [], _, _, _, h => by simp [look] at h
  | (d, u) :: r, t, v, h, hl => by
    simp only [look] at hl
    simp only [envFits] at h
    split at hl
    · rename_i hb
      have := Nat.eq_of_beq_eq_true hb
      subst this
      simp only [Option.some.injEq] at hl; subst hl
      have h1 := h.1
      split at h1
      · rename_i u' hu'; exact ⟨u', hu', h1⟩
      · exact h1.elim
    · exact envFits_look h.2 hl

theorem heapFits_get {τ : List Nat} {H : AHeap} : ∀ {l : AHeap} {i j : Nat} {ao : AO}, heapFits τ H i l → l[j]? = some (some ao) → ao.deadB = true ∨ ∃ x, H[ren1 τ (i + j)]? = some (some x) ∧ fitsO τ x ao
  | [], _, _, _, _, hl => by simp at hl
  | none :: r, i, 0, ao, _, hl => by simp at hl
  | none :: r, i, j + 1, ao, h, hl => by
    have := heapFits_get (l := r) (i := i + 1) (j := j) h (by simpa using hl)
    rwa [show i + (j + 1) = i + 1 + j by omega]
  | some a :: r, i, 0, ao, h, hl => by
    simp at hl; subst hl
    simp only [heapFits] at h
    cases hd : a.deadB with
    | true => exact .inl rfl
    | false =>
      have h1 := h.1.no hd
      split at h1
      · rename_i x hx; exact .inr ⟨x, hx, h1⟩
      · exact h1.elim
  | some a :: r, i, j + 1, ao, h, hl => by
    simp only [heapFits] at h
    have := heapFits_get (l := r) (i := i + 1) (j := j) h.2 (by simpa using hl)
    rwa [show i + (j + 1) = i + 1 + j by omega]

theorem nodupB_inj : ∀ {τ : List Nat} {i j : Nat} {x : Nat}, nodupB τ = true → τ[i]? = some x → τ[j]? = some x → i = j
  | [], _, _, _, _, h, _ => by simp at h
  | a :: r, 0, 0, _, _, _, _ => rfl
  | a :: r, 0, j + 1, x, h, hi, hj => by
    simp only [nodupB, Bool.and_eq_true, Bool.not_eq_true'] at h
    simp at hi hj; subst hi
    have := List.any_eq_false.1 h.1 _ (List.mem_of_getElem? hj)
    simp at this
  | a :: r, i + 1, 0, x, h, hi, hj => by
    simp only [nodupB, Bool.and_eq_true, Bool.not_eq_true'] at h
    simp at hi hj; subst hj
    have := List.any_eq_false.1 h.1 _ (List.mem_of_getElem? hi)
    simp at this
  | a :: r, i + 1, j + 1, x, h, hi, hj => by
    simp only [nodupB, Bool.and_eq_true, Bool.not_eq_true'] at h
    simp at hi hj
    rw [nodupB_inj h.2 hi hj]

theorem standsAt_get {τ : List Nat} : ∀ {K : AHeap} {s i : Nat} {a : AO}, K[i]? = some (some a) → ren1 τ (s + i) ∈ standsAt τ s K
  | [], _, _, _, h => by simp at h
  | none :: r, s, 0, a, h => by simp at h
  | some _ :: r, s, 0, a, h => by simp [standsAt]
  | none :: r, s, i + 1, a, h => by
    have := standsAt_get (τ := τ) (K := r) (s := s + 1) (i := i) (by simpa using h)
    rw [show s + (i + 1) = s + 1 + i by omega]; simpa [standsAt] using this
  | some _ :: r, s, i + 1, a, h => by
    have := standsAt_get (τ := τ) (K := r) (s := s + 1) (i := i) (by simpa using h)
    rw [show s + (i + 1) = s + 1 + i by omega]; simp only [standsAt, List.mem_cons]; exact .inr this
theorem any_beq {l : List Nat} {x : Nat} (h : l.any (Nat.beq x) = false) : x ∉ l := fun hm => by
  have := List.any_eq_false.1 h x hm
  simp at this
theorem standsAt_injS {τ : List Nat} : ∀ {K : AHeap} {s i j : Nat} {a b : AO}, nodupB (standsAt τ s K) = true → K[i]? = some (some a) → K[j]? = some (some b) → ren1 τ (s + i) = ren1 τ (s + j) → i = j
  | [], _, _, _, _, _, _, h, _, _ => by simp at h
  | none :: r, s, i, j, a, b, hn, hi, hj, e => by
    cases i with
    | zero => simp at hi
    | succ i =>
      cases j with
      | zero => simp at hj
      | succ j => rw [standsAt_injS (K := r) (s := s + 1) (i := i) (j := j) (by simpa [standsAt] using hn) (by simpa using hi) (by simpa using hj) (by rw [show s + 1 + i = s + (i + 1) by omega, show s + 1 + j = s + (j + 1) by omega]; exact e)]
  | some x :: r, s, i, j, a, b, hn, hi, hj, e => by
    simp only [standsAt, nodupB, Bool.and_eq_true, Bool.not_eq_true'] at hn
    have hx := any_beq hn.1
    cases i with
    | zero =>
      cases j with
      | zero => rfl
      | succ j =>
        have := standsAt_get (τ := τ) (K := r) (s := s + 1) (i := j) (by simpa using hj)
        rw [show s + 1 + j = s + (j + 1) by omega, ← e] at this
        exact absurd this hx
    | succ i =>
      cases j with
      | zero =>
        have := standsAt_get (τ := τ) (K := r) (s := s + 1) (i := i) (by simpa using hi)
        rw [show s + 1 + i = s + (i + 1) by omega, e] at this
        exact absurd this hx
      | succ j => rw [standsAt_injS (K := r) (s := s + 1) (i := i) (j := j) hn.2 (by simpa using hi) (by simpa using hj) (by rw [show s + 1 + i = s + (i + 1) by omega, show s + 1 + j = s + (j + 1) by omega]; exact e)]
theorem standsAt_inj {τ : List Nat} {K : AHeap} (hn : nodupB (standsAt τ 0 K) = true) (i j : Nat) (a b : AO) (hi : K[i]? = some (some a)) (hj : K[j]? = some (some b)) (e : ren1 τ i = ren1 τ j) : i = j :=
  standsAt_injS hn hi hj (by simpa using e)

theorem idUpTo_get {τ : List Nat} : ∀ {k i : Nat}, idUpTo τ k = true → i < k → ren1 τ i = i
  | k + 1, i, h, hi => by
    simp only [idUpTo, Bool.and_eq_true] at h
    by_cases e : i = k
    · subst e; exact Nat.eq_of_beq_eq_true h.1
    · exact idUpTo_get h.2 (by omega)

theorem deadB_live {ao : AO} (h : ao.deadB = true) : ¬ ao.live ∧ ao.wf := by
  cases ao with
  | arr rw T room n cols =>
    simp only [AO.deadB, Bool.and_eq_true] at h
    have h1 := Nat.eq_of_beq_eq_true h.1
    have h2 := Nat.eq_of_beq_eq_true h.2
    subst h1; subst h2
    exact ⟨fun hl => absurd hl (by simp [AO.live]), Nat.le_refl _⟩
  | _ => cases h

/-- A part of what is told, under other names. -/
theorem Sim.pullF {F w0 β} {H K : AHeap} {w : World} (h : Sim F w0 β H w) {τ : List Nat} (hn : ∀ (i j : Nat) (a b : AO), K[i]? = some (some a) → K[j]? = some (some b) → ren1 τ i = ren1 τ j → i = j) (hK : ∀ (i : Nat) (ao : AO), K[i]? = some (some ao) → ao.deadB = true ∨ ∃ x, H[ren1 τ i]? = some (some x) ∧ fitsO τ x ao) : Sim F w0 (β.pull τ) K w := by
  have live : ∀ (i : Nat) (ao : AO), K[i]? = some (some ao) → ao.live → ∃ x, H[ren1 τ i]? = some (some x) ∧ fitsO τ x ao := fun i ao hi hlv => by
    rcases hK i ao hi with h1 | h1
    · exact absurd hlv (deadB_live h1).1
    · exact h1
  refine ⟨h.os, h.tape, h.output, h.size, h.block, h.ice, h.iceF, fun i ao hi => ?_, fun i ao hi hlv => ?_, fun i ao hi hlv => ?_, fun i ao hi hlv hrw => ?_, fun i ao hi hlv hrw => ?_, fun i ao hi hlv hrw => ?_, fun i j ai aj hi hj hli hlj hij hri hrj => ?_⟩
  · rcases hK i ao hi with h1 | ⟨x, h1, hf⟩
    · exact (deadB_live h1).2
    · exact fitsO_wf hf (h.wf _ _ h1)
  · obtain ⟨x, hx, hf⟩ := live i ao hi hlv; exact h.spot _ _ hx (fitsO_live hf hlv)
  · obtain ⟨x, hx, hf⟩ := live i ao hi hlv
    obtain ⟨o, ho, his⟩ := h.obj _ _ hx (fitsO_live hf hlv)
    exact ⟨o, ho, fitsO_is hf his⟩
  · obtain ⟨x, hx, hf⟩ := live i ao hi hlv; exact h.own _ _ hx (fitsO_live hf hlv) (by rw [fitsO_rw hf]; exact hrw)
  · obtain ⟨x, hx, hf⟩ := live i ao hi hlv; exact h.out _ _ hx (fitsO_live hf hlv) (by rw [fitsO_rw hf]; exact hrw)
  · obtain ⟨x, hx, hf⟩ := live i ao hi hlv; exact h.ro _ _ hx (fitsO_live hf hlv) (by rw [fitsO_rw hf]; exact hrw)
  · obtain ⟨x, hx, hf⟩ := live i ai hi hli
    obtain ⟨y, hy, hg⟩ := live j aj hj hlj
    refine h.apart _ _ _ _ hx hy (fitsO_live hf hli) (fitsO_live hg hlj) (fun e => hij ?_) (by rw [fitsO_rw hf]; exact hri) (by rw [fitsO_rw hg]; exact hrj)
    exact hn i j _ _ hi hj e
theorem Sim.pull {F w0 β} {H K : AHeap} {w : World} (h : Sim F w0 β H w) {τ : List Nat} (hn : nodupB τ = true) (hl : K.length ≤ τ.length) (hK : ∀ (i : Nat) (ao : AO), K[i]? = some (some ao) → ao.deadB = true ∨ H[ren1 τ i]? = some (some (ao.ren τ))) : Sim F w0 (β.pull τ) K w :=
  h.pullF (fun i j a b hi hj e => by
    have hil : i < τ.length := Nat.lt_of_lt_of_le (List.getElem?_eq_some_iff.1 hi).1 hl
    have hjl : j < τ.length := Nat.lt_of_lt_of_le (List.getElem?_eq_some_iff.1 hj).1 hl
    have e1 : τ[i]? = some (ren1 τ i) := by simp [ren1, List.getD_eq_getElem?_getD, List.getElem?_eq_getElem hil]
    have e2 : τ[j]? = some (ren1 τ j) := by simp [ren1, List.getD_eq_getElem?_getD, List.getElem?_eq_getElem hjl]
    rw [← e] at e2
    exact nodupB_inj hn e1 e2) fun i ao hi => (hK i ao hi).imp id fun h => ⟨_, h, fitsO_ren⟩

theorem At.fits {N F w0 k0 β0 s t a w} {τ : List Nat} (h : At N F w0 k0 β0 s a w) (hw : Fits k0 τ s t) : At N F w0 k0 β0 t a w := by
  obtain ⟨β, he, hs, h0, hk⟩ := h.ex
  unfold Fits at hw
  cases hb : (nodupB (standsAt τ 0 t.heap) && Nat.beq τ.length t.heap.length && idUpTo τ k0 && Nat.ble k0 t.heap.length) with
  | false => rw [hb] at hw; exact hw.elim
  | true =>
  obtain ⟨h1, h2⟩ := hw.yes hb
  simp only [Bool.and_eq_true] at hb
  obtain ⟨⟨⟨b1, b2⟩, b3⟩, b4⟩ := hb
  have b2 := Nat.eq_of_beq_eq_true b2
  refine ⟨β.pull τ, ⟨he.size, fun t v hv => ?_, he.defers⟩, hs.pullF (standsAt_inj b1) (fun i ao hi => by simpa using heapFits_get h2 hi), ⟨fun b hb => ?_, h0.ice⟩, Nat.le_of_ble_eq_true b4⟩
  · obtain ⟨u, hu, hf⟩ := envFits_look h1 hv
    rw [← fitsV_conc hf]; exact he.at_ t u hu
  · show β (ren1 τ b) = β0 b
    rw [idUpTo_get b3 hb]; exact h0.old b hb

abbrev Loops := Code → AS → Option LI

def vc (P : Program) (Γ : Cts) (N k0 : Nat) (L : Loops) (D : Nat → Array Oper → (AS → Prop) → AS → Prop) : Code → (Ex → AS → Prop) → AS → Prop
  | .skip, Q, s => Q .normal s
  | .label _, Q, s => Q .normal s
  | .region id ops draw, Q, s => match draw with | true => D id ops (Q .normal) s | false => seqOps P Γ N ops ops.toList (Q .normal) s
  | .seq a b, Q, s => vc P Γ N k0 L D a (fun e s' => match e with | .normal => vc P Γ N k0 L D b Q s' | .exit i => Q (.exit i) s' | .ret => Q .ret s') s
  | .cond c t f, Q, s => match rho s.env c with | some (.val (.bool b)) => Bif b (vc P Γ N k0 L D t Q s) (vc P Γ N k0 L D f Q s) | _ => False
  | .block id body, Q, s => vc P Γ N k0 L D body (fun e s' => match e with | .normal => Q .normal s' | .exit i => Bif (Nat.beq i id) (Q .normal s') (Q (.exit i) s') | .ret => Q .ret s') s
  | .exit id, Q, s => Q (.exit id) s
  | .ret, Q, s => Q .ret s
  | .loop body, Q, s =>
    match L body s with
    | some ⟨_, x0, t0, ok, st, mu, nx⟩ => (ok x0 ∧ Fits k0 t0 s (st x0)) ∧ ∀ x, ok x →
        vc P Γ N k0 L D body (fun e s' => match e with | .normal => (match nx x s' with | some (x', τ) => ok x' ∧ mu x' < mu x ∧ Fits k0 τ s' (st x') | none => False) | .exit i => Q (.exit i) s' | .ret => Q .ret s') (st x)
    | none => False
  | _, _, _ => False

def exOf : Exit → Option Ex
  | .normal => some .normal
  | .exit i => some (.exit i)
  | .ret => some .ret
  | _ => none

def Post (N : Nat) (F : Fr) (w0 : World) (k0 : Nat) (β0 : Pl) (Q : Ex → AS → Prop) (e : Exit) (a : Act) (w : World) : Prop :=
  ∃ x s, exOf e = some x ∧ Q x s ∧ At N F w0 k0 β0 s a w

/-- Regions that draw their order are told by D. -/
def DOk (P : Program) (N k0 : Nat) (D : Nat → Array Oper → (AS → Prop) → AS → Prop) : Prop :=
  ∀ id ops K s, D id ops K s → ∀ F w0 β0 a w, At N F w0 k0 β0 s a w → (Code.region id ops true).wp P (fun e a' w' => e = .normal ∧ ∃ s', K s' ∧ At N F w0 k0 β0 s' a' w') a w

theorem vc_sound {P : Program} {Γ : Cts} (hΓ : CtsOk P Γ) {N k0 : Nat} {L : Loops} {D : Nat → Array Oper → (AS → Prop) → AS → Prop} (hD : DOk P N k0 D) {F w0 β0} : ∀ (c : Code) {Q : Ex → AS → Prop} {s : AS} {a : Act} {w : World},
    vc P Γ N k0 L D c Q s → At N F w0 k0 β0 s a w → c.wp P (Post N F w0 k0 β0 Q) a w
  | .skip, Q, s, a, w, h, hat => wp_skip ⟨_, _, rfl, h, hat⟩
  | .label _, Q, s, a, w, h, hat => wp_label ⟨_, _, rfl, h, hat⟩
  | .exit id, Q, s, a, w, h, hat => wp_exit ⟨_, _, rfl, h, hat⟩
  | .ret, Q, s, a, w, h, hat => wp_ret ⟨_, _, rfl, h, hat⟩
  | .region id ops draw, Q, s, a, w, h, hat => by
    cases draw with
    | true => exact wp_mono (hD id ops _ s h F w0 β0 a w hat) fun e a' w' ⟨he, s', hK, hat'⟩ => by subst he; exact ⟨_, _, rfl, hK, hat'⟩
    | false => exact wp_region_list (seqOps_sound hΓ _ h hat fun s' a' w' hK hat' => ⟨_, _, rfl, hK, hat'⟩)
  | .seq x y, Q, s, a, w, h, hat => by
    refine wp_seq (wp_mono (vc_sound hΓ hD x h hat) fun e a' w' ⟨ex, s', he, hQ, hat'⟩ => ?_)
    cases e <;> simp only [exOf, Option.some.injEq, reduceCtorEq] at he
    · subst he; exact vc_sound hΓ hD y hQ hat'
    · subst he; exact ⟨_, _, rfl, hQ, hat'⟩
    · subst he; exact ⟨_, _, rfl, hQ, hat'⟩
  | .cond c t f, Q, s, a, w, h, hat => by
    simp only [vc] at h
    split at h
    rotate_left
    · exact h.elim
    rename_i b hc
    obtain ⟨β, he, hs, h0, hk⟩ := hat.ex
    have hv := he.eval c _ hc
    simp only [AV.conc] at hv
    exact wp_cond_split hv (fun hb => vc_sound hΓ hD t (h.yes hb) hat) (fun hb => vc_sound hΓ hD f (h.no hb) hat)
  | .block id body, Q, s, a, w, h, hat => by
    refine wp_block (wp_mono (vc_sound hΓ hD body h hat) fun e a' w' ⟨ex, s', he, hQ, hat'⟩ => ?_)
    cases e with
    | normal => simp only [exOf, Option.some.injEq] at he; subst he; exact ⟨_, _, rfl, hQ, hat'⟩
    | exit i =>
      simp only [exOf, Option.some.injEq] at he; subst he
      simp only [Exit.inBlock]
      cases hb : Nat.beq i id with
      | true => rw [if_pos (Nat.eq_of_beq_eq_true hb)]; exact ⟨_, _, rfl, hQ.yes hb, hat'⟩
      | false => rw [if_neg (fun e => by subst e; simp at hb)]; exact ⟨_, _, rfl, hQ.no hb, hat'⟩
    | ret => simp only [exOf, Option.some.injEq] at he; subst he; exact ⟨_, _, rfl, hQ, hat'⟩
    | goto _ => simp [exOf] at he
    | panic _ => simp [exOf] at he
    | outgrown => simp [exOf] at he
  | .loop body, Q, s, a, w, h, hat => by
    simp only [vc] at h
    split at h
    rotate_left
    · exact h.elim
    rename_i X x0 t0 ok st mu nx hI
    obtain ⟨⟨hok, hwk⟩, hround⟩ := h
    refine wp_loop_ghost (fun n a w => ∃ x, ok x ∧ mu x = n ∧ At N F w0 k0 β0 (st x) a w) _ ⟨_, hok, rfl, hat.fits hwk⟩ ?_
    rintro n a w ⟨x, hx, rfl, hat⟩
    refine wp_mono (vc_sound hΓ hD body (hround x hx) hat) fun e a' w' ⟨ex, s', he, hQ, hat'⟩ => ?_
    cases e <;> simp only [exOf, Option.some.injEq, reduceCtorEq] at he
    · subst he
      simp only at hQ
      split at hQ
      · rename_i x' τ hnx
        obtain ⟨hok', hmu, hwk'⟩ := hQ
        exact ⟨_, hmu, x', hok', rfl, hat'.fits hwk'⟩
      · exact hQ.elim
    · subst he; exact ⟨_, _, rfl, hQ, hat'⟩
    · subst he; exact ⟨_, _, rfl, hQ, hat'⟩
  | .rangeFunc .., Q, s, a, w, h, hat => h.elim
  | .scope _, Q, s, a, w, h, hat => h.elim
  | .goto _, Q, s, a, w, h, hat => h.elim
  | .refuse _, Q, s, a, w, h, hat => h.elim
end Go.Vs

namespace Go.Vs
open Go Go.RowKit
set_option linter.unusedSimpArgs false
set_option linter.unusedVariables false

/-! ### functions -/
def env0 : Nat → List AV → Env
  | _, [] => []
  | i, v :: r => (i, v) :: env0 (i + 1) r

theorem env0_look : ∀ (l : List AV) (i t : Nat) (v : AV), look (env0 i l) t = some v → i ≤ t ∧ l[t - i]? = some v
  | [], i, t, v, h => by simp [env0, look] at h
  | u :: r, i, t, v, h => by
    simp only [env0, look] at h
    split at h
    · rename_i hb
      have := Nat.eq_of_beq_eq_true hb
      subst this
      simp only [Option.some.injEq] at h; subst h
      simp
    · rename_i hb
      obtain ⟨h1, h2⟩ := env0_look r (i + 1) t v h
      refine ⟨by omega, ?_⟩
      rw [show t - i = (t - (i + 1)) + 1 by omega]
      simpa using h2

def resOne (P : Program) (env : Env) (H : AHeap) : ResultVar → Option AV
  | .tmp t => look env t
  | .cell t T =>
    match look env t with
    | some (.ptr b off) =>
      match loadH P T (some (.ptr b off)) H with
      | some (.ret r) => some r.val
      | _ => none
    | _ => none

def resAll (P : Program) (env : Env) (H : AHeap) : List ResultVar → Option (List AV)
  | [] => some []
  | r :: rs =>
    match resOne P env H r, resAll P env H rs with
    | some v, some l => some (v :: l)
    | _, _ => none

def resAV (P : Program) (fn : Func) (s : AS) : Option AV :=
  match resAll P s.env s.heap fn.results.toList with
  | some [v] => some v
  | some l => some (.tup l)
  | none => none

theorem loadVar_of {P : Program} {T : TypeId} {b off : Nat} {H : AHeap} {r : Res} (h : loadH P T (some (.ptr b off)) H = some (.ret r)) {β F w0 w} (hs : Sim F w0 β H w) :
    (loadVar T ⟨(β b).1, (β b).2 + off, none⟩).run P w = .ok (r.val.conc β) w := by
  unfold loadH at h
  split at h
  rotate_left
  · cases h
  rename_i hu
  simp only at h
  split at h
  rotate_left
  · cases h
  rename_i rw' T' cs hH
  obtain ⟨ob, hob, c, fz, rfl, _, hc⟩ := hs.obj b _ hH trivial
  split at h
  · rename_i hagg
    split at h
    rotate_left
    · cases h
    rename_i n hn
    split at h
    rotate_left
    · cases h
    rename_i hle
    cases h
    have hle := Nat.le_of_ble_eq_true hle
    refine loadVar_run hu (fun h => by rw [hagg] at h; cases h) (fun _ => ⟨n, _, hn, ?_, rfl⟩)
    have hlen : ((AV.concs β ((cs.drop off).take n))).length = n := by rw [concs_map]; simp; omega
    have := run_loadCells (P := P) (w := w) (b := (β b).1) (o := (β b).2 + off) (AV.concs β ((cs.drop off).take n)) (fun j v hv => by
      rw [cell_of hob]
      rw [concs_map, List.getElem?_map, Option.map_eq_some_iff] at hv
      obtain ⟨u, hu, rfl⟩ := hv
      rw [List.getElem?_take] at hu
      split at hu
      · rw [List.getElem?_drop] at hu
        have := hc (off + j) u hu
        rw [Nat.add_assoc]; exact this
      · cases hu)
    rw [hlen] at this; exact this
  · rename_i hagg
    simp only [Option.map_eq_some_iff] at h
    obtain ⟨v, hv, h⟩ := h
    cases h
    exact loadVar_run hu (fun _ => run_load_ok (by rw [cell_of hob]; exact hc off v hv)) (fun h => by rw [h] at hagg; exact absurd rfl hagg)

def resRun (tmps : Array Value) : ResultVar → Sem Value
  | .tmp t => pure (tmps.getD t undef)
  | .cell a t => do loadVar t (← asAddr (tmps.getD a undef))

theorem resOne_run {P : Program} {N β env a} (he : EnvOk N β env a) {H : AHeap} {F w0 w} (hs : Sim F w0 β H w) {r : ResultVar} {v : AV} (h : resOne P env H r = some v) : (resRun a.tmps r).run P w = .ok (v.conc β) w := by
  cases r with
  | tmp t =>
    simp only [resOne] at h
    simp only [resRun, Array.getD_eq_getD_getElem?, he.at_ t v h, Option.getD_some, Sem.run_pure]
  | cell t T =>
    simp only [resOne] at h
    split at h
    rotate_left
    · cases h
    rename_i b off hl
    split at h
    rotate_left
    · cases h
    rename_i r hr
    cases h
    simp only [resRun, Array.getD_eq_getD_getElem?, he.at_ t _ hl, Option.getD_some, AV.conc, asAddr]
    rw [Sem.run_bind]
    simp only [Sem.run_pure, Result.andThen]
    exact loadVar_of hr hs

theorem resAll_run {P : Program} {N β env a} (he : EnvOk N β env a) {H : AHeap} {F w0 w} (hs : Sim F w0 β H w) : ∀ {rs : List ResultVar} {l : List AV}, resAll P env H rs = some l → (rs.mapM (resRun a.tmps)).run P w = .ok (AV.concs β l) w
  | [], l, h => by simp only [resAll, Option.some.injEq] at h; subst h; simp [AV.concs, List.mapM_nil, go_sem]
  | r :: rs, l, h => by
    simp only [resAll] at h
    split at h
    rotate_left
    · cases h
    rename_i v l' hv hl
    cases h
    rw [List.mapM_cons, Sem.run_bind, resOne_run he hs hv]
    simp only [Result.andThen]
    rw [Sem.run_bind, resAll_run he hs hl]
    rfl

theorem resAV_run {P : Program} {fn : Func} {s : AS} {N β a} (he : EnvOk N β s.env a) {F w0 w} (hs : Sim F w0 β s.heap w) {v : AV} (h : resAV P fn s = some v) : (results fn a.tmps).run P w = .ok (v.conc β) w := by
  have key : ∀ l, resAll P s.env s.heap fn.results.toList = some l → (results fn a.tmps).run P w = .ok (if h : (AV.concs β l).toArray.size = 1 then (AV.concs β l).toArray[0] else .tuple (AV.concs β l).toArray) w := by
    intro l hl
    have e : results fn a.tmps = (do let vs ← fn.results.mapM (resRun a.tmps); pure (if h : vs.size = 1 then vs[0] else .tuple vs)) := by
      unfold results
      congr 1
    rw [e, Sem.run_bind, Array.mapM_eq_mapM_toList, Sem.run_map, resAll_run he hs hl]
    rfl
  unfold resAV at h
  split at h
  · rename_i u hl
    cases h
    rw [key _ hl]
    simp [AV.concs]
  · rename_i l hne hl
    cases h
    rw [key _ hl]
    have : ¬ (AV.concs β l).toArray.size = 1 := by
      intro hsz
      simp [concs_length] at hsz
      obtain ⟨x, rfl⟩ := List.length_eq_one_iff.1 hsz
      exact hne x rfl
    rw [dif_neg this]
    rfl
  · cases h

/-- What is to be shown of a function: from these arguments and this memory its result and what stands then are good. -/
def fnVC (P : Program) (Γ : Cts) (L : Loops) (D : Nat → Nat → Array Oper → (AS → Prop) → AS → Prop) (fn : Func) (args : List AV) (H : AHeap) (G : AV → AHeap → Prop) : Prop :=
  match fn.body with
  | none => False
  | some c => Bif (Nat.ble args.length fn.ntmps) (vc P Γ fn.ntmps H.length L (D fn.ntmps) c (fun e s => match e with | .normal => (match resAV P fn s with | some v => G v s.heap | none => False) | .ret => (match resAV P fn s with | some v => G v s.heap | none => False) | .exit _ => False) ⟨env0 0 args, H⟩) False

theorem fnVC_sound {P : Program} {Γ : Cts} (hΓ : CtsOk P Γ) {L : Loops} {H : AHeap} {D : Nat → Nat → Array Oper → (AS → Prop) → AS → Prop} (hD : ∀ N, DOk P N H.length (D N)) {f : FuncId} {fn : Func} (hf : P.funcs[f]? = some fn) {args : List AV} {G : AV → AHeap → Prop}
    (h : fnVC P Γ L D fn args H G) {F : Fr} {w0 w : World} {β : Pl} (hs : Sim F w0 β H w) :
    Calls P f (AV.concs β args).toArray w fun e w' => ∃ v H' β', G v H' ∧ e = .returned (v.conc β') ∧ Sim F w0 β' H' w' ∧ Pl.Ext H.length β β' ∧ H.length ≤ H'.length := by
  unfold fnVC at h
  split at h
  · exact h.elim
  rename_i c hc
  cases hb : Nat.ble args.length fn.ntmps with
  | false => rw [hb] at h; exact h.elim
  | true =>
  have h := h.yes hb
  have hb := Nat.le_of_ble_eq_true hb
  refine calls_of_wp hf hc ?_
  have hat : At fn.ntmps F w0 H.length β ⟨env0 0 args, H⟩ { tmps := (AV.concs β args).toArray ++ Array.replicate (fn.ntmps - (AV.concs β args).toArray.size) undef, defers := [] } w := by
    refine ⟨β, ⟨?_, fun t v hv => ?_, rfl⟩, hs, Pl.Ext.refl, Nat.le_refl _⟩
    · simp [concs_length]; omega
    · obtain ⟨_, h2⟩ := env0_look _ _ _ _ hv
      have h3 := concs_get β h2
      simp only [Nat.sub_zero] at h3
      have hlt : t < (AV.concs β args).length := (List.getElem?_eq_some_iff.1 h3).1
      rw [Array.getElem?_append_left (by simpa using hlt), List.getElem?_toArray]
      exact h3
  refine wp_mono (vc_sound hΓ (hD fn.ntmps) c h hat) fun e a w' ⟨ex, s, he, hQ, hat'⟩ => ?_
  obtain ⟨β', henv, hs', hb0, hk⟩ := hat'.ex
  cases e <;> simp only [exOf, Option.some.injEq, reduceCtorEq] at he
  · subst he
    simp only at hQ
    split at hQ
    · rename_i v hv
      exact ⟨henv.defers, _, resAV_run henv hs' hv, v, s.heap, β', hQ, rfl, hs', hb0, hk⟩
    · exact hQ.elim
  · subst he; exact hQ.elim
  · subst he
    simp only at hQ
    split at hQ
    · rename_i v hv
      exact ⟨henv.defers, _, resAV_run henv hs' hv, v, s.heap, β', hQ, rfl, hs', hb0, hk⟩
    · exact hQ.elim
end Go.Vs

namespace Go.Vs
open Go Go.RowKit
set_option linter.unusedSimpArgs false
set_option linter.unusedVariables false

/-! ### what is done in a part of memory leaves the rest -/
def setNew : AHeap → Nat → List AO → AHeap
  | H, _, [] => H
  | H, m, ao :: r => setNew (H.set m (some ao)) (m + 1) r

def applyAt (m : Nat) (r : Res) (H : AHeap) : AHeap := setNew (writes H r.wr) m r.new

def wrAt : List (Nat × Option AO) → Nat → Option (Option AO)
  | [], _ => none
  | (i, ao) :: r, id => match wrAt r id with | some a => some a | none => match Nat.beq i id with | true => some ao | false => none

theorem writes_get : ∀ (wr : List (Nat × Option AO)) (H : AHeap) (id : Nat), (writes H wr)[id]? = match wrAt wr id with | some ao => if id < H.length then some ao else none | none => H[id]?
  | [], H, id => rfl
  | (i, ao) :: r, H, id => by
    simp only [writes, wrAt]
    rw [writes_get r]
    cases h : wrAt r id with
    | some a => simp
    | none =>
      simp only
      cases hb : Nat.beq i id with
      | true =>
        have := Nat.eq_of_beq_eq_true hb
        subst this
        simp only [List.getElem?_set_self']
        by_cases hl : i < H.length
        · simp [hl]
        · simp [hl]
      | false =>
        have hne : i ≠ id := fun e => by subst e; simp at hb
        rw [List.getElem?_set_ne hne]

theorem setNew_length : ∀ (l : List AO) (H : AHeap) (m : Nat), (setNew H m l).length = H.length
  | [], _, _ => rfl
  | ao :: r, H, m => by simp only [setNew]; rw [setNew_length r]; simp

theorem setNew_get : ∀ (l : List AO) (H : AHeap) (m id : Nat), m + l.length ≤ H.length → (setNew H m l)[id]? = if m ≤ id ∧ id < m + l.length then some (l[id - m]?) else H[id]?
  | [], H, m, id, _ => by simp only [setNew, List.length_nil]; rw [if_neg (by omega)]
  | ao :: r, H, m, id, h => by
    simp only [List.length_cons] at h
    simp only [setNew, List.length_cons]
    rw [setNew_get r _ (m + 1) id (by simp; omega)]
    by_cases h1 : id = m
    · subst h1
      rw [if_neg (by omega), if_pos (by omega), List.getElem?_set_self (by omega)]
      simp
    · by_cases h2 : m + 1 ≤ id ∧ id < m + 1 + r.length
      · rw [if_pos h2, if_pos (by omega), show id - m = (id - (m + 1)) + 1 by omega]; simp
      · rw [if_neg h2, if_neg (by omega), List.getElem?_set_ne (fun e => h1 e.symm)]

theorem applyAt_length (m : Nat) (r : Res) (H : AHeap) : (applyAt m r H).length = H.length := by simp [applyAt, setNew_length, writes_length]

theorem apply_get (r : Res) (V : AHeap) (id : Nat) : (r.apply V)[id]? = if V.length ≤ id then (if id < V.length + r.new.length then some (r.new[id - V.length]?) else none) else (writes V r.wr)[id]? := by
  simp only [Res.apply]
  by_cases h : V.length ≤ id
  · rw [if_pos h, List.getElem?_append_right (by rw [writes_length]; exact h), writes_length]
    by_cases h2 : id < V.length + r.new.length
    · rw [if_pos h2]
      rw [List.getElem?_map]
      have : id - V.length < r.new.length := by omega
      rw [List.getElem?_eq_getElem this]; rfl
    · rw [if_neg h2]
      rw [List.getElem?_eq_none]; simp; omega
  · rw [if_neg h, List.getElem?_append_left (by rw [writes_length]; omega)]

/-- V is a part of H. -/
def Sub (V H : AHeap) : Prop := ∀ (i : Nat) (ao : AO), V[i]? = some (some ao) → H[i]? = some (some ao)

theorem applyAt_cases {V H : AHeap} {r : Res} (hV : Sub V H) (hm : V.length + r.new.length ≤ H.length) (hwr : ∀ p ∈ r.wr, p.1 < V.length) {id : Nat} {ao : AO} (h : (applyAt V.length r H)[id]? = some (some ao)) :
    ((r.apply V)[id]? = some (some ao) ∧ id < V.length + r.new.length) ∨ (H[id]? = some (some ao) ∧ wrAt r.wr id = none ∧ (∀ a, V[id]? ≠ some (some a)) ∧ ¬ (V.length ≤ id ∧ id < V.length + r.new.length)) := by
  have hwn : ∀ (l : List (Nat × Option AO)), (∀ p ∈ l, p.1 < V.length) → V.length ≤ id → wrAt l id = none := by
    intro l
    induction l with
    | nil => intro _ _; rfl
    | cons p l ih =>
      intro hp hle
      simp only [wrAt, ih (fun q hq => hp q (by simp [hq])) hle]
      cases hb : Nat.beq p.1 id with
      | true => have := Nat.eq_of_beq_eq_true hb; have := hp p (by simp); omega
      | false => rfl
  unfold applyAt at h
  rw [setNew_get _ _ _ _ (by rw [writes_length]; exact hm)] at h
  rw [apply_get]
  by_cases hr : V.length ≤ id ∧ id < V.length + r.new.length
  · rw [if_pos hr] at h
    exact .inl ⟨by rw [if_pos hr.1, if_pos hr.2]; exact h, hr.2⟩
  · rw [if_neg hr, writes_get] at h
    by_cases hlt : V.length ≤ id
    · rw [hwn r.wr hwr hlt] at h
      refine .inr ⟨h, hwn r.wr hwr hlt, fun a ha => ?_, hr⟩
      have := (List.getElem?_eq_some_iff.1 ha).1; omega
    · rw [if_neg hlt, writes_get]
      cases hw : wrAt r.wr id with
      | some a =>
        rw [hw] at h
        simp only at h
        split at h
        · simp only [Option.some.injEq] at h
          subst h
          exact .inl ⟨by simp; omega, by omega⟩
        · cases h
      | none =>
        rw [hw] at h
        simp only at h
        by_cases hv : ∃ a, V[id]? = some (some a)
        · obtain ⟨a, ha⟩ := hv
          have := hV id a ha
          rw [h] at this
          simp only [Option.some.injEq] at this
          subst this
          exact .inl ⟨by simp only; exact ha, by omega⟩
        · exact .inr ⟨h, rfl, fun a ha => hv ⟨a, ha⟩, hr⟩

mutual
def AV.alls (p : Nat → Bool) : AV → Bool
  | .val _ => true
  | .ptr b _ => p b
  | .pel b _ _ _ => p b
  | .sl _ b _ _ _ _ => p b
  | .mp b => p b
  | .ch b => p b
  | .fn _ a c => AV.allsL p a && AV.allsL p c
  | .ifc _ v => v.alls p
  | .agg cs => AV.allsL p cs
  | .tup cs => AV.allsL p cs
def AV.allsL (p : Nat → Bool) : List AV → Bool
  | [] => true
  | v :: vs => v.alls p && AV.allsL p vs
end

mutual
theorem AV.conc_alls {β β' : Pl} {p : Nat → Bool} (h : ∀ b, p b = true → β' b = β b) : ∀ v : AV, v.alls p = true → v.conc β' = v.conc β
  | .val _, _ => rfl
  | .ptr b off, hs => by simp only [AV.alls] at hs; simp only [AV.conc, h b hs]
  | .pel b _ _ _, hs => by simp only [AV.alls] at hs; simp only [AV.conc, h b hs]
  | .sl _ b _ _ _ _, hs => by simp only [AV.alls] at hs; simp only [AV.conc, h b hs]
  | .mp b, hs => by simp only [AV.alls] at hs; simp only [AV.conc, h b hs]
  | .ch b, hs => by simp only [AV.alls] at hs; simp only [AV.conc, h b hs]
  | .fn _ a c, hs => by simp only [AV.alls, Bool.and_eq_true] at hs; simp only [AV.conc, AV.concs_alls h a hs.1, AV.concs_alls h c hs.2]
  | .ifc _ v, hs => by simp only [AV.alls] at hs; simp only [AV.conc, AV.conc_alls h v hs]
  | .agg cs, hs => by simp only [AV.alls] at hs; simp only [AV.conc, AV.concs_alls h cs hs]
  | .tup cs, hs => by simp only [AV.alls] at hs; simp only [AV.conc, AV.concs_alls h cs hs]
theorem AV.concs_alls {β β' : Pl} {p : Nat → Bool} (h : ∀ b, p b = true → β' b = β b) : ∀ vs : List AV, AV.allsL p vs = true → AV.concs β' vs = AV.concs β vs
  | [], _ => rfl
  | v :: vs, hs => by simp only [AV.allsL, Bool.and_eq_true] at hs; simp only [AV.concs, AV.conc_alls h v hs.1, AV.concs_alls h vs hs.2]
end

def AO.alls (p : Nat → Bool) : AO → Bool
  | .cells _ _ cs => AV.allsL p cs
  | .arr _ _ _ _ _ => true
  | .mapc _ _ _ _ _ => true

theorem allsL_get {p : Nat → Bool} : ∀ {cs : List AV} {j : Nat} {v : AV}, AV.allsL p cs = true → cs[j]? = some v → v.alls p = true
  | [], _, _, _, h => by simp at h
  | x :: cs, 0, v, hs, h => by simp only [AV.allsL, Bool.and_eq_true] at hs; simp at h; rw [← h]; exact hs.1
  | x :: cs, j + 1, v, hs, h => by simp only [AV.allsL, Bool.and_eq_true] at hs; exact allsL_get hs.2 (by simpa using h)

theorem AO.Is.alls {β β' : Pl} {p : Nat → Bool} (h : ∀ b, p b = true → β' b = β b) (hice : ∀ b o, β.ice b o → β'.ice b o) {at_ : Nat} {ao : AO} {o : Obj} (hs : ao.alls p = true) (hi : ao.Is β at_ o) : ao.Is β' at_ o := by
  cases ao with
  | cells rw T cs =>
    obtain ⟨c, fz, h1, h2, h3⟩ := hi
    exact ⟨c, fz, h1, h2, fun j v hv => by rw [AV.conc_alls h v (allsL_get hs hv)]; exact h3 j v hv⟩
  | arr rw T room n' cols =>
    obtain ⟨c, fz, T', h1, h2, h4, h3⟩ := hi
    exact ⟨c, fz, T', h1, h2, h4, fun i hi j col hc => let ⟨v, hv, hh⟩ := h3 i hi j col hc; ⟨v, hv, hh.mono hice⟩⟩
  | mapc rw kk agg has cols => exact hi

def AHeap.alls (p : Nat → Bool) : AHeap → Bool
  | [] => true
  | none :: r => AHeap.alls p r
  | some ao :: r => ao.alls p && AHeap.alls p r

theorem AHeap.alls_get {p : Nat → Bool} : ∀ {H : AHeap} {i : Nat} {ao : AO}, AHeap.alls p H = true → H[i]? = some (some ao) → ao.alls p = true
  | [], _, _, _, h => by simp at h
  | none :: r, 0, _, _, h => by simp at h
  | none :: r, i + 1, ao, hs, h => AHeap.alls_get (H := r) (by simpa [AHeap.alls] using hs) (by simpa using h)
  | some a :: r, 0, ao, hs, h => by
    simp only [AHeap.alls, Bool.and_eq_true] at hs
    simp at h
    rw [← h]; exact hs.1
  | some a :: r, i + 1, ao, hs, h => by
    simp only [AHeap.alls, Bool.and_eq_true] at hs
    exact AHeap.alls_get (H := r) hs.2 (by simpa using h)

def outside (lo hi : Nat) (b : Nat) : Bool := Nat.blt b lo || Nat.ble hi b
theorem outside_iff {lo hi b : Nat} : outside lo hi b = true ↔ b < lo ∨ hi ≤ b := by simp [outside]

/-- The part V of H, taken for itself. -/
def partF (β : Pl) (V : AHeap) : Fr := ⟨fun b => ∃ (i : Nat) (ao : AO), V[i]? = some (some ao) ∧ ao.live ∧ ao.rw = true ∧ (β i).1 = b, β.ice⟩

theorem Sim.part {F w0 β} {H V : AHeap} {w} (h : Sim F w0 β H w) (hV : Sub V H) : Sim (partF β V) w β V w :=
  ⟨rfl, rfl, rfl, Nat.le_refl _, fun _ _ _ => rfl, h.ice, fun _ _ hb => .inl hb, fun i ao hi => h.wf i ao (hV i ao hi), fun i ao hi => h.spot i ao (hV i ao hi), fun i ao hi => h.obj i ao (hV i ao hi), fun i ao hi hl hrw => .inl ⟨i, ao, hi, hl, hrw, rfl⟩, fun i ao hi => h.out i ao (hV i ao hi), fun i ao hi => h.ro i ao (hV i ao hi),
    fun i j ai aj hi hj => h.apart i j ai aj (hV i ai hi) (hV j aj hj)⟩

def joinPl (n : Nat) (β' β : Pl) : Pl := ⟨fun id => if id < n then β' id else β id, β'.ice⟩

theorem joinPl_at (n : Nat) (β' β : Pl) (b : Nat) : (joinPl n β' β).at_ b = if b < n then β' b else β b := rfl

theorem Sim.whole {F w0 β} {H V : AHeap} {w : World} (h : Sim F w0 β H w) (hV : Sub V H) {r : Res} {β' : Pl} {w' : World} (h' : Sim (partF β V) w β' (r.apply V) w') (hb : Pl.Ext V.length β β')
    (hm : V.length + r.new.length ≤ H.length) (hwr : ∀ p ∈ r.wr, ∃ ao : AO, V[p.1]? = some (some ao))
    (hfree : ∀ (i : Nat) (ao : AO), H[i]? = some (some ao) → ao.alls (outside V.length (V.length + r.new.length)) = true)
    (hmen : ∀ (i : Nat) (ao : AO), (r.apply V)[i]? = some (some ao) → ao.alls (fun b => Nat.blt b (V.length + r.new.length)) = true) :
    Sim F w0 (joinPl (V.length + r.new.length) β' β) (applyAt V.length r H) w' := by
  have hwr' : ∀ p ∈ r.wr, p.1 < V.length := fun p hp => let ⟨ao, ha⟩ := hwr p hp; (List.getElem?_eq_some_iff.1 ha).1
  have hj1 : ∀ id, id < V.length + r.new.length → joinPl (V.length + r.new.length) β' β id = β' id := fun id hid => by show (if id < V.length + r.new.length then β' id else β id) = _; rw [if_pos hid]
  have hj2 : ∀ id, ¬ (V.length ≤ id ∧ id < V.length + r.new.length) → joinPl (V.length + r.new.length) β' β id = β id := fun id hid => by
    show (if id < V.length + r.new.length then β' id else β id) = _
    split
    · exact hb.old id (by omega)
    · rfl
  have hout : ∀ b, outside V.length (V.length + r.new.length) b = true → joinPl (V.length + r.new.length) β' β b = β b := fun b hb' => hj2 b (by have := outside_iff.1 hb'; omega)
  have hin : ∀ b, Nat.blt b (V.length + r.new.length) = true → joinPl (V.length + r.new.length) β' β b = β' b := fun b hb' => hj1 b (by simpa using hb')
  have hnotF : ∀ (id : Nat) (ao : AO), H[id]? = some (some ao) → ao.live → (∀ a, V[id]? ≠ some (some a)) → ¬ (partF β V).may (β id).1 := fun id ao hid hl hnv ⟨i, ai, hi, hli, hrw, he⟩ =>
    h.away (hV i ai hi) hid hli hl (fun e => by subst e; exact hnv ai hi) hrw he
  -- what was frozen meanwhile was one's own there
  have hice : ∀ b o, β'.ice b o → β.ice b o ∨ (partF β V).may b ∨ w.heap.size ≤ b := h'.iceF
  refine ⟨h'.os.trans h.os, h'.tape.trans h.tape, h'.output.trans h.output, Nat.le_trans h.size h'.size, fun b hlt hF => ?_, h'.ice, fun b o hbo => ?_, fun id ao hid => ?_, fun id ao hid hl => ?_, fun id ao hid hl => ?_, fun id ao hid hl hrw => ?_, fun id ao hid hl hrw => ?_, fun id ao hid hl hrw => ?_, fun i j ai aj hi hj hli hlj hij hrw hrj => ?_⟩
  · have := h.size
    rw [h'.block b (by omega) ?_]
    · exact h.block b hlt hF
    · rintro ⟨i, ao, hi, hl, hrw, he⟩
      rcases h.own i ao (hV i ao hi) hl hrw with h1 | h1
      · rw [he] at h1; exact hF h1
      · omega
  · rcases hice b o hbo with h1 | ⟨i, ai, hi, hl, hrw, he⟩ | h1
    · exact h.iceF b o h1
    · rcases h.own i ai (hV i ai hi) hl hrw with h2 | h2
      · exact .inr (.inl (by rw [← he]; exact h2))
      · exact .inr (.inr (by omega))
    · exact .inr (.inr (Nat.le_trans h.size h1))
  · rcases applyAt_cases hV hm hwr' hid with ⟨h1, h2⟩ | ⟨h1, h2, h3, h4⟩
    · exact h'.wf id ao h1
    · exact h.wf id ao h1
  · rcases applyAt_cases hV hm hwr' hid with ⟨h1, h2⟩ | ⟨h1, h2, h3, h4⟩
    · rw [hj1 id h2]; exact h'.spot id ao h1 hl
    · rw [hj2 id h4]; exact h.spot id ao h1 hl
  · rcases applyAt_cases hV hm hwr' hid with ⟨h1, h2⟩ | ⟨h1, h2, h3, h4⟩
    · obtain ⟨o, ho, his⟩ := h'.obj id ao h1 hl
      rw [hj1 id h2]
      exact ⟨o, ho, his.alls hin (fun _ _ h => h) (hmen id ao h1)⟩
    · obtain ⟨o, ho, his⟩ := h.obj id ao h1 hl
      rw [hj2 id h4]
      refine ⟨o, ?_, his.alls hout hb.ice (hfree id ao h1)⟩
      rw [h'.block _ (h.lt h1 hl) (hnotF id ao h1 hl h3)]
      exact ho
  · rcases applyAt_cases hV hm hwr' hid with ⟨h1, h2⟩ | ⟨h1, h2, h3, h4⟩
    · rw [hj1 id h2]
      rcases h'.own id ao h1 hl hrw with ⟨i, ai, hi, hli, hrwi, he⟩ | h5
      · rw [← he]; exact h.own i ai (hV i ai hi) hli hrwi
      · exact .inr (Nat.le_trans h.size h5)
    · rw [hj2 id h4]; exact h.own id ao h1 hl hrw
  · rcases applyAt_cases hV hm hwr' hid with ⟨h1, h2⟩ | ⟨h1, h2, h3, h4⟩
    · rw [hj1 id h2]; exact h'.out id ao h1 hl hrw
    · rw [hj2 id h4]
      intro o ho
      rcases hice _ o ho with h5 | h5 | h5
      · exact h.out id ao h1 hl hrw o h5
      · exact hnotF id ao h1 hl h3 h5
      · have := h.lt h1 hl; omega
  · rcases applyAt_cases hV hm hwr' hid with ⟨h1, h2⟩ | ⟨h1, h2, h3, h4⟩
    · rw [hj1 id h2]; exact h'.ro id ao h1 hl hrw
    · rw [hj2 id h4]
      obtain ⟨o, ho⟩ := h.ro id ao h1 hl hrw
      exact ⟨o, hb.ice _ _ ho⟩
  · -- a block of one's own in the part is one that was, or new
    have hpart : ∀ (i j : Nat) (ai aj : AO), (r.apply V)[i]? = some (some ai) → ai.live → ai.rw = true → H[j]? = some (some aj) → aj.live → (∀ a, V[j]? ≠ some (some a)) → (β' i).1 ≠ (β j).1 := by
      intro i j ai aj hi hli hrwi hj hlj hnv e
      rcases h'.own i ai hi hli hrwi with h5 | h5
      · rw [e] at h5; exact hnotF j aj hj hlj hnv h5
      · have := h.lt hj hlj; omega
    rcases applyAt_cases hV hm hwr' hi with ⟨h1, h2⟩ | ⟨h1, h2, h3, h4⟩ <;> rcases applyAt_cases hV hm hwr' hj with ⟨g1, g2⟩ | ⟨g1, g2, g3, g4⟩
    · rw [hj1 i h2, hj1 j g2]; exact h'.apart i j ai aj h1 g1 hli hlj hij hrw hrj
    · rw [hj1 i h2, hj2 j g4]; exact hpart i j ai aj h1 hli hrw g1 hlj g3
    · rw [hj2 i h4, hj1 j g2]; exact fun e => hpart j i aj ai g1 hlj hrj h1 hli h3 e.symm
    · rw [hj2 i h4, hj2 j g4]; exact h.apart i j ai aj h1 g1 hli hlj hij hrw hrj
end Go.Vs

namespace Go.Vs
open Go Go.RowKit
set_option linter.unusedSimpArgs false
set_option linter.unusedVariables false

/-! ### what an operation looks at -/
theorem opsAV_congr {ρ ρ' : Rho} : ∀ {xs : List Operand}, (∀ x ∈ xs, ρ x = ρ' x) → opsAV ρ xs = opsAV ρ' xs
  | [], _ => rfl
  | x :: r, h => by simp only [opsAV, h x (by simp), opsAV_congr (xs := r) fun y hy => h y (by simp [hy])]

theorem partsAV_congr {ρ ρ' : Rho} : ∀ {xs : List (Nat × Operand)}, (∀ x ∈ xs, ρ x.2 = ρ' x.2) → partsAV ρ xs = partsAV ρ' xs
  | [], _ => rfl
  | (i, x) :: r, h => by simp only [partsAV, h (i, x) (by simp), partsAV_congr (xs := r) fun y hy => h y (by simp [hy])]

theorem pureH_congr {P : Program} {o : Oper} {ρ ρ' : Rho} (h : ∀ x ∈ o.op.operands, ρ x = ρ' x) : pureH P o ρ = pureH P o ρ' := by
  by_cases hs : ∃ cs b, o.op = .select cs b
  · obtain ⟨cs, b, hs⟩ := hs
    simp [pureH, hs]
  · have e : ∀ r : Rho, pureH P o r = (if o.op.operands.toList.all (isPlain r) then match evalPure P (execOp (plainOf r) o) with | some (.value v) => some (rv (.val v)) | _ => none else none) := by
      intro r
      unfold pureH
      split
      · rename_i cs b hc; exact absurd ⟨_, _, hc⟩ hs
      · rfl
    rw [e, e]
    have h1 : o.op.operands.toList.all (isPlain ρ) = o.op.operands.toList.all (isPlain ρ') := by
      rw [Bool.eq_iff_iff, List.all_eq_true, List.all_eq_true]
      exact ⟨fun hh x hx => by rw [isPlain, ← h x (by simpa using hx)]; exact hh x hx, fun hh x hx => by rw [isPlain, h x (by simpa using hx)]; exact hh x hx⟩
    have h2 : execOp (plainOf ρ) o = execOp (plainOf ρ') o := execOp_congr o (fun cs b hc => hs ⟨cs, b, hc⟩) (fun x hx => by simp only [plainOf, h x hx])
    rw [h1, h2]

theorem aop_congr {P : Program} {o : Oper} {ρ ρ' : Rho} {V : AHeap} (h : ∀ x ∈ o.op.operands, ρ x = ρ' x) : aop P o ρ V = aop P o ρ' V := by
  have hp := pureH_congr (P := P) h
  obtain ⟨dst, op, ty, pos, after, guard⟩ := o
  cases op <;> simp only [Op.operands] at h <;> unfold aop <;> dsimp only
  case build t ps => simp only [buildH]; rw [partsAV_congr fun x hx => h x.2 (by simp; exact ⟨x.1, by simpa using hx⟩)]
  case buildSlice t n ps => simp only [buildSliceH]; rw [partsAV_congr fun x hx => h x.2 (by simp; exact ⟨x.1, by simpa using hx⟩)]
  case makeMap t r => cases r with | none => rfl | some x => simp only [Option.map_some, h x (by simp)]
  case makeFunc fn a c => simp only [makeFuncH]; rw [opsAV_congr fun x hx => h x (by simp; left; simpa using hx), opsAV_congr fun x hx => h x (by simp; right; simpa using hx)]
  case slice t x lo hi mx =>
    rw [h x (by simp)]
    have e : ∀ y : Option Operand, (∀ z, y = some z → ρ z = ρ' z) → y.map ρ = y.map ρ' := fun y hy => by cases y with | none => rfl | some z => simp [hy z rfl]
    rw [e lo fun z hz => h z (by simp [hz]), e hi fun z hz => h z (by simp [hz]), e mx fun z hz => h z (by simp [hz])]
  case call c =>
    obtain ⟨callee, args, ats⟩ := c
    simp only [Call.operands] at h
    cases callee with
    | value f => rfl
    | invoke r m => rfl
    | builtin b =>
      cases b <;> dsimp only <;> first | exact hp | skip
      all_goals
        split
        · first
            | (rename_i x hx
               rw [h x (by obtain rfl := toList_one hx; simp), hp]
               done)
            | (rename_i x y hx
               obtain rfl := toList_two hx
               rw [h x (by simp), h y (by simp)]
               done)
        · rfl
  all_goals first | exact hp | rfl | (simp at h; simp [h]; done) | (simp at h; simp only [h, hp]; done)
end Go.Vs

namespace Go.Vs
open Go Go.RowKit
set_option linter.unusedSimpArgs false
set_option linter.unusedVariables false

/-! ### regions that draw their order: one walk in the text's order, and a look at what may change places -/
mutual
def AV.ids : AV → List Nat
  | .val _ => []
  | .ptr b _ => [b]
  | .pel b _ _ _ => [b]
  | .sl _ b _ _ _ _ => [b]
  | .mp b => [b]
  | .ch b => [b]
  | .fn _ a c => AV.idsL a ++ AV.idsL c
  | .ifc _ v => v.ids
  | .agg cs => AV.idsL cs
  | .tup cs => AV.idsL cs
def AV.idsL : List AV → List Nat
  | [] => []
  | v :: vs => v.ids ++ AV.idsL vs
end

def AO.ids : AO → List Nat
  | .cells _ _ cs => AV.idsL cs
  | .arr _ _ _ _ _ => []
  | .mapc _ _ _ _ _ => []

def idsAt (H : AHeap) (i : Nat) : List Nat := match H[i]? with | some (some ao) => ao.ids | _ => []

def memN (l : List Nat) (i : Nat) : Bool := l.any (Nat.beq i)
theorem memN_iff {l : List Nat} {i : Nat} : memN l i = true ↔ i ∈ l := by simp [memN]

/-- What is reached from some regions, so many steps far. -/
def reach (H : AHeap) : Nat → List Nat → List Nat
  | 0, l => l
  | d + 1, l => l ++ reach H d (l.flatMap (idsAt H))

theorem reach_same {H H' : AHeap} : ∀ (d : Nat) (l : List Nat), (∀ i ∈ reach H d l, H'[i]? = H[i]?) → reach H' d l = reach H d l
  | 0, _, _ => rfl
  | d + 1, l, h => by
    simp only [reach] at h ⊢
    have e : l.flatMap (idsAt H') = l.flatMap (idsAt H) := by
      have : ∀ i ∈ l, idsAt H' i = idsAt H i := fun i hi => by simp only [idsAt, h i (List.mem_append_left _ hi)]
      clear h
      induction l with
      | nil => rfl
      | cons x l ih => simp only [List.flatMap_cons, this x (by simp), ih (fun i hi => this i (by simp [hi]))]
    rw [e, reach_same d _ (fun i hi => h i (List.mem_append_right _ hi))]

/-- The operands whose memory an operation may touch; how far. -/
def touched : Op → Nat × List Operand
  | .load _ x => (0, [x])
  | .store _ x _ => (0, [x])
  | .lookup _ m _ _ => (0, [m])
  | .mapUpdate _ m _ _ => (0, [m])
  | .insert _ m _ _ => (0, [m])
  | .convert _ _ x => (0, [x])
  | .indexAddr _ x _ => (0, [x])
  | .slice _ x _ _ _ => (0, [x])
  | .call ⟨.builtin .len, _, _⟩ => (0, [])
  | .call ⟨.builtin .cap, _, _⟩ => (0, [])
  | .call ⟨.builtin _, args, _⟩ => (0, args.toList)
  | .call ⟨.value x, args, _⟩ => (3, x :: args.toList)
  | _ => (0, [])

def idsO (ρ : Rho) (x : Operand) : List Nat := match ρ x with | some v => v.ids | none => []

def footD (o : Oper) (ρ : Rho) (H : AHeap) : List Nat := reach H (touched o.op).1 ((touched o.op).2.flatMap (idsO ρ))

theorem touched_sub (o : Op) : ∀ x ∈ (touched o).2, x ∈ o.operands := by
  intro x hx
  unfold touched at hx
  split at hx <;> simp_all [Op.operands, Call.operands]

/-- How many regions an operation may make. -/
def width : Op → Nat
  | .alloc _ => 1
  | .box _ _ => 1
  | .buildSlice _ _ _ => 1
  | .makeMap _ _ => 1
  | .makeSlice _ _ _ => 1
  | .convert _ _ _ => 1
  | .load _ _ => 2
  | .call ⟨.builtin .append, _, _⟩ => 1
  | .call ⟨.value _, _, _⟩ => 6
  | _ => 0

def starts (base : Nat) : List Oper → List Nat
  | [] => []
  | o :: r => base :: starts (base + width o.op) r

/-- A part of memory: what may be touched, below m. -/
def viewG (foot : List Nat) : Nat → Nat → AHeap → AHeap
  | 0, _, _ => []
  | m + 1, i, [] => none :: viewG foot m (i + 1) []
  | m + 1, i, x :: H => (match memN foot i with | true => x | false => none) :: viewG foot m (i + 1) H

theorem viewG_length (foot : List Nat) : ∀ (m i : Nat) (H : AHeap), (viewG foot m i H).length = m
  | 0, _, _ => rfl
  | m + 1, i, [] => by simp only [viewG, List.length_cons, viewG_length foot m]
  | m + 1, i, x :: H => by simp only [viewG, List.length_cons, viewG_length foot m]

theorem viewG_get (foot : List Nat) : ∀ (m i : Nat) (H : AHeap) (j : Nat) (ao : AO), (viewG foot m i H)[j]? = some (some ao) → H[j]? = some (some ao) ∧ (i + j) ∈ foot ∧ j < m
  | 0, _, _, _, _, h => by simp [viewG] at h
  | m + 1, i, [], 0, ao, h => by simp [viewG] at h
  | m + 1, i, [], j + 1, ao, h => by
    simp only [viewG, List.getElem?_cons_succ] at h
    have := viewG_get foot m (i + 1) [] j ao h
    simp at this
  | m + 1, i, x :: H, 0, ao, h => by
    simp only [viewG, List.getElem?_cons_zero, Option.some.injEq] at h
    split at h
    · rename_i hb; subst h; exact ⟨rfl, memN_iff.1 hb, by omega⟩
    · cases h
  | m + 1, i, x :: H, j + 1, ao, h => by
    simp only [viewG, List.getElem?_cons_succ] at h
    obtain ⟨h1, h2, h3⟩ := viewG_get foot m (i + 1) H j ao h
    exact ⟨by simpa using h1, by rw [show i + (j + 1) = i + 1 + j by omega]; exact h2, by omega⟩

theorem viewG_same (foot : List Nat) : ∀ (m i : Nat) (H H' : AHeap), H.length = H'.length → (∀ j, (i + j) ∈ foot → H'[j]? = H[j]?) → viewG foot m i H' = viewG foot m i H
  | 0, _, _, _, _, _ => rfl
  | m + 1, i, [], [], _, _ => rfl
  | m + 1, i, x :: H, y :: H', hl, h => by
    simp only [viewG]
    have ih := viewG_same foot m (i + 1) H H' (by simpa using hl) (fun j hj => by have := h (j + 1) (by rw [show i + (j + 1) = i + 1 + j by omega]; exact hj); simpa using this)
    rw [ih]
    congr 1
    cases hb : memN foot i with
    | false => rfl
    | true =>
      have := h 0 (by simpa using memN_iff.1 hb)
      simpa using this

def opTree (P : Program) (Γ : Cts) (o : Oper) (ρ : Rho) (V : AHeap) : OutT :=
  match aop P o ρ V with
  | some t => t
  | none => match callAt Γ o ρ V with | some (_, t) => t | none => .need false (rv (.val undef))

theorem callAt_congr {Γ : Cts} {o : Oper} {ρ ρ' : Rho} {V : AHeap} (h : ∀ x ∈ o.op.operands, ρ x = ρ' x) : callAt Γ o ρ V = callAt Γ o ρ' V := by
  unfold callAt
  split
  · rename_i x args ats ho
    rw [ho] at h
    simp only [Op.operands, Call.operands] at h
    rw [h x (by simp), opsAV_congr fun y hy => h y (by simp; right; simpa using hy)]
  · rfl

theorem opTree_congr {P : Program} {Γ : Cts} {o : Oper} {ρ ρ' : Rho} {V : AHeap} (h : ∀ x ∈ o.op.operands, ρ x = ρ' x) : opTree P Γ o ρ V = opTree P Γ o ρ' V := by
  unfold opTree; rw [aop_congr h, callAt_congr h]

structure Rg where
  ops : Array Oper
  N : Nat
  base : Nat

def Rg.start (R : Rg) (j : Nat) : Nat := (starts R.base R.ops.toList).getD j 0
def wOf : Option Oper → Nat
  | some o => width o.op
  | none => 0
def Rg.wid (R : Rg) (j : Nat) : Nat := wOf R.ops[j]?
def Rg.out (R : Rg) (j b : Nat) : Bool := outside (R.start j) (R.start j + R.wid j) b

/-- What was done: which operation, what it may have touched, what came of it. -/
structure Rec where
  idx : Nat
  foot : List Nat
  r : Res

def resAlls (p : Nat → Bool) (r : Res) : Bool := r.val.alls p && r.wr.all (fun x => match x.2 with | some ao => ao.alls p | none => true) && r.new.all (fun x => x.alls p)

def looksO (R : Rg) (j : Nat) : List Nat :=
  match R.ops[j]? with
  | some o => (o.op.operands.toList.filterMap fun | .tmp t => some t | _ => none) ++ (match o.guard with | some (g, _) => (match guardSlot R.ops g with | some d => [d] | none => []) | none => [])
  | none => []
def dstO (R : Rg) (j : Nat) : List Nat := match R.ops[j]? with | some o => (match o.dst with | some d => [d] | none => []) | none => []

def disj (a b : List Nat) : Bool := a.all fun x => !(memN b x)

/-- One way: what A did is not seen by B. -/
def chk1 (R : Rg) (A B : Rec) : Bool :=
  disj (dstO R A.idx) (looksO R B.idx) && disj (A.r.wr.map (·.1)) B.foot && B.foot.all (R.out A.idx) && resAlls (R.out A.idx) B.r
def chk (R : Rg) (A B : Rec) : Bool := chk1 R A B && chk1 R B A && disj (dstO R A.idx) (dstO R B.idx)

/-- Does j wait for i? -/
def waits (R : Rg) : Nat → Nat → Nat → Bool
  | 0, _, _ => false
  | f + 1, j, i => match R.ops[j]? with | some o => o.after.toList.any fun e => Region.binds .any e && (Nat.beq e.on i || waits R f e.on i) | none => false
def Rg.wt (R : Rg) (j i : Nat) : Bool := waits R R.ops.size j i

def treeO (P : Program) (Γ : Cts) (R : Rg) (o : Oper) (j : Nat) (ρ : Rho) (H : AHeap) : OutT :=
  .need (AHeap.sc (R.start j) (viewG (footD o ρ H) (R.start j) 0 H) && (footD o ρ H).all (fun b => Nat.blt b (R.start j))) (opTree P Γ o ρ (viewG (footD o ρ H) (R.start j) 0 H))

def treeD (P : Program) (Γ : Cts) (R : Rg) (j : Nat) (s : AS) : OutT :=
  match R.ops[j]? with
  | none => .need false (rv (.val undef))
  | some o =>
    match o.guard with
    | none => treeO P Γ R o j (rho s.env) s.heap
    | some (g, want) =>
      match guardSlot R.ops g with
      | none => .need false (rv (.val undef))
      | some d =>
        match look s.env d with
        | some (.val (.bool b)) =>
          match want with
          | true => .split b (treeO P Γ R o j (rho s.env) s.heap) (rv (.val undef))
          | false => .split b (rv (.val undef)) (treeO P Γ R o j (rho s.env) s.heap)
        | some (.val (.tuple _)) => rv (.val undef)
        | _ => .need false (rv (.val undef))

def footJ (R : Rg) (j : Nat) (s : AS) : List Nat := match R.ops[j]? with | some o => footD o (rho s.env) s.heap | none => []
def recD (R : Rg) (j : Nat) (s : AS) (r : Res) : Rec := ⟨j, footJ R j s, r⟩
def applyD (R : Rg) (j : Nat) (s : AS) (r : Res) : AS := ⟨putE s.env (dstO R j).head? r.val, applyAt (R.start j) r s.heap⟩

def menOk (R : Rg) (j : Nat) (acc : List Rec) (r : Res) : Bool :=
  resAlls (fun b => Nat.blt b R.base || !(R.out j b) || acc.any (fun A => !(R.out A.idx b))) r

def okD (R : Rg) (j : Nat) (acc : List Rec) (s : AS) (r : Res) : Bool :=
  (dstO R j).all (fun d => Nat.blt d R.N) && Nat.ble r.new.length (R.wid j) && true && r.wr.all (fun p => memN (footJ R j s) p.1 && (match s.heap[p.1]? with | some (some _) => true | _ => false)) &&
  resAlls (fun b => Nat.blt b (R.start j + r.new.length)) r && menOk R j acc r && acc.all (fun A => R.wt j A.idx || chk R A (recD R j s r))

def opV (P : Program) (Γ : Cts) (R : Rg) (j : Nat) (acc : List Rec) (s : AS) (k : List Rec → AS → Prop) : Prop :=
  (treeD P Γ R j s).wp fun r => Bif (okD R j acc s r) (k (recD R j s r :: acc) (applyD R j s r)) False

def remV (P : Program) (Γ : Cts) (R : Rg) (K : AS → Prop) : List Nat → List Rec → AS → Prop
  | [], _, s => K s
  | j :: rem, acc, s => opV P Γ R j acc s fun acc' s' => remV P Γ R K rem acc' s'

/-- What guards an operation, and whether it holds. -/
def gdD (R : Rg) (j : Nat) (s : AS) : Option (Nat × Bool) :=
  match R.ops[j]? with
  | some o =>
    match o.guard with
    | some (g, _) =>
      match guardSlot R.ops g with
      | some d => (match look s.env d with | some (.val (.bool b)) => some (d, b) | _ => none)
      | none => none
    | none => none
  | none => none

/-- The same, where what a guard comes to is asked once. -/
def remG (P : Program) (Γ : Cts) (R : Rg) (K : AS → Prop) : List Nat → List Rec → AS → Prop
  | [], _, s => K s
  | j :: rem, acc, s =>
    match gdD R j s with
    | some (d, b) => Bif b (opV P Γ R j acc ⟨(d, .val (.bool true)) :: s.env, s.heap⟩ fun acc' s' => remG P Γ R K rem acc' s') (opV P Γ R j acc ⟨(d, .val (.bool false)) :: s.env, s.heap⟩ fun acc' s' => remG P Γ R K rem acc' s')
    | none => opV P Γ R j acc s fun acc' s' => remG P Γ R K rem acc' s'

def padTo : Nat → AHeap → AHeap
  | 0, H => H
  | n + 1, H => padTo n (H ++ [none])

def trimL : AHeap → AHeap
  | [] => []
  | x :: r => match trimL r with | [] => (match x with | none => [] | some ao => [some ao]) | y :: l => x :: y :: l

def total : List Oper → Nat
  | [] => 0
  | o :: r => width o.op + total r

def edgesB (ops : Array Oper) : Bool := ops.toList.zipIdx.all fun x => x.1.after.toList.all fun e => !(Region.binds .any e) || Nat.blt e.on x.2

def drawV (P : Program) (Γ : Cts) (N k0 : Nat) (ops : Array Oper) (K : AS → Prop) (s : AS) : Prop :=
  Bif (edgesB ops && AHeap.sc s.heap.length s.heap && scE s.heap.length s.env && Nat.ble k0 s.heap.length)
    (remG P Γ ⟨ops, N, s.heap.length⟩ (fun s' => Bif (Nat.ble k0 (trimL s'.heap).length) (K ⟨s'.env, trimL s'.heap⟩) False) (List.range ops.size) [] ⟨s.env, padTo (total ops.toList) s.heap⟩) False
end Go.Vs

namespace Go.Vs
open Go Go.RowKit
set_option linter.unusedSimpArgs false
set_option linter.unusedVariables false

theorem OutT.wp_iff {Q : Res → Prop} {t : OutT} : t.wp Q ↔ t.wp (fun _ => True) ∧ ∀ r, t.can r → Q r := by
  refine ⟨fun h => ⟨OutT.wp_mono (fun _ _ => trivial) h, fun r hr => OutT.wp_can h hr⟩, ?_⟩
  rintro ⟨h1, h2⟩
  induction t with
  | ret r => exact h2 r rfl
  | need b k ih => exact Bif.mk (fun hb => ih (h1.yes hb) fun r hr => h2 r ⟨hb, hr⟩) (fun hb => (h1.no hb).elim)
  | needP p k ih => exact ⟨h1.1, ih h1.2 fun r hr => h2 r ⟨h1.1, hr⟩⟩
  | split b t f ih1 ih2 => exact Bif.mk (fun hb => ih1 (h1.yes hb) fun r hr => h2 r (.inl ⟨hb, hr⟩)) (fun hb => ih2 (h1.no hb) fun r hr => h2 r (.inr ⟨hb, hr⟩))
  | all a k ih => exact fun x => ih x (h1 x) fun r hr => h2 r ⟨x, hr⟩

mutual
theorem AV.alls_mono2 {p q p' : Nat → Bool} (h : ∀ b, p b = true → q b = true → p' b = true) : ∀ v : AV, v.alls p = true → v.alls q = true → v.alls p' = true
  | .val _, _, _ => rfl
  | .ptr b _, h1, h2 => h b h1 h2
  | .pel b _ _ _, h1, h2 => h b h1 h2
  | .sl _ b _ _ _ _, h1, h2 => h b h1 h2
  | .mp b, h1, h2 => h b h1 h2
  | .ch b, h1, h2 => h b h1 h2
  | .fn _ a c, h1, h2 => by simp only [AV.alls, Bool.and_eq_true] at *; exact ⟨AV.allsL_mono2 h a h1.1 h2.1, AV.allsL_mono2 h c h1.2 h2.2⟩
  | .ifc _ v, h1, h2 => AV.alls_mono2 h v h1 h2
  | .agg cs, h1, h2 => AV.allsL_mono2 h cs h1 h2
  | .tup cs, h1, h2 => AV.allsL_mono2 h cs h1 h2
theorem AV.allsL_mono2 {p q p' : Nat → Bool} (h : ∀ b, p b = true → q b = true → p' b = true) : ∀ vs : List AV, AV.allsL p vs = true → AV.allsL q vs = true → AV.allsL p' vs = true
  | [], _, _ => rfl
  | v :: vs, h1, h2 => by simp only [AV.allsL, Bool.and_eq_true] at *; exact ⟨AV.alls_mono2 h v h1.1 h2.1, AV.allsL_mono2 h vs h1.2 h2.2⟩
end

theorem AO.alls_mono2 {p q p' : Nat → Bool} (h : ∀ b, p b = true → q b = true → p' b = true) (ao : AO) (h1 : ao.alls p = true) (h2 : ao.alls q = true) : ao.alls p' = true := by
  cases ao with
  | cells _ _ cs => exact AV.allsL_mono2 h cs h1 h2
  | arr _ _ _ _ _ => rfl
  | mapc _ _ _ _ _ => rfl

theorem resAlls_mono2 {p q p' : Nat → Bool} (h : ∀ b, p b = true → q b = true → p' b = true) {r : Res} (h1 : resAlls p r = true) (h2 : resAlls q r = true) : resAlls p' r = true := by
  simp only [resAlls, Bool.and_eq_true, List.all_eq_true] at *
  exact ⟨⟨AV.alls_mono2 h _ h1.1.1 h2.1.1, fun x hx => by
    have a1 := h1.1.2 x hx
    have a2 := h2.1.2 x hx
    cases hx2 : x.2 with
    | none => rfl
    | some ao => rw [hx2] at a1 a2; exact AO.alls_mono2 h _ a1 a2⟩, fun x hx => AO.alls_mono2 h _ (h1.2 x hx) (h2.2 x hx)⟩
theorem resAlls_mono {p p' : Nat → Bool} (h : ∀ b, p b = true → p' b = true) {r : Res} (h1 : resAlls p r = true) : resAlls p' r = true := resAlls_mono2 (fun b hb _ => h b hb) h1 h1

theorem disj_iff {a b : List Nat} : disj a b = true ↔ ∀ x ∈ a, x ∉ b := by
  simp only [disj, List.all_eq_true, Bool.not_eq_true', ← Bool.not_eq_true, memN_iff]

theorem setNew_get_out : ∀ (l : List AO) (H : AHeap) (m id : Nat), ¬ (m ≤ id ∧ id < m + l.length) → (setNew H m l)[id]? = H[id]?
  | [], H, m, id, _ => rfl
  | ao :: r, H, m, id, h => by
    simp only [List.length_cons] at h
    simp only [setNew]
    rw [setNew_get_out r _ (m + 1) id (by omega), List.getElem?_set_ne (by omega)]

theorem wrAt_none {id : Nat} : ∀ {l : List (Nat × Option AO)}, id ∉ l.map (·.1) → wrAt l id = none
  | [], _ => rfl
  | p :: l, h => by
    simp only [List.map_cons, List.mem_cons, not_or] at h
    simp only [wrAt, wrAt_none h.2]
    cases hb : Nat.beq p.1 id with
    | true => exact absurd (Nat.eq_of_beq_eq_true hb).symm h.1
    | false => rfl

theorem applyAt_out {m : Nat} {r : Res} {H : AHeap} {id : Nat} (h1 : id ∉ r.wr.map (·.1)) (h2 : ¬ (m ≤ id ∧ id < m + r.new.length)) : (applyAt m r H)[id]? = H[id]? := by
  unfold applyAt
  rw [setNew_get_out _ _ _ _ h2, writes_get, wrAt_none h1]

section
variable {P : Program} {Γ : Cts} {R : Rg}

theorem look_put {env : Env} {l : List Nat} {v : AV} {t : Nat} (h : t ∉ l) : look (putE env l.head? v) t = look env t := by
  cases l with
  | nil => rfl
  | cons d l =>
    simp only [List.head?_cons, putE, look]
    cases hb : Nat.beq d t with
    | true => exact absurd (by simp [Nat.eq_of_beq_eq_true hb]) h
    | false => rfl

theorem mem_looks {j : Nat} {o : Oper} (hj : R.ops[j]? = some o) {t : Nat} (h : Operand.tmp t ∈ o.op.operands) : t ∈ looksO R j := by
  simp only [looksO, hj]
  exact List.mem_append_left _ (List.mem_filterMap.2 ⟨.tmp t, by simpa using h, rfl⟩)

theorem mem_guard {j g d : Nat} {o : Oper} {want : Bool} (hj : R.ops[j]? = some o) (hg : o.guard = some (g, want)) (hd : guardSlot R.ops g = some d) : d ∈ looksO R j := by
  simp only [looksO, hj, hg, hd]
  exact List.mem_append_right _ (by simp)

/-- Where what it looks at, and may touch, is the same, an operation is the same. -/
theorem same_gen {j : Nat} {s s' : AS} (hl : s'.heap.length = s.heap.length) (he : ∀ t ∈ looksO R j, look s'.env t = look s.env t) (hh : ∀ id ∈ footJ R j s, s'.heap[id]? = s.heap[id]?) :
    footJ R j s' = footJ R j s ∧ treeD P Γ R j s' = treeD P Γ R j s := by
  cases hj : R.ops[j]? with
  | none => exact ⟨by simp only [footJ, hj], by simp only [treeD, hj]⟩
  | some o =>
    have hρ : ∀ x ∈ o.op.operands, rho s'.env x = rho s.env x := by
      intro x hx
      cases x with
      | tmp t => simp only [rho]; exact he t (mem_looks hj hx)
      | _ => rfl
    have hfoot : footD o (rho s'.env) s'.heap = footD o (rho s.env) s.heap := by
      simp only [footJ, hj] at hh
      unfold footD at hh ⊢
      have e : (touched o.op).2.flatMap (idsO (rho s'.env)) = (touched o.op).2.flatMap (idsO (rho s.env)) := by
        have : ∀ x ∈ (touched o.op).2, idsO (rho s'.env) x = idsO (rho s.env) x := fun x hx => by simp only [idsO, hρ x (touched_sub _ x hx)]
        generalize (touched o.op).2 = l at this
        induction l with
        | nil => rfl
        | cons x l ih => simp only [List.flatMap_cons, this x (by simp), ih (fun y hy => this y (by simp [hy]))]
      rw [e]
      exact reach_same _ _ hh
    have hview : viewG (footD o (rho s'.env) s'.heap) (R.start j) 0 s'.heap = viewG (footD o (rho s.env) s.heap) (R.start j) 0 s.heap := by
      rw [hfoot]
      exact viewG_same _ _ _ _ _ hl.symm (fun i hi => hh i (by simp only [footJ, hj]; simpa using hi))
    have htree : treeO P Γ R o j (rho s'.env) s'.heap = treeO P Γ R o j (rho s.env) s.heap := by
      unfold treeO
      rw [hview, hfoot, opTree_congr hρ]
    refine ⟨by simp only [footJ, hj]; exact hfoot, ?_⟩
    simp only [treeD, hj]
    cases hg : o.guard with
    | none => exact htree
    | some gw =>
      obtain ⟨g, want⟩ := gw
      simp only
      cases hd : guardSlot R.ops g with
      | none => rfl
      | some d => simp only [he d (mem_guard hj hg hd), htree]

theorem chk_symm {A B : Rec} (h : chk R A B = true) : chk R B A = true := by
  simp only [chk, Bool.and_eq_true] at *
  refine ⟨⟨h.1.2, h.1.1⟩, ?_⟩
  rw [disj_iff] at *
  exact fun x hx hx' => h.2 x hx' hx

theorem starts_mono : ∀ (l : List Oper) (base i j : Nat), i < j → j < l.length → (starts base l).getD i 0 + wOf l[i]? ≤ (starts base l).getD j 0
  | [], _, _, _, _, h => by simp at h
  | o :: r, base, 0, j + 1, _, h => by
    simp only [starts, List.getD_cons_zero, List.getElem?_cons_zero, List.getD_cons_succ, wOf]
    have : ∀ (l : List Oper) (b k : Nat), k < l.length → b ≤ (starts b l).getD k 0 := by
      intro l
      induction l with
      | nil => intro b k hk; simp at hk
      | cons x l ih =>
        intro b k hk
        cases k with
        | zero => simp [starts]
        | succ k => simp only [starts, List.getD_cons_succ]; have := ih (b + width x.op) k (by simpa using hk); omega
    exact this r _ j (by simpa using h)
  | o :: r, base, i + 1, j + 1, hij, h => by
    simp only [starts, List.getD_cons_succ, List.getElem?_cons_succ]
    exact starts_mono r _ i j (by omega) (by simpa using h)

theorem ranges_apart {i j : Nat} (hne : i ≠ j) (hi : i < R.ops.size) (hj : j < R.ops.size) : R.start i + R.wid i ≤ R.start j ∨ R.start j + R.wid j ≤ R.start i := by
  have key : ∀ i j, i < j → j < R.ops.size → R.start i + R.wid i ≤ R.start j := fun i j hij hj => by
    have := starts_mono R.ops.toList R.base i j hij (by simpa using hj)
    rw [Array.getElem?_toList] at this
    exact this
  rcases Nat.lt_or_gt_of_ne hne with h | h
  · exact .inl (key i j h hj)
  · exact .inr (key j i h hi)
end
end Go.Vs
