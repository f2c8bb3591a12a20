/-
  May that be answered; under the rows' own bounds.
-/
import Derived.Test.YtmbeekfbnfndgaaRa
namespace Go.Wk.P05
open Go Go.Vs Go.Proofs Go.Wk.P04
set_option linter.unusedSimpArgs false
set_option linter.unusedVariables false
set_option maxRecDepth 10000

/-! an answer; may it be? -/
structure Rp where
  code : Int
  v : SS
abbrev rpV (p : Rp) (b : Nat) : AV := .agg [iv p.code, ssV p.v b]
structure RpOk (p : Rp) : Prop where
  code : I64 p.code
  v : WOk p.v
def fndP (v : AV) (H : AHeap) : Option (Rp × Nat) := match v with
  | .agg [.val (.int .i64 code), v] => (match fndS 44 .u16 v H with | some (s, b) => some (⟨code, s⟩, b) | none => none)
  | _ => none
theorem fndP_found {v : AV} {H : AHeap} {q : Rp} {b : Nat} (h : fndP v H = some (q, b)) : v = rpV q b ∧ H[b]? = some (some (wO q.v)) := by
  unfold fndP at h
  split at h
  rotate_left
  · cases h
  split at h
  rotate_left
  · cases h
  rename_i hs
  cases h
  obtain ⟨rfl, h2⟩ := fndS_found hs
  exact ⟨rfl, h2⟩
def fndQP (args : List AV) (H : AHeap) : Option ((Rq × Rp) × List Nat) := match args with
  | [v, w] => (match fndQ v H, fndP w H with | some (q, b), some (p, c) => some ((q, p), [b, c]) | _, _ => none)
  | _ => none
theorem fndQP_found {args : List AV} {H : AHeap} {x : Rq × Rp} {σ : List Nat} (h : fndQP args H = some (x, σ)) : args = AV.rens σ [rqV x.1 0, rpV x.2 1] ∧ ∀ (i : Nat) (ao : AO), [some (wO x.1.v), some (wO x.2.v)][i]? = some (some ao) → H[ren1 σ i]? = some (some (ao.ren σ)) := by
  unfold fndQP at h
  split at h
  rotate_left
  · cases h
  split at h
  rotate_left
  · cases h
  rename_i q b p c hq hp
  cases h
  obtain ⟨rfl, h2⟩ := fndQ_found hq
  obtain ⟨rfl, h3⟩ := fndP_found hp
  exact ⟨rfl, fun i ao hi => by
    match i, hi with
    | 0, hi => obtain rfl := Option.some.inj (Option.some.inj hi); exact h2
    | 1, hi => obtain rfl := Option.some.inj (Option.some.inj hi); exact h3⟩
def rbits (n : Int) : Bool := isReads n && (kdAt n).bits
def may (q : Rq) (p : Rp) : Bool :=
  bif p.code != 0 then ((decide (p.code ≥ 1) && decide (p.code ≤ 4)) && ((p.v.n : Int) == 0)) else
  bif !isReads q.fc then (p.v.n : Int) == 0 else ((p.v.n : Int) == q.qty) && !(rbits q.fc && anyN p.v.n (big p.v))
def rright (q : Rq) (p : Rp) : Bool := right q && may q p
noncomputable def Γf : Cts := (((Γe.add 32 RwordsS.ct).add 36 RunwordsS.ct).add 18 (autoCt Try.prog Γe Try.f18)).add 25 (autoCt Try.prog Γe Try.f25)
theorem Γf_ok : CtsOk Try.prog Γf := (((Γe_ok.add rwords_ok Try.func32 (by kernel_rfl) (by kernel_rfl)).add runwords_ok Try.func36 (by kernel_rfl) (by kernel_rfl)).add (autoCt_ok Γe_ok hm Try.func18) Try.func18 (by kernel_rfl) (by kernel_rfl)).add (autoCt_ok Γe_ok hm Try.func25) Try.func25 (by kernel_rfl) (by kernel_rfl)
abbrev akV (q : Rq) (rd bt : Bool) (b : Nat) : AV := .agg [iv q.fc, iv q.addr, iv q.qty, ssV q.v b, iv q.to, bv rd, bv bt]
def fndA (v : AV) (H : AHeap) : Option ((Rq × Bool × Bool) × Nat) := match v with
  | .agg [.val (.int .i64 fc), .val (.int .i64 addr), .val (.int .i64 qty), v, .val (.int .i64 to), .val (.bool rd), .val (.bool bt)] => (match fndS 44 .u16 v H with | some (s, b) => some ((⟨fc, addr, qty, s, to⟩, rd, bt), b) | none => none)
  | _ => none
theorem fndA_found {v : AV} {H : AHeap} {q : Rq × Bool × Bool} {b : Nat} (h : fndA v H = some (q, b)) : v = akV q.1 q.2.1 q.2.2 b ∧ H[b]? = some (some (wO q.1.v)) := by
  unfold fndA at h
  split at h
  rotate_left
  · cases h
  split at h
  rotate_left
  · cases h
  rename_i hs
  cases h
  obtain ⟨rfl, h2⟩ := fndS_found hs
  exact ⟨rfl, h2⟩
def fndAP (args : List AV) (H : AHeap) : Option (((Rq × Bool × Bool) × Rp) × List Nat) := match args with
  | [v, w] => (match fndA v H, fndP w H with | some (q, b), some (p, c) => some ((q, p), [b, c]) | _, _ => none)
  | _ => none
theorem fndAP_found {args : List AV} {H : AHeap} {x : (Rq × Bool × Bool) × Rp} {σ : List Nat} (h : fndAP args H = some (x, σ)) : args = AV.rens σ [akV x.1.1 x.1.2.1 x.1.2.2 0, rpV x.2 1] ∧ ∀ (i : Nat) (ao : AO), [some (wO x.1.1.v), some (wO x.2.v)][i]? = some (some ao) → H[ren1 σ i]? = some (some (ao.ren σ)) := by
  unfold fndAP at h
  split at h
  rotate_left
  · cases h
  split at h
  rotate_left
  · cases h
  rename_i q b p c hq hp
  cases h
  obtain ⟨rfl, h2⟩ := fndA_found hq
  obtain ⟨rfl, h3⟩ := fndP_found hp
  exact ⟨rfl, fun i ao hi => by
    match i, hi with
    | 0, hi => obtain rfl := Option.some.inj (Option.some.inj hi); exact h2
    | 1, hi => obtain rfl := Option.some.inj (Option.some.inj hi); exact h3⟩
def MayS : Sp where
  X := (Rq × Bool × Bool) × Rp
  Y := fun _ => Unit
  y0 := fun _ => ()
  pat := fun x => ([akV x.1.1 x.1.2.1 x.1.2.2 0, rpV x.2 1], [some (wO x.1.1.v), some (wO x.2.v)])
  fnd := fndAP
  pre := fun x => RpOk x.2 ∧ x.1.2.1 = isReads x.1.1.fc ∧ x.1.2.2 = rbits x.1.1.fc
  res := fun x _ => just (bv (may x.1.1 x.2))
  pick := fun _ _ _ => some ((), [0, 1])
theorem MayS_found : MayS.spec.Found := fun _ _ _ _ h => fndAP_found h
set_option maxRecDepth 100000 in
theorem maya_nf (q : Rq) (rd : Bool) (bt : Bool) (p : Rp) : (fnV Try.prog Γf (fun (x : Code) (x_1 : AS) => none) Try.f19 [akV q rd bt 0, rpV p 1] [some (wO (Rq.v q)), some (wO (Rp.v p))] (Sp.good MayS ((q, rd, bt), p))) = (let q_1 := (AV.val (Value.bool false) = AV.val (Value.bool (may q p)) ∧ True) ∧ Bif (AO.deadB (wO (Rq.v q))) True (AO.arr (SS.rw (Rq.v q)) 44 (SS.room (Rq.v q)) (SS.m (Rq.v q)) [Col.int IntKind.u16 (SS.l (Rq.v q))] = AO.arr (SS.rw (Rq.v q)) 44 (SS.room (Rq.v q)) (SS.m (Rq.v q)) [Col.int IntKind.u16 (SS.l (Rq.v q))]) ∧ Bif (AO.deadB (wO (Rp.v p))) True (AO.arr (SS.rw (Rp.v p)) 44 (SS.room (Rp.v p)) (SS.m (Rp.v p)) [Col.int IntKind.u16 (SS.l (Rp.v p))] = AO.arr (SS.rw (Rp.v p)) 44 (SS.room (Rp.v p)) (SS.m (Rp.v p)) [Col.int IntKind.u16 (SS.l (Rp.v p))]) ∧ True; let q_2 := (AV.val (Value.bool ((↑(SS.n (Rp.v p)) : Int) == 0)) = AV.val (Value.bool (may q p)) ∧ True) ∧ Bif (AO.deadB (wO (Rq.v q))) True (AO.arr (SS.rw (Rq.v q)) 44 (SS.room (Rq.v q)) (SS.m (Rq.v q)) [Col.int IntKind.u16 (SS.l (Rq.v q))] = AO.arr (SS.rw (Rq.v q)) 44 (SS.room (Rq.v q)) (SS.m (Rq.v q)) [Col.int IntKind.u16 (SS.l (Rq.v q))]) ∧ Bif (AO.deadB (wO (Rp.v p))) True (AO.arr (SS.rw (Rp.v p)) 44 (SS.room (Rp.v p)) (SS.m (Rp.v p)) [Col.int IntKind.u16 (SS.l (Rp.v p))] = AO.arr (SS.rw (Rp.v p)) 44 (SS.room (Rp.v p)) (SS.m (Rp.v p)) [Col.int IntKind.u16 (SS.l (Rp.v p))]) ∧ True; let q_3 := AO.arr (SS.rw (Rp.v p)) 44 (SS.room (Rp.v p)) (SS.m (Rp.v p)) [Col.int IntKind.u16 (SS.l (Rp.v p))]; let q_4 := AO.arr (SS.rw (Rq.v q)) 44 (SS.room (Rq.v q)) (SS.m (Rq.v q)) [Col.int IntKind.u16 (SS.l (Rq.v q))]; Bif (Rp.code p != 0) (Bif (decide (Rp.code p ≥ 1)) (Bif (decide (Rp.code p ≤ 4)) q_2 q_1) q_1) (Bif (!rd) q_2 (Bif ((↑(SS.n (Rp.v p)) : Int) == Rq.qty q) (Bif bt (WOk (Rp.v p) ∧ ∀ (x : Unit), let q_5 := q_3; let q_6 := q_4; let q_7 := idx (findN (SS.n (Rp.v p)) (big (Rp.v p))); (AV.val (Value.bool !decide (q_7 ≥ 0)) = AV.val (Value.bool (may q p)) ∧ True) ∧ Bif (AO.deadB (wO (Rq.v q))) True (q_6 = q_6) ∧ Bif (AO.deadB (wO (Rp.v p))) True (q_5 = q_5) ∧ True) ((AV.val (Value.bool true) = AV.val (Value.bool (may q p)) ∧ True) ∧ Bif (AO.deadB (wO (Rq.v q))) True (q_4 = q_4) ∧ Bif (AO.deadB (wO (Rp.v p))) True (q_3 = q_3) ∧ True)) q_1))) := by kernel_rfl
set_option maxHeartbeats 1000000 in
theorem may_vc (q : Rq) (rd bt : Bool) (p : Rp) (hp : RpOk p) (h1 : rd = isReads q.fc) (h2 : bt = rbits q.fc) : FnV Try.prog Γf (fun _ _ => none) Try.f19 [akV q rd bt 0, rpV p 1] [some (wO q.v), some (wO p.v)] (MayS.good ((q, rd, bt), p)) := by
  obtain ⟨c1, c2⟩ := hp
  refine FnV.of (maya_nf _ _ _ _) ?_
  all_goals try simp only [Bif_need, Bif_True]
  all_goals try simp only [Bif_iff, eq_self, and_true, true_and, AV.val.injEq, AV.agg.injEq, AV.tup.injEq, AV.sl.injEq, AV.ptr.injEq, AV.mp.injEq, Value.int.injEq, Value.bool.injEq, Value.string.injEq, AO.cells.injEq, AO.arr.injEq, AO.mapc.injEq, List.cons.injEq, Col.bool.injEq, Col.int.injEq, Col.str.injEq, MCol.int.injEq, MCol.bool.injEq, MCol.str.injEq, decide_eq_true_eq, decide_eq_false_iff_not, Nat.zero_add, Nat.add_zero, implies_true, Bool.and_eq_true, inR_iff, List.drop_zero, List.take_nil, List.drop_nil, List.nil_append, Int.toNat_natCast, longEnough, colLen, Bool.not_true, Bool.not_false, Bool.true_or, Bool.or_eq_true, Bool.not_eq_true', Bool.not_eq_false', take_take_self, take_tab, one_col, tab_length, mix_length, List.length_take, Nat.min_eq_left, List.set_cons_zero, blt01, Bool.and_false, Bool.and_true, Bool.false_and, Bool.true_and, Bool.false_eq_true, Bool.true_eq_false, false_and, and_false, false_implies, idx_any]
  all_goals repeat' (first | apply And.intro | intro (⟨k, c, r⟩ : Nat × Nat × Nat) | intro _)
  all_goals try dsimp only at *
  all_goals try omega
  all_goals try subst h1
  all_goals try subst h2
  all_goals first
    | assumption
    | (have h2 := ‹(p.code != 0) = _›
       simp (disch := assumption) only [may, h2, decide_eq_true, decide_eq_false, cond_true, cond_false, Bool.true_and, Bool.false_and, Bool.and_true, Bool.and_false]; done)
    | (have h2 := ‹(p.code != 0) = _›; have h3 := ‹isReads q.fc = _›
       simp only [may, h2, h3, cond_true, cond_false, Bool.not_false, Bool.true_and]; done)
    | (have h2 := ‹(p.code != 0) = _›; have h3 := ‹isReads q.fc = true›; have h4 := ‹(_ == q.qty) = _›
       simp only [may, h2, h3, h4, cond_true, cond_false, Bool.not_true, Bool.true_and, Bool.false_and]; done)
    | (have h2 := ‹(p.code != 0) = _›; have h3 := ‹isReads q.fc = true›; have h4 := ‹(_ == q.qty) = _›; have h5 := ‹rbits q.fc = _›
       simp only [may, h2, h3, h4, h5, cond_true, cond_false, Bool.not_true, Bool.not_false, Bool.true_and, Bool.false_and]; first | done | (simp; done))
theorem may_ok : CtOk Try.prog 19 MayS.ct := Sp.ok Γf_ok hm Try.func19 MayS MayS_found (fun _ _ _ => none) (fun x h => may_vc x.1.1 x.1.2.1 x.1.2.2 x.2 h.1 h.2.1 h.2.2)
noncomputable def Γg : Cts := Γf.add 19 MayS.ct
theorem Γg_ok : CtsOk Try.prog Γg := Γf_ok.add may_ok Try.func19 (by kernel_rfl) (by kernel_rfl)
def RrightS : Sp where
  X := Rq × Rp
  Y := fun _ => Unit
  y0 := fun _ => ()
  pat := fun x => ([rqV x.1 0, rpV x.2 1], [some (wO x.1.v), some (wO x.2.v)])
  fnd := fndQP
  pre := fun x => RqOk x.1 ∧ RpOk x.2
  res := fun x _ => just (bv (rright x.1 x.2))
  pick := fun _ _ _ => some ((), [0, 1])
theorem RrightS_found : RrightS.spec.Found := fun _ _ _ _ h => fndQP_found h
set_option maxRecDepth 100000 in
theorem rright_nf (q : Rq) (p : Rp) : (fnV Try.prog Γg (fun (x : Code) (x_1 : AS) => none) Try.f10 [rqV q 0, rpV p 1] [some (wO (Rq.v q)), some (wO (Rp.v p))] (Sp.good RrightS (q, p))) = (True ∧ ∀ (x : Unit), RqOk (Rq.mk (Rq.fc q) (Rq.addr q) (Rq.qty q) (Rq.v q) (Rq.to q)) ∧ ∀ (x : Unit), let q_1 := AO.arr (SS.rw (Rq.v q)) 44 (SS.room (Rq.v q)) (SS.m (Rq.v q)) [Col.int IntKind.u16 (SS.l (Rq.v q))]; let q_2 := AO.arr (SS.rw (Rp.v p)) 44 (SS.room (Rp.v p)) (SS.m (Rp.v p)) [Col.int IntKind.u16 (SS.l (Rp.v p))]; Bif (right q) ((RpOk (Rp.mk (Rp.code p) (Rp.v p)) ∧ isReads (Rq.fc q) = isReads (Rq.fc q) ∧ (isReads (Rq.fc q) && Kd.bits (kdAt (Rq.fc q))) = rbits (Rq.fc q)) ∧ ∀ (x : Unit), let q_3 := q_2; let q_4 := q_1; (AV.val (Value.bool (may q p)) = AV.val (Value.bool (rright q p)) ∧ True) ∧ Bif (AO.deadB (wO (Rq.v q))) True (q_4 = q_4) ∧ Bif (AO.deadB (wO (Rp.v p))) True (q_3 = q_3) ∧ True) ((AV.val (Value.bool false) = AV.val (Value.bool (rright q p)) ∧ True) ∧ Bif (AO.deadB (wO (Rq.v q))) True (q_1 = q_1) ∧ Bif (AO.deadB (wO (Rp.v p))) True (q_2 = q_2) ∧ True)) := by kernel_rfl
set_option maxHeartbeats 1000000 in
theorem rright_vc (q : Rq) (p : Rp) (hq : RqOk q) (hp : RpOk p) : FnV Try.prog Γg (fun _ _ => none) Try.f10 [rqV q 0, rpV p 1] [some (wO q.v), some (wO p.v)] (RrightS.good (q, p)) := by
  obtain ⟨c1, c2⟩ := hp
  refine FnV.of (rright_nf _ _) ?_
  all_goals try simp only [Bif_need, Bif_True]
  all_goals try simp only [Bif_iff, eq_self, and_true, true_and, AV.val.injEq, AV.agg.injEq, AV.tup.injEq, AV.sl.injEq, AV.ptr.injEq, AV.mp.injEq, Value.int.injEq, Value.bool.injEq, Value.string.injEq, AO.cells.injEq, AO.arr.injEq, AO.mapc.injEq, List.cons.injEq, Col.bool.injEq, Col.int.injEq, Col.str.injEq, MCol.int.injEq, MCol.bool.injEq, MCol.str.injEq, decide_eq_true_eq, decide_eq_false_iff_not, Nat.zero_add, Nat.add_zero, implies_true, Bool.and_eq_true, inR_iff, List.drop_zero, List.take_nil, List.drop_nil, List.nil_append, Int.toNat_natCast, longEnough, colLen, Bool.not_true, Bool.not_false, Bool.true_or, Bool.or_eq_true, Bool.not_eq_true', Bool.not_eq_false', take_take_self, take_tab, one_col, tab_length, mix_length, List.length_take, Nat.min_eq_left, List.set_cons_zero, blt01, Bool.and_false, Bool.and_true, Bool.false_and, Bool.true_and, Bool.false_eq_true, Bool.true_eq_false, false_and, and_false, false_implies, idx_any]
  all_goals repeat' (first | apply And.intro | intro (⟨k, c, r⟩ : Nat × Nat × Nat) | intro _)
  all_goals try dsimp only at *
  all_goals try omega
  all_goals first
    | assumption
    | rfl
    | exact ⟨c1, c2⟩
    | (have h1 := ‹right q = _›; simp only [rright, h1, Bool.true_and, Bool.false_and]; done)
theorem rright_ok : CtOk Try.prog 10 RrightS.ct := Sp.ok Γg_ok hm Try.func10 RrightS RrightS_found (fun _ _ _ => none) (fun x h => rright_vc x.1 x.2 h.1 h.2)
end Go.Wk.P05
