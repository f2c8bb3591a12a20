/-
  What may be asked for: kinds; under the rows' own bounds.
-/
import Derived.Test.YtmbeekfbnfndgaaProg
import Derived.Test.YtmbeekfbnfndgaaKc
namespace Go.Wk.P04
open Go Go.Vs Go.Proofs
set_option linter.unusedSimpArgs false
set_option linter.unusedVariables false
set_option maxRecDepth 10000

theorem hm : Try.prog.follows .mixedOrders = true := by kernel_rfl

/-! kinds: what may be asked for -/
structure Kd where
  most : Int
  least : Int
  more : Int
  all : Bool
  reads : Bool
  bits : Bool
  to : Bool
def kdOf (n : Int) : Option Kd :=
  if n = 1 then some ⟨2000, 0, 0, false, true, true, false⟩ else
  if n = 2 then some ⟨2000, 0, 0, false, true, true, false⟩ else
  if n = 3 then some ⟨125, 0, 0, false, true, false, false⟩ else
  if n = 4 then some ⟨125, 0, 0, false, true, false, false⟩ else
  if n = 5 then some ⟨0, 1, 1, false, false, true, false⟩ else
  if n = 6 then some ⟨0, 1, 1, false, false, false, false⟩ else
  if n = 15 then some ⟨1968, 0, 0, true, false, true, false⟩ else
  if n = 16 then some ⟨123, 0, 0, true, false, false, false⟩ else
  if n = 22 then some ⟨0, 2, 2, false, false, false, false⟩ else
  if n = 23 then some ⟨125, 1, 121, false, true, false, true⟩ else none
def kd0 : Kd := ⟨0, 0, 0, false, false, false, false⟩
def kdV (u : Value) : Option Kd := match u with | .int _ n => kdOf n | _ => none
def kHas (u : Value) : Bool := (kdV u).isSome
def kMost (u : Value) : Int := ((kdV u).getD kd0).most
def kLeast (u : Value) : Int := ((kdV u).getD kd0).least
def kMore (u : Value) : Int := ((kdV u).getD kd0).more
def kAll (u : Value) : Bool := ((kdV u).getD kd0).all
def kReads (u : Value) : Bool := ((kdV u).getD kd0).reads
def kBits (u : Value) : Bool := ((kdV u).getD kd0).bits
def kTo (u : Value) : Bool := ((kdV u).getD kd0).to
abbrev kO : AO := .mapc true (.int .i64) true kHas [.int .i64 kMost, .int .i64 kLeast, .int .i64 kMore, .bool kAll, .bool kReads, .bool kBits, .bool kTo]
def KindsS : Sp where
  X := Unit
  Y := fun _ => Unit
  y0 := fun _ => ()
  pat := fun _ => ([], [])
  fnd := fun args H => match args with | [] => some ((), []) | _ => none
  pre := fun _ => True
  res := fun _ _ => ⟨.mp 0, [], [kO]⟩
  pick := fun _ v H => match v with | .mp b => some ((), [b]) | _ => none
theorem KindsS_found : KindsS.spec.Found := by
  intro args H x σ h
  simp only [Sp.spec, KindsS] at h
  split at h
  rotate_left
  · cases h
  cases h
  exact ⟨rfl, fun i ao hi => nomatch (show (none : Option (Option AO)) = some (some ao) from hi)⟩
theorem kcases (n : Int) : n = 1 ∨ n = 2 ∨ n = 3 ∨ n = 4 ∨ n = 5 ∨ n = 6 ∨ n = 15 ∨ n = 16 ∨ n = 22 ∨ n = 23 ∨ (n ≠ 1 ∧ n ≠ 2 ∧ n ≠ 3 ∧ n ≠ 4 ∧ n ≠ 5 ∧ n ≠ 6 ∧ n ≠ 15 ∧ n ≠ 16 ∧ n ≠ 22 ∧ n ≠ 23) := by omega
set_option maxRecDepth 100000 in
theorem kinds_nf : (fnV Try.prog Γnone (fun (x : Code) (x_1 : AS) => none) Try.f44 [] [] (Sp.good KindsS ())) = (let q := Value.int IntKind.i64 15; let q_1 := Value.int IntKind.i64 23; let q_2 := Value.int IntKind.i64 3; let q_3 := Value.int IntKind.i64 16; let q_4 := Value.int IntKind.i64 4; let q_5 := Value.int IntKind.i64 6; let q_6 := Value.int IntKind.i64 1; let q_7 := Value.int IntKind.i64 5; let q_8 := Value.int IntKind.i64 2; let q_9 := Value.int IntKind.i64 22; (AV.mp 0 = AV.mp 0 ∧ True) ∧ AO.mapc true (KD.int IntKind.i64) true (fun (u : Value) => keq u q_1 || (keq u q_9 || (keq u q_3 || (keq u q || (keq u q_5 || (keq u q_7 || (keq u q_4 || (keq u q_2 || (keq u q_8 || (keq u q_6 || false)))))))))) [MCol.int IntKind.i64 fun (u : Value) => bif keq u q_1 then 125 else bif keq u q_9 then 0 else bif keq u q_3 then 123 else bif keq u q then 1968 else bif keq u q_5 then 0 else bif keq u q_7 then 0 else bif keq u q_4 then 125 else bif keq u q_2 then 125 else bif keq u q_8 then 2000 else bif keq u q_6 then 2000 else 0, MCol.int IntKind.i64 fun (u : Value) => bif keq u q_1 then 1 else bif keq u q_9 then 2 else bif keq u q_3 then 0 else bif keq u q then 0 else bif keq u q_5 then 1 else bif keq u q_7 then 1 else bif keq u q_4 then 0 else bif keq u q_2 then 0 else bif keq u q_8 then 0 else bif keq u q_6 then 0 else 0, MCol.int IntKind.i64 fun (u : Value) => bif keq u q_1 then 121 else bif keq u q_9 then 2 else bif keq u q_3 then 0 else bif keq u q then 0 else bif keq u q_5 then 1 else bif keq u q_7 then 1 else bif keq u q_4 then 0 else bif keq u q_2 then 0 else bif keq u q_8 then 0 else bif keq u q_6 then 0 else 0, MCol.bool fun (u : Value) => bif keq u q_1 then false else bif keq u q_9 then false else bif keq u q_3 then true else bif keq u q then true else bif keq u q_5 then false else bif keq u q_7 then false else bif keq u q_4 then false else bif keq u q_2 then false else bif keq u q_8 then false else bif keq u q_6 then false else false, MCol.bool fun (u : Value) => bif keq u q_1 then true else bif keq u q_9 then false else bif keq u q_3 then false else bif keq u q then false else bif keq u q_5 then false else bif keq u q_7 then false else bif keq u q_4 then true else bif keq u q_2 then true else bif keq u q_8 then true else bif keq u q_6 then true else false, MCol.bool fun (u : Value) => bif keq u q_1 then false else bif keq u q_9 then false else bif keq u q_3 then false else bif keq u q then true else bif keq u q_5 then false else bif keq u q_7 then true else bif keq u q_4 then false else bif keq u q_2 then false else bif keq u q_8 then true else bif keq u q_6 then true else false, MCol.bool fun (u : Value) => bif keq u q_1 then true else bif keq u q_9 then false else bif keq u q_3 then false else bif keq u q then false else bif keq u q_5 then false else bif keq u q_7 then false else bif keq u q_4 then false else bif keq u q_2 then false else bif keq u q_8 then false else bif keq u q_6 then false else false] = AO.mapc true (KD.int IntKind.i64) true (fun (u : Value) => Option.isSome (kdV u)) [MCol.int IntKind.i64 fun (u : Value) => Kd.most (Option.getD (kdV u) kd0), MCol.int IntKind.i64 fun (u : Value) => Kd.least (Option.getD (kdV u) kd0), MCol.int IntKind.i64 fun (u : Value) => Kd.more (Option.getD (kdV u) kd0), MCol.bool fun (u : Value) => Kd.all (Option.getD (kdV u) kd0), MCol.bool fun (u : Value) => Kd.reads (Option.getD (kdV u) kd0), MCol.bool fun (u : Value) => Kd.bits (Option.getD (kdV u) kd0), MCol.bool fun (u : Value) => Kd.to (Option.getD (kdV u) kd0)] ∧ True) := by kernel_rfl
set_option maxHeartbeats 1000000 in
theorem kinds_vc : FnV Try.prog Γnone (fun _ _ => none) Try.f44 [] [] (KindsS.good ()) := by
  refine FnV.of (kinds_nf) ?_
  all_goals try simp only [Bif_need, Bif_True]
  all_goals try simp only [Bif_iff, eq_self, and_true, true_and, AV.val.injEq, AV.agg.injEq, AV.tup.injEq, AV.sl.injEq, AV.ptr.injEq, AV.mp.injEq, Value.int.injEq, Value.bool.injEq, Value.string.injEq, AO.cells.injEq, AO.arr.injEq, AO.mapc.injEq, List.cons.injEq, Col.bool.injEq, Col.int.injEq, Col.str.injEq, MCol.int.injEq, MCol.bool.injEq, MCol.str.injEq, decide_eq_true_eq, decide_eq_false_iff_not, Nat.zero_add, Nat.add_zero, implies_true, Bool.and_eq_true, inR_iff, List.drop_zero, List.take_nil, List.drop_nil, List.nil_append, Int.toNat_natCast, longEnough, colLen, Bool.not_true, Bool.not_false, Bool.true_or, Bool.or_eq_true, Bool.not_eq_true', Bool.not_eq_false', take_take_self, take_tab, one_col, tab_length, mix_length, List.length_take, Nat.min_eq_left, List.set_cons_zero, blt01, Bool.and_false, Bool.and_true, Bool.false_and, Bool.true_and, Bool.false_eq_true, Bool.true_eq_false, false_and, and_false, false_implies]
  all_goals repeat' (first | apply And.intro | intro (⟨k, c, r⟩ : Nat × Nat × Nat) | intro _)
  all_goals try dsimp only at *
  all_goals try omega
  all_goals first
    | omega
    | (funext u
       cases u <;> first
         | rfl
         | (rename_i k n
            rcases kcases n with h | h | h | h | h | h | h | h | h | h | ⟨h1, h2, h3, h4, h5, h6, h7, h8, h9, h10⟩ <;> first
              | (subst h; rfl)
              | (simp only [keq, kdV, kdOf, h1, h2, h3, h4, h5, h6, h7, h8, h9, h10, decide_false, cond_false, if_false, Bool.or_false]; rfl)))
theorem kinds_ok : CtOk Try.prog 44 KindsS.ct := Sp.ok CtsOk.none hm Try.func44 KindsS KindsS_found (fun _ _ _ => none) (fun _ _ => kinds_vc)
end Go.Wk.P04
