/-
  The bytes of a request of a kind; under the rows' own bounds.
-/
import Derived.Test.YtmbeekfbnfndgaaPh
namespace Go.Wk.P04
open Go Go.Vs Go.Proofs
set_option linter.unusedSimpArgs false
set_option linter.unusedVariables false
set_option maxRecDepth 10000

/-! put -/
theorem w1_of' (v : Int) : wN (SS.get ⟨false, true, 0, 1, 1, 1, 1, [v]⟩) 1 = w1 v := rfl
theorem ssOk1' {B : Nat} {lim v : Int} (hB : 1 ≤ B) (h : 0 ≤ v ∧ v < lim) : SSOk B lim ⟨false, true, 0, 1, 1, 1, 1, [v]⟩ := ssOk1 hB h
theorem newOk {B n c r : Nat} {lim : Int} {nl : Bool} {l : List Int} (h : l.length = n) (hn : n ≤ B) (hi : ∀ v ∈ l, 0 ≤ v ∧ v < lim) (hnl : nl = true → n = 0) : SSOk B lim ⟨nl, true, 0, n, n + c, n + c + r, n, l⟩ :=
  ⟨h, by simp, hn, by simp, by simp, hnl, fun i hi' => by
    have hi' : i < n := hi'
    simp only [Nat.zero_add]
    refine hi _ ?_
    rw [List.getD_eq_getElem?_getD, List.getElem?_eq_getElem (by omega)]
    exact List.getElem_mem _⟩
theorem SS.val_all {nl rw : Bool} {n c r m : Nat} {l : List Int} (h : l.length = n) : SS.val ⟨nl, rw, 0, n, c, r, m, l⟩ = l := by
  simp only [SS.val, List.drop_zero]; exact List.take_of_length_le (by omega)
theorem wN_in (f : Nat → Int) (k : Nat) : ∀ v ∈ wN f k, 0 ≤ v ∧ v < 256 := by
  induction k with
  | zero => intro v hv; cases hv
  | succ k ih =>
    intro v hv
    simp only [wN, List.mem_append, List.mem_cons, List.not_mem_nil, or_false] at hv
    rcases hv with hv | rfl | rfl
    · exact ih v hv
    · omega
    · omega
theorem bor_in (a : Int) (k : Nat) : 0 ≤ bor a k ∧ bor a k < 256 := by
  unfold bor; rw [wrap_u8]; omega
theorem bN_in (f : Nat → Int) (k : Nat) : ∀ v ∈ bN f k, 0 ≤ v ∧ v < 256 := by
  induction k with
  | zero => intro v hv; cases hv
  | succ k ih =>
    have h0 : ∀ v ∈ (bif k % 8 == 0 then bN f k ++ [0] else bN f k), 0 ≤ v ∧ v < 256 := by
      intro v hv
      cases hb : k % 8 == 0 with
      | false => rw [hb] at hv; exact ih v hv
      | true =>
        rw [hb] at hv
        simp only [cond_true, List.mem_append, List.mem_singleton] at hv
        rcases hv with hv | rfl
        · exact ih v hv
        · omega
    intro v hv
    simp only [bN] at hv
    cases hf : f k == 0 with
    | true => rw [hf] at hv; exact h0 v hv
    | false =>
      rw [hf] at hv
      rcases List.mem_or_eq_of_mem_set hv with hv | rfl
      · exact h0 v hv
      · exact bor_in ..
def putB (k : Kd) (q : Rq) : List Int :=
  bif q.fc == 5 then [q.fc % 256] ++ w1 q.addr ++ w1 (q.v.get 0 * 65280) else
  bif k.most == 0 then [q.fc % 256] ++ w1 q.addr ++ wN q.v.get q.v.n else
  bif k.to then [q.fc % 256] ++ w1 q.addr ++ w1 q.qty ++ w1 q.to ++ w1 q.v.n ++ [((2 * q.v.n : Nat) : Int) % 256] ++ wN q.v.get q.v.n else
  bif k.all && k.bits then [q.fc % 256] ++ w1 q.addr ++ w1 q.qty ++ [(((q.v.n + 7) / 8 : Nat) : Int) % 256] ++ bN q.v.get q.v.n else
  bif k.all then [q.fc % 256] ++ w1 q.addr ++ w1 q.qty ++ [((2 * q.v.n : Nat) : Int) % 256] ++ wN q.v.get q.v.n else
  [q.fc % 256] ++ w1 q.addr ++ w1 q.qty
noncomputable def Γ5 : Cts := (Γ4.add 53 SizedS.ct).add 33 BitsS.ct
theorem Γ5_ok : CtsOk Try.prog Γ5 := (Γ4_ok.add sized_ok Try.func53 (by kernel_rfl) (by kernel_rfl)).add bits_ok Try.func33 (by kernel_rfl) (by kernel_rfl)
def PutKS : Sp where
  X := Kd × Rq
  Y := fun _ => Nat × Nat
  y0 := fun _ => (0, 0)
  pat := fun x => ([kdA x.1, rqV x.2 0], [some (wO x.2.v)])
  fnd := fndKQ
  pre := fun x => RqOk x.2 ∧ x.1 = kdAt x.2.fc ∧ shaped x.1 x.2 = true
  res := fun x y => ⟨ownV false 1 (putB x.1 x.2).length y.1, [], [ownO (putB x.1 x.2).length y (putB x.1 x.2)]⟩
  pick := fun x v H => (pkO (putB x.1 x.2).length v H).map fun (y, b) => (y, [0, b])
theorem PutKS_found : PutKS.spec.Found := fun _ _ _ _ h => fndKQ_found h
set_option maxRecDepth 100000 in
theorem putk_nf (k : Kd) (q : Rq) : (fnV Try.prog Γ5 (fun (x : Code) (x_1 : AS) => none) Try.f48 [kdA k, rqV q 0] [some (wO (Rq.v q))] (Sp.good PutKS (k, q))) = (let q_1 := SS.mk false true 0 1 1 1 1 (List.set (List.replicate 1 0) 0 (Rq.addr q)); let q_2 := OB.mk false 1 1 1 1 (List.set (List.replicate 1 0) 0 (IntKind.wrap IntKind.u8 (Rq.fc q))); let q_3 := 2 * SS.n (Rq.v q); let q_4 := SS.off (Rq.v q) + 0; (Own q_2 ∧ SSOk 2000000 9000000000000000000 q_1) ∧ ∀ (x : Nat × Nat), let q_5 := Own (OB.mk false 3 (3 + Prod.fst x) (3 + Prod.fst x + Prod.snd x) 3 (OB.l q_2 ++ wN (SS.get q_1) 1)); let q_6 := AO.arr (SS.rw (Rq.v q)) 44 (SS.room (Rq.v q)) (SS.m (Rq.v q)) [Col.int IntKind.u16 (SS.l (Rq.v q))]; let q_7 := List.replicate 1 0; let q_8 := 3 + Prod.fst x; let q_9 := IntKind.wrap IntKind.i64 (IntKind.wrap IntKind.i64 (List.getD (SS.l (Rq.v q)) (SS.off (Rq.v q) + Int.toNat 0) 0) * 65280); let q_10 := decide (q_4 < SS.m (Rq.v q)); let q_11 := SS.mk false true 0 1 1 1 1 (List.set q_7 0 (Rq.qty q)); let q_12 := 3 + q_3; let q_13 := [Col.int IntKind.u8 (putB k q)]; let q_14 := wN (SS.get (Rq.v q)) (SS.n (Rq.v q)); Bif (Rq.fc q == 5) (Bif (!SS.nl (Rq.v q) && (inR 0 (SS.n (Rq.v q)) && q_10)) (Bif q_10 ((q_5 ∧ SSOk 2000000 9000000000000000000 (SS.mk false true 0 1 1 1 1 (List.set q_7 0 q_9))) ∧ ∀ (x_1 : Nat × Nat), let q_15 := 5 + Prod.fst x_1 + Prod.snd x_1 - (5 + Prod.fst x_1); let q_16 := List.length (putB k q) + (5 + Prod.fst x_1 - List.length (putB k q)); let q_17 := 5 + Prod.fst x_1; let q_18 := q_6; let q_19 := q_7; let q_20 := q_8; (AV.sl false 7 1 0 5 q_17 = AV.sl false 7 1 0 (List.length (putB k q)) q_16 ∧ True) ∧ Bif (AO.deadB (wO (Rq.v q))) True (q_18 = q_18) ∧ Bif (AO.deadB (ownO (List.length (putB k q)) (q_17 - List.length (putB k q), q_15) (putB k q))) True (AO.arr true 5 (q_17 + Prod.snd x_1) 5 [Col.int IntKind.u8 (OB.l (OB.mk false 3 q_20 (q_20 + Prod.snd x) 3 (OB.l (OB.mk false 1 1 1 1 (List.set q_19 0 (IntKind.wrap IntKind.u8 (Rq.fc q)))) ++ wN (SS.get (SS.mk false true 0 1 1 1 1 (List.set q_19 0 (Rq.addr q)))) 1)) ++ wN (SS.get (SS.mk false true 0 1 1 1 1 (List.set q_19 0 q_9))) 1)] = AO.arr true 5 (q_16 + q_15) (List.length (putB k q)) q_13) ∧ True) False) False) (Bif (Kd.most k == 0) ((q_5 ∧ WOk (Rq.v q)) ∧ ∀ (x_1 : Nat × Nat), let q_15 := q_12 + Prod.fst x_1; let q_16 := q_12; let q_17 := List.length (putB k q) + (q_15 - List.length (putB k q)); let q_18 := q_6; let q_19 := q_15 + Prod.snd x_1 - q_15; let q_20 := q_8; let q_21 := q_7; (AV.sl false 6 1 0 q_16 q_15 = AV.sl false 6 1 0 (List.length (putB k q)) q_17 ∧ True) ∧ Bif (AO.deadB (wO (Rq.v q))) True (q_18 = q_18) ∧ Bif (AO.deadB (ownO (List.length (putB k q)) (q_15 - List.length (putB k q), q_19) (putB k q))) True (AO.arr true 5 (q_15 + Prod.snd x_1) q_16 [Col.int IntKind.u8 (OB.l (OB.mk false 3 q_20 (q_20 + Prod.snd x) 3 (OB.l (OB.mk false 1 1 1 1 (List.set q_21 0 (IntKind.wrap IntKind.u8 (Rq.fc q)))) ++ wN (SS.get (SS.mk false true 0 1 1 1 1 (List.set q_21 0 (Rq.addr q)))) 1)) ++ q_14)] = AO.arr true 5 (q_17 + q_19) (List.length (putB k q)) q_13) ∧ True) ((q_5 ∧ SSOk 2000000 9000000000000000000 q_11) ∧ ∀ (x_1 : Nat × Nat), let q_15 := (AV.sl false 7 1 0 5 (5 + Prod.fst x_1) = AV.sl false 7 1 0 (List.length (putB k q)) (List.length (putB k q) + (5 + Prod.fst x_1 - List.length (putB k q))) ∧ True) ∧ Bif (AO.deadB (wO (Rq.v q))) True (q_6 = q_6) ∧ Bif (AO.deadB (ownO (List.length (putB k q)) (5 + Prod.fst x_1 - List.length (putB k q), 5 + Prod.fst x_1 + Prod.snd x_1 - (5 + Prod.fst x_1)) (putB k q))) True (AO.arr true 5 (5 + Prod.fst x_1 + Prod.snd x_1) 5 [Col.int IntKind.u8 (OB.l (OB.mk false 3 q_8 (q_8 + Prod.snd x) 3 (OB.l (OB.mk false 1 1 1 1 (List.set q_7 0 (IntKind.wrap IntKind.u8 (Rq.fc q)))) ++ wN (SS.get (SS.mk false true 0 1 1 1 1 (List.set q_7 0 (Rq.addr q)))) 1)) ++ wN (SS.get q_11) 1)] = AO.arr true 5 (List.length (putB k q) + (5 + Prod.fst x_1 - List.length (putB k q)) + (5 + Prod.fst x_1 + Prod.snd x_1 - (5 + Prod.fst x_1))) (List.length (putB k q)) q_13) ∧ True; let q_16 := q_8; let q_17 := 5 + Prod.fst x_1; let q_18 := q_6; let q_19 := q_7; let q_20 := SS.mk false true 0 2 2 2 2 (List.set (List.set (List.replicate 2 0) 0 (Rq.to q)) 1 (↑(SS.n (Rq.v q)) : Int)); let q_21 := q_3; let q_22 := q_13; let q_23 := Nat.beq (SS.n (Rq.v q)) 0; let q_24 := q_14; Bif (Kd.to k) ((Own (OB.mk false 5 q_17 (q_17 + Prod.snd x_1) 5 (OB.l (OB.mk false 3 q_16 (q_16 + Prod.snd x) 3 (OB.l (OB.mk false 1 1 1 1 (List.set q_19 0 (IntKind.wrap IntKind.u8 (Rq.fc q)))) ++ wN (SS.get (SS.mk false true 0 1 1 1 1 (List.set q_19 0 (Rq.addr q)))) 1)) ++ wN (SS.get (SS.mk false true 0 1 1 1 1 (List.set q_19 0 (Rq.qty q)))) 1)) ∧ SSOk 2000000 9000000000000000000 q_20) ∧ ∀ (x_2 : Nat × Nat), let q_25 := q_19; let q_26 := q_17; let q_27 := q_16; WOk (Rq.v q) ∧ ∀ (x_3 : Nat × Nat), let q_28 := OB.mk false 5 q_26 (q_26 + Prod.snd x_1) 5 (OB.l (OB.mk false 3 q_27 (q_27 + Prod.snd x) 3 (OB.l (OB.mk false 1 1 1 1 (List.set q_25 0 (IntKind.wrap IntKind.u8 (Rq.fc q)))) ++ wN (SS.get (SS.mk false true 0 1 1 1 1 (List.set q_25 0 (Rq.addr q)))) 1)) ++ wN (SS.get (SS.mk false true 0 1 1 1 1 (List.set q_25 0 (Rq.qty q)))) 1); let q_29 := wN (SS.get q_20) 2; let q_30 := q_21; let q_31 := 9 + Prod.fst x_2; let q_32 := q_30 + Prod.fst x_3; let q_33 := q_23; let q_34 := q_24; (Own (OB.mk false 9 q_31 (q_31 + Prod.snd x_2) 9 (OB.l q_28 ++ q_29)) ∧ BOk (SS.mk q_33 true 0 q_30 q_32 (q_32 + Prod.snd x_3) q_30 q_34)) ∧ ∀ (x : Nat × Nat), let q_35 := OB.n q_28 + 4; let q_36 := q_28; let q_37 := 10 + q_30 + Prod.fst x; let q_38 := q_30; let q_39 := List.length (putB k q) + (q_37 - List.length (putB k q)); let q_40 := q_18; let q_41 := q_37 + Prod.snd x - q_37; let q_42 := 10 + q_38; let q_43 := q_38 + Prod.fst x_3; let q_44 := q_35 + Prod.fst x_2; (AV.sl false 27 1 0 q_42 q_37 = AV.sl false 27 1 0 (List.length (putB k q)) q_39 ∧ True) ∧ Bif (AO.deadB (wO (Rq.v q))) True (q_40 = q_40) ∧ Bif (AO.deadB (ownO (List.length (putB k q)) (q_37 - List.length (putB k q), q_41) (putB k q))) True (AO.arr true 5 (q_37 + Prod.snd x) q_42 [Col.int IntKind.u8 (OB.l (OB.mk (OB.nl q_36 && Nat.beq 2 0) q_35 q_44 (q_44 + Prod.snd x_2) q_35 (OB.l q_36 ++ q_29)) ++ [(↑q_38 : Int) % 256] ++ SS.val (SS.mk q_33 true 0 q_38 q_43 (q_43 + Prod.snd x_3) q_38 q_34))] = AO.arr true 5 (q_39 + q_41) (List.length (putB k q)) q_22) ∧ True) (Bif (Kd.all k) (Bif (Kd.bits k) (WOk (Rq.v q) ∧ ∀ (x_2 : Nat × Nat), let q_25 := (SS.n (Rq.v q) + 7) / 8; let q_26 := q_19; let q_27 := q_16; let q_28 := q_17; let q_29 := q_25 + Prod.fst x_2; let q_30 := q_23; let q_31 := bN (SS.get (Rq.v q)) (SS.n (Rq.v q)); (Own (OB.mk false 5 q_28 (q_28 + Prod.snd x_1) 5 (OB.l (OB.mk false 3 q_27 (q_27 + Prod.snd x) 3 (OB.l (OB.mk false 1 1 1 1 (List.set q_26 0 (IntKind.wrap IntKind.u8 (Rq.fc q)))) ++ wN (SS.get (SS.mk false true 0 1 1 1 1 (List.set q_26 0 (Rq.addr q)))) 1)) ++ wN (SS.get (SS.mk false true 0 1 1 1 1 (List.set q_26 0 (Rq.qty q)))) 1)) ∧ BOk (SS.mk q_30 true 0 q_25 q_29 (q_29 + Prod.snd x_2) q_25 q_31)) ∧ ∀ (x_3 : Nat × Nat), let q_32 := 6 + q_25 + Prod.fst x_3; let q_33 := q_25; let q_34 := List.length (putB k q) + (q_32 - List.length (putB k q)); let q_35 := q_18; let q_36 := q_26; let q_37 := q_32 + Prod.snd x_3 - q_32; let q_38 := q_28; let q_39 := q_27; let q_40 := 6 + q_33; let q_41 := q_33 + Prod.fst x_2; (AV.sl false 9 1 0 q_40 q_32 = AV.sl false 9 1 0 (List.length (putB k q)) q_34 ∧ True) ∧ Bif (AO.deadB (wO (Rq.v q))) True (q_35 = q_35) ∧ Bif (AO.deadB (ownO (List.length (putB k q)) (q_32 - List.length (putB k q), q_37) (putB k q))) True (AO.arr true 5 (q_32 + Prod.snd x_3) q_40 [Col.int IntKind.u8 (OB.l (OB.mk false 5 q_38 (q_38 + Prod.snd x_1) 5 (OB.l (OB.mk false 3 q_39 (q_39 + Prod.snd x) 3 (OB.l (OB.mk false 1 1 1 1 (List.set q_36 0 (IntKind.wrap IntKind.u8 (Rq.fc q)))) ++ wN (SS.get (SS.mk false true 0 1 1 1 1 (List.set q_36 0 (Rq.addr q)))) 1)) ++ wN (SS.get (SS.mk false true 0 1 1 1 1 (List.set q_36 0 (Rq.qty q)))) 1)) ++ [(↑q_33 : Int) % 256] ++ SS.val (SS.mk q_30 true 0 q_33 q_41 (q_41 + Prod.snd x_2) q_33 q_31))] = AO.arr true 5 (q_34 + q_37) (List.length (putB k q)) q_22) ∧ True) (Bif (Kd.all k) (WOk (Rq.v q) ∧ ∀ (x_2 : Nat × Nat), let q_25 := q_21; let q_26 := q_19; let q_27 := q_17; let q_28 := q_16; let q_29 := q_25 + Prod.fst x_2; let q_30 := q_23; let q_31 := q_24; (Own (OB.mk false 5 q_27 (q_27 + Prod.snd x_1) 5 (OB.l (OB.mk false 3 q_28 (q_28 + Prod.snd x) 3 (OB.l (OB.mk false 1 1 1 1 (List.set q_26 0 (IntKind.wrap IntKind.u8 (Rq.fc q)))) ++ wN (SS.get (SS.mk false true 0 1 1 1 1 (List.set q_26 0 (Rq.addr q)))) 1)) ++ wN (SS.get (SS.mk false true 0 1 1 1 1 (List.set q_26 0 (Rq.qty q)))) 1)) ∧ BOk (SS.mk q_30 true 0 q_25 q_29 (q_29 + Prod.snd x_2) q_25 q_31)) ∧ ∀ (x_3 : Nat × Nat), let q_32 := 6 + q_25 + Prod.fst x_3; let q_33 := q_25; let q_34 := List.length (putB k q) + (q_32 - List.length (putB k q)); let q_35 := q_18; let q_36 := q_26; let q_37 := q_32 + Prod.snd x_3 - q_32; let q_38 := q_27; let q_39 := q_28; let q_40 := 6 + q_33; let q_41 := q_33 + Prod.fst x_2; (AV.sl false 9 1 0 q_40 q_32 = AV.sl false 9 1 0 (List.length (putB k q)) q_34 ∧ True) ∧ Bif (AO.deadB (wO (Rq.v q))) True (q_35 = q_35) ∧ Bif (AO.deadB (ownO (List.length (putB k q)) (q_32 - List.length (putB k q), q_37) (putB k q))) True (AO.arr true 5 (q_32 + Prod.snd x_3) q_40 [Col.int IntKind.u8 (OB.l (OB.mk false 5 q_38 (q_38 + Prod.snd x_1) 5 (OB.l (OB.mk false 3 q_39 (q_39 + Prod.snd x) 3 (OB.l (OB.mk false 1 1 1 1 (List.set q_36 0 (IntKind.wrap IntKind.u8 (Rq.fc q)))) ++ wN (SS.get (SS.mk false true 0 1 1 1 1 (List.set q_36 0 (Rq.addr q)))) 1)) ++ wN (SS.get (SS.mk false true 0 1 1 1 1 (List.set q_36 0 (Rq.qty q)))) 1)) ++ [(↑q_33 : Int) % 256] ++ SS.val (SS.mk q_30 true 0 q_33 q_41 (q_41 + Prod.snd x_2) q_33 q_31))] = AO.arr true 5 (q_34 + q_37) (List.length (putB k q)) q_22) ∧ True) q_15)) (Bif (Kd.all k) (WOk (Rq.v q) ∧ ∀ (x_2 : Nat × Nat), let q_25 := q_21; let q_26 := q_19; let q_27 := q_16; let q_28 := q_17; let q_29 := q_25 + Prod.fst x_2; let q_30 := q_23; let q_31 := q_24; (Own (OB.mk false 5 q_28 (q_28 + Prod.snd x_1) 5 (OB.l (OB.mk false 3 q_27 (q_27 + Prod.snd x) 3 (OB.l (OB.mk false 1 1 1 1 (List.set q_26 0 (IntKind.wrap IntKind.u8 (Rq.fc q)))) ++ wN (SS.get (SS.mk false true 0 1 1 1 1 (List.set q_26 0 (Rq.addr q)))) 1)) ++ wN (SS.get (SS.mk false true 0 1 1 1 1 (List.set q_26 0 (Rq.qty q)))) 1)) ∧ BOk (SS.mk q_30 true 0 q_25 q_29 (q_29 + Prod.snd x_2) q_25 q_31)) ∧ ∀ (x_3 : Nat × Nat), let q_32 := 6 + q_25 + Prod.fst x_3; let q_33 := q_25; let q_34 := List.length (putB k q) + (q_32 - List.length (putB k q)); let q_35 := q_18; let q_36 := q_26; let q_37 := q_32 + Prod.snd x_3 - q_32; let q_38 := q_28; let q_39 := q_27; let q_40 := 6 + q_33; let q_41 := q_33 + Prod.fst x_2; (AV.sl false 9 1 0 q_40 q_32 = AV.sl false 9 1 0 (List.length (putB k q)) q_34 ∧ True) ∧ Bif (AO.deadB (wO (Rq.v q))) True (q_35 = q_35) ∧ Bif (AO.deadB (ownO (List.length (putB k q)) (q_32 - List.length (putB k q), q_37) (putB k q))) True (AO.arr true 5 (q_32 + Prod.snd x_3) q_40 [Col.int IntKind.u8 (OB.l (OB.mk false 5 q_38 (q_38 + Prod.snd x_1) 5 (OB.l (OB.mk false 3 q_39 (q_39 + Prod.snd x) 3 (OB.l (OB.mk false 1 1 1 1 (List.set q_36 0 (IntKind.wrap IntKind.u8 (Rq.fc q)))) ++ wN (SS.get (SS.mk false true 0 1 1 1 1 (List.set q_36 0 (Rq.addr q)))) 1)) ++ wN (SS.get (SS.mk false true 0 1 1 1 1 (List.set q_36 0 (Rq.qty q)))) 1)) ++ [(↑q_33 : Int) % 256] ++ SS.val (SS.mk q_30 true 0 q_33 q_41 (q_41 + Prod.snd x_2) q_33 q_31))] = AO.arr true 5 (q_34 + q_37) (List.length (putB k q)) q_22) ∧ True) q_15))))) := by kernel_rfl
set_option maxHeartbeats 1000000 in
theorem putK_vc (k : Kd) (q : Rq) (hq : RqOk q) (hk : k = kdAt q.fc) (hs : shaped k q = true) : FnV Try.prog Γ5 (fun _ _ => none) Try.f48 [kdA k, rqV q 0] [some (wO q.v)] (PutKS.good (k, q)) := by
  have hl := shaped_low (q := q) (n := q.fc) (by rw [← hk]; exact hs)
  obtain ⟨⟨g1, g2⟩, ⟨g3, g4⟩, ⟨g5, g6⟩⟩ := hl
  obtain ⟨h1, h2, h3, h4, h5⟩ := hq
  have h5' := h5
  have hnl := h5.nl0
  obtain ⟨k1, k2, k3, k4, k5, k6, k7⟩ := h5
  have hv0 : (q.fc == 5) = true → 0 < q.v.n := fun h => by
    have h : q.fc = 5 := eq_of_beq h
    subst hk
    rw [h] at hs
    simp [shaped, kdAt, kdOf] at hs
    omega
  have hv1 : (k.most == 0) = false → k.to = true → 0 < q.v.n ∧ q.v.n ≤ 2000 := fun h0 ht => by
    subst hk
    rcases kcases q.fc with h | h | h | h | h | h | h | h | h | h | ⟨h1, h2, h3, h4, h5, h6, h7, h8, h9, h10⟩ <;> first
      | (rw [h] at ht; simp [kdAt, kdOf] at ht; done)
      | (simp only [kdAt, kdOf, h1, h2, h3, h4, h5, h6, h7, h8, h9, h10, if_false] at ht; exact absurd ht (by decide))
      | (rw [h] at hs; simp [shaped, kdAt, kdOf] at hs; omega)
  have hv2 : (k.most == 0) = false → k.all = true → 0 < q.v.n ∧ q.v.n ≤ 2000 := fun h0 ha => by
    simp only [shaped, h0, ha, Bool.false_and, Bool.false_or, cond_true, Bool.and_eq_true, decide_eq_true_eq] at hs
    have := kdAt_most q.fc
    rw [← hk] at this
    omega
  have hw : (q.fc == 5) = true → IntKind.i64.wrap (IntKind.i64.wrap (q.v.l.getD (q.v.off + Int.toNat 0) 0) * 65280) = q.v.get 0 * 65280 := fun h => by
    have := k7 0 (hv0 h)
    have h8 : IntKind.i64.wrap (q.v.l.getD (q.v.off + 0) 0) = q.v.l.getD (q.v.off + 0) 0 := IntWalk.i64_in _ (by omega)
    simp only [Int.toNat_zero, h8]
    exact IntWalk.i64_in _ (by omega)
  refine FnV.of (putk_nf _ _) ?_
  all_goals try simp only [Bif_need, Bif_True]
  all_goals try simp only [Bif_iff, eq_self, and_true, true_and, AV.val.injEq, AV.agg.injEq, AV.tup.injEq, AV.sl.injEq, AV.ptr.injEq, AV.mp.injEq, Value.int.injEq, Value.bool.injEq, Value.string.injEq, AO.cells.injEq, AO.arr.injEq, AO.mapc.injEq, List.cons.injEq, Col.bool.injEq, Col.int.injEq, Col.str.injEq, MCol.int.injEq, MCol.bool.injEq, MCol.str.injEq, decide_eq_true_eq, decide_eq_false_iff_not, Nat.zero_add, Nat.add_zero, implies_true, Bool.and_eq_true, inR_iff, List.drop_zero, List.take_nil, List.drop_nil, List.nil_append, Int.toNat_natCast, longEnough, colLen, Bool.not_true, Bool.not_false, Bool.true_or, Bool.or_eq_true, Bool.not_eq_true', Bool.not_eq_false', take_take_self, take_tab, one_col, tab_length, mix_length, List.length_take, Nat.min_eq_left, List.set_cons_zero, blt01, Bool.and_false, Bool.and_true, Bool.false_and, Bool.true_and, Bool.false_eq_true, Bool.true_eq_false, false_and, and_false, false_implies, w1_of, w2_of, w1_of', one_set, wrap_u8]
  all_goals repeat' (first | apply And.intro | intro (⟨k, c, r⟩ : Nat × Nat × Nat) | intro _)
  all_goals try dsimp only at *
  all_goals try omega
  all_goals try rw [hw ‹(q.fc == 5) = true›]
  all_goals try (have hv := hv0 ‹(q.fc == 5) = true›; have hg : 0 ≤ q.v.get 0 ∧ q.v.get 0 < 65536 := k7 0 hv)
  all_goals try have hv1 := hv1 ‹(k.most == 0) = false› ‹k.to = true›
  all_goals try have hv2 := hv2 ‹(k.most == 0) = false› ‹k.all = true›
  all_goals clear hk hs hw
  all_goals try simp only [w1_of', w1_of, w2_of]
  all_goals first
    | assumption
    | omega
    | (have e1 := ‹k.all = true›; have e2 := ‹k.all = false›; rw [e1] at e2; cases e2; done)
    | exact hnl (by omega)
    | (apply obOk_of <;> first | omega | (simp only [List.length_append, List.length_cons, List.length_nil, w1_length, wN_length, bN_length] <;> omega))
    | (apply obOk_at <;> first | omega | (simp only [List.length_append, List.length_cons, List.length_nil, w1_length, wN_length, bN_length] <;> omega))
    | (apply ssOk1 <;> omega)
    | (apply ssOk2 <;> omega)
    | (apply ssOk1' <;> omega)
    | exact newOk (wN_length _ _) (by omega) (wN_in _ _) (fun h => by have := Nat.eq_of_beq_eq_true h; omega)
    | exact newOk (bN_length _ _) (by omega) (bN_in _ _) (fun h => by have := Nat.eq_of_beq_eq_true h; omega)
    | (simp only [putB, *, cond_true, cond_false, Bool.and_true, Bool.and_false, Bool.true_and, Bool.false_and, List.length_append, List.length_cons, List.length_nil, w1_length, wN_length, bN_length] <;> omega)
    | (simp only [putB, *, cond_true, cond_false, Bool.and_true, Bool.and_false, Bool.true_and, Bool.false_and, List.append_assoc, List.cons_append, List.nil_append]; done)
    | (rw [SS.val_all (wN_length _ _)]; simp only [putB, *, cond_true, cond_false, Bool.and_true, Bool.and_false, Bool.true_and, Bool.false_and, List.append_assoc, List.cons_append, List.nil_append]; done)
    | (rw [SS.val_all (bN_length _ _)]; simp only [putB, *, cond_true, cond_false, Bool.and_true, Bool.and_false, Bool.true_and, Bool.false_and, List.append_assoc, List.cons_append, List.nil_append]; done)
theorem putK_ok : CtOk Try.prog 48 PutKS.ct := Sp.ok Γ5_ok hm Try.func48 PutKS PutKS_found (fun _ _ _ => none) (fun x h => putK_vc x.1 x.2 h.1 h.2.1 h.2.2)
end Go.Wk.P04
