/-
  The document's Put; under the rows' own bounds.
-/
import Derived.Test.YtmbeekfbnfndgaaRn
namespace Go.Wk.P05
open Go Go.Vs Go.Proofs Go.Wk.P04
set_option linter.unusedSimpArgs false
set_option linter.unusedVariables false
set_option maxRecDepth 10000

def pbytes (q : Rq) : List Int :=
  bif q.fc == 5 then [q.fc % 256] ++ w1 q.addr ++ w1 (65280 * q.v.get 0) else
  bif q.fc == 6 || q.fc == 22 then [q.fc % 256] ++ w1 q.addr ++ wN q.v.get q.v.n else
  bif q.fc == 15 then [q.fc % 256] ++ w1 q.addr ++ w1 q.qty ++ [(m8 q.v : Int) % 256] ++ bR q.v.get (m8 q.v) bor q.v.n else
  bif q.fc == 16 then [q.fc % 256] ++ w1 q.addr ++ w1 q.qty ++ [((2 * q.v.n : Nat) : Int) % 256] ++ wN q.v.get q.v.n else
  bif q.fc == 23 then [q.fc % 256] ++ w1 q.addr ++ w1 q.qty ++ w1 q.to ++ w1 q.v.n ++ [((2 * q.v.n : Nat) : Int) % 256] ++ wN q.v.get q.v.n else
  [q.fc % 256] ++ w1 q.addr ++ w1 q.qty
def PbytesS : Sp where
  X := Rq
  Y := fun _ => Nat × Nat
  y0 := fun _ => (0, 0)
  pat := fun x => ([rqV x 0], [some (wO x.v)])
  fnd := RightS.fnd
  pre := fun x => RqOk x ∧ right x = true
  res := fun x y => ⟨.sl false 1 1 0 (pbytes x).length ((pbytes x).length + y.1), [], [ownO (pbytes x).length y (pbytes x)]⟩
  pick := fun x v H => (pkO (pbytes x).length v H).map fun (y, b) => (y, [0, b])
theorem PbytesS_found : PbytesS.spec.Found := fun _ _ _ _ h => RightS_found _ _ _ _ h
set_option maxRecDepth 100000 in
theorem pbytes_nf (q : Rq) : (fnV Try.prog Γt (fun (x : Code) (x_1 : AS) => none) Try.f27 [rqV q 0] [some (wO (Rq.v q))] (Sp.good PbytesS q)) = (let q_1 := 2 ^ min (Int.toNat 8) (IntKind.bits IntKind.i64); let q_2 := SS.off (Rq.v q) + 0; let q_3 := List.replicate 1 0; let q_4 := List.replicate 2 0; ∀ (x : Nat), let q_5 := decide (0 + (3 + x) ≤ 3 + x) && true; let q_6 := List.take 3 (List.drop 0 (List.take 1 (List.drop 0 (List.set q_3 0 (IntKind.wrap IntKind.u8 (Rq.fc q)))) ++ List.take 2 (List.drop 0 (List.set (List.set q_4 0 (IntKind.wrap IntKind.u8 (Int.fdiv (Rq.addr q) q_1))) 1 (IntKind.wrap IntKind.u8 (Rq.addr q)))))); let q_7 := AO.arr (SS.rw (Rq.v q)) 44 (SS.room (Rq.v q)) (SS.m (Rq.v q)) [Col.int IntKind.u16 (SS.l (Rq.v q))]; let q_8 := 2 * SS.n (Rq.v q); let q_9 := q_1; let q_10 := decide (q_2 < SS.m (Rq.v q)); let q_11 := [Col.int IntKind.u8 (pbytes q)]; let q_12 := !Nat.beq (SS.n (Rq.v q)) 0; let q_13 := q_3; let q_14 := q_4; let q_15 := IntKind.wrap IntKind.u8 (IntKind.wrap IntKind.i64 (2 * (↑(SS.n (Rq.v q)) : Int))); let q_16 := wN (SS.get (Rq.v q)) (SS.n (Rq.v q)); let q_17 := 6 + m8 (Rq.v q); let q_18 := 0 + m8 (Rq.v q); let q_19 := 3 + x; let q_20 := 3 + q_8; let q_21 := Rq.fc q == 16; let q_22 := Rq.fc q == 6; let q_23 := Rq.fc q == 23; let q_24 := Rq.fc q == 15; let q_25 := bR (SS.get (Rq.v q)) (m8 (Rq.v q)) bor (SS.n (Rq.v q)); let q_26 := IntKind.wrap IntKind.u8 (↑(m8 (Rq.v q)) : Int); let q_27 := IntKind.wrap IntKind.u8 (↑(SS.n (Rq.v q)) : Int); Bif (Rq.fc q == 5) (Bif (!SS.nl (Rq.v q) && (inR 0 (SS.n (Rq.v q)) && q_10)) (Bif q_10 (Bif q_5 (∀ (x : Nat), let q_28 := 5 + x; let q_29 := IntKind.wrap IntKind.i64 (65280 * IntKind.wrap IntKind.i64 (List.getD (SS.l (Rq.v q)) (SS.off (Rq.v q) + Int.toNat 0) 0)); let q_30 := q_9; let q_31 := q_7; let q_32 := List.length (pbytes q) + (q_28 - List.length (pbytes q)); let q_33 := q_14; let q_34 := q_28 - q_28; (AV.sl false 6 1 0 5 q_28 = AV.sl false 6 1 0 (List.length (pbytes q)) q_32 ∧ True) ∧ Bif (AO.deadB (wO (Rq.v q))) True (q_31 = q_31) ∧ Bif (AO.deadB (ownO (List.length (pbytes q)) (q_28 - List.length (pbytes q), q_34) (pbytes q))) True (AO.arr true 5 q_28 5 [Col.int IntKind.u8 (List.take 3 (List.drop 0 (List.take 1 (List.drop 0 (List.set q_13 0 (IntKind.wrap IntKind.u8 (Rq.fc q)))) ++ List.take 2 (List.drop 0 (List.set (List.set q_33 0 (IntKind.wrap IntKind.u8 (Int.fdiv (Rq.addr q) q_30))) 1 (IntKind.wrap IntKind.u8 (Rq.addr q)))))) ++ List.take 2 (List.drop 0 (List.set (List.set q_33 0 (IntKind.wrap IntKind.u8 (Int.fdiv q_29 q_30))) 1 (IntKind.wrap IntKind.u8 q_29))))] = AO.arr true 5 (q_32 + q_34) (List.length (pbytes q)) q_11) ∧ True) False) False) False) (Bif q_22 (Bif q_22 (WOk (Rq.v q) ∧ ∀ (x : Nat × Nat), let q_28 := q_20; let q_29 := q_8; let q_30 := 0 + q_29; let q_31 := q_19; let q_32 := q_28 * 1; let q_33 := 0 + q_31; let q_34 := q_16; Bif (decide (q_30 ≤ q_29) && (longEnough q_30 [Col.int IntKind.u8 q_34] && (q_12 || decide (q_29 = 0))) && (decide (q_32 ≤ 140737488355328) && decide (q_28 ≤ 9223372036854775807)) && (decide (q_33 ≤ q_31) && true)) (∀ (x : Nat), let q_35 := q_28 + x; let q_36 := q_28; let q_37 := q_7; let q_38 := List.length (pbytes q) + (q_35 - List.length (pbytes q)); let q_39 := q_35 - q_35; (AV.sl false 6 1 0 q_36 q_35 = AV.sl false 6 1 0 (List.length (pbytes q)) q_38 ∧ True) ∧ Bif (AO.deadB (wO (Rq.v q))) True (q_37 = q_37) ∧ Bif (AO.deadB (ownO (List.length (pbytes q)) (q_35 - List.length (pbytes q), q_39) (pbytes q))) True (AO.arr true 5 q_35 q_36 [Col.int IntKind.u8 (q_6 ++ List.take q_29 (List.drop 0 q_34))] = AO.arr true 5 (q_38 + q_39) (List.length (pbytes q)) q_11) ∧ True) False) (Bif q_5 (∀ (x : Nat), let q_28 := q_9; let q_29 := 5 + x; let q_30 := q_7; let q_31 := q_14; let q_32 := q_13; let q_33 := decide (0 + q_29 ≤ q_29) && true; let q_34 := List.length (pbytes q) + (q_29 - List.length (pbytes q)); let q_35 := q_11; let q_36 := q_15; let q_37 := q_8; let q_38 := q_12; let q_39 := q_29 - q_29; let q_40 := q_16; Bif q_24 (WOk (Rq.v q) ∧ ∀ (x : Nat × Nat), let q_41 := q_29; let q_42 := 0 + q_41; Bif (decide (q_42 ≤ q_41) && true) (∀ (x : Nat), let q_43 := q_17; let q_44 := q_18; let q_45 := 6 + x; let q_46 := 0 + q_45; let q_47 := q_43 * 1; let q_48 := q_25; Bif (decide (q_44 ≤ m8 (Rq.v q)) && (longEnough q_44 [Col.int IntKind.u8 q_48] && true) && (decide (q_47 ≤ 140737488355328) && decide (q_43 ≤ 9223372036854775807)) && (decide (q_46 ≤ q_45) && true)) (∀ (x : Nat), let q_49 := q_43 + x; let q_50 := q_28; let q_51 := q_30; let q_52 := List.length (pbytes q) + (q_49 - List.length (pbytes q)); let q_53 := q_43; let q_54 := q_31; let q_55 := q_32; let q_56 := q_49 - q_49; (AV.sl false 10 1 0 q_53 q_49 = AV.sl false 10 1 0 (List.length (pbytes q)) q_52 ∧ True) ∧ Bif (AO.deadB (wO (Rq.v q))) True (q_51 = q_51) ∧ Bif (AO.deadB (ownO (List.length (pbytes q)) (q_49 - List.length (pbytes q), q_56) (pbytes q))) True (AO.arr true 5 q_49 q_53 [Col.int IntKind.u8 (List.take 6 (List.drop 0 (List.take 5 (List.drop 0 (List.take 3 (List.drop 0 (List.take 1 (List.drop 0 (List.set q_55 0 (IntKind.wrap IntKind.u8 (Rq.fc q)))) ++ List.take 2 (List.drop 0 (List.set (List.set q_54 0 (IntKind.wrap IntKind.u8 (Int.fdiv (Rq.addr q) q_50))) 1 (IntKind.wrap IntKind.u8 (Rq.addr q)))))) ++ List.take 2 (List.drop 0 (List.set (List.set q_54 0 (IntKind.wrap IntKind.u8 (Int.fdiv (Rq.qty q) q_50))) 1 (IntKind.wrap IntKind.u8 (Rq.qty q)))))) ++ List.take 1 (List.drop 0 (List.set q_55 0 q_26)))) ++ List.take (m8 (Rq.v q)) (List.drop 0 q_48))] = AO.arr true 5 (q_52 + q_56) (List.length (pbytes q)) q_35) ∧ True) False) False) (Bif q_21 (Bif q_33 (∀ (x : Nat), let q_41 := q_37; WOk (Rq.v q) ∧ ∀ (x_1 : Nat × Nat), let q_42 := 6 + q_41; let q_43 := q_41; let q_44 := 0 + q_43; let q_45 := 6 + x; let q_46 := 0 + q_45; let q_47 := q_42 * 1; let q_48 := q_40; Bif (decide (q_44 ≤ q_43) && (longEnough q_44 [Col.int IntKind.u8 q_48] && (q_38 || decide (q_43 = 0))) && (decide (q_47 ≤ 140737488355328) && decide (q_42 ≤ 9223372036854775807)) && (decide (q_46 ≤ q_45) && true)) (∀ (x : Nat), let q_49 := q_42 + x; let q_50 := q_42; let q_51 := q_28; let q_52 := q_30; let q_53 := List.length (pbytes q) + (q_49 - List.length (pbytes q)); let q_54 := q_32; let q_55 := q_31; let q_56 := q_49 - q_49; (AV.sl false 20 1 0 q_50 q_49 = AV.sl false 20 1 0 (List.length (pbytes q)) q_53 ∧ True) ∧ Bif (AO.deadB (wO (Rq.v q))) True (q_52 = q_52) ∧ Bif (AO.deadB (ownO (List.length (pbytes q)) (q_49 - List.length (pbytes q), q_56) (pbytes q))) True (AO.arr true 5 q_49 q_50 [Col.int IntKind.u8 (List.take 6 (List.drop 0 (List.take 5 (List.drop 0 (List.take 3 (List.drop 0 (List.take 1 (List.drop 0 (List.set q_54 0 (IntKind.wrap IntKind.u8 (Rq.fc q)))) ++ List.take 2 (List.drop 0 (List.set (List.set q_55 0 (IntKind.wrap IntKind.u8 (Int.fdiv (Rq.addr q) q_51))) 1 (IntKind.wrap IntKind.u8 (Rq.addr q)))))) ++ List.take 2 (List.drop 0 (List.set (List.set q_55 0 (IntKind.wrap IntKind.u8 (Int.fdiv (Rq.qty q) q_51))) 1 (IntKind.wrap IntKind.u8 (Rq.qty q)))))) ++ List.take 1 (List.drop 0 (List.set q_54 0 q_36)))) ++ List.take q_43 (List.drop 0 q_48))] = AO.arr true 5 (q_53 + q_56) (List.length (pbytes q)) q_35) ∧ True) False) False) (Bif q_23 (Bif q_33 (∀ (x : Nat), let q_41 := 7 + x; let q_42 := 0 + q_41; Bif (decide (q_42 ≤ q_41) && true) (∀ (x : Nat), let q_43 := 9 + x; let q_44 := 0 + q_43; Bif (decide (q_44 ≤ q_43) && true) (∀ (x : Nat), let q_45 := q_37; WOk (Rq.v q) ∧ ∀ (x_1 : Nat × Nat), let q_46 := 10 + q_45; let q_47 := q_45; let q_48 := 10 + x; let q_49 := 0 + q_47; let q_50 := q_46 * 1; let q_51 := 0 + q_48; let q_52 := q_40; Bif (decide (q_49 ≤ q_47) && (longEnough q_49 [Col.int IntKind.u8 q_52] && (q_38 || decide (q_47 = 0))) && (decide (q_50 ≤ 140737488355328) && decide (q_46 ≤ 9223372036854775807)) && (decide (q_51 ≤ q_48) && true)) (∀ (x : Nat), let q_53 := q_46 + x; let q_54 := q_28; let q_55 := q_31; let q_56 := q_46; let q_57 := q_30; let q_58 := List.length (pbytes q) + (q_53 - List.length (pbytes q)); let q_59 := q_32; let q_60 := q_53 - q_53; (AV.sl false 32 1 0 q_56 q_53 = AV.sl false 32 1 0 (List.length (pbytes q)) q_58 ∧ True) ∧ Bif (AO.deadB (wO (Rq.v q))) True (q_57 = q_57) ∧ Bif (AO.deadB (ownO (List.length (pbytes q)) (q_53 - List.length (pbytes q), q_60) (pbytes q))) True (AO.arr true 5 q_53 q_56 [Col.int IntKind.u8 (List.take 10 (List.drop 0 (List.take 9 (List.drop 0 (List.take 7 (List.drop 0 (List.take 5 (List.drop 0 (List.take 3 (List.drop 0 (List.take 1 (List.drop 0 (List.set q_59 0 (IntKind.wrap IntKind.u8 (Rq.fc q)))) ++ List.take 2 (List.drop 0 (List.set (List.set q_55 0 (IntKind.wrap IntKind.u8 (Int.fdiv (Rq.addr q) q_54))) 1 (IntKind.wrap IntKind.u8 (Rq.addr q)))))) ++ List.take 2 (List.drop 0 (List.set (List.set q_55 0 (IntKind.wrap IntKind.u8 (Int.fdiv (Rq.qty q) q_54))) 1 (IntKind.wrap IntKind.u8 (Rq.qty q)))))) ++ List.take 2 (List.drop 0 (List.set (List.set q_55 0 (IntKind.wrap IntKind.u8 (Int.fdiv (Rq.to q) q_54))) 1 (IntKind.wrap IntKind.u8 (Rq.to q)))))) ++ List.take 2 (List.drop 0 (List.set (List.set q_55 0 (IntKind.wrap IntKind.u8 (Int.fdiv (↑(SS.n (Rq.v q)) : Int) q_54))) 1 q_27)))) ++ List.take 1 (List.drop 0 (List.set q_59 0 q_36)))) ++ List.take q_47 (List.drop 0 q_52))] = AO.arr true 5 (q_58 + q_60) (List.length (pbytes q)) q_35) ∧ True) False) False) False) False) ((AV.sl false 6 1 0 5 q_29 = AV.sl false 6 1 0 (List.length (pbytes q)) q_34 ∧ True) ∧ Bif (AO.deadB (wO (Rq.v q))) True (q_30 = q_30) ∧ Bif (AO.deadB (ownO (List.length (pbytes q)) (q_29 - List.length (pbytes q), q_39) (pbytes q))) True (AO.arr true 5 q_29 5 [Col.int IntKind.u8 (List.take 3 (List.drop 0 (List.take 1 (List.drop 0 (List.set q_32 0 (IntKind.wrap IntKind.u8 (Rq.fc q)))) ++ List.take 2 (List.drop 0 (List.set (List.set q_31 0 (IntKind.wrap IntKind.u8 (Int.fdiv (Rq.addr q) q_28))) 1 (IntKind.wrap IntKind.u8 (Rq.addr q)))))) ++ List.take 2 (List.drop 0 (List.set (List.set q_31 0 (IntKind.wrap IntKind.u8 (Int.fdiv (Rq.qty q) q_28))) 1 (IntKind.wrap IntKind.u8 (Rq.qty q)))))] = AO.arr true 5 (q_34 + q_39) (List.length (pbytes q)) q_35) ∧ True)))) False)) (Bif (Rq.fc q == 22) (WOk (Rq.v q) ∧ ∀ (x : Nat × Nat), let q_28 := q_20; let q_29 := q_8; let q_30 := q_19; let q_31 := 0 + q_29; let q_32 := 0 + q_30; let q_33 := q_28 * 1; let q_34 := q_16; Bif (decide (q_31 ≤ q_29) && (longEnough q_31 [Col.int IntKind.u8 q_34] && (q_12 || decide (q_29 = 0))) && (decide (q_33 ≤ 140737488355328) && decide (q_28 ≤ 9223372036854775807)) && (decide (q_32 ≤ q_30) && true)) (∀ (x : Nat), let q_35 := q_28 + x; let q_36 := q_28; let q_37 := q_7; let q_38 := List.length (pbytes q) + (q_35 - List.length (pbytes q)); let q_39 := q_35 - q_35; (AV.sl false 6 1 0 q_36 q_35 = AV.sl false 6 1 0 (List.length (pbytes q)) q_38 ∧ True) ∧ Bif (AO.deadB (wO (Rq.v q))) True (q_37 = q_37) ∧ Bif (AO.deadB (ownO (List.length (pbytes q)) (q_35 - List.length (pbytes q), q_39) (pbytes q))) True (AO.arr true 5 q_35 q_36 [Col.int IntKind.u8 (q_6 ++ List.take q_29 (List.drop 0 q_34))] = AO.arr true 5 (q_38 + q_39) (List.length (pbytes q)) q_11) ∧ True) False) (Bif q_5 (∀ (x : Nat), let q_28 := q_9; let q_29 := 5 + x; let q_30 := q_7; let q_31 := q_14; let q_32 := q_13; let q_33 := decide (0 + q_29 ≤ q_29) && true; let q_34 := q_11; let q_35 := List.length (pbytes q) + (q_29 - List.length (pbytes q)); let q_36 := q_15; let q_37 := q_8; let q_38 := q_12; let q_39 := q_29 - q_29; let q_40 := q_16; Bif q_24 (WOk (Rq.v q) ∧ ∀ (x : Nat × Nat), let q_41 := q_29; let q_42 := 0 + q_41; Bif (decide (q_42 ≤ q_41) && true) (∀ (x : Nat), let q_43 := q_17; let q_44 := q_18; let q_45 := 6 + x; let q_46 := 0 + q_45; let q_47 := q_43 * 1; let q_48 := q_25; Bif (decide (q_44 ≤ m8 (Rq.v q)) && (longEnough q_44 [Col.int IntKind.u8 q_48] && true) && (decide (q_47 ≤ 140737488355328) && decide (q_43 ≤ 9223372036854775807)) && (decide (q_46 ≤ q_45) && true)) (∀ (x : Nat), let q_49 := q_43 + x; let q_50 := q_28; let q_51 := q_30; let q_52 := List.length (pbytes q) + (q_49 - List.length (pbytes q)); let q_53 := q_43; let q_54 := q_31; let q_55 := q_32; let q_56 := q_49 - q_49; (AV.sl false 10 1 0 q_53 q_49 = AV.sl false 10 1 0 (List.length (pbytes q)) q_52 ∧ True) ∧ Bif (AO.deadB (wO (Rq.v q))) True (q_51 = q_51) ∧ Bif (AO.deadB (ownO (List.length (pbytes q)) (q_49 - List.length (pbytes q), q_56) (pbytes q))) True (AO.arr true 5 q_49 q_53 [Col.int IntKind.u8 (List.take 6 (List.drop 0 (List.take 5 (List.drop 0 (List.take 3 (List.drop 0 (List.take 1 (List.drop 0 (List.set q_55 0 (IntKind.wrap IntKind.u8 (Rq.fc q)))) ++ List.take 2 (List.drop 0 (List.set (List.set q_54 0 (IntKind.wrap IntKind.u8 (Int.fdiv (Rq.addr q) q_50))) 1 (IntKind.wrap IntKind.u8 (Rq.addr q)))))) ++ List.take 2 (List.drop 0 (List.set (List.set q_54 0 (IntKind.wrap IntKind.u8 (Int.fdiv (Rq.qty q) q_50))) 1 (IntKind.wrap IntKind.u8 (Rq.qty q)))))) ++ List.take 1 (List.drop 0 (List.set q_55 0 q_26)))) ++ List.take (m8 (Rq.v q)) (List.drop 0 q_48))] = AO.arr true 5 (q_52 + q_56) (List.length (pbytes q)) q_34) ∧ True) False) False) (Bif q_21 (Bif q_33 (∀ (x : Nat), let q_41 := q_37; WOk (Rq.v q) ∧ ∀ (x_1 : Nat × Nat), let q_42 := 6 + q_41; let q_43 := q_41; let q_44 := 6 + x; let q_45 := 0 + q_43; let q_46 := 0 + q_44; let q_47 := q_42 * 1; let q_48 := q_40; Bif (decide (q_45 ≤ q_43) && (longEnough q_45 [Col.int IntKind.u8 q_48] && (q_38 || decide (q_43 = 0))) && (decide (q_47 ≤ 140737488355328) && decide (q_42 ≤ 9223372036854775807)) && (decide (q_46 ≤ q_44) && true)) (∀ (x : Nat), let q_49 := q_42 + x; let q_50 := q_42; let q_51 := q_28; let q_52 := q_30; let q_53 := List.length (pbytes q) + (q_49 - List.length (pbytes q)); let q_54 := q_32; let q_55 := q_31; let q_56 := q_49 - q_49; (AV.sl false 20 1 0 q_50 q_49 = AV.sl false 20 1 0 (List.length (pbytes q)) q_53 ∧ True) ∧ Bif (AO.deadB (wO (Rq.v q))) True (q_52 = q_52) ∧ Bif (AO.deadB (ownO (List.length (pbytes q)) (q_49 - List.length (pbytes q), q_56) (pbytes q))) True (AO.arr true 5 q_49 q_50 [Col.int IntKind.u8 (List.take 6 (List.drop 0 (List.take 5 (List.drop 0 (List.take 3 (List.drop 0 (List.take 1 (List.drop 0 (List.set q_54 0 (IntKind.wrap IntKind.u8 (Rq.fc q)))) ++ List.take 2 (List.drop 0 (List.set (List.set q_55 0 (IntKind.wrap IntKind.u8 (Int.fdiv (Rq.addr q) q_51))) 1 (IntKind.wrap IntKind.u8 (Rq.addr q)))))) ++ List.take 2 (List.drop 0 (List.set (List.set q_55 0 (IntKind.wrap IntKind.u8 (Int.fdiv (Rq.qty q) q_51))) 1 (IntKind.wrap IntKind.u8 (Rq.qty q)))))) ++ List.take 1 (List.drop 0 (List.set q_54 0 q_36)))) ++ List.take q_43 (List.drop 0 q_48))] = AO.arr true 5 (q_53 + q_56) (List.length (pbytes q)) q_34) ∧ True) False) False) (Bif q_23 (Bif q_33 (∀ (x : Nat), let q_41 := 7 + x; let q_42 := 0 + q_41; Bif (decide (q_42 ≤ q_41) && true) (∀ (x : Nat), let q_43 := 9 + x; let q_44 := 0 + q_43; Bif (decide (q_44 ≤ q_43) && true) (∀ (x : Nat), let q_45 := q_37; WOk (Rq.v q) ∧ ∀ (x_1 : Nat × Nat), let q_46 := 10 + q_45; let q_47 := q_45; let q_48 := 0 + q_47; let q_49 := 10 + x; let q_50 := q_46 * 1; let q_51 := 0 + q_49; let q_52 := q_40; Bif (decide (q_48 ≤ q_47) && (longEnough q_48 [Col.int IntKind.u8 q_52] && (q_38 || decide (q_47 = 0))) && (decide (q_50 ≤ 140737488355328) && decide (q_46 ≤ 9223372036854775807)) && (decide (q_51 ≤ q_49) && true)) (∀ (x : Nat), let q_53 := q_46 + x; let q_54 := q_28; let q_55 := q_31; let q_56 := q_46; let q_57 := q_30; let q_58 := List.length (pbytes q) + (q_53 - List.length (pbytes q)); let q_59 := q_32; let q_60 := q_53 - q_53; (AV.sl false 32 1 0 q_56 q_53 = AV.sl false 32 1 0 (List.length (pbytes q)) q_58 ∧ True) ∧ Bif (AO.deadB (wO (Rq.v q))) True (q_57 = q_57) ∧ Bif (AO.deadB (ownO (List.length (pbytes q)) (q_53 - List.length (pbytes q), q_60) (pbytes q))) True (AO.arr true 5 q_53 q_56 [Col.int IntKind.u8 (List.take 10 (List.drop 0 (List.take 9 (List.drop 0 (List.take 7 (List.drop 0 (List.take 5 (List.drop 0 (List.take 3 (List.drop 0 (List.take 1 (List.drop 0 (List.set q_59 0 (IntKind.wrap IntKind.u8 (Rq.fc q)))) ++ List.take 2 (List.drop 0 (List.set (List.set q_55 0 (IntKind.wrap IntKind.u8 (Int.fdiv (Rq.addr q) q_54))) 1 (IntKind.wrap IntKind.u8 (Rq.addr q)))))) ++ List.take 2 (List.drop 0 (List.set (List.set q_55 0 (IntKind.wrap IntKind.u8 (Int.fdiv (Rq.qty q) q_54))) 1 (IntKind.wrap IntKind.u8 (Rq.qty q)))))) ++ List.take 2 (List.drop 0 (List.set (List.set q_55 0 (IntKind.wrap IntKind.u8 (Int.fdiv (Rq.to q) q_54))) 1 (IntKind.wrap IntKind.u8 (Rq.to q)))))) ++ List.take 2 (List.drop 0 (List.set (List.set q_55 0 (IntKind.wrap IntKind.u8 (Int.fdiv (↑(SS.n (Rq.v q)) : Int) q_54))) 1 q_27)))) ++ List.take 1 (List.drop 0 (List.set q_59 0 q_36)))) ++ List.take q_47 (List.drop 0 q_52))] = AO.arr true 5 (q_58 + q_60) (List.length (pbytes q)) q_34) ∧ True) False) False) False) False) ((AV.sl false 6 1 0 5 q_29 = AV.sl false 6 1 0 (List.length (pbytes q)) q_35 ∧ True) ∧ Bif (AO.deadB (wO (Rq.v q))) True (q_30 = q_30) ∧ Bif (AO.deadB (ownO (List.length (pbytes q)) (q_29 - List.length (pbytes q), q_39) (pbytes q))) True (AO.arr true 5 q_29 5 [Col.int IntKind.u8 (List.take 3 (List.drop 0 (List.take 1 (List.drop 0 (List.set q_32 0 (IntKind.wrap IntKind.u8 (Rq.fc q)))) ++ List.take 2 (List.drop 0 (List.set (List.set q_31 0 (IntKind.wrap IntKind.u8 (Int.fdiv (Rq.addr q) q_28))) 1 (IntKind.wrap IntKind.u8 (Rq.addr q)))))) ++ List.take 2 (List.drop 0 (List.set (List.set q_31 0 (IntKind.wrap IntKind.u8 (Int.fdiv (Rq.qty q) q_28))) 1 (IntKind.wrap IntKind.u8 (Rq.qty q)))))] = AO.arr true 5 (q_35 + q_39) (List.length (pbytes q)) q_34) ∧ True)))) False)))) := by kernel_rfl
set_option maxHeartbeats 1000000 in
theorem pbytes_vc (q : Rq) (hq : RqOk q) (hr : right q = true) : FnV Try.prog Γt (fun _ _ => none) Try.f27 [rqV q 0] [some (wO q.v)] (PbytesS.good q) := by
  obtain ⟨k1, k2, k3⟩ := right_parts hr
  have rn := right_nums k2
  have hvv := hq.v
  have hvn := hq.v.n
  have hnl := hq.v.nl0
  have hoff := hq.v.off
  have hat := hq.v.at_
  have n5 : (q.fc == 5) = true → 0 < q.v.n := fun h => fc_pos hr (eq_of_beq h)
  have fd : ∀ n : Int, n.fdiv (2 ^ min (Int.toNat 8) IntKind.i64.bits) = n / 256 := fun n => by
    rw [show (2 : Int) ^ min (Int.toNat 8) IntKind.i64.bits = 256 from rfl, Int.fdiv_eq_ediv_of_nonneg _ (by decide)]
  have v0 : (q.fc == 5) = true → IntKind.i64.wrap (65280 * IntKind.i64.wrap (q.v.l.getD (q.v.off + Int.toNat 0) 0)) = 65280 * q.v.get 0 := fun h => by
    have := hat 0 (n5 h)
    have e : IntKind.i64.wrap (q.v.l.getD (q.v.off + Int.toNat 0) 0) = q.v.get 0 := IntWalk.i64_in _ (by simp only [Int.toNat_zero]; omega)
    rw [e]
    exact IntWalk.i64_in _ (by simp only [SS.get]; omega)
  have d5 : (q.fc == 5) = true → pbytes q = [q.fc % 256] ++ w1 q.addr ++ w1 (65280 * q.v.get 0) := fun h => by simp only [pbytes, h, cond_true]
  have d6 : (q.fc == 5) = false → (q.fc == 6) = true → pbytes q = [q.fc % 256] ++ w1 q.addr ++ wN q.v.get q.v.n := fun h h2 => by simp only [pbytes, h, h2, Bool.true_or, cond_true, cond_false]
  have d22 : (q.fc == 5) = false → (q.fc == 22) = true → pbytes q = [q.fc % 256] ++ w1 q.addr ++ wN q.v.get q.v.n := fun h h2 => by simp only [pbytes, h, h2, Bool.or_true, cond_true, cond_false]
  have d15 : (q.fc == 15) = true → pbytes q = [q.fc % 256] ++ w1 q.addr ++ w1 q.qty ++ [(m8 q.v : Int) % 256] ++ bR q.v.get (m8 q.v) bor q.v.n := fun h => by have h' := eq_of_beq h; simp only [pbytes, h']; rfl
  have d16 : (q.fc == 16) = true → pbytes q = [q.fc % 256] ++ w1 q.addr ++ w1 q.qty ++ [((2 * q.v.n : Nat) : Int) % 256] ++ wN q.v.get q.v.n := fun h => by have h' := eq_of_beq h; simp only [pbytes, h']; rfl
  have d23 : (q.fc == 23) = true → pbytes q = [q.fc % 256] ++ w1 q.addr ++ w1 q.qty ++ w1 q.to ++ w1 q.v.n ++ [((2 * q.v.n : Nat) : Int) % 256] ++ wN q.v.get q.v.n := fun h => by have h' := eq_of_beq h; simp only [pbytes, h']; rfl
  have d0 : (q.fc == 5) = false → (q.fc == 6) = false → (q.fc == 22) = false → (q.fc == 15) = false → (q.fc == 16) = false → (q.fc == 23) = false → pbytes q = [q.fc % 256] ++ w1 q.addr ++ w1 q.qty := fun h1 h2 h3 h4 h5 h6 => by simp only [pbytes, h1, h2, h3, h4, h5, h6, Bool.or_false, cond_false]
  have hm8 : m8 q.v = (q.v.n + 7) / 8 := m8_of hvn
  have w2n : IntKind.i64.wrap (2 * (q.v.n : Int)) = ((2 * q.v.n : Nat) : Int) := by rw [IntWalk.i64_in _ (by omega)]; omega
  refine FnV.of (pbytes_nf _) ?_
  clear k2 k3 rn hr hat
  all_goals try simp only [Bif_need, Bif_True]
  all_goals try simp only [Bif_iff, eq_self, and_true, true_and, AV.val.injEq, AV.agg.injEq, AV.tup.injEq, AV.sl.injEq, AV.ptr.injEq, AV.mp.injEq, Value.int.injEq, Value.bool.injEq, Value.string.injEq, AO.cells.injEq, AO.arr.injEq, AO.mapc.injEq, List.cons.injEq, Col.bool.injEq, Col.int.injEq, Col.str.injEq, MCol.int.injEq, MCol.bool.injEq, MCol.str.injEq, decide_eq_true_eq, decide_eq_false_iff_not, Nat.zero_add, Nat.add_zero, implies_true, Bool.and_eq_true, inR_iff, List.drop_zero, List.take_nil, List.drop_nil, List.nil_append, Int.toNat_natCast, longEnough, colLen, Bool.not_true, Bool.not_false, Bool.true_or, Bool.or_eq_true, Bool.not_eq_true', Bool.not_eq_false', take_take_self, take_tab, one_col, tab_length, mix_length, List.length_take, Nat.min_eq_left, List.set_cons_zero, blt01, Bool.and_false, Bool.and_true, Bool.false_and, Bool.true_and, Bool.false_eq_true, Bool.true_eq_false, false_and, and_false, false_implies, wrap_u8]
  all_goals repeat' (first | apply And.intro | intro (⟨k, c, r⟩ : Nat × Nat × Nat) | intro _)
  all_goals try dsimp only at *
  all_goals try omega
  all_goals try rw [v0 ‹_›]
  all_goals try have np := n5 ‹_›
  all_goals try (first
    | have dd := d5 ‹_›
    | have dd := d15 ‹_›
    | have dd := d16 ‹_›
    | have dd := d23 ‹_›
    | have dd := d6 ‹_› ‹_›
    | have dd := d22 ‹_› ‹_›
    | have dd := d0 ‹_› ‹_› ‹_› ‹_› ‹_› ‹_›)
  all_goals try rw [dd]
  all_goals first
    | assumption
    | omega
    | exact hnl (by omega)
    | exact beqz _ _ (fun h => by omega)
    | (have f1 := ‹(q.fc == 6) = true›; have f2 := ‹(q.fc == 6) = false›; rw [f1] at f2; cases f2; done)
    | (have f1 := ‹(q.fc == 22) = true›; have f2 := ‹(q.fc == 22) = false›; rw [f1] at f2; cases f2; done)
    | (simp only [List.length_append, List.length_cons, List.length_nil, w1_length, wN_length, bR_length] <;> omega)
    | (simp only [fd]; rfl)
    | (simp only [fd]; rw [List.take_of_length_le (Nat.le_of_eq (wN_length _ _))]; rfl)
    | (simp only [fd, w2n]; rw [List.take_of_length_le (Nat.le_of_eq (wN_length _ _))]; rfl)
    | (simp only [fd]; rw [List.take_of_length_le (Nat.le_of_eq (bR_length _ _ _ _))]; rfl)
theorem pbytes_ok : CtOk Try.prog 27 PbytesS.ct := Sp.ok Γt_ok hm Try.func27 PbytesS PbytesS_found (fun _ _ _ => none) (fun x h => pbytes_vc x h.1 h.2)
theorem bR_in (f : Nat → Int) (m : Nat) (k : Nat) : ∀ v ∈ bR f m bor k, 0 ≤ v ∧ v < 256 := by
  induction k with
  | zero => intro v hv; simp only [bR, List.mem_replicate] at hv; omega
  | succ k ih =>
    intro v hv
    simp only [bR] at hv
    cases hf : f k == 0 with
    | true => rw [hf] at hv; exact ih v hv
    | false =>
      rw [hf] at hv
      rcases List.mem_or_eq_of_mem_set hv with hv | rfl
      · exact ih v hv
      · exact bor_in ..
theorem pbytes_in (q : Rq) : ∀ v ∈ pbytes q, 0 ≤ v ∧ v < 256 := by
  have o1 : ∀ n : Int, ∀ v ∈ [n % 256], 0 ≤ v ∧ v < 256 := fun n v hv => by
    simp only [List.mem_singleton] at hv; subst hv; omega
  have ap : ∀ {a b : List Int}, (∀ v ∈ a, 0 ≤ v ∧ v < 256) → (∀ v ∈ b, 0 ≤ v ∧ v < 256) → ∀ v ∈ a ++ b, 0 ≤ v ∧ v < 256 := fun ha hb v hv => by
    rcases List.mem_append.1 hv with h | h
    · exact ha v h
    · exact hb v h
  unfold pbytes
  cases q.fc == 5
  rotate_left
  · exact ap (ap (o1 _) (w1_in _)) (w1_in _)
  simp only [cond_false]
  cases q.fc == 6 || q.fc == 22
  rotate_left
  · exact ap (ap (o1 _) (w1_in _)) (wN_in _ _)
  simp only [cond_false]
  cases q.fc == 15
  rotate_left
  · exact ap (ap (ap (ap (o1 _) (w1_in _)) (w1_in _)) (o1 _)) (bR_in _ _ _)
  simp only [cond_false]
  cases q.fc == 16
  rotate_left
  · exact ap (ap (ap (ap (o1 _) (w1_in _)) (w1_in _)) (o1 _)) (wN_in _ _)
  simp only [cond_false]
  cases q.fc == 23
  rotate_left
  · exact ap (ap (ap (ap (ap (ap (o1 _) (w1_in _)) (w1_in _)) (w1_in _)) (w1_in _)) (o1 _)) (wN_in _ _)
  · exact ap (ap (o1 _) (w1_in _)) (w1_in _)
theorem pbytes_cons (q : Rq) : ∃ l, pbytes q = (q.fc % 256) :: l := by
  unfold pbytes
  cases q.fc == 5 <;> cases q.fc == 6 || q.fc == 22 <;> cases q.fc == 15 <;> cases q.fc == 16 <;> cases q.fc == 23 <;> exact ⟨_, rfl⟩
theorem pbytes_len {q : Rq} (hq : RqOk q) : (pbytes q).length ≤ 5000000 := by
  have := hq.v.n
  unfold pbytes
  rw [m8_of this]
  cases q.fc == 5 <;> cases q.fc == 6 || q.fc == 22 <;> cases q.fc == 15 <;> cases q.fc == 16 <;> cases q.fc == 23 <;>
    simp only [cond_true, cond_false, List.length_append, List.length_cons, List.length_nil, w1_length, wN_length, bR_length] <;> omega
end Go.Wk.P05
