/-
  The same: the rest, and the plain law that both rows stay alike; under the rows' own bounds.
-/
import Derived.Test.YthemaknfhihphaaLb
import Derived.Test.YthemaknfhihphaaLa
namespace Go.Wk.L14
open Go Go.Vs Go.Proofs
set_option linter.unusedSimpArgs false
set_option linter.unusedVariables false
set_option maxRecDepth 10000

/-! Load -/
def loadOkY (y : YS) (l : LS) : Bool := decide (l.n = y.n) && !anyN y.n (badY y.g l)
def loadToY (y : YS) (l : LS) (c : Nat × Nat) : YS := { y with cap2 := c.1, room2 := c.2, set := l.set, at_ := l.at_, first := l.first }
theorem loadOkY_n {y : YS} {l : LS} (h : loadOkY y l = true) : l.n = y.n := by simp only [loadOkY, Bool.and_eq_true, decide_eq_true_eq] at h; exact h.1
theorem loadOkY_bad {y : YS} {l : LS} {k : Nat} (h : loadOkY y l = true) (hk : k < y.n) : badY y.g l k = false := by
  simp only [loadOkY, Bool.and_eq_true, Bool.not_eq_true'] at h; exact anyN_not.1 h.2 k hk
theorem loadOkY_of {y : YS} {l : LS} (hn : l.n = y.n) (h : anyN y.n (badY y.g l) = false) : loadOkY y l = true := by simp [loadOkY, hn, h]

noncomputable def LLoadY (y : YS) (l : LS) : Loops := fun body s => match loopId body with
  | 4 => some (cntLI Try.f13 body s y.n (fun k => anyN k (badY y.g l) = false) (fun k => [(5, iv k)]) (fun _ => s.heap))
  | _ => (match Vs.look s.env 5 with
    | some (.val (.int .i64 i)) => some (cntLI Try.f13 body s i.toNat (fun k => anyN k (fun k => l.first.getD i.toNat false && (l.first.getD k false && y.g.getD i.toNat 0 == y.g.getD k 0)) = false) (fun k => [(6, iv k)]) (fun _ => s.heap))
    | _ => none)

def LoadYS : Sp2 where
  X := YS × LS
  c := fun (y, l) => loadOkY y l
  Y := fun _ => Nat × Nat
  y0 := fun _ => (0, 0)
  Z := fun _ => Unit
  z0 := fun _ => ()
  pat := fun (y, l) => ([.ptr 0 0, lsV l 3], yrow y ++ [some (lsO l)])
  fnd := fun args (H : AHeap) => match args with
    | [.ptr r 0, .sl nl b 3 0 n cap] =>
      (match fndY r H, (H[b]? : Option (Option AO)) with
      | some (y, σ), some (some (.arr rw 37 room m [.bool set, .int .i64 at_, .bool first])) => some ((y, ⟨nl, rw, cap, room, n, m, set, at_, first⟩), σ ++ [b])
      | _, _ => none)
    | _ => none
  pre := fun (y, l) => YOk y ∧ LOk l
  res := fun (y, l) c => ⟨bv true, [(0, some (ycellA (loadToY y l c) 1 4)), (1, some (ygO (loadToY y l c))), (2, none)], [ylO (loadToY y l c)]⟩
  pick := fun (y, l) v (H : AHeap) => match (H[0]? : Option (Option AO)) with
    | some (some (.cells _ _ [_, .sl _ b _ _ _ cap])) => (match (H[b]? : Option (Option AO)) with | some (some (.arr _ _ room _ _)) => some ((cap, room), [0, 1, 2, 3, b]) | _ => none)
    | _ => none
  res2 := fun _ _ => ⟨bv false, [], []⟩
  pick2 := fun _ _ _ => some ((), [0, 1, 2, 3])

theorem LoadYS_found : LoadYS.spec.Found := by
  intro args H x σ h
  simp only [Sp2.spec, LoadYS] at h
  split at h
  · rename_i r nl b n cap
    split at h
    rotate_left
    · cases h
    rename_i hx hb
    cases h
    obtain ⟨⟨a, mp, rfl⟩, h2⟩ := fndY_found hx
    refine ⟨rfl, fun i ao hi => ?_⟩
    match i, hi with
    | 0, hi => obtain rfl := Option.some.inj (Option.some.inj hi); simpa [ren1, AO.ren, AV.rens, AV.ren] using h2 0 _ rfl
    | 1, hi => obtain rfl := Option.some.inj (Option.some.inj hi); simpa [ren1, AO.ren] using h2 1 _ rfl
    | 2, hi => obtain rfl := Option.some.inj (Option.some.inj hi); simpa [ren1, AO.ren] using h2 2 _ rfl
    | 3, hi => obtain rfl := Option.some.inj (Option.some.inj hi); simpa [ren1, AO.ren] using hb
    | i + 4, hi => exact nomatch (show (none : Option (Option AO)) = some (some ao) from hi)
  · cases h

set_option maxRecDepth 100000 in
theorem loady_nf (y : YS) (l : LS) : (fnV Try.prog Γnone (LLoadY y l) Try.f13 [AV.ptr 0 0, lsV l 3] (yrow y ++ [some (lsO l)]) (Sp2.good LoadYS (y, l))) = (let q := AO.cells true 52 [AV.sl false 1 1 0 (YS.n y) (YS.cap y), AV.sl false 2 3 0 (YS.n2 y) (YS.cap2 y)] = AO.cells true 52 [AV.sl false 1 1 0 (YS.n y) (YS.cap y), AV.sl false 2 3 0 (YS.n2 y) (YS.cap2 y)] ∧ Bif (AO.deadB (AO.arr true 3 (YS.room y) (YS.m y) [Col.int IntKind.i64 (YS.g y)])) True (AO.arr true 3 (YS.room y) (YS.m y) [Col.int IntKind.i64 (YS.g y)] = AO.arr true 3 (YS.room y) (YS.m y) [Col.int IntKind.i64 (YS.g y)]) ∧ Bif (AO.deadB (AO.arr true 37 (YS.room2 y) (YS.m2 y) [Col.bool (YS.set y), Col.int IntKind.i64 (YS.at_ y), Col.bool (YS.first y)])) True (AO.arr true 37 (YS.room2 y) (YS.m2 y) [Col.bool (YS.set y), Col.int IntKind.i64 (YS.at_ y), Col.bool (YS.first y)] = AO.arr true 37 (YS.room2 y) (YS.m2 y) [Col.bool (YS.set y), Col.int IntKind.i64 (YS.at_ y), Col.bool (YS.first y)]) ∧ Bif (AO.deadB (AO.arr (LS.rw l) 37 (LS.room l) (LS.m l) [Col.bool (LS.set l), Col.int IntKind.i64 (LS.at_ l), Col.bool (LS.first l)])) True (AO.arr (LS.rw l) 37 (LS.room l) (LS.m l) [Col.bool (LS.set l), Col.int IntKind.i64 (LS.at_ l), Col.bool (LS.first l)] = AO.arr (LS.rw l) 37 (LS.room l) (LS.m l) [Col.bool (LS.set l), Col.int IntKind.i64 (LS.at_ l), Col.bool (LS.first l)]) ∧ True;
let q_1 := AO.cells true 52 [AV.sl false 1 1 0 (YS.n y) (YS.cap y), AV.sl false 2 3 0 (YS.n2 y) (YS.cap2 y)] = AO.cells true 52 [AV.sl false 1 1 0 (YS.n y) (YS.cap y), AV.sl false 2 3 0 (YS.n2 y) (YS.cap2 y)];
let q_2 := AV.val (Value.bool ((↑(LS.n l) : Int) != (↑(YS.n2 y) : Int))) = AV.val (Value.bool ((↑(LS.n l) : Int) != (↑(YS.n2 y) : Int))) ∧ AV.ptr 0 0 = AV.ptr 0 0 ∧ AV.sl (LS.nl l) 3 3 0 (LS.n l) (LS.cap l) = AV.sl (LS.nl l) 3 3 0 (LS.n l) (LS.cap l) ∧ True;
let q_3 := AO.arr (LS.rw l) 37 (LS.room l) (LS.m l) [Col.bool (LS.set l), Col.int IntKind.i64 (LS.at_ l), Col.bool (LS.first l)] = AO.arr (LS.rw l) 37 (LS.room l) (LS.m l) [Col.bool (LS.set l), Col.int IntKind.i64 (LS.at_ l), Col.bool (LS.first l)];
let q_4 := AO.arr true 37 (YS.room2 y) (YS.m2 y) [Col.bool (YS.set y), Col.int IntKind.i64 (YS.at_ y), Col.bool (YS.first y)];
let q_5 := AO.arr true 3 (YS.room y) (YS.m y) [Col.int IntKind.i64 (YS.g y)];
let q_6 := AV.val (Value.int IntKind.i64 0) = AV.val (Value.int IntKind.i64 0);
let q_7 := LoadYS.match_1 (fun (x : YS × LS) => Bool) (y, l) fun (y : YS) (l : LS) => loadOkY y l;
let q_8 := (↑(LS.n l) : Int) != (↑(YS.n2 y) : Int);
let q_9 := AV.val (Value.bool false) = AV.val (Value.bool false);
Bif q_8 (Bif q_7 False ((q_9 ∧ True) ∧ q_1 ∧ Bif (AO.deadB (ygO y)) True (q_5 = q_5) ∧ Bif (AO.deadB (ylO y)) True (q_4 = q_4) ∧ Bif (AO.deadB (lsO l)) True q_3 ∧ True))
  (((0 ≤ YS.n y ∧ false = false) ∧ (q_6 ∧ q_2) ∧ q) ∧
    ∀ (x : Nat),
      let q := q;
      let q_10 := AV.val (Value.bool (decide ((↑x : Int) < (↑(LS.n l) : Int)))) = AV.val (Value.bool (decide ((↑x : Int) < (↑(LS.n l) : Int)))) ∧ AV.val (Value.int IntKind.i64 (↑x : Int)) = AV.val (Value.int IntKind.i64 (↑x : Int)) ∧ q_2;
      let q_11 := q_1;
      let q_12 := q_4;
      let q_13 := q_3;
      let q_14 := q_5;
      let q_15 := 0 + x;
      let q_16 := AV.val (Value.bool (List.getD (YS.g y) (0 + Int.toNat (↑x : Int)) 0 == 0));
      let q_17 := decide ((↑x : Int) < (↑(LS.n l) : Int));
      let q_18 := q_6;
      let q_19 := q_7;
      let q_20 := [Col.bool (LS.set l), Col.int IntKind.i64 (LS.at_ l), Col.bool (LS.first l)];
      let q_21 := q_9;
      let q_22 := 0 ≤ x ∧ false = false;
      let q_23 := decide (q_15 < LS.m l);
      let q_24 := inR (↑x : Int) (LS.n l);
      x ≤ YS.n y ∧ anyN x (badY (YS.g y) l) = false →
        let q_25 := q_22 ∧ (q_18 ∧ q_16 = q_16 ∧ q_10) ∧ q;
        let q_26 := Bif q_19 False ((q_21 ∧ True) ∧ q_11 ∧ Bif (AO.deadB (ygO y)) True (q_14 = q_14) ∧ Bif (AO.deadB (ylO y)) True (q_12 = q_12) ∧ Bif (AO.deadB (lsO l)) True q_13 ∧ True);
        let q := q_22 ∧ (q_18 ∧ q_21 ∧ q_10) ∧ q;
        let q_27 := q_11;
        let q_28 := q_13;
        let q_29 := q_12 = q_12;
        let q_30 := !LS.nl l && (q_24 && q_23);
        let q_31 := 0 + LS.n l;
        let q_32 := q_14 = q_14;
        let q_33 := 0 + Int.toNat (↑x : Int);
        let q_34 := q_23;
        let q_35 := AO.deadB (AO.arr (LS.rw l) 37 (LS.room l) (LS.m l) q_20);
        let q_36 := AO.deadB q_12;
        let q_37 := AV.val (Value.bool q_17);
        let q_38 := q_19;
        let q_39 := decide (q_15 < YS.m y);
        let q_40 := AV.sl (LS.nl l) 3 3 0 (LS.n l) (LS.cap l);
        let q_41 := AV.val (Value.int IntKind.i64 (IntKind.wrap IntKind.i64 ((↑x : Int) + 1)));
        let q_42 := AO.deadB q_14;
        let q_43 := AV.val (Value.bool q_8);
        let q_44 := List.getD (YS.g y) (Int.toNat (↑x : Int)) 0;
        let q_45 := List.getD (YS.g y) q_33 0 == 0;
        let q_46 := q_15;
        let q_47 := x + 1;
        let q_48 := AV.ptr 0 0;
        let q_49 := YS.n y - x;
        let q_50 := List.getD (LS.first l) (Int.toNat (↑x : Int)) false;
        let q_51 := inR (↑x : Int) (YS.n y);
        let q_52 := AV.sl false 1 1 0 (YS.n y) (YS.cap y);
        let q_53 := q_24;
        let q_54 := AV.val (Value.int IntKind.i64 (↑x : Int));
        let q_55 := q_21;
        let q_56 := q_31 * 24;
        let q_57 := List.getD (LS.at_ l) q_33 0;
        Bif q_17
          (Bif q_30
            (Bif q_34
              (Bif (!List.getD (LS.set l) q_33 false)
                (Bif q_30
                  (Bif q_34
                    (Bif (!(decide (List.getD (LS.set l) q_33 false = false) && (decide (q_57 = 0) && (decide (List.getD (LS.first l) q_33 false = false) && true)))) q_26
                      (Bif q_30
                        (Bif q_34
                          (Bif (List.getD (LS.first l) q_33 false)
                            (Bif (q_51 && q_39)
                              (Bif q_39
                                (Bif q_45 q_26
                                  (q_25 ∧
                                    ∀ (x_2 : Nat),
                                      let q := q_27;
                                      let q_58 := q_28;
                                      let q_59 := q_29;
                                      let q_60 := q_40;
                                      let q_61 := q_32;
                                      let q_62 := x_2 + 1;
                                      let q_63 := AV.val (Value.bool q_45);
                                      let q_64 := q_43;
                                      let q_65 := q_35;
                                      let q_66 := q_36;
                                      let q_67 := q_37;
                                      let q_68 := q_48;
                                      let q_69 := q_42;
                                      let q_70 := q_44;
                                      let q_71 := q_50;
                                      let q_72 := q_54;
                                      x_2 ≤ x ∧ (anyN x_2 fun (k : Nat) => q_71 && (List.getD (LS.first l) k false && q_70 == List.getD (YS.g y) k 0)) = false →
                                        let q_73 := (q_62 ≤ x ∧ (anyN q_62 fun (k : Nat) => q_71 && (List.getD (LS.first l) k false && q_70 == List.getD (YS.g y) k 0)) = false) ∧ x - q_62 < x - x_2 ∧ (AV.val (Value.int IntKind.i64 (IntKind.wrap IntKind.i64 ((↑x_2 : Int) + 1))) = AV.val (Value.int IntKind.i64 (↑q_62 : Int)) ∧ q_63 = q_63 ∧ q_67 = q_67 ∧ q_72 = q_72 ∧ q_64 = q_64 ∧ q_68 = q_68 ∧ q_60 = q_60 ∧ True) ∧ q ∧ Bif q_69 True q_61 ∧ Bif q_66 True q_59 ∧ Bif q_65 True q_58 ∧ True;
                                        let q := q;
                                        let q_74 := q_58;
                                        let q_75 := q_59;
                                        let q_76 := q_61;
                                        let q_77 := q_46;
                                        let q_78 := q_47;
                                        let q_79 := 0 + x_2;
                                        let q_80 := q_60;
                                        let q_81 := q_33;
                                        let q_82 := 0 + Int.toNat (↑x_2 : Int);
                                        let q_83 := q_64;
                                        let q_84 := q_68;
                                        let q_85 := decide (q_77 < YS.m y);
                                        let q_86 := decide (q_79 < LS.m l);
                                        let q_87 := decide (q_77 < LS.m l);
                                        let q_88 := decide (q_79 < YS.m y);
                                        Bif (decide ((↑x_2 : Int) < (↑x : Int))) (Bif (!LS.nl l && (q_53 && q_87)) (Bif q_87 (Bif (List.getD (LS.first l) q_81 false) (Bif (!LS.nl l && (inR (↑x_2 : Int) (LS.n l) && q_86)) (Bif q_86 (Bif (List.getD (LS.first l) q_82 false) (Bif (q_51 && q_85) (Bif q_85 (Bif (inR (↑x_2 : Int) (YS.n y) && q_88) (Bif q_88 (Bif (List.getD (YS.g y) q_81 0 == List.getD (YS.g y) q_82 0) (Bif q_38 False ((q_55 ∧ True) ∧ q ∧ Bif (AO.deadB (ygO y)) True q_76 ∧ Bif (AO.deadB (ylO y)) True q_75 ∧ Bif (AO.deadB (lsO l)) True q_74 ∧ True)) q_73) False) False) False) False) q_73) False) False) q_73) False) False) ((q_78 ≤ YS.n y ∧ anyN q_78 (badY (YS.g y) l) = false) ∧ YS.n y - q_78 < q_49 ∧ (q_41 = AV.val (Value.int IntKind.i64 (↑q_78 : Int)) ∧ q_83 = q_83 ∧ q_84 = q_84 ∧ q_80 = q_80 ∧ True) ∧ q ∧ Bif q_69 True q_76 ∧ Bif q_66 True q_75 ∧ Bif q_65 True q_74 ∧ True)))
                                False)
                              False)
                            (q ∧
                              ∀ (x_2 : Nat),
                                let q := q_27;
                                let q_58 := q_28;
                                let q_59 := q_29;
                                let q_60 := q_40;
                                let q_61 := q_32;
                                let q_62 := x_2 + 1;
                                let q_63 := q_43;
                                let q_64 := q_35;
                                let q_65 := q_36;
                                let q_66 := q_37;
                                let q_67 := q_48;
                                let q_68 := q_42;
                                let q_69 := q_44;
                                let q_70 := q_50;
                                let q_71 := q_55;
                                let q_72 := q_54;
                                x_2 ≤ x ∧ (anyN x_2 fun (k : Nat) => q_70 && (List.getD (LS.first l) k false && q_69 == List.getD (YS.g y) k 0)) = false →
                                  let q_73 := (q_62 ≤ x ∧ (anyN q_62 fun (k : Nat) => q_70 && (List.getD (LS.first l) k false && q_69 == List.getD (YS.g y) k 0)) = false) ∧ x - q_62 < x - x_2 ∧ (AV.val (Value.int IntKind.i64 (IntKind.wrap IntKind.i64 ((↑x_2 : Int) + 1))) = AV.val (Value.int IntKind.i64 (↑q_62 : Int)) ∧ q_71 ∧ q_66 = q_66 ∧ q_72 = q_72 ∧ q_63 = q_63 ∧ q_67 = q_67 ∧ q_60 = q_60 ∧ True) ∧ q ∧ Bif q_68 True q_61 ∧ Bif q_65 True q_59 ∧ Bif q_64 True q_58 ∧ True;
                                  let q := q;
                                  let q_74 := q_58;
                                  let q_75 := q_59;
                                  let q_76 := q_61;
                                  let q_77 := q_46;
                                  let q_78 := q_47;
                                  let q_79 := 0 + x_2;
                                  let q_80 := q_60;
                                  let q_81 := q_33;
                                  let q_82 := 0 + Int.toNat (↑x_2 : Int);
                                  let q_83 := q_63;
                                  let q_84 := q_67;
                                  let q_85 := decide (q_77 < YS.m y);
                                  let q_86 := decide (q_79 < YS.m y);
                                  let q_87 := decide (q_79 < LS.m l);
                                  let q_88 := decide (q_77 < LS.m l);
                                  Bif (decide ((↑x_2 : Int) < (↑x : Int))) (Bif (!LS.nl l && (q_53 && q_88)) (Bif q_88 (Bif (List.getD (LS.first l) q_81 false) (Bif (!LS.nl l && (inR (↑x_2 : Int) (LS.n l) && q_87)) (Bif q_87 (Bif (List.getD (LS.first l) q_82 false) (Bif (q_51 && q_85) (Bif q_85 (Bif (inR (↑x_2 : Int) (YS.n y) && q_86) (Bif q_86 (Bif (List.getD (YS.g y) q_81 0 == List.getD (YS.g y) q_82 0) (Bif q_38 False ((q_71 ∧ True) ∧ q ∧ Bif (AO.deadB (ygO y)) True q_76 ∧ Bif (AO.deadB (ylO y)) True q_75 ∧ Bif (AO.deadB (lsO l)) True q_74 ∧ True)) q_73) False) False) False) False) q_73) False) False) q_73) False) False) ((q_78 ≤ YS.n y ∧ anyN q_78 (badY (YS.g y) l) = false) ∧ YS.n y - q_78 < q_49 ∧ (q_41 = AV.val (Value.int IntKind.i64 (↑q_78 : Int)) ∧ q_83 = q_83 ∧ q_84 = q_84 ∧ q_80 = q_80 ∧ True) ∧ q ∧ Bif q_68 True q_76 ∧ Bif q_65 True q_75 ∧ Bif q_64 True q_74 ∧ True)))
                          False)
                        False))
                    False)
                  False)
                (Bif q_30
                  (Bif q_34
                    (Bif (List.getD (LS.first l) q_33 false)
                      (Bif (q_51 && q_39)
                        (Bif q_39
                          (Bif q_45 q_26
                            (q_25 ∧
                              ∀ (x_2 : Nat),
                                let q := q_27;
                                let q_58 := q_28;
                                let q_59 := q_29;
                                let q_60 := q_40;
                                let q_61 := q_32;
                                let q_62 := x_2 + 1;
                                let q_63 := AV.val (Value.bool q_45);
                                let q_64 := q_43;
                                let q_65 := q_35;
                                let q_66 := q_36;
                                let q_67 := q_37;
                                let q_68 := q_48;
                                let q_69 := q_42;
                                let q_70 := q_44;
                                let q_71 := q_50;
                                let q_72 := q_54;
                                x_2 ≤ x ∧ (anyN x_2 fun (k : Nat) => q_71 && (List.getD (LS.first l) k false && q_70 == List.getD (YS.g y) k 0)) = false →
                                  let q_73 := (q_62 ≤ x ∧ (anyN q_62 fun (k : Nat) => q_71 && (List.getD (LS.first l) k false && q_70 == List.getD (YS.g y) k 0)) = false) ∧ x - q_62 < x - x_2 ∧ (AV.val (Value.int IntKind.i64 (IntKind.wrap IntKind.i64 ((↑x_2 : Int) + 1))) = AV.val (Value.int IntKind.i64 (↑q_62 : Int)) ∧ q_63 = q_63 ∧ q_67 = q_67 ∧ q_72 = q_72 ∧ q_64 = q_64 ∧ q_68 = q_68 ∧ q_60 = q_60 ∧ True) ∧ q ∧ Bif q_69 True q_61 ∧ Bif q_66 True q_59 ∧ Bif q_65 True q_58 ∧ True;
                                  let q := q;
                                  let q_74 := q_58;
                                  let q_75 := q_59;
                                  let q_76 := q_61;
                                  let q_77 := 0 + x_2;
                                  let q_78 := q_46;
                                  let q_79 := q_47;
                                  let q_80 := q_60;
                                  let q_81 := 0 + Int.toNat (↑x_2 : Int);
                                  let q_82 := q_33;
                                  let q_83 := q_64;
                                  let q_84 := decide (q_77 < LS.m l);
                                  let q_85 := q_68;
                                  let q_86 := decide (q_78 < LS.m l);
                                  let q_87 := decide (q_78 < YS.m y);
                                  let q_88 := decide (q_77 < YS.m y);
                                  Bif (decide ((↑x_2 : Int) < (↑x : Int))) (Bif (!LS.nl l && (q_53 && q_86)) (Bif q_86 (Bif (List.getD (LS.first l) q_82 false) (Bif (!LS.nl l && (inR (↑x_2 : Int) (LS.n l) && q_84)) (Bif q_84 (Bif (List.getD (LS.first l) q_81 false) (Bif (q_51 && q_87) (Bif q_87 (Bif (inR (↑x_2 : Int) (YS.n y) && q_88) (Bif q_88 (Bif (List.getD (YS.g y) q_82 0 == List.getD (YS.g y) q_81 0) (Bif q_38 False ((q_55 ∧ True) ∧ q ∧ Bif (AO.deadB (ygO y)) True q_76 ∧ Bif (AO.deadB (ylO y)) True q_75 ∧ Bif (AO.deadB (lsO l)) True q_74 ∧ True)) q_73) False) False) False) False) q_73) False) False) q_73) False) False) ((q_79 ≤ YS.n y ∧ anyN q_79 (badY (YS.g y) l) = false) ∧ YS.n y - q_79 < q_49 ∧ (q_41 = AV.val (Value.int IntKind.i64 (↑q_79 : Int)) ∧ q_83 = q_83 ∧ q_85 = q_85 ∧ q_80 = q_80 ∧ True) ∧ q ∧ Bif q_69 True q_76 ∧ Bif q_66 True q_75 ∧ Bif q_65 True q_74 ∧ True)))
                          False)
                        False)
                      (q ∧
                        ∀ (x_2 : Nat),
                          let q := q_27;
                          let q_58 := q_28;
                          let q_59 := q_29;
                          let q_60 := q_40;
                          let q_61 := q_32;
                          let q_62 := x_2 + 1;
                          let q_63 := q_43;
                          let q_64 := q_35;
                          let q_65 := q_36;
                          let q_66 := q_37;
                          let q_67 := q_48;
                          let q_68 := q_42;
                          let q_69 := q_44;
                          let q_70 := q_50;
                          let q_71 := q_55;
                          let q_72 := q_54;
                          x_2 ≤ x ∧ (anyN x_2 fun (k : Nat) => q_70 && (List.getD (LS.first l) k false && q_69 == List.getD (YS.g y) k 0)) = false →
                            let q_73 := (q_62 ≤ x ∧ (anyN q_62 fun (k : Nat) => q_70 && (List.getD (LS.first l) k false && q_69 == List.getD (YS.g y) k 0)) = false) ∧ x - q_62 < x - x_2 ∧ (AV.val (Value.int IntKind.i64 (IntKind.wrap IntKind.i64 ((↑x_2 : Int) + 1))) = AV.val (Value.int IntKind.i64 (↑q_62 : Int)) ∧ q_71 ∧ q_66 = q_66 ∧ q_72 = q_72 ∧ q_63 = q_63 ∧ q_67 = q_67 ∧ q_60 = q_60 ∧ True) ∧ q ∧ Bif q_68 True q_61 ∧ Bif q_65 True q_59 ∧ Bif q_64 True q_58 ∧ True;
                            let q := q;
                            let q_74 := q_58;
                            let q_75 := q_59;
                            let q_76 := q_61;
                            let q_77 := 0 + x_2;
                            let q_78 := q_46;
                            let q_79 := q_47;
                            let q_80 := q_60;
                            let q_81 := 0 + Int.toNat (↑x_2 : Int);
                            let q_82 := q_33;
                            let q_83 := q_63;
                            let q_84 := q_67;
                            let q_85 := decide (q_77 < LS.m l);
                            let q_86 := decide (q_77 < YS.m y);
                            let q_87 := decide (q_78 < YS.m y);
                            let q_88 := decide (q_78 < LS.m l);
                            Bif (decide ((↑x_2 : Int) < (↑x : Int))) (Bif (!LS.nl l && (q_53 && q_88)) (Bif q_88 (Bif (List.getD (LS.first l) q_82 false) (Bif (!LS.nl l && (inR (↑x_2 : Int) (LS.n l) && q_85)) (Bif q_85 (Bif (List.getD (LS.first l) q_81 false) (Bif (q_51 && q_87) (Bif q_87 (Bif (inR (↑x_2 : Int) (YS.n y) && q_86) (Bif q_86 (Bif (List.getD (YS.g y) q_82 0 == List.getD (YS.g y) q_81 0) (Bif q_38 False ((q_71 ∧ True) ∧ q ∧ Bif (AO.deadB (ygO y)) True q_76 ∧ Bif (AO.deadB (ylO y)) True q_75 ∧ Bif (AO.deadB (lsO l)) True q_74 ∧ True)) q_73) False) False) False) False) q_73) False) False) q_73) False) False) ((q_79 ≤ YS.n y ∧ anyN q_79 (badY (YS.g y) l) = false) ∧ YS.n y - q_79 < q_49 ∧ (q_41 = AV.val (Value.int IntKind.i64 (↑q_79 : Int)) ∧ q_83 = q_83 ∧ q_84 = q_84 ∧ q_80 = q_80 ∧ True) ∧ q ∧ Bif q_68 True q_76 ∧ Bif q_65 True q_75 ∧ Bif q_64 True q_74 ∧ True)))
                    False)
                  False))
              False)
            False)
          (Bif (decide (q_31 ≤ LS.m l) && (longEnough q_31 q_20 && (!LS.nl l || decide (LS.n l = 0))) && (decide (q_56 ≤ 140737488355328) && decide (q_31 ≤ 9223372036854775807)) && true)
            (∀ (x : Nat),
              let q := loadToY y l (q_31 + x, q_31 + x);
              let q_58 := AO.cells true 52 [q_52, AV.sl false 5 3 0 q_31 (q_31 + x)];
              let q_59 := Bif (AO.deadB (lsO l)) True q_28;
              let q_60 := q_14;
              let q_61 := q_12;
              let q_62 := List.take 0 (List.drop 0 (List.replicate 0 false));
              let q_63 := q_31;
              Bif q_38 ((AV.val (Value.bool true) = AV.val (Value.bool true) ∧ True) ∧ q_58 = AO.cells true 52 [AV.sl false 1 1 0 (YS.n q) (YS.cap q), AV.sl false 5 3 0 (YS.n2 q) (YS.cap2 q)] ∧ Bif (AO.deadB (ygO q)) True (q_60 = AO.arr true 3 (YS.room q) (YS.m q) [Col.int IntKind.i64 (YS.g q)]) ∧ q_59 ∧ Bif (AO.deadB (ylO q)) True (AO.arr true 37 (q_63 + x) q_63 [Col.bool (q_62 ++ List.take (LS.n l) (List.drop 0 (LS.set l))), Col.int IntKind.i64 (List.take 0 (List.drop 0 (List.replicate 0 0)) ++ List.take (LS.n l) (List.drop 0 (LS.at_ l))), Col.bool (q_62 ++ List.take (LS.n l) (List.drop 0 (LS.first l)))] = AO.arr true 37 (YS.room2 q) (YS.m2 q) [Col.bool (YS.set q), Col.int IntKind.i64 (YS.at_ q), Col.bool (YS.first q)]) ∧ True) ((AV.val (Value.bool true) = AV.val (Value.bool false) ∧ True) ∧ q_58 = AO.cells true 52 [q_52, AV.sl false 2 3 0 (YS.n2 y) (YS.cap2 y)] ∧ Bif (AO.deadB (ygO y)) True (q_60 = q_60) ∧ Bif (AO.deadB (ylO y)) True (q_61 = q_61) ∧ q_59 ∧ True))
            False))) := by kernel_rfl
set_option maxHeartbeats 2000000 in
theorem loadY_vc (y : YS) (l : LS) (hy : YOk y) (hl : LOk l) : FnV Try.prog Γnone (LLoadY y l) Try.f13 [.ptr 0 0, lsV l 3] (yrow y ++ [some (lsO l)]) (LoadYS.good (y, l)) := by
  obtain ⟨h1, h2, h3, h4, h5, h6, h7, h8⟩ := hy
  obtain ⟨g0, g1, g2, g3, g4, g5⟩ := hl
  have q1 : ∀ k, loadOkY y l = true → k < y.n → badY y.g l k = false := fun k h hk => loadOkY_bad h hk
  have q2 : loadOkY y l = true → l.n = y.n := loadOkY_n
  have q3 : l.n = y.n → anyN y.n (badY y.g l) = false → loadOkY y l = true := loadOkY_of
  have q4 : ∀ k j, loadOkY y l = true → k < y.n → j < k → l.first.getD k false = true → l.first.getD j false = true → y.g.getD k 0 = y.g.getD j 0 → False := fun k j h hk hj a b e => by
    have h1 := q1 k h hk
    simp only [badY, Bool.or_eq_false_iff] at h1
    have h2 := anyN_not.1 h1.2 j hj
    rw [a, b, e] at h2
    simp at h2
  refine FnV.of (loady_nf _ _) ?_
  simp only [Bif_need, Bif_True]
  simp only [Bif_iff, eq_self, and_true, true_and, AV.val.injEq, AV.agg.injEq, AV.tup.injEq, AV.sl.injEq, AV.ptr.injEq, AV.mp.injEq, Value.int.injEq, Value.bool.injEq, Value.string.injEq, AO.cells.injEq, AO.arr.injEq, AO.mapc.injEq, List.cons.injEq, Col.bool.injEq, Col.int.injEq, Col.str.injEq, MCol.int.injEq, MCol.bool.injEq, MCol.str.injEq, decide_eq_true_eq, decide_eq_false_iff_not, Nat.zero_add, Nat.add_zero, implies_true, Bool.and_eq_true, inR_iff, List.drop_zero, List.take_nil, List.drop_nil, List.nil_append, Int.toNat_natCast, longEnough, colLen, Bool.not_true, Bool.not_false, Bool.true_or, Bool.or_eq_true, Bool.not_eq_true', Bool.not_eq_false', take_take_self, take_tab, one_col, tab_length, mix_length, List.length_take, Nat.min_eq_left, List.set_cons_zero, blt01, Bool.and_false, Bool.and_true, Bool.false_and, Bool.true_and, Bool.false_eq_true, Bool.true_eq_false, false_and, and_false, false_implies, anyN_succ]
  repeat' (first | apply And.intro | intro _)
  all_goals try omega
  all_goals try (simp only [bne_iff_ne, ne_eq, bne_eq_false_iff_eq, beq_iff_eq, beq_eq_false_iff_ne] at *)
  all_goals try omega
  all_goals first
    | (rw [IntWalk.i64_in _ (by omega)]; omega)
    | (rw [List.take_of_length_le (by omega)]; rfl)
    | grind
    | grind [badY, anyN_succ]
    | grind [badY, anyN_succ, loadToY]
theorem loadY_ok : CtOk Try.prog 13 LoadYS.ct := Sp2.ok CtsOk.none hm Try.func13 LoadYS LoadYS_found (fun (y, l) => LLoadY y l) (fun (y, l) h => loadY_vc y l h.1 h.2)
end Go.Wk.L14

namespace Go.Wk.L14
open Go Go.Vs Go.Proofs
set_option linter.unusedSimpArgs false
set_option linter.unusedVariables false
set_option maxRecDepth 10000

/-! great -/
structure OS where
  nl : Bool
  rw : Bool
  cap : Nat
  room : Nat
  n : Nat
  m : Nat
  w : List Int
  is : List Int
  nows : List Int
  nf : Nat
  hd : Nat → Hd
  cols : Nat → List Col
abbrev oO (s : OS) : AO := .arr s.rw 32 s.room s.m [.int .i64 s.w, .int .i64 s.is, .int .i64 s.nows, .far s.nf 37 3 s.hd s.cols]
abbrev oV (s : OS) (b : Nat) : AV := .sl s.nl b 4 0 s.n s.cap
structure OOk (s : OS) : Prop where
  n : s.n ≤ 1048576
  m : s.m = s.n
  nl : s.nl = true → s.n = 0
  w : s.w.length = s.n
  is : s.is.length = s.n
  nows : s.nows.length = s.n
  hd : ∀ i, (s.hd i).len ≤ (s.hd i).cap ∧ (s.hd i).cap ≤ 1048576 ∧ ((s.hd i).nl = true → (s.hd i).cap = 0)

def GreatS : Sp where
  X := GS × OS
  Y := fun _ => Bool
  y0 := fun _ => true
  pat := fun (g, o) => ([gV g 0, oV o 1], [some (gO g), some (oO o)])
  fnd := fun args (H : AHeap) => match args with
    | [.sl nl b 1 0 n cap, .sl nl2 b2 4 0 n2 cap2] =>
      (match (H[b]? : Option (Option AO)), (H[b2]? : Option (Option AO)) with
      | some (some (.arr rw 3 room m [.int .i64 g])), some (some (.arr rw2 32 room2 m2 [.int .i64 w, .int .i64 is, .int .i64 nows, .far nf 37 3 hd cols])) =>
        some ((⟨nl, rw, cap, room, n, m, g⟩, ⟨nl2, rw2, cap2, room2, n2, m2, w, is, nows, nf, hd, cols⟩), [b, b2])
      | _, _ => none)
    | _ => none
  pre := fun (g, o) => GOk g ∧ OOk o
  res := fun _ b => just (bv b)
  pick := fun _ v _ => match v with | .val (.bool b) => some (b, [0, 1]) | _ => none
theorem GreatS_found : GreatS.spec.Found := by
  intro args H x σ h
  simp only [Sp.spec, GreatS] at h
  split at h
  rotate_left
  · cases h
  split at h
  rotate_left
  · cases h
  rename_i h1 h2
  cases h
  refine ⟨rfl, fun i ao hi => ?_⟩
  match i, hi with
  | 0, hi => obtain rfl := Option.some.inj (Option.some.inj hi); simpa [ren1, AO.ren] using h1
  | 1, hi => obtain rfl := Option.some.inj (Option.some.inj hi); simpa [ren1, AO.ren] using h2
  | i + 2, hi => exact nomatch (show (none : Option (Option AO)) = some (some ao) from hi)

noncomputable def LGreat (g : GS) (o : OS) : Loops := fun body s => match loopId body with
  | _ => some (mkLI Try.f9 body s (X := Nat × Int) (0, g.n) [0, 1] (fun a => a.1 ≤ o.n) (fun a => o.n - a.1) (fun a => [(6, iv a.1), (5, iv a.2)]) (fun _ => s.heap)
      (fun a s' => match Vs.look s'.env 5 with | some (.val (.int .i64 m)) => some ((a.1 + 1, m), [0, 1]) | _ => none))
set_option maxRecDepth 100000 in
theorem great_nf (g : GS) (o : OS) : (fnV Try.prog Γnone (LGreat g o) Try.f9 [gV g 0, oV o 1] [some (gO g), some (oO o)] (Sp.good GreatS (g, o))) = (let q := AO.arr (OS.rw o) 32 (OS.room o) (OS.m o) [Col.int IntKind.i64 (OS.w o), Col.int IntKind.i64 (OS.is o), Col.int IntKind.i64 (OS.nows o), Col.far (OS.nf o) 37 3 (OS.hd o) (OS.cols o)];
let q_1 := AO.arr (GS.rw g) 3 (GS.room g) (GS.m g) [Col.int IntKind.i64 (GS.g g)];
let q_2 := AV.sl (GS.nl g) 0 1 0 (GS.n g) (GS.cap g);
let q_3 := AV.sl (OS.nl o) 1 4 0 (OS.n o) (OS.cap o);
let q_4 := AV.val (Value.int IntKind.i64 (↑(GS.n g) : Int));
let q_5 := AV.val (Value.bool false) = AV.val (Value.bool false);
(0 ≤ OS.n o ∧ (AV.val (Value.int IntKind.i64 0) = AV.val (Value.int IntKind.i64 (↑0 : Int)) ∧ q_4 = q_4 ∧ q_5 ∧ q_2 = q_2 ∧ q_3 = q_3 ∧ True) ∧ Bif (AO.deadB q_1) True (q_1 = q_1) ∧ Bif (AO.deadB q) True (q = q) ∧ True) ∧
  ∀ (x : Nat × Int),
    let q_6 := (AV.val (Value.bool true) = AV.val (Value.bool true) ∧ True) ∧ Bif (AO.deadB (gO g)) True (q_1 = q_1) ∧ Bif (AO.deadB (oO o)) True (q = q) ∧ True;
    let q := q;
    let q_7 := (↑(Hd.len (OS.hd o (0 + Int.toNat (↑(Prod.fst x) : Int)))) : Int);
    let q_8 := q_1;
    let q_9 := AV.val (Value.bool (decide ((↑(GS.n g) : Int) > 60)));
    let q_10 := 0 + Int.toNat (↑(Prod.fst x) : Int);
    Prod.fst x ≤ OS.n o →
      let q_11 := Bif (decide (Prod.snd x ≥ 9000)) q_6 (Bif (decide ((↑(OS.n o) : Int) > 200)) q_6 ((q_9 = q_9 ∧ True) ∧ Bif (AO.deadB (gO g)) True (q_8 = q_8) ∧ Bif (AO.deadB (oO o)) True (q = q) ∧ True));
      let q_12 := AV.val (Value.int IntKind.i64 (IntKind.wrap IntKind.i64 (Prod.snd x + if 9000 < q_7 then 9000 else q_7)));
      let q := q;
      let q_13 := decide (q_10 < OS.m o);
      let q_14 := q_8;
      let q_15 := Prod.fst x + 1;
      let q_16 := q_2;
      let q_17 := q_3;
      let q_18 := (↑(Prod.fst x) : Int);
      Bif (decide (q_18 < (↑(OS.n o) : Int))) (Bif (decide (Prod.snd x < 9000)) (Bif (!OS.nl o && (inR q_18 (OS.n o) && q_13)) (Bif q_13 (q_15 ≤ OS.n o ∧ OS.n o - q_15 < OS.n o - Prod.fst x ∧ (AV.val (Value.int IntKind.i64 (IntKind.wrap IntKind.i64 (q_18 + 1))) = AV.val (Value.int IntKind.i64 (↑q_15 : Int)) ∧ q_12 = q_12 ∧ q_5 ∧ q_16 = q_16 ∧ q_17 = q_17 ∧ True) ∧ Bif (AO.deadB q_14) True (q_14 = q_14) ∧ Bif (AO.deadB q) True (q = q) ∧ True) False) False) q_11) q_11) := by kernel_rfl
set_option maxHeartbeats 1000000 in
theorem great_vc (g : GS) (o : OS) (hg : GOk g) (ho : OOk o) : FnV Try.prog Γnone (LGreat g o) Try.f9 [gV g 0, oV o 1] [some (gO g), some (oO o)] (GreatS.good (g, o)) := by
  obtain ⟨h1, h2, h3, h4⟩ := hg
  obtain ⟨o1, o2, o3, o4, o5, o6, o7⟩ := ho
  refine FnV.of (great_nf _ _) ?_
  simp only [Bif_need, Bif_True]
  simp only [Bif_iff, eq_self, and_true, true_and, AV.val.injEq, AV.agg.injEq, AV.tup.injEq, AV.sl.injEq, AV.ptr.injEq, AV.mp.injEq, Value.int.injEq, Value.bool.injEq, Value.string.injEq, AO.cells.injEq, AO.arr.injEq, AO.mapc.injEq, List.cons.injEq, Col.bool.injEq, Col.int.injEq, Col.str.injEq, MCol.int.injEq, MCol.bool.injEq, MCol.str.injEq, decide_eq_true_eq, decide_eq_false_iff_not, Nat.zero_add, Nat.add_zero, implies_true, Bool.and_eq_true, inR_iff, List.drop_zero, List.take_nil, List.drop_nil, List.nil_append, Int.toNat_natCast, longEnough, colLen, Bool.not_true, Bool.not_false, Bool.true_or, Bool.or_eq_true, Bool.not_eq_true', Bool.not_eq_false', take_take_self, take_tab, one_col, tab_length, mix_length, List.length_take, Nat.min_eq_left, List.set_cons_zero, blt01, Bool.and_false, Bool.and_true, Bool.false_and, Bool.true_and, Bool.false_eq_true, Bool.true_eq_false, false_and, and_false, false_implies]
  repeat' (first | apply And.intro | intro _)
  all_goals try omega
  all_goals first
    | omega
    | (rw [IntWalk.i64_in _ (by omega)]; omega)
    | (have := o7 ‹Nat × Int›.1; grind)
    | grind
theorem great_ok : CtOk Try.prog 9 GreatS.ct := Sp.ok CtsOk.none hm Try.func9 GreatS GreatS_found (fun (g, o) => LGreat g o) (fun (g, o) h => great_vc g o h.1 h.2)

/-! head -/
noncomputable def Γh : Cts := ((((((((Γnone.add 7 NewS.ct).add 14 TripS.ct).add 10 ResetS.ct).add 16 AtS.ct).add 19 AllS.ct).add 12 LoadS.ct).add 21 FirstS.ct))
theorem all_ok : CtOk Try.prog 19 AllS.ct := Sp.ok Γ2_ok hm Try.func19 AllS AllS_found LAll all_vc
theorem Γh_ok : CtsOk Try.prog Γh :=
  ((((((CtsOk.none.add new_ok Try.func7 (by kernel_rfl) (by kernel_rfl)).add trip_ok Try.func14 (by kernel_rfl) (by kernel_rfl)).add reset_ok Try.func10 (by kernel_rfl) (by kernel_rfl)).add at_ok Try.func16 (by kernel_rfl) (by kernel_rfl)).add all_ok Try.func19 (by kernel_rfl) (by kernel_rfl)).add load_ok Try.func12 (by kernel_rfl) (by kernel_rfl)).add first_ok Try.func21 (by kernel_rfl) (by kernel_rfl)

def HeadS : Sp where
  X := Unit
  Y := fun _ => Unit
  y0 := fun _ => ()
  pat := fun _ => ([], [])
  fnd := fun args _ => match args with | [] => some ((), []) | _ => none
  pre := fun _ => True
  res := fun _ _ => just (bv true)
  pick := fun _ _ _ => some ((), [])
theorem HeadS_found : HeadS.spec.Found := by
  intro args H x σ h
  simp only [Sp.spec, HeadS] at h
  split at h
  rotate_left
  · cases h
  cases h
  exact ⟨rfl, fun i ao hi => nomatch (show (none : Option (Option AO)) = some (some ao) from hi)⟩
set_option maxRecDepth 100000 in
theorem head_nf : (fnV Try.prog Γh (fun (x : Code) (x_1 : AS) => none) Try.f6 [] [] (Sp.good HeadS ())) = (let q := [1, 1, 1, 0];
GOk (GS.mk false true 4 4 4 4 q) ∧
  ∀ (x : Unit),
    let q := q;
    let q_1 := [false, false, false, false];
    let q_2 := [0];
    XOk (XS.mk 4 4 4 4 q_1 (0 :: 0 :: 0 :: q_2) q_1 q (fun (x : Value) => false) fun (x : Value) => 0) ∧
      ∀ (x : Unit),
        let q := q;
        let q_3 := 5 :: q_2;
        let q_4 := q_1;
        let q_5 := Value.int IntKind.i64 1;
        let q_6 := [true, false];
        XOk (XS.mk 4 4 4 4 (false :: false :: q_6) (0 :: 0 :: q_3) q_4 q (fun (u : Value) => keq u q_5 || false) fun (u : Value) => bif keq u q_5 then 2 else 0) ∧
          ∀ (x : Unit),
            let q := q;
            let q_7 := q_5;
            let q_8 := 5 :: q_3;
            let q_9 := q_4;
            let q_10 := true :: q_6;
            XOk (XS.mk 4 4 4 4 (false :: q_10) (0 :: q_8) q_9 q (fun (u : Value) => keq u q_7 || (keq u q_7 || false)) fun (u : Value) => bif keq u q_7 then 1 else bif keq u q_7 then 2 else 0) ∧
              ∀ (x : Unit),
                let q_11 := 6 :: q_8;
                let q := q;
                let q_12 := q_7;
                let q_13 := true :: q_10;
                let q_14 := q_9;
                XOk (XS.mk 4 4 4 4 q_13 q_11 q_14 q (fun (u : Value) => keq u q_12 || (keq u q_12 || false)) fun (u : Value) => bif keq u q_12 then 1 else bif keq u q_12 then 2 else 0) ∧
                  ∀ (x : Unit),
                    let q := q;
                    let q_15 := q_12;
                    let q_16 := q_14;
                    XOk (XS.mk 4 4 4 4 q_13 q_11 q_16 q (fun (u : Value) => keq u q_15 || (keq u q_15 || false)) fun (u : Value) => bif keq u q_15 then 1 else bif keq u q_15 then 2 else 0) ∧
                      ∀ (x : Unit),
                        True ∧
                          ∀ (x : Unit),
                            True ∧
                              ∀ (x : Unit),
                                let q := q;
                                let q_17 := q_15;
                                let q_18 := [5, 8];
                                let q_19 := q_16;
                                let q_20 := [true, true];
                                XOk (XS.mk 4 4 4 4 (true :: true :: q_20) (6 :: 5 :: q_18) q_19 q (fun (u : Value) => keq u q_17 || (keq u q_17 || false)) fun (u : Value) => bif keq u q_17 then 1 else bif keq u q_17 then 2 else 0) ∧
                                  ∀ (x : Unit),
                                    let q := q;
                                    let q_21 := q_17;
                                    let q_22 := q_18;
                                    let q_23 := q_19;
                                    let q_24 := q_20;
                                    XOk (XS.mk 4 4 4 4 (true :: true :: q_24) (6 :: 5 :: q_22) q_23 q (fun (u : Value) => keq u q_21 || (keq u q_21 || false)) fun (u : Value) => bif keq u q_21 then 1 else bif keq u q_21 then 2 else 0) ∧
                                      ∀ (x : Unit),
                                        let q := q;
                                        let q_25 := q_21;
                                        let q_26 := q_22;
                                        let q_27 := q_23;
                                        let q_28 := q_24;
                                        XOk (XS.mk 4 4 4 4 (true :: true :: q_28) (6 :: 5 :: q_26) q_27 q (fun (u : Value) => keq u q_25 || (keq u q_25 || false)) fun (u : Value) => bif keq u q_25 then 1 else bif keq u q_25 then 2 else 0) ∧
                                          ∀ (x : Unit),
                                            let q_29 := q_25;
                                            let q_30 := 6 :: 0 :: q_26;
                                            let q := q;
                                            let q_31 := true :: false :: q_28;
                                            let q_32 := q_27;
                                            XOk (XS.mk 4 4 4 4 q_31 q_30 q_32 q (fun (u : Value) => (keq u q_29 || (keq u q_29 || false)) && !keq u q_29) fun (u : Value) => bif keq u q_29 then 0 else bif keq u q_29 then 1 else bif keq u q_29 then 2 else 0) ∧
                                              ∀ (x : Unit),
                                                True ∧
                                                  ∀ (x : Unit),
                                                    let q_33 := q_29;
                                                    let q := q;
                                                    let q_34 := q_30;
                                                    let q_35 := q_31;
                                                    let q_36 := q_32;
                                                    XOk (XS.mk 4 4 4 4 q_35 q_34 q_36 q (fun (u : Value) => (keq u q_33 || (keq u q_33 || false)) && !keq u q_33) fun (u : Value) => bif keq u q_33 then 0 else bif keq u q_33 then 1 else bif keq u q_33 then 2 else 0) ∧
                                                      ∀ (x : Bool × Nat × Nat),
                                                        let q_37 := q_33;
                                                        (XOk (XS.mk 4 4 4 4 q_35 q_34 q_36 q (fun (u : Value) => (keq u q_37 || (keq u q_37 || false)) && !keq u q_37) fun (u : Value) => bif keq u q_37 then 0 else bif keq u q_37 then 1 else bif keq u q_37 then 2 else 0) ∧ LOk (LS.mk true false 0 0 0 0 [] [] [])) ∧ ∀ (x : Unit), (AV.val (Value.bool true) = AV.val (Value.bool true) ∧ True) ∧ True) := by kernel_rfl
set_option maxHeartbeats 1000000 in
theorem head_vc : FnV Try.prog Γh (fun _ _ => none) Try.f6 [] [] (HeadS.good ()) := by
  refine FnV.of (head_nf) ?_
  try simp only [Bif_need, Bif_True]
  try simp only [Bif_iff]
  repeat' (first | exact rfl | exact trivial | apply And.intro | intro _)
  all_goals first
    | exact ⟨by decide, rfl, rfl, fun h => by cases h⟩
    | exact ⟨rfl, by decide, fun _ => rfl, rfl, rfl, rfl⟩
    | (refine ⟨rfl, by decide, rfl, rfl, rfl, rfl, fun g h => ?_⟩; first | (simp [keq] at h; subst h; decide) | (simp [keq] at h; done))
    | grind
theorem head_ok : CtOk Try.prog 6 HeadS.ct := Sp.ok Γh_ok hm Try.func6 HeadS HeadS_found (fun _ _ _ => none) (fun _ _ => head_vc)
end Go.Wk.L14

namespace Go.Wk.L14
open Go Go.Vs
set_option linter.unusedSimpArgs false
set_option linter.unusedVariables false

/-! ### the plain law: the two rows stay alike -/
structure Rel (x : XS) (y : YS) : Prop where
  xok : XOk x
  yok : YOk y
  n : y.n = x.n
  g : y.g = x.group
  set : y.set = x.set
  at_ : y.at_ = x.at_
  first : ∀ k, k < x.n → y.first.getD k false = shF x k
  grp : ∀ g : Int, x.has (.int .i64 g) = true → g ≠ 0 ∧ x.group.getD (x.f (.int .i64 g)).toNat 0 = g ∧ x.set.getD (x.f (.int .i64 g)).toNat false = true
  z : ∀ g : Int, x.has (.int .i64 g) = false → x.f (.int .i64 g) = 0

theorem Rel.firstY {x : XS} {y : YS} (h : Rel x y) (g : Int) : (firstY y g).isSome = x.has (.int .i64 g) ∧ fst (firstY y g) = x.f (.int .i64 g) := by
  cases hg : x.has (.int .i64 g) with
  | true =>
    obtain ⟨h0, h1, h2⟩ := h.grp g hg
    obtain ⟨f0, f1⟩ := h.xok.f g hg
    have e : Wk.L14.firstY y g = some (x.f (.int .i64 g)).toNat := by
      have hlt : (x.f (.int .i64 g)).toNat < x.n := by omega
      have hc : ((x.f (.int .i64 g)).toNat : Int) = x.f (.int .i64 g) := by omega
      refine findN_some (by rw [h.n]; exact hlt) ?_ fun j hj => ?_
      · rw [h.first _ hlt, h.g, h1]
        simp only [shF, Int.toNat_natCast, h1, hg, Bool.true_and, beq_self_eq_true, Bool.and_true, beq_iff_eq]
        exact hc.symm
      · rw [h.first j (by omega), h.g]
        simp only [shF, Int.toNat_natCast]
        cases hb : (x.group.getD j 0 == g) with
        | false => simp
        | true =>
          simp only [beq_iff_eq] at hb
          rw [hb, hg]
          simp only [Bool.true_and, Bool.and_true, beq_eq_false_iff_ne]
          omega
    have hc : ((x.f (.int .i64 g)).toNat : Int) = x.f (.int .i64 g) := by omega
    rw [e]; exact ⟨rfl, hc⟩
  | false =>
    have e : Wk.L14.firstY y g = none := by
      refine findN_none fun j hj => ?_
      rw [h.n] at hj
      rw [h.first j hj, h.g]
      simp only [shF, Int.toNat_natCast]
      cases hb : (x.group.getD j 0 == g) with
      | false => simp
      | true => simp only [beq_iff_eq] at hb; rw [hb, hg]; simp
    rw [e]; exact ⟨rfl, by simp only [fst]; rw [h.z g hg]⟩

theorem keq_int (a b : Int) : keq (.int .i64 a) (.int .i64 b) = decide (a = b) := rfl

theorem Rel.reset {x : XS} {y : YS} (h : Rel x y) (i : Int) : (reset x i).1 = (resetY y i).1 ∧ Rel (reset x i).2 (resetY y i).2 := by
  have hn := h.n
  unfold Wk.L14.reset resetY
  by_cases h1 : i < 0
  · have p1 : ¬ i ≥ 0 := by omega
    rw [if_pos h1, if_neg p1]; exact ⟨rfl, h⟩
  have p1 : i ≥ 0 := by omega
  by_cases h2 : i ≥ (x.n : Int)
  · have p2 : ¬ i < (y.n : Int) := by omega
    rw [if_neg h1, if_pos h2, if_pos p1, if_neg p2]; exact ⟨rfl, h⟩
  have p2 : i < (y.n : Int) := by omega
  rw [if_neg h1, if_neg h2, if_pos p1, if_pos p2, h.set]
  by_cases h3 : x.set.getD i.toNat false = true
  · rw [if_pos h3, if_pos h3]
    refine ⟨rfl, ?_⟩
    obtain ⟨k, rfl⟩ : ∃ k : Nat, i = (k : Int) := ⟨i.toNat, by omega⟩
    simp only [Int.toNat_natCast] at h3 ⊢
    have hk : k < x.n := by omega
    obtain ⟨⟨x0, x1, x2, x3, x4, x5, x6⟩, ⟨y0, y1, y2, y3, y4, y5, y6, y7⟩, _, hg, hs, ha, hf, hgr, hz⟩ := h
    have sx : ∀ j, (x.set.set k false).getD j false = if k = j ∧ j < x.n then false else x.set.getD j false := fun j => by rw [getD_set, x2]
    have sf : ∀ j, (y.first.set k false).getD j false = if k = j ∧ j < x.n then false else y.first.getD j false := fun j => by rw [getD_set, y7, hn]
    obtain ⟨A, hA⟩ : ∃ A : Int → Bool, ∀ g, x.has (.int .i64 g) = A g := ⟨_, fun _ => rfl⟩
    obtain ⟨F, hF⟩ : ∃ F : Int → Int, ∀ g, x.f (.int .i64 g) = F g := ⟨_, fun _ => rfl⟩
    obtain ⟨gk, hgk⟩ : ∃ gk, x.group.getD k 0 = gk := ⟨_, rfl⟩
    simp only [hA, hF] at x6 hgr hz
    simp only [shF, hA, hF, Int.toNat_natCast] at hf
    have hn' : ∀ g, (clr x k (A gk && F gk == (k : Int))).has (.int .i64 g) = (A g && !(A gk && F gk == (k : Int) && decide (g = gk))) := fun g => by
      simp only [clr, Int.toNat_natCast, hgk]
      cases hm : (A gk && F gk == (k : Int)) <;> simp [keq_int, hA]
    have hf' : ∀ g, (clr x k (A gk && F gk == (k : Int))).f (.int .i64 g) = bif (A gk && F gk == (k : Int) && decide (g = gk)) then 0 else F g := fun g => by
      simp only [clr, Int.toNat_natCast, hgk]
      cases hm : (A gk && F gk == (k : Int)) <;> simp [keq_int, hF]
    simp only [hA, hF, hgk]
    constructor
    case xok =>
      refine ⟨x0, x1, by simp only [clr, List.length_set]; exact x2, by simp only [clr, List.length_set]; exact x3, by simp only [clr, List.length_set]; exact x4, x5, fun g => ?_⟩
      rw [hn', hf']
      intro hh
      have := x6 g
      show 0 ≤ _ ∧ _ < (x.n : Int)
      clear hf hgr hz sx sf x6 hn' hf'
      grind
    case yok => constructor <;> simp only [List.length_set] <;> omega
    case first =>
      intro j hj
      have hj' : j < x.n := hj
      have := hf j hj'
      simp only [shF, Int.toNat_natCast]
      rw [sf, hn', hf', this]
      show _ = (A (x.group.getD j 0) && _ && _)
      show _ = (A (x.group.getD j 0) && !(A gk && F gk == (k : Int) && decide (x.group.getD j 0 = gk)) && (bif (A gk && F gk == (k : Int) && decide (x.group.getD j 0 = gk)) then 0 else F (x.group.getD j 0)) == (j : Int))
      clear hf hgr hz sx sf x6 hn' hf' this
      by_cases e : k = j
      · subst e; rw [hgk]; grind
      · by_cases e2 : x.group.getD j 0 = gk
        · rw [e2]; grind
        · grind
    case grp =>
      intro g
      rw [hn', hf']
      have := hgr g
      have := x6 g
      show _ → g ≠ 0 ∧ x.group.getD _ 0 = g ∧ (x.set.set k false).getD _ false = true
      rw [sx]
      clear hf hgr hz sx sf x6 hn' hf'
      grind
    case z =>
      intro g
      rw [hn', hf']
      have := hz g
      clear hf hgr hz sx sf x6 hn' hf'
      grind
    case set => simp only [clr, hs, Int.toNat_natCast]
    case at_ => simp only [clr, ha, Int.toNat_natCast]
    case g => exact hg
    case n => exact hn
  · rw [if_neg h3, if_neg h3]; exact ⟨rfl, h⟩

theorem Rel.trip {x : XS} {y : YS} (h : Rel x y) (i now : Int) : (trip x i now).1 = (tripY y i now).1 ∧ Rel (trip x i now).2 (tripY y i now).2 := by
  have hn := h.n
  have hfy := h.firstY
  unfold Wk.L14.trip tripY
  by_cases h1 : i < 0
  · have p1 : ¬ i ≥ 0 := by omega
    rw [if_pos h1, if_neg p1]; exact ⟨rfl, h⟩
  have p1 : i ≥ 0 := by omega
  by_cases h2 : i ≥ (x.n : Int)
  · have p2 : ¬ i < (y.n : Int) := by omega
    rw [if_neg h1, if_pos h2, if_pos p1, if_neg p2]; exact ⟨rfl, h⟩
  have p2 : i < (y.n : Int) := by omega
  rw [if_neg h1, if_neg h2, if_pos p1, if_pos p2, h.set]
  by_cases h3 : x.set.getD i.toNat false = true
  · rw [if_pos h3, if_pos h3]; exact ⟨rfl, h⟩
  rw [if_neg h3, if_neg h3]
  refine ⟨rfl, ?_⟩
  obtain ⟨k, rfl⟩ : ∃ k : Nat, i = (k : Int) := ⟨i.toNat, by omega⟩
  simp only [Int.toNat_natCast] at h3
  have h3 : x.set.getD k false = false := by simpa using h3
  have hk : k < x.n := by omega
  obtain ⟨⟨x0, x1, x2, x3, x4, x5, x6⟩, ⟨y0, y1, y2, y3, y4, y5, y6, y7⟩, _, hg, hs, ha, hf, hgr, hz⟩ := h
  obtain ⟨A, hA⟩ : ∃ A : Int → Bool, ∀ g, x.has (.int .i64 g) = A g := ⟨_, fun _ => rfl⟩
  obtain ⟨F, hF⟩ : ∃ F : Int → Int, ∀ g, x.f (.int .i64 g) = F g := ⟨_, fun _ => rfl⟩
  obtain ⟨gk, hgk⟩ : ∃ gk, x.group.getD k 0 = gk := ⟨_, rfl⟩
  simp only [hA, hF] at x6 hgr hz hfy
  simp only [shF, hA, hF, Int.toNat_natCast] at hf
  -- is anyone else of the group set?
  obtain ⟨o, ho⟩ : ∃ o, (anyN x.n fun j => x.set.getD j false && x.group.getD j 0 == gk) = o := ⟨_, rfl⟩
  have hoA : o = false → A gk = false := fun h => by
    cases hA' : A gk with
    | false => rfl
    | true =>
      obtain ⟨q0, q1, q2⟩ := hgr gk hA'
      obtain ⟨r0, r1⟩ := x6 gk hA'
      rw [h] at ho
      have := anyN_not.1 ho (F gk).toNat (by omega)
      rw [q1, q2] at this
      simp at this
  have hmy : moveY y k now = (A gk && (x.at_.getD (F gk).toNat 0 == now && decide (F gk > (k : Int)))) := by
    simp only [moveY, Int.toNat_natCast, hg, hgk, (hfy gk).1, (hfy gk).2, ha]
  obtain ⟨mv, hmv⟩ : ∃ mv, (A gk && (x.at_.getD (F gk).toNat 0 == now && decide (F gk > (k : Int)))) = mv := ⟨_, rfl⟩
  have hm : mark x k now = ((gk != 0) && (!o || mv)) := by
    simp only [mark, Int.toNat_natCast, hgk, hA, hF, ho, getD_set]
    rw [← hmv]
    by_cases e : F gk > (k : Int)
    · have e2 : ¬ (k = (F gk).toNat ∧ (F gk).toNat < x.at_.length) := by omega
      rw [if_neg e2]
      simp only [e, decide_true, Bool.true_and, Bool.and_true]
    · simp only [e, decide_false, Bool.false_and, Bool.and_false]
  rw [hm]
  have ho' : (anyN y.n fun j => y.set.getD j false && y.g.getD j 0 == y.g.getD (k : Int).toNat 0) = o := by
    rw [hn, hs, hg, Int.toNat_natCast, hgk]; exact ho
  have hP : putY y k now = { y with set := y.set.set k true, at_ := y.at_.set k now, first := (bif mv then y.first.set (F gk).toNat false else y.first).set k ((mv || !o) && (gk != 0)) } := by
    simp only [putY, hmy, hmv, ho', (hfy gk).2]
    simp only [Int.toNat_natCast, hg, hgk, (hfy gk).2]
  rw [hP]
  obtain ⟨m, hm'⟩ : ∃ m, ((gk != 0) && (!o || mv)) = m := ⟨_, rfl⟩
  have hm2 : ((mv || !o) && (gk != 0)) = m := by rw [← hm', Bool.and_comm, Bool.or_comm]
  rw [hm', hm2]
  have hn' : ∀ g, (put x k now m).has (.int .i64 g) = ((m && decide (g = gk)) || A g) := fun g => by
    simp only [put, Int.toNat_natCast, hgk]
    cases m <;> simp [keq_int, hA]
  have hf' : ∀ g, (put x k now m).f (.int .i64 g) = bif (m && decide (g = gk)) then (k : Int) else F g := fun g => by
    simp only [put, Int.toNat_natCast, hgk]
    cases m <;> simp [keq_int, hF]
  have sx : ∀ j, (x.set.set k true).getD j false = if k = j ∧ j < x.n then true else x.set.getD j false := fun j => by rw [getD_set, x2]
  have hmvA : mv = true → A gk = true ∧ F gk > (k : Int) := fun h => by
    rw [h] at hmv; simp only [Bool.and_eq_true, decide_eq_true_eq] at hmv; exact ⟨hmv.1, hmv.2.2⟩
  have hFk : A gk = true → F gk ≠ (k : Int) := fun h e => by
    have := (hgr gk h).2.2
    rw [e, Int.toNat_natCast, h3] at this; cases this
  constructor
  case xok =>
    refine ⟨x0, x1, by simp only [put, List.length_set]; exact x2, by simp only [put, List.length_set]; exact x3, x4, x5, fun g => ?_⟩
    rw [hn', hf']
    intro hh
    have := x6 g
    show 0 ≤ _ ∧ _ < (x.n : Int)
    clear hf hgr hz sx x6 hn' hf' hfy ho ho' hA hF
    grind
  case yok => constructor <;> simp only [List.length_set] <;> first | omega | (cases mv <;> simp only [cond_true, cond_false, List.length_set] <;> omega)
  case first =>
    intro j hj
    have hj' : j < x.n := hj
    have this := hf j hj'
    have hgj := hgr (x.group.getD j 0)
    have hgj2 := x6 (x.group.getD j 0)
    have hgg := hgr gk
    have hgg2 := x6 gk
    simp only [shF, Int.toNat_natCast]
    rw [hn', hf']
    show _ = (((m && decide (x.group.getD j 0 = gk)) || A (x.group.getD j 0)) && (bif (m && decide (x.group.getD j 0 = gk)) then (k : Int) else F (x.group.getD j 0)) == (j : Int))
    have e1 : ((bif mv then y.first.set (F gk).toNat false else y.first).set k m).getD j false = if k = j then m else if mv = true ∧ (F gk).toNat = j then false else y.first.getD j false := by
      rw [getD_set]
      cases mv with
      | true => simp only [cond_true, List.length_set, y7, hn, hj', and_true, getD_set, true_and]
      | false => simp [y7, hn, hj']
    rw [e1, this]
    clear hf hgr hz sx x6 hn' hf' hfy ho ho' hA hF hP e1 this hm hmy
    by_cases e : k = j
    · subst e; rw [hgk]; rw [hgk] at hgj hgj2; grind
    · by_cases e2 : x.group.getD j 0 = gk
      · rw [e2]; rw [e2] at hgj hgj2; grind
      · grind
  case grp =>
    intro g
    rw [hn', hf']
    have := hgr g
    have := x6 g
    show _ → g ≠ 0 ∧ x.group.getD _ 0 = g ∧ (x.set.set k true).getD _ false = true
    rw [sx]
    clear hf hgr hz sx x6 hn' hf' hfy ho ho' hA hF hP hm hmy
    grind
  case z =>
    intro g
    rw [hn', hf']
    have := hz g
    clear hf hgr hz sx x6 hn' hf' hfy ho ho' hA hF hP hm hmy
    grind
  case set => simp only [put, hs, Int.toNat_natCast]
  case at_ => simp only [put, ha, Int.toNat_natCast]
  case g => exact hg
  case n => exact hn

theorem loadM_has (g : List Int) (first : List Bool) (v : Int) : ∀ k, (loadM g first k).1 (.int .i64 v) = anyN k fun j => first.getD j false && g.getD j 0 == v
  | 0 => rfl
  | k + 1 => by
    rw [anyN_succ, ← loadM_has g first v k, loadM]
    cases h : first.getD k false with
    | false => simp
    | true =>
      simp only [cond_true, keq_int, Bool.true_and]
      rw [Bool.or_comm]
      congr 1
      rw [Bool.eq_iff_iff]; simp only [decide_eq_true_eq, beq_iff_eq]; exact eq_comm

theorem loadM_f (g : List Int) (first : List Bool) (v : Int) : ∀ k, ((loadM g first k).1 (.int .i64 v) = true → ∃ j : Nat, j < k ∧ first.getD j false = true ∧ g.getD j 0 = v ∧ (loadM g first k).2 (.int .i64 v) = (j : Int)) ∧ ((loadM g first k).1 (.int .i64 v) = false → (loadM g first k).2 (.int .i64 v) = 0)
  | 0 => ⟨(fun h => nomatch (show false = true from h)), (fun _ => rfl)⟩
  | k + 1 => by
    obtain ⟨i1, i2⟩ := loadM_f g first v k
    rw [loadM]
    cases h : first.getD k false with
    | false =>
      simp only [cond_false]
      exact ⟨fun h => let ⟨j, a, b⟩ := i1 h; ⟨j, by omega, b⟩, i2⟩
    | true =>
      simp only [cond_true, keq_int]
      by_cases e : v = g.getD k 0
      · simp only [decide_eq_true e, Bool.true_or, cond_true]
        exact ⟨fun _ => ⟨k, by omega, h, e.symm, rfl⟩, (fun h => nomatch h)⟩
      · simp only [decide_eq_false e, Bool.false_or, cond_false]
        exact ⟨fun h => let ⟨j, a, b⟩ := i1 h; ⟨j, by omega, b⟩, i2⟩

theorem bad_eq (g : List Int) (l : LS) (k : Nat) : badX g l k = badY g l k := by
  unfold badX badY
  rw [loadM_has]
  have e : (anyN k fun j => l.first.getD k false && (l.first.getD j false && g.getD k 0 == g.getD j 0)) = (l.first.getD k false && anyN k fun j => l.first.getD j false && g.getD j 0 == g.getD k 0) := by
    cases l.first.getD k false with
    | false =>
      simp only [Bool.false_and]
      exact anyN_not.2 fun _ _ => rfl
    | true =>
      simp only [Bool.true_and]
      congr 1
      funext j
      congr 1
      rw [Bool.eq_iff_iff]; simp only [beq_iff_eq]; exact eq_comm
  rw [e]
  cases l.first.getD k false <;> simp [Bool.or_assoc]

theorem anyN_congr {n : Nat} {p q : Nat → Bool} (h : ∀ j, j < n → p j = q j) : anyN n p = anyN n q := by
  rw [Bool.eq_iff_iff, anyN_iff, anyN_iff]
  exact ⟨fun ⟨i, a, b⟩ => ⟨i, a, by rw [← h i a]; exact b⟩, fun ⟨i, a, b⟩ => ⟨i, a, by rw [h i a]; exact b⟩⟩

theorem Rel.ok {x : XS} {y : YS} (h : Rel x y) (l : LS) : loadOk x l = (decide (l.n = y.n) && !anyN y.n (badY y.g l)) := by
  unfold loadOk
  rw [h.n, h.g, anyN_congr fun j _ => bad_eq x.group l j]

theorem Rel.load {x : XS} {y : YS} (h : Rel x y) {l : LS} (hl : LOk l) (hok : loadOk x l = true) (c : Nat × Nat) : Rel (loadTo x l) { y with cap2 := c.1, room2 := c.2, set := l.set, at_ := l.at_, first := l.first } := by
  have hn := loadOk_n hok
  obtain ⟨⟨x0, x1, x2, x3, x4, x5, x6⟩, ⟨y0, y1, y2, y3, y4, y5, y6, y7⟩, hyn, hg, hs, ha, hf, hgr, hz⟩ := h
  obtain ⟨g0, g1, g2, g3, g4, g5⟩ := hl
  have hbad : ∀ k, k < x.n → badY x.group l k = false := fun k hk => by rw [← bad_eq]; exact loadOk_bad hok hk
  have hb1 : ∀ k, k < x.n → l.first.getD k false = true → l.set.getD k false = true ∧ x.group.getD k 0 ≠ 0 ∧ ∀ j, j < k → l.first.getD j false = true → x.group.getD k 0 ≠ x.group.getD j 0 := fun k hk hfk => by
    have hb := hbad k hk
    simp only [badY, Bool.or_eq_false_iff] at hb
    obtain ⟨⟨p1, p2⟩, p3⟩ := hb
    rw [hfk] at p1 p2
    refine ⟨?_, ?_, fun j hj hfj e => ?_⟩
    · cases hset : l.set.getD k false with
      | true => rfl
      | false => rw [hset] at p1; simp at p1
    · simpa using p2
    · have := anyN_not.1 p3 j hj
      rw [hfk, hfj, e] at this
      simp at this
  have hhas : ∀ g, (loadTo x l).has (.int .i64 g) = (loadM x.group l.first x.n).1 (.int .i64 g) := fun g => rfl
  have hff : ∀ g, (loadTo x l).f (.int .i64 g) = (loadM x.group l.first x.n).2 (.int .i64 g) := fun g => rfl
  have hM := fun g => loadM_f x.group l.first g x.n
  constructor
  case xok =>
    refine ⟨x0, x1, g3.trans hn, g4.trans hn, List.length_replicate, x5, fun g hh => ?_⟩
    obtain ⟨j, q1, q2, q3, q4⟩ := (hM g).1 hh
    rw [hff, q4]
    exact ⟨Int.natCast_nonneg j, Int.ofNat_lt.2 q1⟩
  case yok => exact ⟨y0, y1, y2, y3, y4, (g3.trans hn).trans hyn.symm, (g4.trans hn).trans hyn.symm, (g5.trans hn).trans hyn.symm⟩
  case n => exact hyn
  case g => exact hg
  case set => rfl
  case at_ => rfl
  case first =>
    intro k hk
    have hk : k < x.n := hk
    simp only [shF, Int.toNat_natCast]
    rw [hhas, hff]
    show l.first.getD k false = ((loadM x.group l.first x.n).1 (.int .i64 (x.group.getD k 0)) && (loadM x.group l.first x.n).2 (.int .i64 (x.group.getD k 0)) == (k : Int))
    obtain ⟨m1, m2⟩ := hM (x.group.getD k 0)
    cases hfk : l.first.getD k false with
    | true =>
      have hh : (loadM x.group l.first x.n).1 (.int .i64 (x.group.getD k 0)) = true := by
        rw [loadM_has]; exact anyN_iff.2 ⟨k, hk, by rw [hfk]; simp⟩
      obtain ⟨j, q1, q2, q3, q4⟩ := m1 hh
      have : j = k := by
        rcases Nat.lt_trichotomy j k with h | h | h
        · exact absurd q3.symm ((hb1 k hk hfk).2.2 j h q2)
        · exact h
        · exact absurd q3 ((hb1 j q1 q2).2.2 k h hfk)
      subst this
      rw [hh, q4]; simp
    | false =>
      cases hh : (loadM x.group l.first x.n).1 (.int .i64 (x.group.getD k 0)) with
      | false => rfl
      | true =>
        obtain ⟨j, q1, q2, q3, q4⟩ := m1 hh
        rw [q4]
        have : j ≠ k := fun e => by subst e; rw [hfk] at q2; cases q2
        simp; omega
  case grp =>
    intro g hh
    obtain ⟨j, q1, q2, q3, q4⟩ := (hM g).1 hh
    obtain ⟨b1, b2, _⟩ := hb1 j q1 q2
    rw [hff, q4, Int.toNat_natCast]
    exact ⟨by rw [← q3]; exact b2, q3, b1⟩
  case z => intro g hh; rw [hff]; exact (hM g).2 hh

theorem Rel.at_eq {x : XS} {y : YS} (h : Rel x y) (i : Int) : atX x i = atY y i := by
  have hin : inX x i = inY y i := by
    rw [Bool.eq_iff_iff]; simp only [inX, inY, h.n, Bool.not_eq_true', Bool.or_eq_false_iff, decide_eq_false_iff_not, Bool.and_eq_true, decide_eq_true_eq]; omega
  simp only [atX, atY, hin, h.set, h.at_]
  cases hi : inY y i with
  | false => rfl
  | true =>
    simp only [inY, Bool.and_eq_true, decide_eq_true_eq, h.n] at hi
    have e := h.first i.toNat (by omega)
    have e2 : ((i.toNat : Nat) : Int) = i := by omega
    rw [e2] at e
    rw [e]

end Go.Wk.L14
