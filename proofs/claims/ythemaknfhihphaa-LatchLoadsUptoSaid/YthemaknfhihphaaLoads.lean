/-
  LatchLoads returns true at every input, and leaves its arguments as they were; where the arguments hold at most 1048576 values and letters.
-/
import Derived.Test.YthemaknfhihphaaPlays
namespace Go.Wk.L14
open Go Go.Vs Go.Proofs
set_option linter.unusedSimpArgs false
set_option linter.unusedVariables false
set_option maxRecDepth 10000

/-! LatchLoads -/
structure XI (x : XS) : Prop where
  rel : ∃ y, Rel x y
  zs : ∀ j, j < x.n → x.set.getD j false = false → x.at_.getD j 0 = 0
theorem XI.new {g : GS} (hg : GOk g) : XI (newX g) := ⟨⟨_, new_rel hg (0, 0)⟩, fun j hj _ => by
  simp only [newX]
  rw [List.getD_eq_getElem?_getD, List.getElem?_replicate]
  split <;> rfl⟩
theorem reset_cols (x : XS) (i : Int) : (reset x i).2.group = x.group ∧ ((reset x i).2 = x ∨ (0 ≤ i ∧ i < (x.n : Int) ∧ (reset x i).2.set = x.set.set i.toNat false ∧ (reset x i).2.at_ = x.at_.set i.toNat 0)) := by
  unfold reset
  by_cases h1 : i < 0
  · rw [if_pos h1]; exact ⟨rfl, .inl rfl⟩
  · rw [if_neg h1]
    by_cases h2 : i ≥ (x.n : Int)
    · rw [if_pos h2]; exact ⟨rfl, .inl rfl⟩
    · rw [if_neg h2]
      split
      · exact ⟨rfl, .inr ⟨by omega, by omega, rfl, rfl⟩⟩
      · exact ⟨rfl, .inl rfl⟩
theorem trip_cols (x : XS) (i now : Int) : (trip x i now).2.group = x.group ∧ ((trip x i now).2 = x ∨ (0 ≤ i ∧ i < (x.n : Int) ∧ (trip x i now).2.set = x.set.set i.toNat true ∧ (trip x i now).2.at_ = x.at_.set i.toNat now)) := by
  unfold trip
  by_cases h1 : i < 0
  · rw [if_pos h1]; exact ⟨rfl, .inl rfl⟩
  · rw [if_neg h1]
    by_cases h2 : i ≥ (x.n : Int)
    · rw [if_pos h2]; exact ⟨rfl, .inl rfl⟩
    · rw [if_neg h2]
      split
      · exact ⟨rfl, .inl rfl⟩
      · exact ⟨rfl, .inr ⟨by omega, by omega, rfl, rfl⟩⟩
theorem XI.reset {x : XS} (h : XI x) (i : Int) : XI (Wk.L14.reset x i).2 := by
  obtain ⟨y, hr⟩ := h.rel
  refine ⟨⟨_, (hr.reset i).2⟩, fun j hj hs => ?_⟩
  rw [reset_n] at hj
  rcases (reset_cols x i).2 with e | ⟨h1, h2, e1, e2⟩
  · rw [e] at hs ⊢; exact h.zs j hj hs
  · rw [e1, getD_set] at hs
    rw [e2, getD_set]
    split
    · rfl
    · rename_i hne
      rw [hr.xok.set] at hs
      rw [hr.xok.at_] at hne
      rw [if_neg hne] at hs
      exact h.zs j hj hs
theorem XI.trip {x : XS} (h : XI x) (i now : Int) : XI (Wk.L14.trip x i now).2 := by
  obtain ⟨y, hr⟩ := h.rel
  refine ⟨⟨_, (hr.trip i now).2⟩, fun j hj hs => ?_⟩
  rw [trip_n] at hj
  rcases (trip_cols x i now).2 with e | ⟨h1, h2, e1, e2⟩
  · rw [e] at hs ⊢; exact h.zs j hj hs
  · rw [e1, getD_set, hr.xok.set] at hs
    rw [e2, getD_set, hr.xok.at_]
    split at hs
    · cases hs
    · rename_i hne
      rw [if_neg hne]
      exact h.zs j hj hs

abbrev allL (x : XS) (b : Bool) (cap room : Nat) : LS := ⟨b && decide (x.n = 0), true, cap, room, x.n, x.n, x.set, x.at_, tab x.n fun j => shF x j⟩
theorem XI.ok {x : XS} (h : XI x) {g : GS} (hn : x.n = g.n) (hgr : x.group = g.g) (b : Bool) (cap room : Nat) : loadOk (newX g) (allL x b cap room) = true := by
  obtain ⟨y, hr⟩ := h.rel
  refine loadOk_of hn (anyN_not.2 fun k hk => ?_)
  have hk : k < x.n := by rw [hn]; exact hk
  rw [bad_eq]
  show badY g.g (allL x b cap room) k = false
  rw [← hgr]
  have hf : (tab x.n fun j => shF x j).getD k false = shF x k := tab_getD _ _ hk
  simp only [badY, hf]
  cases hs : shF x k with
  | false =>
    simp only [Bool.false_and, Bool.or_false, Bool.not_false, Bool.and_true]
    have e : (anyN k fun _ => false) = false := anyN_not.2 fun _ _ => rfl
    rw [e, Bool.or_false]
    cases hset : x.set.getD k false with
    | true => rfl
    | false => rw [h.zs k hk hset]; rfl
  | true =>
    simp only [shF, Int.toNat_natCast, Bool.and_eq_true, beq_iff_eq] at hs
    obtain ⟨g0, g1, g2⟩ := hr.grp _ hs.1
    rw [hs.2, Int.toNat_natCast] at g1 g2
    rw [g2]
    have e0 : (x.group.getD k 0 == 0) = false := by simpa using g0
    rw [e0]
    simp only [Bool.true_and, Bool.not_true, Bool.false_and, Bool.false_or, Bool.and_false]
    refine anyN_not.2 fun j hj => ?_
    have hf2 : (tab x.n fun j => shF x j).getD j false = shF x j := tab_getD _ _ (by omega)
    rw [hf2]
    cases hsj : shF x j with
    | false => rfl
    | true =>
      simp only [shF, Int.toNat_natCast, Bool.and_eq_true, beq_iff_eq] at hsj
      simp only [Bool.true_and, beq_eq_false_iff_ne]
      intro e
      rw [← e, hs.2] at hsj
      omega

theorem Rel.same_load {x : XS} {y : YS} (h : Rel x y) {l : LS} (hl : LOk l) (hok : loadOk x (oL (some l)) = true) (nl rw : Bool) (cap room n' m' : Nat) : sameB (loadTo x l).n ⟨nl, rw, cap, room, n', m', (loadTo x l).set, (loadTo x l).at_, tab (loadTo x l).n fun j => shF (loadTo x l) j⟩ l = true :=
  (h.load' hl hok (0, 0)).same_eq nl rw l.nl l.rw cap room n' m' l.cap l.room l.n l.m
def EX (x : XS) : Prop := ∃ y, Rel x y
theorem XI.ex {x : XS} (h : XI x) : EX x := h.rel
theorem EX.xok {x : XS} (h : EX x) : XOk x := let ⟨_, h⟩ := h; h.xok
theorem EX.lok {x : XS} (h : EX x) (b : Bool) (cap room : Nat) : LOk (allL x b cap room) := let ⟨_, h⟩ := h; h.lokX b cap room
theorem EX.load {x : XS} (h : EX x) {l : LS} (hl : LOk l) (hok : loadOk x (oL (some l)) = true) : EX (loadTo x l) := let ⟨_, h⟩ := h; ⟨_, h.load' hl hok (0, 0)⟩
theorem EX.same {x : XS} (h : EX x) {l : LS} (hl : LOk l) (hok : loadOk x (oL (some l)) = true) (b : Bool) (cap room : Nat) : sameB (loadTo x l).n (allL (loadTo x l) b cap room) l = true := let ⟨_, h⟩ := h; h.same_load hl hok _ _ _ _ _ _
theorem load_n {x : XS} {l : LS} (hok : loadOk x (oL (some l)) = true) : (loadTo x l).n = l.n := (loadOk_n (l := l) hok).symm
theorem EX.no_same {x : XS} (h : EX x) {l : LS} (hl : LOk l) (hok : loadOk x (oL (some l)) = true) {b : Bool} {cap room : Nat} (hn : (decide ((loadTo x l).n = l.n) && sameB (loadTo x l).n (allL (loadTo x l) b cap room) l) = false) : False := by
  rw [h.same hl hok, decide_eq_true (load_n hok)] at hn; cases hn
theorem EX.new {g : GS} (hg : GOk g) : EX (newX g) := ⟨_, new_rel hg (0, 0)⟩
theorem XI.no_ok {x : XS} (h : XI x) {g : GS} (hn : x.n = g.n) (hgr : x.group = g.g) {b : Bool} {cap room : Nat} (hf : loadOk (newX g) (oL (some (allL x b cap room))) = false) : False := by
  have e := h.ok hn hgr b cap room
  rw [show loadOk (newX g) (allL x b cap room) = false from hf] at e; cases e

structure LX where
  k : Nat
  x : XS
noncomputable def LLoads (g : GS) (o : OL) (l : LS) : Loops := fun body s => match loopId body with
  | _ => some (mkLI Try.f4 body s (X := LX) ⟨0, newX g⟩ [0, 1, 2, 3, 4, 5, 6, 7, 8] (fun a => a.k ≤ o.n ∧ XI a.x ∧ a.x.n = g.n ∧ a.x.group = g.g) (fun a => o.n - a.k) (fun a => [(10, iv a.k)])
        (fun a => [some (gO g), some (pO o), some (lsO l), some (xcellA a.x 4 5), some (xarr a.x), some (xmap a.x), some (xcellA (newX g) 7 8), some (xarr (newX g)), some (xmap (newX g))])
        (fun a s' => match fndX 3 s'.heap with | some (x, [_, p, q]) => some (⟨a.k + 1, x⟩, [0, 1, 2, 3, p, q, 6, 7, 8]) | _ => none))
set_option maxRecDepth 100000 in
theorem loads_nf (g : GS) (o : OL) (l : LS) : (fnV Try.prog Γa (LLoads g o l) Try.f4 [gV g 0, pV o 1, lsV l 2] [some (gO g), some (pO o), some (lsO l)] fun (v : AV) (x : AHeap) => v = bv true) = (True ∧
  ∀ (x : Unit),
    GOk g ∧
      ∀ (x : Unit),
        let q := LX.mk 0 (newX g);
        GOk g ∧
          ∀ (x : Unit),
            let q_1 := LX.x q;
            let q_2 := decide ((↑(LS.n l) : Int) > 60);
            (GOk g ∧ OOk (OS.mk (OL.nl o) (OL.rw o) (OL.cap o) (OL.room o) (OL.n o) (OL.m o) (OL.w o) (OL.is o) (OL.nows o) (OL.nf o) (OL.hd o) fun (i : Nat) => [Col.bool (OL.cs o i), Col.int IntKind.i64 (OL.ca o i), Col.bool (OL.cf o i)])) ∧
              ∀ (x : Bool),
                let q_3 := AO.arr (OL.rw o) 32 (OL.room o) (OL.m o) [Col.int IntKind.i64 (OL.w o), Col.int IntKind.i64 (OL.is o), Col.int IntKind.i64 (OL.nows o), Col.far (OL.nf o) 37 3 (OL.hd o) fun (i : Nat) => [Col.bool (OL.cs o i), Col.int IntKind.i64 (OL.ca o i), Col.bool (OL.cf o i)]];
                let q_4 := AO.arr true 50 (XS.room (newX g)) (XS.m (newX g)) [Col.bool (XS.set (newX g)), Col.int IntKind.i64 (XS.at_ (newX g)), Col.bool (XS.first (newX g)), Col.int IntKind.i64 (XS.group (newX g))];
                let q_5 := AO.arr (LS.rw l) 37 (LS.room l) (LS.m l) [Col.bool (LS.set l), Col.int IntKind.i64 (LS.at_ l), Col.bool (LS.first l)];
                let q_6 := AO.cells true 48 [AV.sl false 7 4 0 (XS.n (newX g)) (XS.cap (newX g)), AV.mp 8];
                let q_7 := AO.arr true 50 (XS.room q_1) (XS.m q_1) [Col.bool (XS.set q_1), Col.int IntKind.i64 (XS.at_ q_1), Col.bool (XS.first q_1), Col.int IntKind.i64 (XS.group q_1)];
                let q_8 := AO.arr (GS.rw g) 3 (GS.room g) (GS.m g) [Col.int IntKind.i64 (GS.g g)];
                let q_9 := AV.val (Value.bool q_2);
                let q_10 := AO.mapc true (KD.int IntKind.i64) false (XS.has (newX g)) [MCol.int IntKind.i64 (XS.f (newX g))];
                let q_11 := AV.sl (OL.nl o) 1 4 0 (OL.n o) (OL.cap o);
                let q_12 := AV.sl (GS.nl g) 0 1 0 (GS.n g) (GS.cap g);
                let q_13 := AV.sl (LS.nl l) 2 3 0 (LS.n l) (LS.cap l);
                let q_14 := q_1;
                let q_15 := AV.val (Value.bool true) = AV.val (Value.bool true);
                let q_16 := AV.ptr 3 0;
                let q_17 := AV.ptr 6 0;
                let q_18 := [AV.mp 5];
                let q_19 := AV.val (Value.bool false) = AV.val (Value.bool false);
                Bif x q_15
                  (Bif q_2 q_15
                    (((0 ≤ OL.n o ∧ XI (XS.mk (GS.n g) (GS.n g) (GS.n g) (GS.n g) (List.replicate (GS.n g) false) (List.replicate (GS.n g) 0) (List.replicate (GS.n g) false) (GS.g g) (fun (x : Value) => false) fun (x : Value) => 0) ∧ XS.n q_14 = GS.n g ∧ XS.group q_14 = GS.g g) ∧ (AV.val (Value.int IntKind.i64 0) = AV.val (Value.int IntKind.i64 (↑(LX.k q) : Int)) ∧ q_9 = q_9 ∧ q_17 = q_17 ∧ q_16 = q_16 ∧ q_15 ∧ q_19 ∧ q_12 = q_12 ∧ q_11 = q_11 ∧ q_13 = q_13 ∧ True) ∧ Bif (AO.deadB q_8) True (q_8 = q_8) ∧ Bif (AO.deadB q_3) True (q_3 = q_3) ∧ Bif (AO.deadB q_5) True (q_5 = q_5) ∧ AO.cells true 48 (AV.sl false 4 4 0 (XS.n (newX g)) (XS.cap (newX g)) :: q_18) = AO.cells true 48 (AV.sl false 4 4 0 (XS.n q_14) (XS.cap q_14) :: q_18) ∧ Bif (AO.deadB q_7) True (q_4 = q_7) ∧ q_10 = AO.mapc true (KD.int IntKind.i64) false (XS.has q_14) [MCol.int IntKind.i64 (XS.f q_14)] ∧ q_6 = q_6 ∧ Bif (AO.deadB q_4) True (q_4 = q_4) ∧ q_10 = q_10 ∧ True) ∧
                      ∀ (x : LX),
                        let q := 0 + Int.toNat (↑(LX.k x) : Int);
                        let q_20 := List.getD (OL.is o) q 0;
                        LX.k x ≤ OL.n o ∧ XI (LX.x x) ∧ XS.n (LX.x x) = GS.n g ∧ XS.group (LX.x x) = GS.g g →
                          let q_21 := decide (q < OL.m o);
                          let q_22 := q_3;
                          let q_23 := Prod.snd (trip (LX.x x) q_20 (List.getD (OL.nows o) q 0));
                          let q_24 := q_6;
                          let q_25 := !OL.nl o && (inR (↑(LX.k x) : Int) (OL.n o) && q_21);
                          let q_26 := LX.k x + 1;
                          let q_27 := q_4;
                          let q_28 := Prod.snd (reset (LX.x x) q_20);
                          let q_29 := q_5;
                          let q_30 := q_9;
                          let q_31 := q_11;
                          let q_32 := q_12;
                          let q_33 := q_13;
                          let q_34 := AV.val (Value.int IntKind.i64 (IntKind.wrap IntKind.i64 ((↑(LX.k x) : Int) + 1)));
                          let q_35 := q_8;
                          let q_36 := q_10;
                          let q_37 := q_16;
                          let q_38 := OL.n o - LX.k x;
                          let q_39 := q_17;
                          let q_40 := q_18;
                          let q_41 := q_15;
                          let q_42 := q_19;
                          Bif (decide ((↑(LX.k x) : Int) < (↑(OL.n o) : Int)))
                            (Bif q_25
                              (Bif q_21
                                (Bif (List.getD (OL.w o) q 0 == 3)
                                  (Bif q_25
                                    (Bif q_21
                                      (XOk (LX.x x) ∧
                                        ∀ (x : Unit),
                                          let q := LX.x (LX.mk q_26 q_28);
                                          let q_43 := q_28;
                                          let q_44 := q_22;
                                          let q_45 := q_27;
                                          let q_46 := q_29;
                                          let q_47 := q_24;
                                          let q_48 := q_35;
                                          let q_49 := AO.arr true 50 (XS.room q) (XS.m q) [Col.bool (XS.set q), Col.int IntKind.i64 (XS.at_ q), Col.bool (XS.first q), Col.int IntKind.i64 (XS.group q)];
                                          let q_50 := LX.k (LX.mk q_26 q_43);
                                          let q_51 := q_30;
                                          let q_52 := q_31;
                                          let q_53 := q_32;
                                          let q_54 := q_33;
                                          let q_55 := q_36;
                                          let q_56 := q_37;
                                          let q_57 := q_39;
                                          let q_58 := q_40;
                                          (q_50 ≤ OL.n o ∧ XI q ∧ XS.n q = GS.n g ∧ XS.group q = GS.g g) ∧ OL.n o - q_50 < q_38 ∧ (q_34 = AV.val (Value.int IntKind.i64 (↑q_50 : Int)) ∧ q_51 = q_51 ∧ q_57 = q_57 ∧ q_56 = q_56 ∧ q_41 ∧ q_42 ∧ q_53 = q_53 ∧ q_52 = q_52 ∧ q_54 = q_54 ∧ True) ∧ Bif (AO.deadB q_48) True (q_48 = q_48) ∧ Bif (AO.deadB q_44) True (q_44 = q_44) ∧ Bif (AO.deadB q_46) True (q_46 = q_46) ∧ AO.cells true 48 (AV.sl false 4 4 0 (XS.n q_43) (XS.cap q_43) :: q_58) = AO.cells true 48 (AV.sl false 4 4 0 (XS.n q) (XS.cap q) :: q_58) ∧ Bif (AO.deadB q_49) True (AO.arr true 50 (XS.room q_43) (XS.m q_43) [Col.bool (XS.set q_43), Col.int IntKind.i64 (XS.at_ q_43), Col.bool (XS.first q_43), Col.int IntKind.i64 (XS.group q_43)] = q_49) ∧ AO.mapc true (KD.int IntKind.i64) false (XS.has q_43) [MCol.int IntKind.i64 (XS.f q_43)] = AO.mapc true (KD.int IntKind.i64) false (XS.has q) [MCol.int IntKind.i64 (XS.f q)] ∧ q_47 = q_47 ∧ Bif (AO.deadB q_45) True (q_45 = q_45) ∧ q_55 = q_55 ∧ True)
                                      False)
                                    False)
                                  (Bif q_25
                                    (Bif q_21
                                      (Bif q_25
                                        (Bif q_21
                                          (XOk (LX.x x) ∧
                                            ∀ (x : Unit),
                                              let q := LX.x (LX.mk q_26 q_23);
                                              let q_43 := q_23;
                                              let q_44 := q_22;
                                              let q_45 := q_27;
                                              let q_46 := q_29;
                                              let q_47 := q_24;
                                              let q_48 := q_35;
                                              let q_49 := AO.arr true 50 (XS.room q) (XS.m q) [Col.bool (XS.set q), Col.int IntKind.i64 (XS.at_ q), Col.bool (XS.first q), Col.int IntKind.i64 (XS.group q)];
                                              let q_50 := LX.k (LX.mk q_26 q_43);
                                              let q_51 := q_30;
                                              let q_52 := q_31;
                                              let q_53 := q_32;
                                              let q_54 := q_33;
                                              let q_55 := q_36;
                                              let q_56 := q_37;
                                              let q_57 := q_39;
                                              let q_58 := q_40;
                                              (q_50 ≤ OL.n o ∧ XI q ∧ XS.n q = GS.n g ∧ XS.group q = GS.g g) ∧ OL.n o - q_50 < q_38 ∧ (q_34 = AV.val (Value.int IntKind.i64 (↑q_50 : Int)) ∧ q_51 = q_51 ∧ q_57 = q_57 ∧ q_56 = q_56 ∧ q_41 ∧ q_42 ∧ q_53 = q_53 ∧ q_52 = q_52 ∧ q_54 = q_54 ∧ True) ∧ Bif (AO.deadB q_48) True (q_48 = q_48) ∧ Bif (AO.deadB q_44) True (q_44 = q_44) ∧ Bif (AO.deadB q_46) True (q_46 = q_46) ∧ AO.cells true 48 (AV.sl false 4 4 0 (XS.n q_43) (XS.cap q_43) :: q_58) = AO.cells true 48 (AV.sl false 4 4 0 (XS.n q) (XS.cap q) :: q_58) ∧ Bif (AO.deadB q_49) True (AO.arr true 50 (XS.room q_43) (XS.m q_43) [Col.bool (XS.set q_43), Col.int IntKind.i64 (XS.at_ q_43), Col.bool (XS.first q_43), Col.int IntKind.i64 (XS.group q_43)] = q_49) ∧ AO.mapc true (KD.int IntKind.i64) false (XS.has q_43) [MCol.int IntKind.i64 (XS.f q_43)] = AO.mapc true (KD.int IntKind.i64) false (XS.has q) [MCol.int IntKind.i64 (XS.f q)] ∧ q_47 = q_47 ∧ Bif (AO.deadB q_45) True (q_45 = q_45) ∧ q_55 = q_55 ∧ True)
                                          False)
                                        False)
                                      False)
                                    False))
                                False)
                              False)
                            (XOk (LX.x x) ∧
                              ∀ (x_2 : Bool × Nat × Nat),
                                let q := LS.mk (Prod.fst x_2 && decide (XS.n (LX.x x) = 0)) true (Prod.fst (Prod.snd x_2)) (Prod.snd (Prod.snd x_2)) (XS.n (LX.x x)) (XS.n (LX.x x)) (XS.set (LX.x x)) (XS.at_ (LX.x x)) (tab (XS.n (LX.x x)) fun (j : Nat) => shF (LX.x x) (↑j : Int));
                                let q_43 := AV.val (Value.bool false) = AV.val (Value.bool true);
                                (XOk (newX g) ∧ LOk q) ∧
                                  Bif (LoadS.match_1 (fun (x : XS × Option LS) => Bool) (newX g, some q) fun (x : XS) (l : Option LS) => loadOk x (oL l))
                                    (∀ (x : Unit),
                                      let q_44 := XS.n (loadTo (newX g) q);
                                      let q_45 := loadTo (newX g) q;
                                      let q := q;
                                      XOk (loadTo (XS.mk (XS.n (newX g)) (XS.m (newX g)) (XS.cap (newX g)) (XS.room (newX g)) (XS.set (newX g)) (XS.at_ (newX g)) (XS.first (newX g)) (XS.group (newX g)) (XS.has (newX g)) (XS.f (newX g))) q) ∧
                                        ∀ (x : Bool × Nat × Nat),
                                          let q_46 := LS.mk (Prod.fst x && decide (q_44 = 0)) true (Prod.fst (Prod.snd x)) (Prod.snd (Prod.snd x)) q_44 q_44 (XS.set q_45) (XS.at_ q_45) (tab q_44 fun (j : Nat) => shF q_45 (↑j : Int));
                                          let q := q;
                                          (LOk q_46 ∧ LOk q) ∧
                                            ∀ (x_3 : Unit),
                                              let q_47 := LS.n q_46;
                                              let q_48 := loadTo (newX g) q;
                                              let q := q;
                                              Bif (!(decide (q_47 = LS.n q) && sameB q_47 (LS.mk (Prod.fst x && decide (XS.n q_48 = 0)) true (Prod.fst (Prod.snd x)) (Prod.snd (Prod.snd x)) (XS.n q_48) (XS.n q_48) (XS.set q_48) (XS.at_ q_48) (tab (XS.n q_48) fun (j : Nat) => shF q_48 (↑j : Int))) q)) q_43
                                                ((XOk q_48 ∧ LOk l) ∧
                                                  Bif (LoadS.match_1 (fun (x : XS × Option LS) => Bool) (q_48, some l) fun (x : XS) (l : Option LS) => loadOk x (oL l))
                                                    (∀ (x : Unit),
                                                      let q := loadTo q_48 l;
                                                      XOk q ∧
                                                        ∀ (x : Bool × Nat × Nat),
                                                          let q_49 := LS.mk (Prod.fst x && decide (XS.n q = 0)) true (Prod.fst (Prod.snd x)) (Prod.snd (Prod.snd x)) (XS.n q) (XS.n q) (XS.set q) (XS.at_ q) (tab (XS.n q) fun (j : Nat) => shF q (↑j : Int));
                                                          let q := q;
                                                          (LOk q_49 ∧ LOk l) ∧
                                                            ∀ (x_4 : Unit),
                                                              let q_50 := LS.n q_49;
                                                              let q_51 := XS.n q;
                                                              let q := q;
                                                              AV.val (Value.bool (decide (q_50 = LS.n l) && sameB q_50 (LS.mk (Prod.fst x && decide (q_51 = 0)) true (Prod.fst (Prod.snd x)) (Prod.snd (Prod.snd x)) q_51 q_51 (XS.set q) (XS.at_ q) (tab q_51 fun (j : Nat) => shF q (↑j : Int))) l)) = AV.val (Value.bool true))
                                                    (∀ (x : Unit),
                                                      let q_49 := XS.n q_48;
                                                      let q_50 := q_48;
                                                      XOk q_50 ∧
                                                        ∀ (x : Bool × Nat × Nat),
                                                          let q_51 := LS.mk (Prod.fst x && decide (q_49 = 0)) true (Prod.fst (Prod.snd x)) (Prod.snd (Prod.snd x)) q_49 q_49 (XS.set q_50) (XS.at_ q_50) (tab q_49 fun (j : Nat) => shF q_50 (↑j : Int));
                                                          let q := q;
                                                          (LOk q_51 ∧ LOk q) ∧
                                                            ∀ (x_4 : Unit),
                                                              let q_52 := LS.n q_51;
                                                              let q_53 := XS.n (loadTo (newX g) q);
                                                              let q_54 := loadTo (newX g) q;
                                                              let q_55 := LS.n q;
                                                              AV.val (Value.bool (decide (q_52 = q_55) && sameB q_52 (LS.mk (Prod.fst x && decide (q_53 = 0)) true (Prod.fst (Prod.snd x)) (Prod.snd (Prod.snd x)) q_53 q_53 (XS.set q_54) (XS.at_ q_54) (tab q_53 fun (j : Nat) => shF q_54 (↑j : Int))) q)) = AV.val (Value.bool true))))
                                    (∀ (x : Unit), q_43))))) := by kernel_rfl
set_option maxHeartbeats 4000000 in
theorem loads_vc (g : GS) (o : OL) (l : LS) (hg : GOk g) (ho : POk o) (hl : LOk l) : FnV Try.prog Γa (LLoads g o l) Try.f4 [gV g 0, pV o 1, lsV l 2] [some (gO g), some (pO o), some (lsO l)] (fun v _ => v = bv true) := by
  have hn := XI.new hg
  have hook := ho.ook
  have hg0 := hg
  obtain ⟨o1, o2, o3, o4, o5, o6, o7, o8, o9, o10⟩ := ho
  obtain ⟨g1, g2, g3, g4⟩ := hg
  have e0 := EX.new hg0
  refine FnV.of (loads_nf _ _ _) ?_
  simp only [Bif_need, Bif_True]
  simp only [Bif_iff, eq_self, and_true, true_and, AV.val.injEq, AV.agg.injEq, AV.tup.injEq, AV.sl.injEq, AV.ptr.injEq, AV.mp.injEq, Value.int.injEq, Value.bool.injEq, Value.string.injEq, AO.cells.injEq, AO.arr.injEq, AO.mapc.injEq, List.cons.injEq, Col.bool.injEq, Col.int.injEq, Col.str.injEq, MCol.int.injEq, MCol.bool.injEq, MCol.str.injEq, decide_eq_true_eq, decide_eq_false_iff_not, Nat.zero_add, Nat.add_zero, implies_true, Bool.and_eq_true, inR_iff, List.drop_zero, List.take_nil, List.drop_nil, List.nil_append, Int.toNat_natCast, longEnough, colLen, Bool.not_true, Bool.not_false, Bool.true_or, Bool.or_eq_true, Bool.not_eq_true', Bool.not_eq_false', take_take_self, take_tab, one_col, tab_length, mix_length, List.length_take, Nat.min_eq_left, List.set_cons_zero, blt01, Bool.and_false, Bool.and_true, Bool.false_and, Bool.true_and, Bool.false_eq_true, Bool.true_eq_false, false_and, and_false, false_implies]
  repeat' (first | apply And.intro | intro _)
  all_goals try omega
  all_goals first
    | omega
    | with_reducible assumption
    | (rw [IntWalk.i64_in _ (by omega)]; omega)
    | with_reducible exact nl_false o3 ‹_›
    | exact hn
    | with_reducible exact e0.xok
    | (have hI := (‹_ ∧ XI _ ∧ _ ∧ _›).2.1; have hN := (‹_ ∧ XI _ ∧ _ ∧ _›).2.2.1; have hG := (‹_ ∧ XI _ ∧ _ ∧ _›).2.2.2; have hE := hI.ex
       with_reducible first
       | exact hE.xok
       | exact hI.reset _
       | exact hI.trip _ _
       | exact (reset_n _ _).trans hN
       | exact (trip_n _ _ _).trans hN
       | exact (reset_cols _ _).1.trans hG
       | exact (trip_cols _ _ _).1.trans hG
       | exact hE.lok _ _ _
       | exact hI.no_ok hN hG ‹_›
       | (have e1 := e0.load (hE.lok _ _ _) ‹_›
          first
          | exact e1.xok
          | exact e1.lok _ _ _
          | exact e0.no_same (hE.lok _ _ _) ‹_› ‹_›
          | exact e0.same (hE.lok _ _ _) ‹_› _ _ _
          | exact load_n ‹_›
          | exact (e1.load hl ‹_›).xok
          | exact (e1.load hl ‹_›).lok _ _ _
          | exact e1.no_same hl ‹_› ‹_›
          | exact e1.same hl ‹_› _ _ _))
    | rfl
end Go.Wk.L14

namespace Go.Proofs.Ythemaknfhihphaa
open Go Go.Vs Go.Proofs Go.Wk.L14 Go.ChangeShapes Go.WideShapes Go.ChangeAt Go.RowKit
set_option linter.unusedSimpArgs false
set_option linter.unusedVariables false
set_option maxRecDepth 10000

theorem latches_arg {n : Nat} {vs : List AV} {H : AHeap} (h : CellsArg 1048576 [.row 37 [.bool, .int .i64, .bool]] n vs H) : ∃ l : LS, LOk l ∧ vs = [lsV l n] ∧ H = [some (lsO l)] := by
  simp only [CellsArg, CellArg] at h
  obtain ⟨v, H1, vs', H2, rfl, rfl, ⟨hd, cols, rfl, rfl, ⟨h1, h2, h3⟩, hc⟩, rfl, rfl⟩ := h
  simp only [ColsSh, ColSh] at hc
  obtain ⟨_, _, rfl, ⟨a, rfl, ha⟩, _, _, rfl, ⟨b, rfl, hb, _⟩, _, _, rfl, ⟨c, rfl, hc⟩, rfl⟩ := hc
  exact ⟨⟨hd.nl, false, hd.cap, hd.cap, hd.len, hd.len, a, b, c⟩, ⟨rfl, by show hd.len ≤ 1048576; omega, fun hh => by have := h3 hh; show hd.len = 0; omega, ha, hb, hc⟩, rfl, rfl⟩

theorem loadsPs : pshs Try.prog Try.f4.params.toList = some [⟨false, [.row 3 [.int .i64]]⟩, ⟨false, [.row 32 [.int .i64, .int .i64, .int .i64, .row 37 [.bool, .int .i64, .bool]]]⟩, ⟨false, [.row 37 [.bool, .int .i64, .bool]]⟩] := by kernel_rfl

theorem loads_law : LawOk Try.prog Try.f4 1048576 := by
  intro ps hps args H ha
  obtain rfl := Option.some.inj (loadsPs.symm.trans hps)
  simp only [ArgsSh] at ha
  obtain ⟨vs, H1, as', H2, a1, rfl, rfl, vs2, H3, as2, H4, a2, rfl, rfl, vs3, H5, as3, H6, a3, rfl, rfl, rfl, rfl⟩ := ha
  obtain ⟨g, hg, rfl, rfl⟩ := groups_arg a1
  obtain ⟨o, ho, rfl, rfl⟩ := ops_arg a2
  obtain ⟨l, hl, rfl, rfl⟩ := latches_arg a3
  exact ⟨Γa, LLoads g o l, Γa_ok, loads_vc g o l hg ho hl⟩

theorem loads_contract (H : Type) (enc : TypeId × Value → H) (W : World) (base : Nat) (args : Array Value) (ds gs : List (DataW H)) (before : List MemPlace)
    (hval : ∀ (j : Nat) t v, Try.f4.params[j]? = some t → args[j]? = some v → Value.okWide Try.prog W .any base t v)
    (hW : DataW.Whole enc Try.prog Try.f4.params.toList Rows.latchLoadsSpec.vars false W args.toList ds gs before) (hk : Rows.uptoSmall H (ds ++ gs) = true) :
    Calls Try.prog 4 args W fun e W' => ∃ v, e = .returned v ∧ Rows.latchLoadsSpec.post enc Try.prog Try.f4 false true false false W args v W' :=
  law_contract (bulk H) hm Try.func4 loads_law loadsPs hl hmr hfull (by kernel_rfl) (tb := 4) rfl Try.underlying4 rfl (fun ds hd => by
    match ds, hd with
    | [d1, d2, d3], _ => rfl) hval hW (bound hk)

set_option maxRecDepth 100000 in
theorem loads_lifted (os : Os) (started : os.Started) (H : Type) (enc : TypeId × Value → H) (F : Stop.Interp) :
    ReturnsInHanded {} Try.checked os 4 .any ((Rows.OpenSpec.upto Rows.latchLoadsSpec).pre6 enc Try.prog Try.f4 Rows.latchLoadsUptoRow.domain false) (((Rows.OpenSpec.upto Rows.latchLoadsSpec).at F).post enc Try.prog Try.f4 false true false false) := by
  refine returnsInHanded_of_cond (C := Try.checked) (s := Rows.OpenSpec.upto Rows.latchLoadsSpec) (k := Rows.uptoSmall) rfl own started (by kernel_rfl) Try.func4
    (OpenSpec.witness (enc := enc) (C := Try.checked) (s := Rows.OpenSpec.upto Rows.latchLoadsSpec) (k := Rows.uptoSmall) rfl false ⟨#[], #[.slice none 0 0, .slice none 0 0, .slice none 0 0], []⟩ 8 (by kernel_rfl) (by kernel_rfl) (by kernel_rfl)
      (x := ([.nil, .nil, .nil], [], [])) (by kernel_rfl) rfl (by kernel_rfl)) ?_
  intro W base args ds gs before hval hW _ hk _
  exact loads_contract H enc W base args ds gs before hval hW hk

theorem latchLoads_holds : Rows.LatchLoadsUptoSaid :=
  OpenClaim.holds_of_cond 4 Try.f4 rfl rfl rfl rfl rfl rfl rfl ⟨rfl, rfl, rfl, rfl, rfl⟩ rfl rfl rfl rfl rfl (by kernel_rfl) Try.func4 (by kernel_rfl)
    (of_decide_eq_true (by kernel_rfl)) (by unfold Func.isWrapper; first | (rw [if_pos (by decide +kernel)]; kernel_rfl) | (rw [if_neg (by decide +kernel)]; exact ⟨rfl, rfl⟩))
    (fun os started H enc _ F => loads_lifted os started H enc F)
end Go.Proofs.Ythemaknfhihphaa
