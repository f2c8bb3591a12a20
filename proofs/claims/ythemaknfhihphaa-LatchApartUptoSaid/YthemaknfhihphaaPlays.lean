/-
  LatchPlays returns true at every input, and leaves its arguments as they were; where the arguments hold at most 1048576 values and letters.
-/
import Derived.Test.YthemaknfhihphaaLc
import Derived.Test.YthemaknfhihphaaRows
import Derived.Test.YthemaknfhihphaaKc
namespace Go.Wk.L14
open Go Go.Vs Go.Proofs
set_option linter.unusedSimpArgs false
set_option linter.unusedVariables false
set_option maxRecDepth 10000

noncomputable def Γa : Cts := ((((((((Γh.add 6 HeadS.ct).add 8 NewYS.ct).add 9 GreatS.ct).add 11 ResetYS.ct).add 13 LoadYS.ct).add 15 TripYS.ct).add 17 AtYS.ct).add 18 SameS.ct).add 20 AllYS.ct |>.add 22 FirstYS.ct
theorem Γa_ok : CtsOk Try.prog Γa :=
  (((((((((Γh_ok.add head_ok Try.func6 (by kernel_rfl) (by kernel_rfl)).add newY_ok Try.func8 (by kernel_rfl) (by kernel_rfl)).add great_ok Try.func9 (by kernel_rfl) (by kernel_rfl)).add resetY_ok Try.func11 (by kernel_rfl) (by kernel_rfl)).add loadY_ok Try.func13 (by kernel_rfl) (by kernel_rfl)).add tripY_ok Try.func15 (by kernel_rfl) (by kernel_rfl)).add atY_ok Try.func17 (by kernel_rfl) (by kernel_rfl)).add same_ok Try.func18 (by kernel_rfl) (by kernel_rfl)).add allY_ok Try.func20 (by kernel_rfl) (by kernel_rfl)).add firstY_ok Try.func22 (by kernel_rfl) (by kernel_rfl)

/-- Calls, with what each may load. -/
structure OL where
  nl : Bool
  rw : Bool
  cap : Nat
  room : Nat
  n : Nat
  m : Nat
  w : List Int
  is : List Int
  nows : List Int
  nf : Nat
  hd : Nat → Hd
  cs : Nat → List Bool
  ca : Nat → List Int
  cf : Nat → List Bool
abbrev pO (s : OL) : AO := .arr s.rw 32 s.room s.m [.int .i64 s.w, .int .i64 s.is, .int .i64 s.nows, .far s.nf 37 3 s.hd (fun i => [.bool (s.cs i), .int .i64 (s.ca i), .bool (s.cf i)])]
abbrev pV (s : OL) (b : Nat) : AV := .sl s.nl b 4 0 s.n s.cap
structure POk (s : OL) : Prop where
  n : s.n ≤ 1048576
  m : s.m = s.n
  nl : s.nl = true → s.n = 0
  w : s.w.length = s.n
  is : s.is.length = s.n
  nows : s.nows.length = s.n
  hd : ∀ i, (s.hd i).len ≤ (s.hd i).cap ∧ (s.hd i).cap ≤ 1048576 ∧ ((s.hd i).nl = true → (s.hd i).cap = 0)
  cs : ∀ i, (s.cs i).length = (s.hd i).len
  ca : ∀ i, (s.ca i).length = (s.hd i).len
  cf : ∀ i, (s.cf i).length = (s.hd i).len

structure PX where
  k : Nat
  x : XS
  y : YS

noncomputable def LPlays (g : GS) (o : OL) : Loops := fun body s => match loopId body with
  | 7 => (match fndX 2 s.heap, fndY 5 s.heap with
    | some (x0, _), some (y0, _) => some (mkLI Try.f3 body s (X := PX) ⟨0, x0, y0⟩ [0, 1, 2, 3, 4, 5, 6, 7] (fun a => a.k ≤ o.n ∧ Rel a.x a.y ∧ a.x.n = g.n) (fun a => o.n - a.k) (fun a => [(8, iv a.k), (4, bv false)])
        (fun a => [some (gO g), some (pO o), some (xcellA a.x 3 4), some (xarr a.x), some (xmap a.x), some (ycellA a.y 6 7), some (ygO a.y), some (ylO a.y)])
        (fun a s' => match fndX 2 s'.heap, fndY 5 s'.heap with | some (x, [_, p, q]), some (y, [_, b, c]) => some (⟨a.k + 1, x, y⟩, [0, 1, 2, p, q, 5, b, c]) | _, _ => none))
    | _, _ => none)
  | _ => some (cntLI Try.f3 body s g.n (fun _ => True) (fun k => [(12, iv k), (4, bv false)]) (fun _ => s.heap))

theorem new_rel {s : GS} (hs : GOk s) (c : Nat × Nat) : Rel (newX s) (newY s c) := by
  obtain ⟨h1, h2, h3, h4⟩ := hs
  refine ⟨⟨rfl, h1, List.length_replicate, List.length_replicate, List.length_replicate, h3, (fun g h => nomatch h)⟩, ⟨rfl, rfl, rfl, h1, h3, List.length_replicate, List.length_replicate, List.length_replicate⟩, rfl, rfl, rfl, rfl, fun k hk => ?_, (fun g h => nomatch h), (fun g h => rfl)⟩
  simp only [newY, shF, newX, Bool.false_and]
  rw [List.getD_eq_getElem?_getD, List.getElem?_replicate]
  split <;> rfl

theorem Rel.no_at {x : XS} {y : YS} (h : Rel x y) {i : Int} (hn : (decide ((inX x i && x.set.getD i.toNat false) = (inY y i && y.set.getD i.toNat false)) && (decide ((bif inX x i then x.at_.getD i.toNat 0 else 0) = bif inY y i then y.at_.getD i.toNat 0 else 0) && decide ((inX x i && shF x i) = (inY y i && y.first.getD i.toNat false)))) = false) : False := by
  have e := h.at_eq i
  simp only [atX, atY, List.cons.injEq, AV.val.injEq, Value.bool.injEq, Value.int.injEq, true_and, and_true] at e
  rw [decide_eq_true e.1, decide_eq_true e.2.1, decide_eq_true e.2.2] at hn
  cases hn
theorem Rel.same_eq {x : XS} {y : YS} (h : Rel x y) (nl rw nl2 rw2 : Bool) (cap room n' m' cap2 room2 n2 m2 : Nat) : sameB x.n ⟨nl, rw, cap, room, n', m', x.set, x.at_, tab x.n fun j => shF x j⟩ ⟨nl2, rw2, cap2, room2, n2, m2, y.set, y.at_, y.first⟩ = true := by
  refine allN_iff.2 fun k hk => ?_
  simp only [h.set, h.at_, h.first k hk, tab_getD _ _ hk, beq_self_eq_true, Bool.and_self]
theorem Rel.no_same {x : XS} {y : YS} (h : Rel x y) {nl rw nl2 rw2 : Bool} {cap room n' m' cap2 room2 n2 m2 : Nat} (hn : (decide (x.n = y.n) && sameB x.n ⟨nl, rw, cap, room, n', m', x.set, x.at_, tab x.n fun j => shF x j⟩ ⟨nl2, rw2, cap2, room2, n2, m2, y.set, y.at_, y.first⟩) = false) : False := by
  rw [h.same_eq, decide_eq_true h.n.symm] at hn; cases hn
theorem Rel.no_f {x : XS} {y : YS} (h : Rel x y) {g : Int} (hn : (x.f (.int .i64 g) != fst (Wk.L14.firstY y g)) = true) : False := by
  rw [(h.firstY g).2] at hn; simp at hn
theorem Rel.no_i {x : XS} {y : YS} (h : Rel x y) {g : Int} (hn : (x.has (.int .i64 g) == (Wk.L14.firstY y g).isSome) = false) : False := by
  rw [(h.firstY g).1] at hn; simp at hn
theorem Rel.okY {x : XS} {y : YS} (h : Rel x y) (l : LS) : loadOk x l = loadOkY y l := h.ok l
theorem Rel.mixed1 {x : XS} {y : YS} {l : LS} {P : Prop} (h : Rel x y) (h1 : loadOk x (oL (some l)) = true) (h2 : loadOkY y l = false) : P := by
  have e := h.okY l
  rw [show loadOk x l = true from h1, h2] at e; cases e
theorem Rel.mixed2 {x : XS} {y : YS} {l : LS} {P : Prop} (h : Rel x y) (h1 : loadOk x (oL (some l)) = false) (h2 : loadOkY y l = true) : P := by
  have e := h.okY l
  rw [show loadOk x l = false from h1, h2] at e; cases e
theorem Rel.lokX {x : XS} {y : YS} (h : Rel x y) (b : Bool) (cap room : Nat) : LOk ⟨b && decide (x.n = 0), true, cap, room, x.n, x.n, x.set, x.at_, tab x.n fun j => shF x j⟩ :=
  ⟨rfl, h.xok.n, fun hh => by simp only [Bool.and_eq_true, decide_eq_true_eq] at hh; exact hh.2, h.xok.set, h.xok.at_, tab_length _ _⟩
theorem Rel.lokY {x : XS} {y : YS} (h : Rel x y) (cap room : Nat) : LOk ⟨false, true, cap, room, y.n, y.n, y.set, y.at_, y.first⟩ :=
  ⟨rfl, h.yok.n, fun hh => (nomatch hh), h.yok.set, h.yok.at_, h.yok.first⟩
theorem trip_n (x : XS) (i now : Int) : (trip x i now).2.n = x.n := by unfold trip; repeat' split <;> try rfl
theorem reset_n (x : XS) (i : Int) : (reset x i).2.n = x.n := by unfold reset; repeat' split <;> try rfl
theorem POk.lok {o : OL} (h : POk o) (k : Nat) : LOk ⟨(o.hd k).nl, false, (o.hd k).cap, (o.hd k).cap, (o.hd k).len, (o.hd k).len, o.cs k, o.ca k, o.cf k⟩ :=
  ⟨rfl, by have := h.hd k; show (o.hd k).len ≤ 1048576; omega, fun hh => by have := h.hd k; have := this.2.2 hh; show (o.hd k).len = 0; omega, h.cs k, h.ca k, h.cf k⟩
theorem POk.ook {o : OL} (h : POk o) : OOk ⟨o.nl, o.rw, o.cap, o.room, o.n, o.m, o.w, o.is, o.nows, o.nf, o.hd, fun i => [.bool (o.cs i), .int .i64 (o.ca i), .bool (o.cf i)]⟩ := ⟨h.n, h.m, h.nl, h.w, h.is, h.nows, h.hd⟩

theorem Rel.no_reset {x : XS} {y : YS} (h : Rel x y) {i : Int} (hn : ((Wk.L14.reset x i).1 == (resetY y i).1) = false) : False := by
  rw [(h.reset i).1] at hn; simp at hn
theorem Rel.no_trip {x : XS} {y : YS} (h : Rel x y) {i now : Int} (hn : ((Wk.L14.trip x i now).1 == (tripY y i now).1) = false) : False := by
  rw [(h.trip i now).1] at hn; simp at hn
theorem Rel.load' {x : XS} {y : YS} (h : Rel x y) {l : LS} (hl : LOk l) (hok : loadOk x (oL (some l)) = true) (c : Nat × Nat) : Rel (loadTo x l) (loadToY y l c) := h.load hl hok c
theorem loadTo_n (x : XS) (l : LS) : (loadTo x l).n = x.n := rfl
theorem newX_n (g : GS) : (newX g).n = g.n := rfl
theorem nl_false {b : Bool} {n k : Nat} (h : b = true → n = 0) (hk : (k : Int) < (n : Int)) : b = false := by cases b; rfl; have := h rfl; omega

set_option maxRecDepth 100000 in
theorem plays_nf (g : GS) (o : OL) : (fnV Try.prog Γa (LPlays g o) Try.f3 [gV g 0, pV o 1] [some (gO g), some (pO o)] fun (v : AV) (x : AHeap) => v = bv true) = (True ∧
  ∀ (x : Unit),
    GOk g ∧
      ∀ (x : Unit),
        GOk g ∧
          ∀ (x : Nat × Nat),
            let q := PX.mk 0 (newX g) (newY g x);
            (GOk g ∧ OOk (OS.mk (OL.nl o) (OL.rw o) (OL.cap o) (OL.room o) (OL.n o) (OL.m o) (OL.w o) (OL.is o) (OL.nows o) (OL.nf o) (OL.hd o) fun (i : Nat) => [Col.bool (OL.cs o i), Col.int IntKind.i64 (OL.ca o i), Col.bool (OL.cf o i)])) ∧
              ∀ (x_1 : Bool),
                let q_1 := AO.arr (OL.rw o) 32 (OL.room o) (OL.m o) [Col.int IntKind.i64 (OL.w o), Col.int IntKind.i64 (OL.is o), Col.int IntKind.i64 (OL.nows o), Col.far (OL.nf o) 37 3 (OL.hd o) fun (i : Nat) => [Col.bool (OL.cs o i), Col.int IntKind.i64 (OL.ca o i), Col.bool (OL.cf o i)]];
                let q_2 := PX.y q;
                let q_3 := PX.x q;
                let q_4 := AO.arr (GS.rw g) 3 (GS.room g) (GS.m g) [Col.int IntKind.i64 (GS.g g)];
                let q_5 := AV.sl (OL.nl o) 1 4 0 (OL.n o) (OL.cap o);
                let q_6 := AV.sl (GS.nl g) 0 1 0 (GS.n g) (GS.cap g);
                let q_7 := AO.arr true 50 (XS.room q_3) (XS.m q_3) [Col.bool (XS.set q_3), Col.int IntKind.i64 (XS.at_ q_3), Col.bool (XS.first q_3), Col.int IntKind.i64 (XS.group q_3)];
                let q_8 := AO.arr true 37 (YS.room2 q_2) (YS.m2 q_2) [Col.bool (YS.set q_2), Col.int IntKind.i64 (YS.at_ q_2), Col.bool (YS.first q_2)];
                let q_9 := AV.ptr 5 0;
                let q_10 := AV.ptr 2 0;
                let q_11 := [AV.mp 4];
                let q_12 := AO.arr true 3 (YS.room q_2) (YS.m q_2) [Col.int IntKind.i64 (YS.g q_2)];
                let q_13 := AV.val (Value.bool true) = AV.val (Value.bool true);
                let q_14 := AV.val (Value.bool false) = AV.val (Value.bool false);
                let q_15 := AV.val (Value.bool x_1) = AV.val (Value.bool x_1);
                let q_16 := AV.val (Value.int IntKind.i64 0);
                Bif x_1 q_13
                  (((0 ≤ OL.n o ∧ Rel (newX g) (newY g x) ∧ XS.n q_3 = GS.n g) ∧ (q_16 = AV.val (Value.int IntKind.i64 (↑(PX.k q) : Int)) ∧ q_14 ∧ q_15 ∧ q_9 = q_9 ∧ q_10 = q_10 ∧ q_13 ∧ q_6 = q_6 ∧ q_5 = q_5 ∧ True) ∧ Bif (AO.deadB q_4) True (q_4 = q_4) ∧ Bif (AO.deadB q_1) True (q_1 = q_1) ∧ AO.cells true 48 (AV.sl false 3 4 0 (XS.n (newX g)) (XS.cap (newX g)) :: q_11) = AO.cells true 48 (AV.sl false 3 4 0 (XS.n q_3) (XS.cap q_3) :: q_11) ∧ Bif (AO.deadB q_7) True (AO.arr true 50 (XS.room (newX g)) (XS.m (newX g)) [Col.bool (XS.set (newX g)), Col.int IntKind.i64 (XS.at_ (newX g)), Col.bool (XS.first (newX g)), Col.int IntKind.i64 (XS.group (newX g))] = q_7) ∧ AO.mapc true (KD.int IntKind.i64) false (XS.has (newX g)) [MCol.int IntKind.i64 (XS.f (newX g))] = AO.mapc true (KD.int IntKind.i64) false (XS.has q_3) [MCol.int IntKind.i64 (XS.f q_3)] ∧ AO.cells true 52 [AV.sl false 6 1 0 (YS.n (newY g x)) (YS.cap (newY g x)), AV.sl false 7 3 0 (YS.n2 (newY g x)) (YS.cap2 (newY g x))] = AO.cells true 52 [AV.sl false 6 1 0 (YS.n q_2) (YS.cap q_2), AV.sl false 7 3 0 (YS.n2 q_2) (YS.cap2 q_2)] ∧ Bif (AO.deadB q_12) True (AO.arr true 3 (YS.room (newY g x)) (YS.m (newY g x)) [Col.int IntKind.i64 (YS.g (newY g x))] = q_12) ∧ Bif (AO.deadB q_8) True (AO.arr true 37 (YS.room2 (newY g x)) (YS.m2 (newY g x)) [Col.bool (YS.set (newY g x)), Col.int IntKind.i64 (YS.at_ (newY g x)), Col.bool (YS.first (newY g x))] = q_8) ∧ True) ∧
                    ∀ (x : PX),
                      let q := 0 + Int.toNat (↑(PX.k x) : Int);
                      let q_17 := decide ((↑(PX.k x) : Int) < (↑(OL.n o) : Int));
                      PX.k x ≤ OL.n o ∧ Rel (PX.x x) (PX.y x) ∧ XS.n (PX.x x) = GS.n g →
                        let q_18 := LS.mk (Hd.nl (OL.hd o q)) false (Hd.cap (OL.hd o q)) (Hd.cap (OL.hd o q)) (Hd.len (OL.hd o q)) (Hd.len (OL.hd o q)) (OL.cs o q) (OL.ca o q) (OL.cf o q);
                        let q_19 := q_1;
                        let q := q;
                        let q_20 := AV.val (Value.bool q_17);
                        let q_21 := q_5;
                        let q_22 := q_6;
                        let q_23 := AV.val (Value.int IntKind.i64 (IntKind.wrap IntKind.i64 ((↑(PX.k x) : Int) + 1)));
                        let q_24 := q_4;
                        let q_25 := PX.k x + 1;
                        let q_26 := 0 ≤ GS.n g ∧ True;
                        let q_27 := OL.n o - PX.k x;
                        let q_28 := AV.ptr 9 0;
                        let q_29 := q_9;
                        let q_30 := q_10;
                        let q_31 := q_13;
                        let q_32 := AV.val (Value.int IntKind.i64 (↑(PX.k x) : Int));
                        let q_33 := q_14;
                        let q_34 := q_16;
                        let q_35 := q_15;
                        let q_36 := AV.val (Value.bool false) = AV.val (Value.bool true);
                        let q_37 := q_11;
                        let q_38 := decide (q < OL.m o);
                        let q_39 := List.getD (OL.w o) q 0;
                        Bif q_17
                          (Bif (!OL.nl o && (inR (↑(PX.k x) : Int) (OL.n o) && q_38))
                            (Bif q_38
                              (Bif (q_39 == 3)
                                (XOk (PX.x x) ∧
                                  ∀ (x_3 : Unit),
                                    let q := q;
                                    YOk (PX.y x) ∧
                                      ∀ (x_4 : Unit),
                                        let q_40 := List.getD (OL.is o) q 0;
                                        let q_41 := q_36;
                                        Bif (!Prod.fst (reset (PX.x x) q_40) == Prod.fst (resetY (PX.y x) q_40)) q_41
                                          (XOk (Prod.snd (reset (PX.x x) q_40)) ∧
                                            ∀ (x_5 : Unit),
                                              let q_42 := Prod.snd (resetY (PX.y x) q_40);
                                              let q_43 := q_40;
                                              YOk q_42 ∧
                                                ∀ (x_6 : Unit),
                                                  let q_44 := Prod.snd (reset (PX.x x) q_43);
                                                  let q_45 := bif inY q_42 q_43 then List.getD (YS.at_ q_42) (Int.toNat q_43) 0 else 0;
                                                  let q_46 := inY q_42 q_43 && List.getD (YS.set q_42) (Int.toNat q_43) false;
                                                  let q_47 := inY q_42 q_43 && List.getD (YS.first q_42) (Int.toNat q_43) false;
                                                  let q_48 := q_43;
                                                  let q_49 := bif inX q_44 q_48 then List.getD (XS.at_ q_44) (Int.toNat q_48) 0 else 0;
                                                  let q_50 := inX q_44 q_48 && List.getD (XS.set q_44) (Int.toNat q_48) false;
                                                  let q_51 := q_41;
                                                  let q_52 := inX q_44 q_48 && shF q_44 q_48;
                                                  Bif (!(decide (q_50 = q_46) && (decide (q_49 = q_45) && (decide (q_52 = q_47) && true)))) q_51
                                                    (XOk q_44 ∧
                                                      ∀ (x_7 : Bool × Nat × Nat),
                                                        let q_53 := LS.mk (Prod.fst x_7 && decide (XS.n q_44 = 0)) true (Prod.fst (Prod.snd x_7)) (Prod.snd (Prod.snd x_7)) (XS.n q_44) (XS.n q_44) (XS.set q_44) (XS.at_ q_44) (tab (XS.n q_44) fun (j : Nat) => shF q_44 (↑j : Int));
                                                        let q_54 := Prod.snd (resetY (PX.y x) q_48);
                                                        let q := q;
                                                        YOk q_54 ∧
                                                          ∀ (x_8 : Nat × Nat),
                                                            let q_55 := LS.n q_53;
                                                            let q_56 := LS.mk false true (Prod.fst x_8) (Prod.snd x_8) (YS.n q_54) (YS.n q_54) (YS.set q_54) (YS.at_ q_54) (YS.first q_54);
                                                            let q_57 := q_53;
                                                            let q_58 := Prod.snd (reset (PX.x x) (List.getD (OL.is o) q 0));
                                                            let q := q;
                                                            let q_59 := List.getD (OL.is o) q 0;
                                                            let q_60 := AV.val (Value.int IntKind.i64 (List.getD (OL.w o) q 0));
                                                            let q_61 := q_37;
                                                            let q_62 := Prod.snd (Prod.snd x_7);
                                                            (LOk q_57 ∧ LOk q_56) ∧
                                                              ∀ (x_9 : Unit),
                                                                let q_63 := AV.val (Value.bool !(decide (q_55 = LS.n q_56) && sameB q_55 q_57 q_56));
                                                                let q_64 := q_55;
                                                                let q_65 := AO.arr true 50 (XS.room q_58) (XS.m q_58) [Col.bool (XS.set q_58), Col.int IntKind.i64 (XS.at_ q_58), Col.bool (XS.first q_58), Col.int IntKind.i64 (XS.group q_58)];
                                                                let q_66 := AO.arr true 37 q_62 (XS.n q_58) [Col.bool (XS.set q_58), Col.int IntKind.i64 (XS.at_ q_58), Col.bool (tab (XS.n q_58) fun (j : Nat) => shF q_58 (↑j : Int))];
                                                                let q_67 := Prod.snd (resetY (PX.y x) q_59);
                                                                let q_68 := AO.arr false 37 (Hd.cap (OL.hd o q)) (Hd.len (OL.hd o q)) [Col.bool (OL.cs o q), Col.int IntKind.i64 (OL.ca o q), Col.bool (OL.cf o q)];
                                                                let q_69 := q_58;
                                                                let q_70 := q_19;
                                                                let q_71 := AO.cells true 32 [q_60, AV.val (Value.int IntKind.i64 q_59), AV.val (Value.int IntKind.i64 (List.getD (OL.nows o) q 0)), AV.sl (Hd.nl (OL.hd o q)) 8 3 0 (Hd.len (OL.hd o q)) (Hd.cap (OL.hd o q))];
                                                                let q_72 := AO.arr true 37 (Prod.snd x_8) (YS.n q_67) [Col.bool (YS.set q_67), Col.int IntKind.i64 (YS.at_ q_67), Col.bool (YS.first q_67)];
                                                                let q_73 := q_24;
                                                                let q_74 := AO.arr true 37 (YS.room2 q_67) (YS.m2 q_67) [Col.bool (YS.set q_67), Col.int IntKind.i64 (YS.at_ q_67), Col.bool (YS.first q_67)];
                                                                let q_75 := AO.cells true 52 [AV.sl false 6 1 0 (YS.n q_67) (YS.cap q_67), AV.sl false 7 3 0 (YS.n2 q_67) (YS.cap2 q_67)];
                                                                let q_76 := q_59;
                                                                let q_77 := q_20;
                                                                let q_78 := q_21;
                                                                let q_79 := q_22;
                                                                let q_80 := AO.cells true 48 (AV.sl false 3 4 0 (XS.n q_69) (XS.cap q_69) :: q_61);
                                                                let q_81 := AV.val (Value.bool (List.getD (OL.w o) q 0 == 3));
                                                                let q_82 := AO.arr true 3 (YS.room q_67) (YS.m q_67) [Col.int IntKind.i64 (YS.g q_67)];
                                                                let q_83 := q_60;
                                                                let q_84 := LS.n (LS.mk false true (Prod.fst x_8) (Prod.snd x_8) (YS.n q_67) (YS.n q_67) (YS.set q_67) (YS.at_ q_67) (YS.first q_67));
                                                                let q_85 := q_28;
                                                                let q_86 := q_29;
                                                                let q_87 := q_30;
                                                                let q_88 := q_32;
                                                                let q_89 := AO.mapc true (KD.int IntKind.i64) false (XS.has q_69) [MCol.int IntKind.i64 (XS.f q_69)];
                                                                let q_90 := q_25;
                                                                let q_91 := AV.val (Value.bool (Prod.fst (reset (PX.x x) q_76)));
                                                                let q_92 := q_62;
                                                                let q_93 := Prod.fst (Prod.snd x_7);
                                                                let q_94 := AV.val (Value.bool (Prod.fst (resetY (PX.y x) q_76)));
                                                                let q_95 := q_33;
                                                                let q_96 := q_34;
                                                                let q_97 := q_35;
                                                                let q_98 := q_31;
                                                                let q_99 := q_51;
                                                                Bif (!(decide (q_64 = q_84) && sameB q_64 (LS.mk (Prod.fst x_7 && decide (XS.n q_69 = 0)) true q_93 q_92 (XS.n q_69) (XS.n q_69) (XS.set q_69) (XS.at_ q_69) (tab (XS.n q_69) fun (j : Nat) => shF q_69 (↑j : Int))) (LS.mk false true (Prod.fst x_8) (Prod.snd x_8) (YS.n q_67) (YS.n q_67) (YS.set q_67) (YS.at_ q_67) (YS.first q_67)))) q_99
                                                                  ((q_26 ∧ (q_96 = q_96 ∧ q_95 ∧ q_63 = q_63 ∧ q_94 = q_94 ∧ q_91 = q_91 ∧ q_81 = q_81 ∧ q_83 = q_83 ∧ q_85 = q_85 ∧ q_77 = q_77 ∧ q_88 = q_88 ∧ q_97 ∧ q_86 = q_86 ∧ q_87 = q_87 ∧ q_98 ∧ q_79 = q_79 ∧ q_78 = q_78 ∧ True) ∧ Bif (AO.deadB q_73) True (q_73 = q_73) ∧ Bif (AO.deadB q_70) True (q_70 = q_70) ∧ q_80 = q_80 ∧ Bif (AO.deadB q_65) True (q_65 = q_65) ∧ q_89 = q_89 ∧ q_75 = q_75 ∧ Bif (AO.deadB q_82) True (q_82 = q_82) ∧ Bif (AO.deadB q_74) True (q_74 = q_74) ∧ Bif (AO.deadB q_68) True (q_68 = q_68) ∧ q_71 = q_71 ∧ Bif (AO.deadB q_66) True (q_66 = q_66) ∧ Bif (AO.deadB q_72) True (q_72 = q_72) ∧ True) ∧
                                                                    ∀ (x_10 : Nat),
                                                                      let q_100 := PX.mk q_90 q_69 q_67;
                                                                      let q_101 := q_76;
                                                                      let q_102 := 0 + x_10;
                                                                      x_10 ≤ GS.n g ∧ True →
                                                                        let q_103 := PX.y q_100;
                                                                        let q_104 := PX.x q_100;
                                                                        let q_105 := Prod.snd (resetY (PX.y x) q_101);
                                                                        let q_106 := Prod.snd (reset (PX.x x) q_101);
                                                                        let q_107 := q_70;
                                                                        let q_108 := decide (q_102 < GS.m g);
                                                                        let q_109 := q_73;
                                                                        let q_110 := q_78;
                                                                        let q_111 := q_79;
                                                                        let q_112 := PX.k (PX.mk q_90 q_106 q_105);
                                                                        let q_113 := AO.arr true 50 (XS.room q_104) (XS.m q_104) [Col.bool (XS.set q_104), Col.int IntKind.i64 (XS.at_ q_104), Col.bool (XS.first q_104), Col.int IntKind.i64 (XS.group q_104)];
                                                                        let q_114 := AO.arr true 37 (YS.room2 q_103) (YS.m2 q_103) [Col.bool (YS.set q_103), Col.int IntKind.i64 (YS.at_ q_103), Col.bool (YS.first q_103)];
                                                                        let q_115 := q_86;
                                                                        let q_116 := q_87;
                                                                        let q_117 := q_61;
                                                                        let q_118 := AO.arr true 3 (YS.room q_103) (YS.m q_103) [Col.int IntKind.i64 (YS.g q_103)];
                                                                        let q_119 := q_92;
                                                                        let q_120 := q_93;
                                                                        let q_121 := q_95;
                                                                        let q_122 := q_97;
                                                                        let q_123 := q_98;
                                                                        let q_124 := inR (↑x_10 : Int) (GS.n g);
                                                                        Bif (decide ((↑x_10 : Int) < (↑(GS.n g) : Int)))
                                                                          (Bif (!GS.nl g && (q_124 && q_108))
                                                                            (Bif q_108
                                                                              (True ∧
                                                                                ∀ (x_12 : Unit),
                                                                                  let q_125 := LS.n (LS.mk (Prod.fst x_7 && decide (XS.n q_106 = 0)) true q_120 q_119 (XS.n q_106) (XS.n q_106) (XS.set q_106) (XS.at_ q_106) (tab (XS.n q_106) fun (j : Nat) => shF q_106 (↑j : Int)));
                                                                                  let q_126 := q_106;
                                                                                  let q_127 := LS.n (LS.mk false true (Prod.fst x_8) (Prod.snd x_8) (YS.n q_105) (YS.n q_105) (YS.set q_105) (YS.at_ q_105) (YS.first q_105));
                                                                                  let q_128 := q_105;
                                                                                  let q := q;
                                                                                  let q_129 := q_108;
                                                                                  let q_130 := List.getD (GS.g g) (0 + Int.toNat (↑x_10 : Int)) 0;
                                                                                  let q_131 := List.getD (OL.is o) q 0;
                                                                                  let q_132 := AV.val (Value.int IntKind.i64 (List.getD (OL.w o) q 0));
                                                                                  let q_133 := tab (XS.n q_126) fun (j : Nat) => shF q_126 (↑j : Int);
                                                                                  let q_134 := q_119;
                                                                                  Bif (!GS.nl g && (q_124 && q_129))
                                                                                    (Bif q_129
                                                                                      (YOk q_128 ∧
                                                                                        ∀ (x_13 : Unit),
                                                                                          let q_135 := AV.val (Value.bool !(decide (q_125 = q_127) && sameB q_125 (LS.mk (Prod.fst x_7 && decide (XS.n q_126 = 0)) true q_120 q_134 (XS.n q_126) (XS.n q_126) (XS.set q_126) (XS.at_ q_126) q_133) (LS.mk false true (Prod.fst x_8) (Prod.snd x_8) (YS.n q_128) (YS.n q_128) (YS.set q_128) (YS.at_ q_128) (YS.first q_128))));
                                                                                          let q_136 := AO.arr true 50 (XS.room q_126) (XS.m q_126) [Col.bool (XS.set q_126), Col.int IntKind.i64 (XS.at_ q_126), Col.bool (XS.first q_126), Col.int IntKind.i64 (XS.group q_126)];
                                                                                          let q_137 := AO.arr true 37 q_134 (XS.n q_126) [Col.bool (XS.set q_126), Col.int IntKind.i64 (XS.at_ q_126), Col.bool q_133];
                                                                                          let q_138 := q_128;
                                                                                          let q_139 := AO.arr false 37 (Hd.cap (OL.hd o q)) (Hd.len (OL.hd o q)) [Col.bool (OL.cs o q), Col.int IntKind.i64 (OL.ca o q), Col.bool (OL.cf o q)];
                                                                                          let q_140 := AO.cells true 32 [q_132, AV.val (Value.int IntKind.i64 q_131), AV.val (Value.int IntKind.i64 (List.getD (OL.nows o) q 0)), AV.sl (Hd.nl (OL.hd o q)) 8 3 0 (Hd.len (OL.hd o q)) (Hd.cap (OL.hd o q))];
                                                                                          let q_141 := q_126;
                                                                                          let q_142 := q_107;
                                                                                          let q_143 := AO.arr true 37 (Prod.snd x_8) (YS.n q_138) [Col.bool (YS.set q_138), Col.int IntKind.i64 (YS.at_ q_138), Col.bool (YS.first q_138)];
                                                                                          let q_144 := AO.arr true 37 (YS.room2 q_138) (YS.m2 q_138) [Col.bool (YS.set q_138), Col.int IntKind.i64 (YS.at_ q_138), Col.bool (YS.first q_138)];
                                                                                          let q_145 := AO.cells true 52 [AV.sl false 6 1 0 (YS.n q_138) (YS.cap q_138), AV.sl false 7 3 0 (YS.n2 q_138) (YS.cap2 q_138)];
                                                                                          let q_146 := AO.cells true 48 (AV.sl false 3 4 0 (XS.n q_141) (XS.cap q_141) :: q_117);
                                                                                          let q_147 := q_109;
                                                                                          let q := AV.val (Value.bool (List.getD (OL.w o) q 0 == 3));
                                                                                          let q_148 := AO.arr true 3 (YS.room q_138) (YS.m q_138) [Col.int IntKind.i64 (YS.g q_138)];
                                                                                          let q_149 := AV.val (Value.bool (Prod.fst (reset (PX.x x) q_131)));
                                                                                          let q_150 := AV.val (Value.bool (Prod.fst (resetY (PX.y x) q_131)));
                                                                                          let q_151 := q_132;
                                                                                          let q_152 := firstY q_138 q_130;
                                                                                          let q_153 := Value.int IntKind.i64 q_130;
                                                                                          let q_154 := q_77;
                                                                                          let q_155 := x_10 + 1;
                                                                                          let q_156 := q_110;
                                                                                          let q_157 := q_111;
                                                                                          let q_158 := AO.mapc true (KD.int IntKind.i64) false (XS.has q_141) [MCol.int IntKind.i64 (XS.f q_141)];
                                                                                          let q_159 := q_85;
                                                                                          let q_160 := q_115;
                                                                                          let q_161 := q_116;
                                                                                          let q_162 := q_88;
                                                                                          let q_163 := q_99;
                                                                                          Bif (XS.f q_141 q_153 != fst q_152) q_163 (Bif (!XS.has q_141 q_153 == Option.isSome q_152) q_163 ((q_155 ≤ GS.n g ∧ True) ∧ GS.n g - q_155 < GS.n g - x_10 ∧ (AV.val (Value.int IntKind.i64 (IntKind.wrap IntKind.i64 ((↑x_10 : Int) + 1))) = AV.val (Value.int IntKind.i64 (↑q_155 : Int)) ∧ q_121 ∧ q_135 = q_135 ∧ q_150 = q_150 ∧ q_149 = q_149 ∧ q = q ∧ q_151 = q_151 ∧ q_159 = q_159 ∧ q_154 = q_154 ∧ q_162 = q_162 ∧ q_122 ∧ q_160 = q_160 ∧ q_161 = q_161 ∧ q_123 ∧ q_157 = q_157 ∧ q_156 = q_156 ∧ True) ∧ Bif (AO.deadB q_147) True (q_147 = q_147) ∧ Bif (AO.deadB q_142) True (q_142 = q_142) ∧ q_146 = q_146 ∧ Bif (AO.deadB q_136) True (q_136 = q_136) ∧ q_158 = q_158 ∧ q_145 = q_145 ∧ Bif (AO.deadB q_148) True (q_148 = q_148) ∧ Bif (AO.deadB q_144) True (q_144 = q_144) ∧ Bif (AO.deadB q_139) True (q_139 = q_139) ∧ q_140 = q_140 ∧ Bif (AO.deadB q_137) True (q_137 = q_137) ∧ Bif (AO.deadB q_143) True (q_143 = q_143) ∧ True)))
                                                                                      False)
                                                                                    False)
                                                                              False)
                                                                            False)
                                                                          ((q_112 ≤ OL.n o ∧ Rel q_104 q_103 ∧ XS.n q_104 = GS.n g) ∧ OL.n o - q_112 < q_27 ∧ (q_23 = AV.val (Value.int IntKind.i64 (↑q_112 : Int)) ∧ q_121 ∧ q_122 ∧ q_115 = q_115 ∧ q_116 = q_116 ∧ q_123 ∧ q_111 = q_111 ∧ q_110 = q_110 ∧ True) ∧ Bif (AO.deadB q_109) True (q_109 = q_109) ∧ Bif (AO.deadB q_107) True (q_107 = q_107) ∧ AO.cells true 48 (AV.sl false 3 4 0 (XS.n q_106) (XS.cap q_106) :: q_117) = AO.cells true 48 (AV.sl false 3 4 0 (XS.n q_104) (XS.cap q_104) :: q_117) ∧ Bif (AO.deadB q_113) True (AO.arr true 50 (XS.room q_106) (XS.m q_106) [Col.bool (XS.set q_106), Col.int IntKind.i64 (XS.at_ q_106), Col.bool (XS.first q_106), Col.int IntKind.i64 (XS.group q_106)] = q_113) ∧ AO.mapc true (KD.int IntKind.i64) false (XS.has q_106) [MCol.int IntKind.i64 (XS.f q_106)] = AO.mapc true (KD.int IntKind.i64) false (XS.has q_104) [MCol.int IntKind.i64 (XS.f q_104)] ∧ AO.cells true 52 [AV.sl false 6 1 0 (YS.n q_105) (YS.cap q_105), AV.sl false 7 3 0 (YS.n2 q_105) (YS.cap2 q_105)] = AO.cells true 52 [AV.sl false 6 1 0 (YS.n q_103) (YS.cap q_103), AV.sl false 7 3 0 (YS.n2 q_103) (YS.cap2 q_103)] ∧ Bif (AO.deadB q_118) True (AO.arr true 3 (YS.room q_105) (YS.m q_105) [Col.int IntKind.i64 (YS.g q_105)] = q_118) ∧ Bif (AO.deadB q_114) True (AO.arr true 37 (YS.room2 q_105) (YS.m2 q_105) [Col.bool (YS.set q_105), Col.int IntKind.i64 (YS.at_ q_105), Col.bool (YS.first q_105)] = q_114) ∧ True)))))
                                (Bif (q_39 == 4)
                                  ((XOk (PX.x x) ∧ LOk q_18) ∧
                                    Bif (LoadS.match_1 (fun (x : XS × Option LS) => Bool) (PX.x x, some q_18) fun (x : XS) (l : Option LS) => loadOk x (oL l))
                                      (∀ (x_3 : Unit),
                                        let q_40 := q_18;
                                        let q_41 := q_36;
                                        (YOk (PX.y x) ∧ LOk q_40) ∧
                                          Bif (LoadYS.match_1 (fun (x : YS × LS) => Bool) (PX.y x, q_40) fun (y : YS) (l : LS) => loadOkY y l)
                                            (∀ (x_4 : Nat × Nat),
                                              let q_42 := q_40;
                                              let q := q;
                                              XOk (loadTo (PX.x x) q_42) ∧
                                                ∀ (x_5 : Unit),
                                                  let q_43 := loadToY (PX.y x) q_42 x_4;
                                                  let q_44 := List.getD (OL.is o) q 0;
                                                  let q := q;
                                                  YOk q_43 ∧
                                                    ∀ (x_6 : Unit),
                                                      let q_45 := loadTo (PX.x x) (LS.mk (Hd.nl (OL.hd o q)) false (Hd.cap (OL.hd o q)) (Hd.cap (OL.hd o q)) (Hd.len (OL.hd o q)) (Hd.len (OL.hd o q)) (OL.cs o q) (OL.ca o q) (OL.cf o q));
                                                      let q_46 := q_43;
                                                      let q_47 := Int.toNat q_44;
                                                      let q_48 := inX q_45 q_44 && shF q_45 q_44;
                                                      let q_49 := inY q_46 q_44;
                                                      let q_50 := bif inX q_45 q_44 then List.getD (XS.at_ q_45) q_47 0 else 0;
                                                      let q_51 := inX q_45 q_44 && List.getD (XS.set q_45) q_47 false;
                                                      let q_52 := bif q_49 then List.getD (YS.at_ q_46) q_47 0 else 0;
                                                      let q_53 := q_49 && List.getD (YS.set q_46) q_47 false;
                                                      let q_54 := q_49 && List.getD (YS.first q_46) q_47 false;
                                                      let q_55 := q_41;
                                                      Bif (!(decide (q_51 = q_53) && (decide (q_50 = q_52) && (decide (q_48 = q_54) && true)))) q_55
                                                        (XOk q_45 ∧
                                                          ∀ (x_7 : Bool × Nat × Nat),
                                                            let q_56 := LS.mk (Prod.fst x_7 && decide (XS.n q_45 = 0)) true (Prod.fst (Prod.snd x_7)) (Prod.snd (Prod.snd x_7)) (XS.n q_45) (XS.n q_45) (XS.set q_45) (XS.at_ q_45) (tab (XS.n q_45) fun (j : Nat) => shF q_45 (↑j : Int));
                                                            let q_57 := q_46;
                                                            let q := q;
                                                            YOk q_57 ∧
                                                              ∀ (x_8 : Nat × Nat),
                                                                let q_58 := LS.n q_56;
                                                                let q_59 := LS.mk false true (Prod.fst x_8) (Prod.snd x_8) (YS.n q_57) (YS.n q_57) (YS.set q_57) (YS.at_ q_57) (YS.first q_57);
                                                                let q_60 := q_56;
                                                                let q_61 := loadTo (PX.x x) (LS.mk (Hd.nl (OL.hd o q)) false (Hd.cap (OL.hd o q)) (Hd.cap (OL.hd o q)) (Hd.len (OL.hd o q)) (Hd.len (OL.hd o q)) (OL.cs o q) (OL.ca o q) (OL.cf o q));
                                                                let q := q;
                                                                let q_62 := [AV.mp 10];
                                                                let q_63 := Prod.snd (Prod.snd x_7);
                                                                (LOk q_60 ∧ LOk q_59) ∧
                                                                  ∀ (x_9 : Unit),
                                                                    let q_64 := AV.val (Value.bool !(decide (q_58 = LS.n q_59) && sameB q_58 q_60 q_59));
                                                                    let q_65 := q_58;
                                                                    let q_66 := AO.arr true 50 (XS.room q_61) (XS.m q_61) [Col.bool (XS.set q_61), Col.int IntKind.i64 (XS.at_ q_61), Col.bool (XS.first q_61), Col.int IntKind.i64 (XS.group q_61)];
                                                                    let q_67 := loadToY (PX.y x) (LS.mk (Hd.nl (OL.hd o q)) false (Hd.cap (OL.hd o q)) (Hd.cap (OL.hd o q)) (Hd.len (OL.hd o q)) (Hd.len (OL.hd o q)) (OL.cs o q) (OL.ca o q) (OL.cf o q)) x_4;
                                                                    let q_68 := AO.arr true 37 q_63 (XS.n q_61) [Col.bool (XS.set q_61), Col.int IntKind.i64 (XS.at_ q_61), Col.bool (tab (XS.n q_61) fun (j : Nat) => shF q_61 (↑j : Int))];
                                                                    let q_69 := q_61;
                                                                    let q_70 := AO.arr false 37 (Hd.cap (OL.hd o q)) (Hd.len (OL.hd o q)) [Col.bool (OL.cs o q), Col.int IntKind.i64 (OL.ca o q), Col.bool (OL.cf o q)];
                                                                    let q_71 := q_19;
                                                                    let q_72 := AO.cells true 32 [AV.val (Value.int IntKind.i64 (List.getD (OL.w o) q 0)), AV.val (Value.int IntKind.i64 (List.getD (OL.is o) q 0)), AV.val (Value.int IntKind.i64 (List.getD (OL.nows o) q 0)), AV.sl (Hd.nl (OL.hd o q)) 8 3 0 (Hd.len (OL.hd o q)) (Hd.cap (OL.hd o q))];
                                                                    let q := q;
                                                                    let q_73 := AO.arr true 37 (Prod.snd x_8) (YS.n q_67) [Col.bool (YS.set q_67), Col.int IntKind.i64 (YS.at_ q_67), Col.bool (YS.first q_67)];
                                                                    let q_74 := q_24;
                                                                    let q_75 := AO.arr true 37 (YS.room2 q_67) (YS.m2 q_67) [Col.bool (YS.set q_67), Col.int IntKind.i64 (YS.at_ q_67), Col.bool (YS.first q_67)];
                                                                    let q_76 := AO.cells true 52 [AV.sl false 6 1 0 (YS.n q_67) (YS.cap q_67), AV.sl false 11 3 0 (YS.n2 q_67) (YS.cap2 q_67)];
                                                                    let q_77 := q_20;
                                                                    let q_78 := q_21;
                                                                    let q_79 := q_22;
                                                                    let q_80 := AO.cells true 48 (AV.sl false 3 4 0 (XS.n q_69) (XS.cap q_69) :: q_62);
                                                                    let q_81 := AO.arr true 3 (YS.room q_67) (YS.m q_67) [Col.int IntKind.i64 (YS.g q_67)];
                                                                    let q_82 := q_31;
                                                                    let q_83 := LS.n (LS.mk false true (Prod.fst x_8) (Prod.snd x_8) (YS.n q_67) (YS.n q_67) (YS.set q_67) (YS.at_ q_67) (YS.first q_67));
                                                                    let q_84 := AV.val (Value.bool (List.getD (OL.w o) q 0 == 4));
                                                                    let q_85 := AV.val (Value.bool (List.getD (OL.w o) q 0 == 3));
                                                                    let q_86 := q_28;
                                                                    let q_87 := q_29;
                                                                    let q_88 := q_30;
                                                                    let q_89 := q_32;
                                                                    let q_90 := AO.mapc true (KD.int IntKind.i64) false (XS.has q_69) [MCol.int IntKind.i64 (XS.f q_69)];
                                                                    let q_91 := q_25;
                                                                    let q_92 := AV.val (Value.int IntKind.i64 (List.getD (OL.w o) q 0));
                                                                    let q_93 := q_63;
                                                                    let q_94 := Prod.fst (Prod.snd x_7);
                                                                    let q_95 := q_33;
                                                                    let q_96 := q_35;
                                                                    let q_97 := q_55;
                                                                    let q_98 := q_34;
                                                                    Bif (!(decide (q_65 = q_83) && sameB q_65 (LS.mk (Prod.fst x_7 && decide (XS.n q_69 = 0)) true q_94 q_93 (XS.n q_69) (XS.n q_69) (XS.set q_69) (XS.at_ q_69) (tab (XS.n q_69) fun (j : Nat) => shF q_69 (↑j : Int))) (LS.mk false true (Prod.fst x_8) (Prod.snd x_8) (YS.n q_67) (YS.n q_67) (YS.set q_67) (YS.at_ q_67) (YS.first q_67)))) q_97
                                                                      ((q_26 ∧ (q_98 = q_98 ∧ q_95 ∧ q_64 = q_64 ∧ q_82 ∧ q_82 ∧ q_84 = q_84 ∧ q_85 = q_85 ∧ q_92 = q_92 ∧ q_86 = q_86 ∧ q_77 = q_77 ∧ q_89 = q_89 ∧ q_96 ∧ q_87 = q_87 ∧ q_88 = q_88 ∧ q_82 ∧ q_79 = q_79 ∧ q_78 = q_78 ∧ True) ∧ Bif (AO.deadB q_74) True (q_74 = q_74) ∧ Bif (AO.deadB q_71) True (q_71 = q_71) ∧ q_80 = q_80 ∧ Bif (AO.deadB q_66) True (q_66 = q_66) ∧ q_76 = q_76 ∧ Bif (AO.deadB q_81) True (q_81 = q_81) ∧ Bif (AO.deadB q_70) True (q_70 = q_70) ∧ q_72 = q_72 ∧ q_90 = q_90 ∧ Bif (AO.deadB q_75) True (q_75 = q_75) ∧ Bif (AO.deadB q_68) True (q_68 = q_68) ∧ Bif (AO.deadB q_73) True (q_73 = q_73) ∧ True) ∧
                                                                        ∀ (x_10 : Nat),
                                                                          let q_99 := PX.mk q_91 q_69 q_67;
                                                                          let q_100 := LS.mk (Hd.nl (OL.hd o q)) false (Hd.cap (OL.hd o q)) (Hd.cap (OL.hd o q)) (Hd.len (OL.hd o q)) (Hd.len (OL.hd o q)) (OL.cs o q) (OL.ca o q) (OL.cf o q);
                                                                          let q_101 := 0 + x_10;
                                                                          x_10 ≤ GS.n g ∧ True →
                                                                            let q_102 := PX.y q_99;
                                                                            let q_103 := PX.x q_99;
                                                                            let q_104 := loadToY (PX.y x) q_100 x_4;
                                                                            let q_105 := loadTo (PX.x x) q_100;
                                                                            let q_106 := q_100;
                                                                            let q_107 := q_71;
                                                                            let q_108 := decide (q_101 < GS.m g);
                                                                            let q_109 := q_74;
                                                                            let q_110 := q_78;
                                                                            let q_111 := q_79;
                                                                            let q_112 := PX.k (PX.mk q_91 q_105 q_104);
                                                                            let q_113 := AO.arr true 50 (XS.room q_103) (XS.m q_103) [Col.bool (XS.set q_103), Col.int IntKind.i64 (XS.at_ q_103), Col.bool (XS.first q_103), Col.int IntKind.i64 (XS.group q_103)];
                                                                            let q_114 := AO.arr true 37 (YS.room2 q_102) (YS.m2 q_102) [Col.bool (YS.set q_102), Col.int IntKind.i64 (YS.at_ q_102), Col.bool (YS.first q_102)];
                                                                            let q_115 := q_87;
                                                                            let q_116 := q_88;
                                                                            let q_117 := q_62;
                                                                            let q_118 := AO.arr true 3 (YS.room q_102) (YS.m q_102) [Col.int IntKind.i64 (YS.g q_102)];
                                                                            let q_119 := q_93;
                                                                            let q_120 := q_94;
                                                                            let q_121 := loadM (XS.group (PX.x x)) (LS.first q_106) (XS.n (PX.x x));
                                                                            let q_122 := q_95;
                                                                            let q_123 := q_96;
                                                                            let q_124 := q_82;
                                                                            let q_125 := inR (↑x_10 : Int) (GS.n g);
                                                                            Bif (decide ((↑x_10 : Int) < (↑(GS.n g) : Int)))
                                                                              (Bif (!GS.nl g && (q_125 && q_108))
                                                                                (Bif q_108
                                                                                  (True ∧
                                                                                    ∀ (x : Unit),
                                                                                      let q_126 := LS.n (LS.mk (Prod.fst x_7 && decide (XS.n q_105 = 0)) true q_120 q_119 (XS.n q_105) (XS.n q_105) (XS.set q_105) (XS.at_ q_105) (tab (XS.n q_105) fun (j : Nat) => shF q_105 (↑j : Int)));
                                                                                      let q_127 := q_105;
                                                                                      let q_128 := LS.n (LS.mk false true (Prod.fst x_8) (Prod.snd x_8) (YS.n q_104) (YS.n q_104) (YS.set q_104) (YS.at_ q_104) (YS.first q_104));
                                                                                      let q_129 := q_104;
                                                                                      let q := q;
                                                                                      let q_130 := q_108;
                                                                                      let q_131 := List.getD (GS.g g) (0 + Int.toNat (↑x_10 : Int)) 0;
                                                                                      let q_132 := tab (XS.n q_127) fun (j : Nat) => shF q_127 (↑j : Int);
                                                                                      let q_133 := List.getD (OL.w o) q 0;
                                                                                      let q_134 := q_119;
                                                                                      Bif (!GS.nl g && (q_125 && q_130))
                                                                                        (Bif q_130
                                                                                          (YOk q_129 ∧
                                                                                            ∀ (x : Unit),
                                                                                              let q_135 := AV.val (Value.bool !(decide (q_126 = q_128) && sameB q_126 (LS.mk (Prod.fst x_7 && decide (XS.n q_127 = 0)) true q_120 q_134 (XS.n q_127) (XS.n q_127) (XS.set q_127) (XS.at_ q_127) q_132) (LS.mk false true (Prod.fst x_8) (Prod.snd x_8) (YS.n q_129) (YS.n q_129) (YS.set q_129) (YS.at_ q_129) (YS.first q_129))));
                                                                                              let q_136 := AO.arr true 50 (XS.room q_127) (XS.m q_127) [Col.bool (XS.set q_127), Col.int IntKind.i64 (XS.at_ q_127), Col.bool (XS.first q_127), Col.int IntKind.i64 (XS.group q_127)];
                                                                                              let q_137 := q_129;
                                                                                              let q_138 := AO.arr true 37 q_134 (XS.n q_127) [Col.bool (XS.set q_127), Col.int IntKind.i64 (XS.at_ q_127), Col.bool q_132];
                                                                                              let q_139 := q_127;
                                                                                              let q_140 := AO.arr false 37 (Hd.cap (OL.hd o q)) (Hd.len (OL.hd o q)) [Col.bool (OL.cs o q), Col.int IntKind.i64 (OL.ca o q), Col.bool (OL.cf o q)];
                                                                                              let q := AO.cells true 32 [AV.val (Value.int IntKind.i64 q_133), AV.val (Value.int IntKind.i64 (List.getD (OL.is o) q 0)), AV.val (Value.int IntKind.i64 (List.getD (OL.nows o) q 0)), AV.sl (Hd.nl (OL.hd o q)) 8 3 0 (Hd.len (OL.hd o q)) (Hd.cap (OL.hd o q))];
                                                                                              let q_141 := q_107;
                                                                                              let q_142 := AO.arr true 37 (Prod.snd x_8) (YS.n q_137) [Col.bool (YS.set q_137), Col.int IntKind.i64 (YS.at_ q_137), Col.bool (YS.first q_137)];
                                                                                              let q_143 := AO.arr true 37 (YS.room2 q_137) (YS.m2 q_137) [Col.bool (YS.set q_137), Col.int IntKind.i64 (YS.at_ q_137), Col.bool (YS.first q_137)];
                                                                                              let q_144 := AO.cells true 52 [AV.sl false 6 1 0 (YS.n q_137) (YS.cap q_137), AV.sl false 11 3 0 (YS.n2 q_137) (YS.cap2 q_137)];
                                                                                              let q_145 := q_133;
                                                                                              let q_146 := AO.cells true 48 (AV.sl false 3 4 0 (XS.n q_139) (XS.cap q_139) :: q_117);
                                                                                              let q_147 := q_109;
                                                                                              let q_148 := AO.arr true 3 (YS.room q_137) (YS.m q_137) [Col.int IntKind.i64 (YS.g q_137)];
                                                                                              let q_149 := firstY q_137 q_131;
                                                                                              let q_150 := Value.int IntKind.i64 q_131;
                                                                                              let q_151 := q_77;
                                                                                              let q_152 := x_10 + 1;
                                                                                              let q_153 := q_110;
                                                                                              let q_154 := q_111;
                                                                                              let q_155 := q_124;
                                                                                              let q_156 := AO.mapc true (KD.int IntKind.i64) false (XS.has q_139) [MCol.int IntKind.i64 (XS.f q_139)];
                                                                                              let q_157 := AV.val (Value.bool (q_145 == 3));
                                                                                              let q_158 := AV.val (Value.bool (q_145 == 4));
                                                                                              let q_159 := q_86;
                                                                                              let q_160 := q_115;
                                                                                              let q_161 := q_116;
                                                                                              let q_162 := q_89;
                                                                                              let q_163 := q_97;
                                                                                              Bif (XS.f q_139 q_150 != fst q_149) q_163 (Bif (!XS.has q_139 q_150 == Option.isSome q_149) q_163 ((q_152 ≤ GS.n g ∧ True) ∧ GS.n g - q_152 < GS.n g - x_10 ∧ (AV.val (Value.int IntKind.i64 (IntKind.wrap IntKind.i64 ((↑x_10 : Int) + 1))) = AV.val (Value.int IntKind.i64 (↑q_152 : Int)) ∧ q_122 ∧ q_135 = q_135 ∧ q_155 ∧ q_155 ∧ q_158 = q_158 ∧ q_157 = q_157 ∧ AV.val (Value.int IntKind.i64 q_145) = AV.val (Value.int IntKind.i64 q_145) ∧ q_159 = q_159 ∧ q_151 = q_151 ∧ q_162 = q_162 ∧ q_123 ∧ q_160 = q_160 ∧ q_161 = q_161 ∧ q_155 ∧ q_154 = q_154 ∧ q_153 = q_153 ∧ True) ∧ Bif (AO.deadB q_147) True (q_147 = q_147) ∧ Bif (AO.deadB q_141) True (q_141 = q_141) ∧ q_146 = q_146 ∧ Bif (AO.deadB q_136) True (q_136 = q_136) ∧ q_144 = q_144 ∧ Bif (AO.deadB q_148) True (q_148 = q_148) ∧ Bif (AO.deadB q_140) True (q_140 = q_140) ∧ q = q ∧ q_156 = q_156 ∧ Bif (AO.deadB q_143) True (q_143 = q_143) ∧ Bif (AO.deadB q_138) True (q_138 = q_138) ∧ Bif (AO.deadB q_142) True (q_142 = q_142) ∧ True)))
                                                                                          False)
                                                                                        False)
                                                                                  False)
                                                                                False)
                                                                              ((q_112 ≤ OL.n o ∧ Rel (XS.mk (XS.n (PX.x x)) (XS.m (PX.x x)) (XS.cap (PX.x x)) (XS.room (PX.x x)) (LS.set q_106) (LS.at_ q_106) (List.replicate (XS.n (PX.x x)) false) (XS.group (PX.x x)) (Prod.fst q_121) (Prod.snd q_121)) (YS.mk (YS.n (PX.y x)) (YS.n2 (PX.y x)) (YS.m (PX.y x)) (YS.m2 (PX.y x)) (YS.cap (PX.y x)) (Prod.fst x_4) (YS.room (PX.y x)) (Prod.snd x_4) (YS.g (PX.y x)) (LS.set q_106) (LS.at_ q_106) (LS.first q_106)) ∧ XS.n q_103 = GS.n g) ∧ OL.n o - q_112 < q_27 ∧ (q_23 = AV.val (Value.int IntKind.i64 (↑q_112 : Int)) ∧ q_122 ∧ q_123 ∧ q_115 = q_115 ∧ q_116 = q_116 ∧ q_124 ∧ q_111 = q_111 ∧ q_110 = q_110 ∧ True) ∧ Bif (AO.deadB q_109) True (q_109 = q_109) ∧ Bif (AO.deadB q_107) True (q_107 = q_107) ∧ AO.cells true 48 (AV.sl false 3 4 0 (XS.n q_105) (XS.cap q_105) :: q_117) = AO.cells true 48 (AV.sl false 3 4 0 (XS.n q_103) (XS.cap q_103) :: q_117) ∧ Bif (AO.deadB q_113) True (AO.arr true 50 (XS.room q_105) (XS.m q_105) [Col.bool (XS.set q_105), Col.int IntKind.i64 (XS.at_ q_105), Col.bool (XS.first q_105), Col.int IntKind.i64 (XS.group q_105)] = q_113) ∧ AO.mapc true (KD.int IntKind.i64) false (XS.has q_105) [MCol.int IntKind.i64 (XS.f q_105)] = AO.mapc true (KD.int IntKind.i64) false (XS.has q_103) [MCol.int IntKind.i64 (XS.f q_103)] ∧ AO.cells true 52 [AV.sl false 6 1 0 (YS.n q_104) (YS.cap q_104), AV.sl false 11 3 0 (YS.n2 q_104) (YS.cap2 q_104)] = AO.cells true 52 [AV.sl false 6 1 0 (YS.n q_102) (YS.cap q_102), AV.sl false 11 3 0 (YS.n2 q_102) (YS.cap2 q_102)] ∧ Bif (AO.deadB q_118) True (AO.arr true 3 (YS.room q_104) (YS.m q_104) [Col.int IntKind.i64 (YS.g q_104)] = q_118) ∧ Bif (AO.deadB q_114) True (AO.arr true 37 (YS.room2 q_104) (YS.m2 q_104) [Col.bool (YS.set q_104), Col.int IntKind.i64 (YS.at_ q_104), Col.bool (YS.first q_104)] = q_114) ∧ True))))
                                            (∀ (x : Unit), q_41))
                                      (∀ (x_3 : Unit),
                                        let q_40 := q_18;
                                        let q_41 := q_36;
                                        (YOk (PX.y x) ∧ LOk q_40) ∧
                                          Bif (LoadYS.match_1 (fun (x : YS × LS) => Bool) (PX.y x, q_40) fun (y : YS) (l : LS) => loadOkY y l) (∀ (x : Nat × Nat), q_41)
                                            (∀ (x_4 : Unit),
                                              let q := q;
                                              XOk (PX.x x) ∧
                                                ∀ (x_5 : Unit),
                                                  let q_42 := List.getD (OL.is o) q 0;
                                                  YOk (PX.y x) ∧
                                                    ∀ (x_6 : Unit),
                                                      let q_43 := Int.toNat q_42;
                                                      let q_44 := inX (PX.x x) q_42 && shF (PX.x x) q_42;
                                                      let q_45 := inY (PX.y x) q_42;
                                                      let q_46 := bif inX (PX.x x) q_42 then List.getD (XS.at_ (PX.x x)) q_43 0 else 0;
                                                      let q_47 := inX (PX.x x) q_42 && List.getD (XS.set (PX.x x)) q_43 false;
                                                      let q_48 := decide (XS.n (PX.x x) = 0);
                                                      let q_49 := bif q_45 then List.getD (YS.at_ (PX.y x)) q_43 0 else 0;
                                                      let q_50 := tab (XS.n (PX.x x)) fun (j : Nat) => shF (PX.x x) (↑j : Int);
                                                      let q_51 := q_45 && List.getD (YS.set (PX.y x)) q_43 false;
                                                      let q_52 := q_45 && List.getD (YS.first (PX.y x)) q_43 false;
                                                      let q_53 := q_41;
                                                      Bif (!(decide (q_47 = q_51) && (decide (q_46 = q_49) && (decide (q_44 = q_52) && true)))) q_53
                                                        (XOk (PX.x x) ∧
                                                          ∀ (x_7 : Bool × Nat × Nat),
                                                            let q_54 := LS.mk (Prod.fst x_7 && q_48) true (Prod.fst (Prod.snd x_7)) (Prod.snd (Prod.snd x_7)) (XS.n (PX.x x)) (XS.n (PX.x x)) (XS.set (PX.x x)) (XS.at_ (PX.x x)) q_50;
                                                            YOk (PX.y x) ∧
                                                              ∀ (x_8 : Nat × Nat),
                                                                let q_55 := LS.n q_54;
                                                                let q := q;
                                                                let q_56 := LS.mk false true (Prod.fst x_8) (Prod.snd x_8) (YS.n (PX.y x)) (YS.n (PX.y x)) (YS.set (PX.y x)) (YS.at_ (PX.y x)) (YS.first (PX.y x));
                                                                let q_57 := q_54;
                                                                let q_58 := [Col.bool (YS.set (PX.y x)), Col.int IntKind.i64 (YS.at_ (PX.y x)), Col.bool (YS.first (PX.y x))];
                                                                let q_59 := AV.sl false 3 4 0 (XS.n (PX.x x)) (XS.cap (PX.x x));
                                                                let q_60 := q_50;
                                                                let q_61 := q_37;
                                                                let q_62 := List.getD (OL.w o) q 0;
                                                                let q_63 := Prod.snd (Prod.snd x_7);
                                                                (LOk q_57 ∧ LOk q_56) ∧
                                                                  ∀ (x_9 : Unit),
                                                                    let q_64 := AV.val (Value.bool !(decide (q_55 = LS.n q_56) && sameB q_55 q_57 q_56));
                                                                    let q_65 := AO.arr false 37 (Hd.cap (OL.hd o q)) (Hd.len (OL.hd o q)) [Col.bool (OL.cs o q), Col.int IntKind.i64 (OL.ca o q), Col.bool (OL.cf o q)];
                                                                    let q_66 := q_19;
                                                                    let q_67 := AO.cells true 32 [AV.val (Value.int IntKind.i64 q_62), AV.val (Value.int IntKind.i64 (List.getD (OL.is o) q 0)), AV.val (Value.int IntKind.i64 (List.getD (OL.nows o) q 0)), AV.sl (Hd.nl (OL.hd o q)) 8 3 0 (Hd.len (OL.hd o q)) (Hd.cap (OL.hd o q))];
                                                                    let q_68 := q_55;
                                                                    let q_69 := AO.arr true 50 (XS.room (PX.x x)) (XS.m (PX.x x)) [Col.bool (XS.set (PX.x x)), Col.int IntKind.i64 (XS.at_ (PX.x x)), Col.bool (XS.first (PX.x x)), Col.int IntKind.i64 (XS.group (PX.x x))];
                                                                    let q_70 := AO.cells true 52 [AV.sl false 6 1 0 (YS.n (PX.y x)) (YS.cap (PX.y x)), AV.sl false 7 3 0 (YS.n2 (PX.y x)) (YS.cap2 (PX.y x))];
                                                                    let q_71 := AO.arr true 37 q_63 (XS.n (PX.x x)) [Col.bool (XS.set (PX.x x)), Col.int IntKind.i64 (XS.at_ (PX.x x)), Col.bool q_60];
                                                                    let q_72 := AO.arr true 37 (Prod.snd x_8) (YS.n (PX.y x)) q_58;
                                                                    let q_73 := AO.arr true 37 (YS.room2 (PX.y x)) (YS.m2 (PX.y x)) q_58;
                                                                    let q_74 := AO.arr true 3 (YS.room (PX.y x)) (YS.m (PX.y x)) [Col.int IntKind.i64 (YS.g (PX.y x))];
                                                                    let q_75 := q_24;
                                                                    let q_76 := q_62;
                                                                    let q_77 := q_20;
                                                                    let q_78 := q_56;
                                                                    let q_79 := q_21;
                                                                    let q_80 := q_22;
                                                                    let q_81 := AO.cells true 48 (q_59 :: q_61);
                                                                    let q_82 := AO.mapc true (KD.int IntKind.i64) false (XS.has (PX.x x)) [MCol.int IntKind.i64 (XS.f (PX.x x))];
                                                                    let q_83 := Prod.fst x_7 && q_48;
                                                                    let q_84 := q_33;
                                                                    let q_85 := q_28;
                                                                    let q_86 := q_29;
                                                                    let q_87 := q_30;
                                                                    let q_88 := q_32;
                                                                    let q_89 := q_60;
                                                                    let q_90 := AV.val (Value.bool (q_76 == 4));
                                                                    let q_91 := AV.val (Value.bool (q_76 == 3));
                                                                    let q_92 := Prod.fst (Prod.snd x_7);
                                                                    let q_93 := q_63;
                                                                    let q_94 := q_34;
                                                                    let q_95 := q_35;
                                                                    let q_96 := q_31;
                                                                    let q_97 := q_53;
                                                                    Bif (!(decide (q_68 = LS.n q_78) && sameB q_68 (LS.mk q_83 true q_92 q_93 (XS.n (PX.x x)) (XS.n (PX.x x)) (XS.set (PX.x x)) (XS.at_ (PX.x x)) q_89) q_78)) q_97
                                                                      ((q_26 ∧ (q_94 = q_94 ∧ q_84 ∧ q_64 = q_64 ∧ q_84 ∧ q_84 ∧ q_90 = q_90 ∧ q_91 = q_91 ∧ AV.val (Value.int IntKind.i64 q_76) = AV.val (Value.int IntKind.i64 q_76) ∧ q_85 = q_85 ∧ q_77 = q_77 ∧ q_88 = q_88 ∧ q_95 ∧ q_86 = q_86 ∧ q_87 = q_87 ∧ q_96 ∧ q_80 = q_80 ∧ q_79 = q_79 ∧ True) ∧ Bif (AO.deadB q_75) True (q_75 = q_75) ∧ Bif (AO.deadB q_66) True (q_66 = q_66) ∧ q_81 = q_81 ∧ Bif (AO.deadB q_69) True (q_69 = q_69) ∧ q_82 = q_82 ∧ q_70 = q_70 ∧ Bif (AO.deadB q_74) True (q_74 = q_74) ∧ Bif (AO.deadB q_73) True (q_73 = q_73) ∧ Bif (AO.deadB q_65) True (q_65 = q_65) ∧ q_67 = q_67 ∧ Bif (AO.deadB q_71) True (q_71 = q_71) ∧ Bif (AO.deadB q_72) True (q_72 = q_72) ∧ True) ∧
                                                                        ∀ (x_10 : Nat),
                                                                          let q_98 := PX.mk q_25 (PX.x x) (PX.y x);
                                                                          let q_99 := 0 + x_10;
                                                                          let q_100 := q_61;
                                                                          x_10 ≤ GS.n g ∧ True →
                                                                            let q_101 := PX.y q_98;
                                                                            let q_102 := q_66;
                                                                            let q_103 := PX.x q_98;
                                                                            let q_104 := decide (q_99 < GS.m g);
                                                                            let q_105 := q_70;
                                                                            let q_106 := q_75;
                                                                            let q_107 := q_79;
                                                                            let q_108 := q_80;
                                                                            let q_109 := AO.cells true 48 (q_59 :: q_100);
                                                                            let q_110 := q_69;
                                                                            let q_111 := PX.k q_98;
                                                                            let q_112 := AO.arr true 50 (XS.room q_103) (XS.m q_103) [Col.bool (XS.set q_103), Col.int IntKind.i64 (XS.at_ q_103), Col.bool (XS.first q_103), Col.int IntKind.i64 (XS.group q_103)];
                                                                            let q_113 := AO.arr true 37 (YS.room2 q_101) (YS.m2 q_101) [Col.bool (YS.set q_101), Col.int IntKind.i64 (YS.at_ q_101), Col.bool (YS.first q_101)];
                                                                            let q_114 := q_83;
                                                                            let q_115 := q_78;
                                                                            let q_116 := q_74;
                                                                            let q_117 := q_86;
                                                                            let q_118 := q_87;
                                                                            let q_119 := q_58;
                                                                            let q_120 := AO.arr true 3 (YS.room q_101) (YS.m q_101) [Col.int IntKind.i64 (YS.g q_101)];
                                                                            let q_121 := q_82;
                                                                            let q_122 := q_89;
                                                                            let q_123 := q_92;
                                                                            let q_124 := q_93;
                                                                            let q_125 := q_84;
                                                                            let q_126 := q_95;
                                                                            let q_127 := q_96;
                                                                            let q_128 := inR (↑x_10 : Int) (GS.n g);
                                                                            Bif (decide ((↑x_10 : Int) < (↑(GS.n g) : Int)))
                                                                              (Bif (!GS.nl g && (q_128 && q_104))
                                                                                (Bif q_104
                                                                                  (True ∧
                                                                                    ∀ (x_12 : Unit),
                                                                                      let q_129 := LS.n (LS.mk q_114 true q_123 q_124 (XS.n (PX.x x)) (XS.n (PX.x x)) (XS.set (PX.x x)) (XS.at_ (PX.x x)) q_122);
                                                                                      let q := q;
                                                                                      let q_130 := q_104;
                                                                                      let q_131 := LS.n q_115;
                                                                                      let q_132 := List.getD (GS.g g) (0 + Int.toNat (↑x_10 : Int)) 0;
                                                                                      let q_133 := q_119;
                                                                                      let q_134 := q_122;
                                                                                      let q_135 := List.getD (OL.w o) q 0;
                                                                                      let q_136 := q_124;
                                                                                      Bif (!GS.nl g && (q_128 && q_130))
                                                                                        (Bif q_130
                                                                                          (YOk (PX.y x) ∧
                                                                                            ∀ (x_13 : Unit),
                                                                                              let q_137 := AV.val (Value.bool !(decide (q_129 = q_131) && sameB q_129 (LS.mk q_114 true q_123 q_136 (XS.n (PX.x x)) (XS.n (PX.x x)) (XS.set (PX.x x)) (XS.at_ (PX.x x)) q_134) q_115));
                                                                                              let q_138 := AO.arr false 37 (Hd.cap (OL.hd o q)) (Hd.len (OL.hd o q)) [Col.bool (OL.cs o q), Col.int IntKind.i64 (OL.ca o q), Col.bool (OL.cf o q)];
                                                                                              let q := AO.cells true 32 [AV.val (Value.int IntKind.i64 q_135), AV.val (Value.int IntKind.i64 (List.getD (OL.is o) q 0)), AV.val (Value.int IntKind.i64 (List.getD (OL.nows o) q 0)), AV.sl (Hd.nl (OL.hd o q)) 8 3 0 (Hd.len (OL.hd o q)) (Hd.cap (OL.hd o q))];
                                                                                              let q_139 := q_102;
                                                                                              let q_140 := AO.arr true 37 q_136 (XS.n (PX.x x)) [Col.bool (XS.set (PX.x x)), Col.int IntKind.i64 (XS.at_ (PX.x x)), Col.bool q_134];
                                                                                              let q_141 := q_110;
                                                                                              let q_142 := AO.arr true 37 (Prod.snd x_8) (YS.n (PX.y x)) q_133;
                                                                                              let q_143 := AO.arr true 37 (YS.room2 (PX.y x)) (YS.m2 (PX.y x)) q_133;
                                                                                              let q_144 := q_105;
                                                                                              let q_145 := q_135;
                                                                                              let q_146 := q_116;
                                                                                              let q_147 := q_109;
                                                                                              let q_148 := q_106;
                                                                                              let q_149 := firstY (PX.y x) q_132;
                                                                                              let q_150 := Value.int IntKind.i64 q_132;
                                                                                              let q_151 := q_77;
                                                                                              let q_152 := x_10 + 1;
                                                                                              let q_153 := q_107;
                                                                                              let q_154 := q_108;
                                                                                              let q_155 := q_121;
                                                                                              let q_156 := q_125;
                                                                                              let q_157 := AV.val (Value.bool (q_145 == 3));
                                                                                              let q_158 := AV.val (Value.bool (q_145 == 4));
                                                                                              let q_159 := q_85;
                                                                                              let q_160 := q_117;
                                                                                              let q_161 := q_118;
                                                                                              let q_162 := q_88;
                                                                                              let q_163 := q_97;
                                                                                              Bif (XS.f (PX.x x) q_150 != fst q_149) q_163 (Bif (!XS.has (PX.x x) q_150 == Option.isSome q_149) q_163 ((q_152 ≤ GS.n g ∧ True) ∧ GS.n g - q_152 < GS.n g - x_10 ∧ (AV.val (Value.int IntKind.i64 (IntKind.wrap IntKind.i64 ((↑x_10 : Int) + 1))) = AV.val (Value.int IntKind.i64 (↑q_152 : Int)) ∧ q_156 ∧ q_137 = q_137 ∧ q_156 ∧ q_156 ∧ q_158 = q_158 ∧ q_157 = q_157 ∧ AV.val (Value.int IntKind.i64 q_145) = AV.val (Value.int IntKind.i64 q_145) ∧ q_159 = q_159 ∧ q_151 = q_151 ∧ q_162 = q_162 ∧ q_126 ∧ q_160 = q_160 ∧ q_161 = q_161 ∧ q_127 ∧ q_154 = q_154 ∧ q_153 = q_153 ∧ True) ∧ Bif (AO.deadB q_148) True (q_148 = q_148) ∧ Bif (AO.deadB q_139) True (q_139 = q_139) ∧ q_147 = q_147 ∧ Bif (AO.deadB q_141) True (q_141 = q_141) ∧ q_155 = q_155 ∧ q_144 = q_144 ∧ Bif (AO.deadB q_146) True (q_146 = q_146) ∧ Bif (AO.deadB q_143) True (q_143 = q_143) ∧ Bif (AO.deadB q_138) True (q_138 = q_138) ∧ q = q ∧ Bif (AO.deadB q_140) True (q_140 = q_140) ∧ Bif (AO.deadB q_142) True (q_142 = q_142) ∧ True)))
                                                                                          False)
                                                                                        False)
                                                                                  False)
                                                                                False)
                                                                              ((q_111 ≤ OL.n o ∧ Rel q_103 q_101 ∧ XS.n q_103 = GS.n g) ∧ OL.n o - q_111 < q_27 ∧ (q_23 = AV.val (Value.int IntKind.i64 (↑q_111 : Int)) ∧ q_125 ∧ q_126 ∧ q_117 = q_117 ∧ q_118 = q_118 ∧ q_127 ∧ q_108 = q_108 ∧ q_107 = q_107 ∧ True) ∧ Bif (AO.deadB q_106) True (q_106 = q_106) ∧ Bif (AO.deadB q_102) True (q_102 = q_102) ∧ q_109 = AO.cells true 48 (AV.sl false 3 4 0 (XS.n q_103) (XS.cap q_103) :: q_100) ∧ Bif (AO.deadB q_112) True (q_110 = q_112) ∧ q_121 = AO.mapc true (KD.int IntKind.i64) false (XS.has q_103) [MCol.int IntKind.i64 (XS.f q_103)] ∧ q_105 = AO.cells true 52 [AV.sl false 6 1 0 (YS.n q_101) (YS.cap q_101), AV.sl false 7 3 0 (YS.n2 q_101) (YS.cap2 q_101)] ∧ Bif (AO.deadB q_120) True (q_116 = q_120) ∧ Bif (AO.deadB q_113) True (AO.arr true 37 (YS.room2 (PX.y x)) (YS.m2 (PX.y x)) q_119 = q_113) ∧ True))))))
                                  (XOk (PX.x x) ∧
                                    ∀ (x_3 : Unit),
                                      let q := q;
                                      YOk (PX.y x) ∧
                                        ∀ (x_4 : Unit),
                                          let q_40 := trip (PX.x x) (List.getD (OL.is o) q 0) (List.getD (OL.nows o) q 0);
                                          let q := q;
                                          let q_41 := List.getD (OL.nows o) q 0;
                                          let q_42 := List.getD (OL.is o) q 0;
                                          let q_43 := q_36;
                                          Bif (!Prod.fst q_40 == Prod.fst (tripY (PX.y x) q_42 q_41)) q_43
                                            (XOk (Prod.snd q_40) ∧
                                              ∀ (x_5 : Unit),
                                                let q_44 := q_42;
                                                let q_45 := Prod.snd (tripY (PX.y x) q_44 q_41);
                                                let q := q;
                                                YOk q_45 ∧
                                                  ∀ (x_6 : Unit),
                                                    let q_46 := Prod.snd (trip (PX.x x) q_44 (List.getD (OL.nows o) q 0));
                                                    let q_47 := q_45;
                                                    let q_48 := Int.toNat q_44;
                                                    let q_49 := inX q_46 q_44 && shF q_46 q_44;
                                                    let q_50 := inY q_47 q_44;
                                                    let q_51 := bif inX q_46 q_44 then List.getD (XS.at_ q_46) q_48 0 else 0;
                                                    let q_52 := inX q_46 q_44 && List.getD (XS.set q_46) q_48 false;
                                                    let q_53 := bif q_50 then List.getD (YS.at_ q_47) q_48 0 else 0;
                                                    let q_54 := q_50 && List.getD (YS.set q_47) q_48 false;
                                                    let q_55 := q_50 && List.getD (YS.first q_47) q_48 false;
                                                    let q_56 := q_43;
                                                    Bif (!(decide (q_52 = q_54) && (decide (q_51 = q_53) && (decide (q_49 = q_55) && true)))) q_56
                                                      (XOk q_46 ∧
                                                        ∀ (x_7 : Bool × Nat × Nat),
                                                          let q_57 := LS.mk (Prod.fst x_7 && decide (XS.n q_46 = 0)) true (Prod.fst (Prod.snd x_7)) (Prod.snd (Prod.snd x_7)) (XS.n q_46) (XS.n q_46) (XS.set q_46) (XS.at_ q_46) (tab (XS.n q_46) fun (j : Nat) => shF q_46 (↑j : Int));
                                                          let q_58 := q_47;
                                                          let q := q;
                                                          YOk q_58 ∧
                                                            ∀ (x_8 : Nat × Nat),
                                                              let q_59 := LS.n q_57;
                                                              let q_60 := LS.mk false true (Prod.fst x_8) (Prod.snd x_8) (YS.n q_58) (YS.n q_58) (YS.set q_58) (YS.at_ q_58) (YS.first q_58);
                                                              let q_61 := q_57;
                                                              let q_62 := Prod.snd (trip (PX.x x) (List.getD (OL.is o) q 0) (List.getD (OL.nows o) q 0));
                                                              let q := q;
                                                              let q_63 := tripY (PX.y x) (List.getD (OL.is o) q 0) (List.getD (OL.nows o) q 0);
                                                              let q_64 := List.getD (OL.is o) q 0;
                                                              let q_65 := q_37;
                                                              let q_66 := List.getD (OL.w o) q 0;
                                                              let q_67 := List.getD (OL.nows o) q 0;
                                                              let q_68 := Prod.snd (Prod.snd x_7);
                                                              (LOk q_61 ∧ LOk q_60) ∧
                                                                ∀ (x_9 : Unit),
                                                                  let q_69 := AV.val (Value.bool !(decide (q_59 = LS.n q_60) && sameB q_59 q_61 q_60));
                                                                  let q_70 := q_59;
                                                                  let q_71 := AO.arr true 50 (XS.room q_62) (XS.m q_62) [Col.bool (XS.set q_62), Col.int IntKind.i64 (XS.at_ q_62), Col.bool (XS.first q_62), Col.int IntKind.i64 (XS.group q_62)];
                                                                  let q_72 := Prod.snd q_63;
                                                                  let q_73 := AO.arr true 37 q_68 (XS.n q_62) [Col.bool (XS.set q_62), Col.int IntKind.i64 (XS.at_ q_62), Col.bool (tab (XS.n q_62) fun (j : Nat) => shF q_62 (↑j : Int))];
                                                                  let q_74 := q_62;
                                                                  let q_75 := AO.arr false 37 (Hd.cap (OL.hd o q)) (Hd.len (OL.hd o q)) [Col.bool (OL.cs o q), Col.int IntKind.i64 (OL.ca o q), Col.bool (OL.cf o q)];
                                                                  let q_76 := q_19;
                                                                  let q_77 := AO.cells true 32 [AV.val (Value.int IntKind.i64 q_66), AV.val (Value.int IntKind.i64 q_64), AV.val (Value.int IntKind.i64 q_67), AV.sl (Hd.nl (OL.hd o q)) 8 3 0 (Hd.len (OL.hd o q)) (Hd.cap (OL.hd o q))];
                                                                  let q_78 := AV.val (Value.bool (Prod.fst (trip (PX.x x) q_64 q_67)));
                                                                  let q_79 := AV.val (Value.bool (Prod.fst q_63));
                                                                  let q_80 := AO.arr true 37 (Prod.snd x_8) (YS.n q_72) [Col.bool (YS.set q_72), Col.int IntKind.i64 (YS.at_ q_72), Col.bool (YS.first q_72)];
                                                                  let q_81 := q_24;
                                                                  let q_82 := AO.arr true 37 (YS.room2 q_72) (YS.m2 q_72) [Col.bool (YS.set q_72), Col.int IntKind.i64 (YS.at_ q_72), Col.bool (YS.first q_72)];
                                                                  let q_83 := AO.cells true 52 [AV.sl false 6 1 0 (YS.n q_72) (YS.cap q_72), AV.sl false 7 3 0 (YS.n2 q_72) (YS.cap2 q_72)];
                                                                  let q_84 := q_66;
                                                                  let q_85 := q_20;
                                                                  let q_86 := q_21;
                                                                  let q_87 := q_22;
                                                                  let q_88 := AO.cells true 48 (AV.sl false 3 4 0 (XS.n q_74) (XS.cap q_74) :: q_65);
                                                                  let q_89 := AO.arr true 3 (YS.room q_72) (YS.m q_72) [Col.int IntKind.i64 (YS.g q_72)];
                                                                  let q_90 := LS.n (LS.mk false true (Prod.fst x_8) (Prod.snd x_8) (YS.n q_72) (YS.n q_72) (YS.set q_72) (YS.at_ q_72) (YS.first q_72));
                                                                  let q_91 := q_28;
                                                                  let q_92 := q_29;
                                                                  let q_93 := q_30;
                                                                  let q_94 := q_32;
                                                                  let q_95 := AO.mapc true (KD.int IntKind.i64) false (XS.has q_74) [MCol.int IntKind.i64 (XS.f q_74)];
                                                                  let q_96 := q_25;
                                                                  let q_97 := AV.val (Value.bool (q_84 == 4));
                                                                  let q_98 := AV.val (Value.bool (q_84 == 3));
                                                                  let q_99 := Prod.fst (Prod.snd x_7);
                                                                  let q_100 := q_68;
                                                                  let q_101 := q_33;
                                                                  let q_102 := q_34;
                                                                  let q_103 := q_35;
                                                                  let q_104 := q_31;
                                                                  let q_105 := q_56;
                                                                  Bif (!(decide (q_70 = q_90) && sameB q_70 (LS.mk (Prod.fst x_7 && decide (XS.n q_74 = 0)) true q_99 q_100 (XS.n q_74) (XS.n q_74) (XS.set q_74) (XS.at_ q_74) (tab (XS.n q_74) fun (j : Nat) => shF q_74 (↑j : Int))) (LS.mk false true (Prod.fst x_8) (Prod.snd x_8) (YS.n q_72) (YS.n q_72) (YS.set q_72) (YS.at_ q_72) (YS.first q_72)))) q_105
                                                                    ((q_26 ∧ (q_102 = q_102 ∧ q_101 ∧ q_69 = q_69 ∧ q_79 = q_79 ∧ q_78 = q_78 ∧ q_97 = q_97 ∧ q_98 = q_98 ∧ AV.val (Value.int IntKind.i64 q_84) = AV.val (Value.int IntKind.i64 q_84) ∧ q_91 = q_91 ∧ q_85 = q_85 ∧ q_94 = q_94 ∧ q_103 ∧ q_92 = q_92 ∧ q_93 = q_93 ∧ q_104 ∧ q_87 = q_87 ∧ q_86 = q_86 ∧ True) ∧ Bif (AO.deadB q_81) True (q_81 = q_81) ∧ Bif (AO.deadB q_76) True (q_76 = q_76) ∧ q_88 = q_88 ∧ Bif (AO.deadB q_71) True (q_71 = q_71) ∧ q_95 = q_95 ∧ q_83 = q_83 ∧ Bif (AO.deadB q_89) True (q_89 = q_89) ∧ Bif (AO.deadB q_82) True (q_82 = q_82) ∧ Bif (AO.deadB q_75) True (q_75 = q_75) ∧ q_77 = q_77 ∧ Bif (AO.deadB q_73) True (q_73 = q_73) ∧ Bif (AO.deadB q_80) True (q_80 = q_80) ∧ True) ∧
                                                                      ∀ (x_10 : Nat),
                                                                        let q_106 := PX.mk q_96 q_74 q_72;
                                                                        let q := q;
                                                                        let q_107 := 0 + x_10;
                                                                        let q_108 := List.getD (OL.is o) q 0;
                                                                        let q_109 := List.getD (OL.nows o) q 0;
                                                                        x_10 ≤ GS.n g ∧ True →
                                                                          let q_110 := PX.y q_106;
                                                                          let q_111 := PX.x q_106;
                                                                          let q_112 := Prod.snd (tripY (PX.y x) q_108 q_109);
                                                                          let q_113 := Prod.snd (trip (PX.x x) q_108 q_109);
                                                                          let q_114 := q_76;
                                                                          let q_115 := decide (q_107 < GS.m g);
                                                                          let q_116 := q_81;
                                                                          let q_117 := q_86;
                                                                          let q_118 := q_87;
                                                                          let q_119 := PX.k (PX.mk q_96 q_113 q_112);
                                                                          let q_120 := AO.arr true 50 (XS.room q_111) (XS.m q_111) [Col.bool (XS.set q_111), Col.int IntKind.i64 (XS.at_ q_111), Col.bool (XS.first q_111), Col.int IntKind.i64 (XS.group q_111)];
                                                                          let q_121 := AO.arr true 37 (YS.room2 q_110) (YS.m2 q_110) [Col.bool (YS.set q_110), Col.int IntKind.i64 (YS.at_ q_110), Col.bool (YS.first q_110)];
                                                                          let q_122 := q_92;
                                                                          let q_123 := q_93;
                                                                          let q_124 := q_65;
                                                                          let q_125 := AO.arr true 3 (YS.room q_110) (YS.m q_110) [Col.int IntKind.i64 (YS.g q_110)];
                                                                          let q_126 := q_99;
                                                                          let q_127 := q_100;
                                                                          let q_128 := q_101;
                                                                          let q_129 := q_103;
                                                                          let q_130 := q_104;
                                                                          let q_131 := inR (↑x_10 : Int) (GS.n g);
                                                                          Bif (decide ((↑x_10 : Int) < (↑(GS.n g) : Int)))
                                                                            (Bif (!GS.nl g && (q_131 && q_115))
                                                                              (Bif q_115
                                                                                (True ∧
                                                                                  ∀ (x_12 : Unit),
                                                                                    let q_132 := LS.n (LS.mk (Prod.fst x_7 && decide (XS.n q_113 = 0)) true q_126 q_127 (XS.n q_113) (XS.n q_113) (XS.set q_113) (XS.at_ q_113) (tab (XS.n q_113) fun (j : Nat) => shF q_113 (↑j : Int)));
                                                                                    let q_133 := q_113;
                                                                                    let q_134 := LS.n (LS.mk false true (Prod.fst x_8) (Prod.snd x_8) (YS.n q_112) (YS.n q_112) (YS.set q_112) (YS.at_ q_112) (YS.first q_112));
                                                                                    let q_135 := q_112;
                                                                                    let q := q;
                                                                                    let q_136 := q_115;
                                                                                    let q_137 := List.getD (GS.g g) (0 + Int.toNat (↑x_10 : Int)) 0;
                                                                                    let q_138 := List.getD (OL.is o) q 0;
                                                                                    let q_139 := List.getD (OL.nows o) q 0;
                                                                                    let q_140 := tab (XS.n q_133) fun (j : Nat) => shF q_133 (↑j : Int);
                                                                                    let q_141 := List.getD (OL.w o) q 0;
                                                                                    let q_142 := q_127;
                                                                                    Bif (!GS.nl g && (q_131 && q_136))
                                                                                      (Bif q_136
                                                                                        (YOk q_135 ∧
                                                                                          ∀ (x_13 : Unit),
                                                                                            let q_143 := AV.val (Value.bool !(decide (q_132 = q_134) && sameB q_132 (LS.mk (Prod.fst x_7 && decide (XS.n q_133 = 0)) true q_126 q_142 (XS.n q_133) (XS.n q_133) (XS.set q_133) (XS.at_ q_133) q_140) (LS.mk false true (Prod.fst x_8) (Prod.snd x_8) (YS.n q_135) (YS.n q_135) (YS.set q_135) (YS.at_ q_135) (YS.first q_135))));
                                                                                            let q_144 := AO.arr true 50 (XS.room q_133) (XS.m q_133) [Col.bool (XS.set q_133), Col.int IntKind.i64 (XS.at_ q_133), Col.bool (XS.first q_133), Col.int IntKind.i64 (XS.group q_133)];
                                                                                            let q_145 := q_135;
                                                                                            let q_146 := AO.arr true 37 q_142 (XS.n q_133) [Col.bool (XS.set q_133), Col.int IntKind.i64 (XS.at_ q_133), Col.bool q_140];
                                                                                            let q_147 := q_133;
                                                                                            let q_148 := AO.arr false 37 (Hd.cap (OL.hd o q)) (Hd.len (OL.hd o q)) [Col.bool (OL.cs o q), Col.int IntKind.i64 (OL.ca o q), Col.bool (OL.cf o q)];
                                                                                            let q := AO.cells true 32 [AV.val (Value.int IntKind.i64 q_141), AV.val (Value.int IntKind.i64 q_138), AV.val (Value.int IntKind.i64 q_139), AV.sl (Hd.nl (OL.hd o q)) 8 3 0 (Hd.len (OL.hd o q)) (Hd.cap (OL.hd o q))];
                                                                                            let q_149 := q_114;
                                                                                            let q_150 := AV.val (Value.bool (Prod.fst (trip (PX.x x) q_138 q_139)));
                                                                                            let q_151 := AV.val (Value.bool (Prod.fst (tripY (PX.y x) q_138 q_139)));
                                                                                            let q_152 := AO.arr true 37 (Prod.snd x_8) (YS.n q_145) [Col.bool (YS.set q_145), Col.int IntKind.i64 (YS.at_ q_145), Col.bool (YS.first q_145)];
                                                                                            let q_153 := AO.arr true 37 (YS.room2 q_145) (YS.m2 q_145) [Col.bool (YS.set q_145), Col.int IntKind.i64 (YS.at_ q_145), Col.bool (YS.first q_145)];
                                                                                            let q_154 := AO.cells true 52 [AV.sl false 6 1 0 (YS.n q_145) (YS.cap q_145), AV.sl false 7 3 0 (YS.n2 q_145) (YS.cap2 q_145)];
                                                                                            let q_155 := q_141;
                                                                                            let q_156 := AO.cells true 48 (AV.sl false 3 4 0 (XS.n q_147) (XS.cap q_147) :: q_124);
                                                                                            let q_157 := q_116;
                                                                                            let q_158 := AO.arr true 3 (YS.room q_145) (YS.m q_145) [Col.int IntKind.i64 (YS.g q_145)];
                                                                                            let q_159 := firstY q_145 q_137;
                                                                                            let q_160 := Value.int IntKind.i64 q_137;
                                                                                            let q_161 := q_85;
                                                                                            let q_162 := x_10 + 1;
                                                                                            let q_163 := q_117;
                                                                                            let q_164 := q_118;
                                                                                            let q_165 := AO.mapc true (KD.int IntKind.i64) false (XS.has q_147) [MCol.int IntKind.i64 (XS.f q_147)];
                                                                                            let q_166 := AV.val (Value.bool (q_155 == 3));
                                                                                            let q_167 := AV.val (Value.bool (q_155 == 4));
                                                                                            let q_168 := q_91;
                                                                                            let q_169 := q_122;
                                                                                            let q_170 := q_123;
                                                                                            let q_171 := q_94;
                                                                                            let q_172 := q_105;
                                                                                            Bif (XS.f q_147 q_160 != fst q_159) q_172 (Bif (!XS.has q_147 q_160 == Option.isSome q_159) q_172 ((q_162 ≤ GS.n g ∧ True) ∧ GS.n g - q_162 < GS.n g - x_10 ∧ (AV.val (Value.int IntKind.i64 (IntKind.wrap IntKind.i64 ((↑x_10 : Int) + 1))) = AV.val (Value.int IntKind.i64 (↑q_162 : Int)) ∧ q_128 ∧ q_143 = q_143 ∧ q_151 = q_151 ∧ q_150 = q_150 ∧ q_167 = q_167 ∧ q_166 = q_166 ∧ AV.val (Value.int IntKind.i64 q_155) = AV.val (Value.int IntKind.i64 q_155) ∧ q_168 = q_168 ∧ q_161 = q_161 ∧ q_171 = q_171 ∧ q_129 ∧ q_169 = q_169 ∧ q_170 = q_170 ∧ q_130 ∧ q_164 = q_164 ∧ q_163 = q_163 ∧ True) ∧ Bif (AO.deadB q_157) True (q_157 = q_157) ∧ Bif (AO.deadB q_149) True (q_149 = q_149) ∧ q_156 = q_156 ∧ Bif (AO.deadB q_144) True (q_144 = q_144) ∧ q_165 = q_165 ∧ q_154 = q_154 ∧ Bif (AO.deadB q_158) True (q_158 = q_158) ∧ Bif (AO.deadB q_153) True (q_153 = q_153) ∧ Bif (AO.deadB q_148) True (q_148 = q_148) ∧ q = q ∧ Bif (AO.deadB q_146) True (q_146 = q_146) ∧ Bif (AO.deadB q_152) True (q_152 = q_152) ∧ True)))
                                                                                        False)
                                                                                      False)
                                                                                False)
                                                                              False)
                                                                            ((q_119 ≤ OL.n o ∧ Rel q_111 q_110 ∧ XS.n q_111 = GS.n g) ∧ OL.n o - q_119 < q_27 ∧ (q_23 = AV.val (Value.int IntKind.i64 (↑q_119 : Int)) ∧ q_128 ∧ q_129 ∧ q_122 = q_122 ∧ q_123 = q_123 ∧ q_130 ∧ q_118 = q_118 ∧ q_117 = q_117 ∧ True) ∧ Bif (AO.deadB q_116) True (q_116 = q_116) ∧ Bif (AO.deadB q_114) True (q_114 = q_114) ∧ AO.cells true 48 (AV.sl false 3 4 0 (XS.n q_113) (XS.cap q_113) :: q_124) = AO.cells true 48 (AV.sl false 3 4 0 (XS.n q_111) (XS.cap q_111) :: q_124) ∧ Bif (AO.deadB q_120) True (AO.arr true 50 (XS.room q_113) (XS.m q_113) [Col.bool (XS.set q_113), Col.int IntKind.i64 (XS.at_ q_113), Col.bool (XS.first q_113), Col.int IntKind.i64 (XS.group q_113)] = q_120) ∧ AO.mapc true (KD.int IntKind.i64) false (XS.has q_113) [MCol.int IntKind.i64 (XS.f q_113)] = AO.mapc true (KD.int IntKind.i64) false (XS.has q_111) [MCol.int IntKind.i64 (XS.f q_111)] ∧ AO.cells true 52 [AV.sl false 6 1 0 (YS.n q_112) (YS.cap q_112), AV.sl false 7 3 0 (YS.n2 q_112) (YS.cap2 q_112)] = AO.cells true 52 [AV.sl false 6 1 0 (YS.n q_110) (YS.cap q_110), AV.sl false 7 3 0 (YS.n2 q_110) (YS.cap2 q_110)] ∧ Bif (AO.deadB q_125) True (AO.arr true 3 (YS.room q_112) (YS.m q_112) [Col.int IntKind.i64 (YS.g q_112)] = q_125) ∧ Bif (AO.deadB q_121) True (AO.arr true 37 (YS.room2 q_112) (YS.m2 q_112) [Col.bool (YS.set q_112), Col.int IntKind.i64 (YS.at_ q_112), Col.bool (YS.first q_112)] = q_121) ∧ True)))))))
                              False)
                            False)
                          q_31)) := by kernel_rfl
set_option maxHeartbeats 4000000 in
theorem plays_vc (g : GS) (o : OL) (hg : GOk g) (ho : POk o) : FnV Try.prog Γa (LPlays g o) Try.f3 [gV g 0, pV o 1] [some (gO g), some (pO o)] (fun v _ => v = bv true) := by
  have hn := fun c => new_rel hg c
  have hook := ho.ook
  have hlok := ho.lok
  have hg0 := hg
  obtain ⟨o1, o2, o3, o4, o5, o6, o7, o8, o9, o10⟩ := ho
  obtain ⟨g1, g2, g3, g4⟩ := hg
  refine FnV.of (plays_nf _ _) ?_
  simp only [Bif_need, Bif_True]
  simp only [Bif_iff, eq_self, and_true, true_and, AV.val.injEq, AV.agg.injEq, AV.tup.injEq, AV.sl.injEq, AV.ptr.injEq, AV.mp.injEq, Value.int.injEq, Value.bool.injEq, Value.string.injEq, AO.cells.injEq, AO.arr.injEq, AO.mapc.injEq, List.cons.injEq, Col.bool.injEq, Col.int.injEq, Col.str.injEq, MCol.int.injEq, MCol.bool.injEq, MCol.str.injEq, decide_eq_true_eq, decide_eq_false_iff_not, Nat.zero_add, Nat.add_zero, implies_true, Bool.and_eq_true, inR_iff, List.drop_zero, List.take_nil, List.drop_nil, List.nil_append, Int.toNat_natCast, longEnough, colLen, Bool.not_true, Bool.not_false, Bool.true_or, Bool.or_eq_true, Bool.not_eq_true', Bool.not_eq_false', take_take_self, take_tab, one_col, tab_length, mix_length, List.length_take, Nat.min_eq_left, List.set_cons_zero, blt01, Bool.and_false, Bool.and_true, Bool.false_and, Bool.true_and, Bool.false_eq_true, Bool.true_eq_false, false_and, and_false, false_implies]
  repeat' (first | apply And.intro | intro _)
  all_goals try omega
  all_goals first
    | omega
    | with_reducible assumption
    | (have hk := (‹_ ∧ Rel _ _ ∧ _›).1; have hR := (‹_ ∧ Rel _ _ ∧ _›).2.1; have hN := (‹_ ∧ Rel _ _ ∧ _›).2.2
       with_reducible first
       | exact hR
       | exact hR.xok
       | exact hR.yok
       | exact hR.mixed1 ‹_› ‹_›
       | exact hR.mixed2 ‹_› ‹_›
       | exact (hR.reset _).2.xok
       | exact (hR.trip _ _).2.xok
       | exact (hR.reset _).2.yok
       | exact (hR.trip _ _).2.yok
       | exact (hR.reset _).2
       | exact (hR.trip _ _).2
       | exact (hR.load' (hlok _) ‹_› (0, 0)).xok
       | exact (hR.load' (hlok _) ‹_› _).yok
       | exact (hR.load' (hlok _) ‹_› _)
       | exact hR.lokX _ _ _
       | exact hR.lokY _ _
       | exact (hR.reset _).2.lokX _ _ _
       | exact (hR.reset _).2.lokY _ _
       | exact (hR.trip _ _).2.lokX _ _ _
       | exact (hR.trip _ _).2.lokY _ _
       | exact (hR.load' (hlok _) ‹_› (0, 0)).lokX _ _ _
       | exact (hR.load' (hlok _) ‹_› _).lokY _ _
       | exact (reset_n _ _).trans hN
       | exact (trip_n _ _ _).trans hN
       | exact (loadTo_n _ _).trans hN
       | exact hR.no_reset ‹_›
       | exact hR.no_trip ‹_›
       | exact (hR.reset _).2.no_at ‹_›
       | exact (hR.reset _).2.no_same ‹_›
       | exact (hR.reset _).2.no_f ‹_›
       | exact (hR.reset _).2.no_i ‹_›
       | exact (hR.trip _ _).2.no_at ‹_›
       | exact (hR.trip _ _).2.no_same ‹_›
       | exact (hR.trip _ _).2.no_f ‹_›
       | exact (hR.trip _ _).2.no_i ‹_›
       | exact (hR.load' (hlok _) ‹_› _).no_at ‹_›
       | exact (hR.load' (hlok _) ‹_› _).no_same ‹_›
       | exact (hR.load' (hlok _) ‹_› _).no_f ‹_›
       | exact (hR.load' (hlok _) ‹_› _).no_i ‹_›
       | exact hR.no_at ‹_›
       | exact hR.no_same ‹_›
       | exact hR.no_f ‹_›
       | exact hR.no_i ‹_›
       | exact hlok _
       | exact nl_false g4 ‹_›
       | exact nl_false o3 ‹_›
       | exact hN)
    | exact hn _
    | (rw [IntWalk.i64_in _ (by omega)]; omega)
    | exact newX_n _
    | (with_reducible exact hlok _)
    | exact (‹_ ∧ Rel _ _ ∧ _›).2.1.load' (hlok _) ‹_› _
end Go.Wk.L14

namespace Go.Proofs.Ythemaknfhihphaa
open Go Go.Vs Go.Proofs Go.Wk.L14 Go.ChangeShapes Go.WideShapes Go.ChangeAt Go.RowKit
set_option linter.unusedSimpArgs false
set_option linter.unusedVariables false
set_option maxRecDepth 10000

theorem one_le {H : Type} (d : DataW H) : 1 ≤ Rows.uptoBulk d := by
  cases d with
  | lit l => cases l <;> simp [Rows.uptoBulk]
  | _ => simp [Rows.uptoBulk]
def bulk (H : Type) : Bulk H where
  one := Rows.uptoBulk
  all := Rows.uptoBulkAll
  slice := fun es rs => by simp only [Rows.uptoBulk]
  agg := fun ps => by simp only [Rows.uptoBulk]
  str := fun b => by simp only [Rows.uptoBulk]
  pos := one_le
  nil := by simp only [Rows.uptoBulkAll]
  cons := fun d r => by simp only [Rows.uptoBulkAll]
theorem bound {H : Type} {l : List (DataW H)} (hk : Rows.uptoSmall H l = true) : Rows.uptoBulkAll l ≤ 1048576 := of_decide_eq_true hk

theorem own : ownKnob Try.prog.godebug = none := by kernel_rfl
theorem hl : laidOutB Try.prog = true := by kernel_rfl
theorem hmr : mapsRowed Try.prog = true := by kernel_rfl
theorem hfull : ((List.range Try.prog.types.size).all fun t => match Try.prog.underlying t with | some (.slice e) => decide (0 < Try.prog.cellsOf e) | _ => true) = true := by kernel_rfl

/-! what may be loaded, as three lists for each call -/
theorem far3 {B : Nat} {n : Nat} {c : Col} (h : ColSh B (.row 37 [.bool, .int .i64, .bool]) n c) : ∃ (hd : Nat → Hd) (cs : Nat → List Bool) (ca : Nat → List Int) (cf : Nat → List Bool), c = .far n 37 3 hd (fun i => [.bool (cs i), .int .i64 (ca i), .bool (cf i)]) ∧ ∀ i, HdOk B (hd i) ∧ (cs i).length = (hd i).len ∧ (ca i).length = (hd i).len ∧ (cf i).length = (hd i).len := by
  simp only [ColSh] at h
  obtain ⟨hd, cols, rfl, h⟩ := h
  have h2 : ∀ i, ∃ p : List Bool × List Int × List Bool, cols i = [.bool p.1, .int .i64 p.2.1, .bool p.2.2] ∧ HdOk B (hd i) ∧ p.1.length = (hd i).len ∧ p.2.1.length = (hd i).len ∧ p.2.2.length = (hd i).len := fun i => by
    obtain ⟨h0, h1⟩ := h i
    simp only [ColsSh, ColSh] at h1
    obtain ⟨_, _, e1, ⟨a, rfl, ha⟩, _, _, rfl, ⟨b, rfl, hb, _⟩, _, _, rfl, ⟨c, rfl, hc⟩, rfl⟩ := h1
    exact ⟨(a, b, c), e1, h0, ha, hb, hc⟩
  refine ⟨hd, fun i => (Classical.choose (h2 i)).1, fun i => (Classical.choose (h2 i)).2.1, fun i => (Classical.choose (h2 i)).2.2, ?_, fun i => (Classical.choose_spec (h2 i)).2⟩
  congr 1
  funext i
  exact (Classical.choose_spec (h2 i)).1

theorem playsPs : pshs Try.prog Try.f3.params.toList = some [⟨false, [.row 3 [.int .i64]]⟩, ⟨false, [.row 32 [.int .i64, .int .i64, .int .i64, .row 37 [.bool, .int .i64, .bool]]]⟩] := by kernel_rfl

theorem groups_arg {n : Nat} {vs : List AV} {H : AHeap} (h : CellsArg 1048576 [.row 3 [.int .i64]] n vs H) : ∃ g : GS, GOk g ∧ vs = [gV g n] ∧ H = [some (gO g)] := by
  simp only [CellsArg, CellArg, ColsSh, ColSh] at h
  obtain ⟨v, H1, vs', H2, rfl, rfl, ⟨hd, cols, rfl, rfl, ⟨h1, h2, h3⟩, c, cs', rfl, ⟨l, rfl, hl, _⟩, rfl⟩, rfl, rfl⟩ := h
  exact ⟨⟨hd.nl, false, hd.cap, hd.cap, hd.len, hd.len, l⟩, ⟨by show hd.len ≤ 1048576; omega, rfl, hl, fun hh => by have := h3 hh; show hd.len = 0; omega⟩, rfl, rfl⟩
theorem ops_arg {n : Nat} {vs : List AV} {H : AHeap} (h : CellsArg 1048576 [.row 32 [.int .i64, .int .i64, .int .i64, .row 37 [.bool, .int .i64, .bool]]] n vs H) : ∃ o : OL, POk o ∧ vs = [pV o n] ∧ H = [some (pO o)] := by
  simp only [CellsArg, CellArg] at h
  obtain ⟨v, H1, vs', H2, rfl, rfl, ⟨hd, cols, rfl, rfl, ⟨h1, h2, h3⟩, hc⟩, rfl, rfl⟩ := h
  simp only [ColsSh] at hc
  obtain ⟨c1, _, rfl, k1, c2, _, rfl, k2, c3, _, rfl, k3, c4, _, rfl, k4, rfl⟩ := hc
  obtain ⟨hd2, cs, ca, cf, rfl, q⟩ := far3 k4
  simp only [ColSh] at k1 k2 k3
  obtain ⟨w, rfl, hw, _⟩ := k1
  obtain ⟨is, rfl, his, _⟩ := k2
  obtain ⟨nows, rfl, hnows, _⟩ := k3
  exact ⟨⟨hd.nl, false, hd.cap, hd.cap, hd.len, hd.len, w, is, nows, hd.len, hd2, cs, ca, cf⟩, ⟨by show hd.len ≤ 1048576; omega, rfl, fun hh => by have := h3 hh; show hd.len = 0; omega, hw, his, hnows, fun i => (q i).1, fun i => (q i).2.1, fun i => (q i).2.2.1, fun i => (q i).2.2.2⟩, rfl, rfl⟩

theorem plays_law : LawOk Try.prog Try.f3 1048576 := by
  intro ps hps args H ha
  obtain rfl := Option.some.inj (playsPs.symm.trans hps)
  simp only [ArgsSh] at ha
  obtain ⟨vs, H1, as', H2, a1, rfl, rfl, vs2, H3, as2, H4, a2, rfl, rfl, rfl, rfl⟩ := ha
  obtain ⟨g, hg, rfl, rfl⟩ := groups_arg a1
  obtain ⟨o, ho, rfl, rfl⟩ := ops_arg a2
  exact ⟨Γa, LPlays g o, Γa_ok, plays_vc g o hg ho⟩

theorem plays_contract (H : Type) (enc : TypeId × Value → H) (W : World) (base : Nat) (args : Array Value) (ds gs : List (DataW H)) (before : List MemPlace)
    (hval : ∀ (j : Nat) t v, Try.f3.params[j]? = some t → args[j]? = some v → Value.okWide Try.prog W .any base t v)
    (hW : DataW.Whole enc Try.prog Try.f3.params.toList Rows.latchPlaysSpec.vars false W args.toList ds gs before) (hk : Rows.uptoSmall H (ds ++ gs) = true) :
    Calls Try.prog 3 args W fun e W' => ∃ v, e = .returned v ∧ Rows.latchPlaysSpec.post enc Try.prog Try.f3 false true false false W args v W' :=
  law_contract (bulk H) hm Try.func3 plays_law playsPs hl hmr hfull (by kernel_rfl) (tb := 4) rfl Try.underlying4 rfl (fun ds hd => by
    match ds, hd with
    | [d1, d2], _ => rfl) hval hW (bound hk)

set_option maxRecDepth 100000 in
theorem plays_lifted (os : Os) (started : os.Started) (H : Type) (enc : TypeId × Value → H) (F : Stop.Interp) :
    ReturnsInHanded {} Try.checked os 3 .any ((Rows.OpenSpec.upto Rows.latchPlaysSpec).pre6 enc Try.prog Try.f3 Rows.latchPlaysUptoRow.domain false) (((Rows.OpenSpec.upto Rows.latchPlaysSpec).at F).post enc Try.prog Try.f3 false true false false) := by
  refine returnsInHanded_of_cond (C := Try.checked) (s := Rows.OpenSpec.upto Rows.latchPlaysSpec) (k := Rows.uptoSmall) rfl own started (by kernel_rfl) Try.func3
    (OpenSpec.witness (enc := enc) (C := Try.checked) (s := Rows.OpenSpec.upto Rows.latchPlaysSpec) (k := Rows.uptoSmall) rfl false ⟨#[], #[.slice none 0 0, .slice none 0 0], []⟩ 8 (by kernel_rfl) (by kernel_rfl) (by kernel_rfl)
      (x := ([.nil, .nil], [], [])) (by kernel_rfl) rfl (by kernel_rfl)) ?_
  intro W base args ds gs before hval hW _ hk _
  exact plays_contract H enc W base args ds gs before hval hW hk

theorem latchPlays_holds : Rows.LatchPlaysUptoSaid :=
  OpenClaim.holds_of_cond 3 Try.f3 rfl rfl rfl rfl rfl rfl rfl ⟨rfl, rfl, rfl, rfl, rfl⟩ rfl rfl rfl rfl rfl (by kernel_rfl) Try.func3 (by kernel_rfl)
    (of_decide_eq_true (by kernel_rfl)) (by unfold Func.isWrapper; first | (rw [if_pos (by decide +kernel)]; kernel_rfl) | (rw [if_neg (by decide +kernel)]; exact ⟨rfl, rfl⟩))
    (fun os started H enc _ F => plays_lifted os started H enc F)
end Go.Proofs.Ythemaknfhihphaa
