/-
  The same: New, Load, and the document's functions; under the rows' own bounds.
-/
import Derived.Test.YthemaknfhihphaaLa
namespace Go.Wk.L14
open Go Go.Vs Go.Proofs
set_option linter.unusedSimpArgs false
set_option linter.unusedVariables false
set_option maxRecDepth 10000

/-! New -/
structure GS where
  nl : Bool
  rw : Bool
  cap : Nat
  room : Nat
  n : Nat
  m : Nat
  g : List Int
abbrev gO (s : GS) : AO := .arr s.rw 3 s.room s.m [.int .i64 s.g]
abbrev gV (s : GS) (b : Nat) : AV := .sl s.nl b 1 0 s.n s.cap
structure GOk (s : GS) : Prop where
  n : s.n ≤ 1048576
  m : s.m = s.n
  g : s.g.length = s.n
  nl : s.nl = true → s.n = 0
def newX (s : GS) : XS := ⟨s.n, s.n, s.n, s.n, List.replicate s.n false, List.replicate s.n 0, List.replicate s.n false, s.g, fun _ => false, fun _ => 0⟩

noncomputable def LNew (s0 : GS) : Loops := fun body s => match loopId body with
  | _ => some (cntLI Try.f7 body s s0.n (fun _ => True) (fun k => [(14, iv k)]) (fun k => writes s.heap [(1, some (.arr true 50 s0.n s0.n [.bool (List.replicate s0.n false), .int .i64 (List.replicate s0.n 0), .bool (List.replicate s0.n false), .int .i64 (mix s0.n k (fun j => s0.g.getD j 0) (fun _ => 0))]))]))

def NewS : Sp where
  X := GS
  Y := fun _ => Unit
  y0 := fun _ => ()
  pat := fun s => ([gV s 0], [some (gO s)])
  fnd := fun args H => match args with
    | [.sl nl b 1 0 n cap] => (match H[b]? with | some (some (.arr rw 3 room m [.int .i64 g])) => some (⟨nl, rw, cap, room, n, m, g⟩, [b]) | _ => none)
    | _ => none
  pre := GOk
  res := fun s _ => ⟨.ptr 1 0, [], [xcellA (newX s) 2 3, xarr (newX s), xmap (newX s)]⟩
  pick := fun s v H => match v with
    | .ptr b 0 => (match H[b]? with | some (some (.cells _ _ [.sl _ a _ _ _ _, .mp m])) => some ((), [0, b, a, m]) | _ => none)
    | _ => none

theorem NewS_found : NewS.spec.Found := by
  intro args H x σ h
  simp only [Sp.spec, NewS] at h
  split at h
  rotate_left
  · cases h
  rename_i nl b n cap
  split at h
  rotate_left
  · cases h
  rename_i rw room m g h1
  cases h
  refine ⟨rfl, fun i ao hi => ?_⟩
  match i, hi with
  | 0, hi => obtain rfl := Option.some.inj (Option.some.inj hi); simpa [ren1, AO.ren] using h1
  | i + 1, hi => exact nomatch (show (none : Option (Option AO)) = some (some ao) from hi)

set_option maxRecDepth 100000 in
theorem newx_nf (s : GS) : (fnV Try.prog Γnone (LNew s) Try.f7 [gV s 0] [some (gO s)] (Sp.good NewS s)) = (let q := AO.arr true 50 (GS.n s) (GS.n s) [Col.bool (List.replicate (GS.n s) false), Col.int IntKind.i64 (List.replicate (GS.n s) 0), Col.bool (List.replicate (GS.n s) false), Col.int IntKind.i64 (mix (GS.n s) 0 (fun (j : Nat) => List.getD (GS.g s) j 0) fun (x : Nat) => 0)];
let q_1 := AO.arr (GS.rw s) 3 (GS.room s) (GS.m s) [Col.int IntKind.i64 (GS.g s)];
let q_2 := AO.cells true 48 [AV.sl false 1 4 0 (Int.toNat (↑(GS.n s) : Int)) (Int.toNat (↑(GS.n s) : Int)), AV.mp 2];
let q_3 := AV.sl (GS.nl s) 0 1 0 (GS.n s) (GS.cap s) = AV.sl (GS.nl s) 0 1 0 (GS.n s) (GS.cap s);
let q_4 := AO.mapc true (KD.int IntKind.i64) false (fun (x : Value) => false) [MCol.int IntKind.i64 fun (x : Value) => 0];
let q_5 := AV.ptr 3 0;
let q_6 := (↑32 : Int) * (↑(GS.n s) : Int);
let q_7 := AV.val (Value.int IntKind.i64 (↑(GS.n s) : Int));
let q_8 := Col.int IntKind.i64 (List.replicate (Int.toNat (↑(GS.n s) : Int)) 0);
let q_9 := Col.bool (List.replicate (Int.toNat (↑(GS.n s) : Int)) false);
let q_10 := AV.val (Value.pointer none) = AV.val (Value.pointer none);
let q_11 := AV.val (Value.int IntKind.i64 0);
Bif (decide ((↑(GS.n s) : Int) ≤ (↑(GS.n s) : Int)) && decide (q_6 ≤ 281474976710656))
  (((0 ≤ GS.n s ∧ True) ∧ (q_11 = q_11 ∧ q_7 = q_7 ∧ q_3 ∧ q_5 = q_5 ∧ q_10 ∧ q_3 ∧ True) ∧ Bif (AO.deadB q_1) True (q_1 = q_1) ∧ Bif (AO.deadB q) True (AO.arr true 50 (Int.toNat (↑(GS.n s) : Int)) (Int.toNat (↑(GS.n s) : Int)) [q_9, q_8, q_9, q_8] = q) ∧ q_4 = q_4 ∧ q_2 = q_2 ∧ True) ∧
    ∀ (x : Nat),
      let q := q_1;
      let q_12 := AV.sl (GS.nl s) 0 1 0 (GS.n s) (GS.cap s);
      let q_13 := x + 1;
      let q_14 := Col.int IntKind.i64 (List.replicate (GS.n s) 0);
      let q_15 := q_5;
      let q_16 := [AV.mp 2];
      x ≤ GS.n s ∧ True →
        let q_17 := AO.cells true 48 (AV.sl false 1 4 0 (Int.toNat (↑(GS.n s) : Int)) (Int.toNat (↑(GS.n s) : Int)) :: q_16);
        let q_18 := AO.arr true 50 (GS.n s) (GS.n s) [Col.bool (List.replicate (GS.n s) false), q_14, Col.bool (List.replicate (GS.n s) false), Col.int IntKind.i64 (mix (GS.n s) q_13 (fun (j : Nat) => List.getD (GS.g s) j 0) fun (x : Nat) => 0)];
        let q_19 := 0 + x;
        let q_20 := mix (GS.n s) x (fun (j : Nat) => List.getD (GS.g s) j 0) fun (x : Nat) => 0;
        let q_21 := q_12 = q_12;
        let q_22 := q = q;
        let q_23 := q_4;
        let q_24 := q_13;
        let q_25 := q_15 = q_15;
        let q_26 := 0 + Int.toNat (↑x : Int);
        let q_27 := q_14;
        let q_28 := decide (q_19 < GS.n s);
        let q_29 := decide (q_19 < GS.m s);
        let q_30 := q_7;
        Bif (decide ((↑x : Int) < (↑(GS.n s) : Int))) (Bif (!GS.nl s && (inR (↑x : Int) (GS.n s) && q_29)) (Bif q_29 (Bif (inR (↑x : Int) (Int.toNat (↑(GS.n s) : Int)) && q_28) (Bif (q_28 && (decide (q_19 < List.length q_20) && true)) ((q_24 ≤ GS.n s ∧ True) ∧ GS.n s - q_24 < GS.n s - x ∧ (AV.val (Value.int IntKind.i64 (IntKind.wrap IntKind.i64 ((↑x : Int) + 1))) = AV.val (Value.int IntKind.i64 (↑q_24 : Int)) ∧ q_30 = q_30 ∧ q_21 ∧ q_25 ∧ q_10 ∧ q_21 ∧ True) ∧ Bif (AO.deadB q) True q_22 ∧ Bif (AO.deadB q_18) True (AO.arr true 50 (GS.n s) (GS.n s) [Col.bool (List.replicate (GS.n s) false), q_27, Col.bool (List.replicate (GS.n s) false), Col.int IntKind.i64 (List.set q_20 q_26 (List.getD (GS.g s) q_26 0))] = q_18) ∧ q_23 = q_23 ∧ q_17 = q_17 ∧ True) False) False) False) False) ((q_25 ∧ True) ∧ Bif (AO.deadB (gO s)) True q_22 ∧ q_17 = AO.cells true 48 (AV.sl false 1 4 0 (XS.n (newX s)) (XS.cap (newX s)) :: q_16) ∧ Bif (AO.deadB (xarr (newX s))) True (AO.arr true 50 (GS.n s) (GS.n s) [Col.bool (List.replicate (GS.n s) false), q_27, Col.bool (List.replicate (GS.n s) false), Col.int IntKind.i64 q_20] = AO.arr true 50 (XS.room (newX s)) (XS.m (newX s)) [Col.bool (XS.set (newX s)), Col.int IntKind.i64 (XS.at_ (newX s)), Col.bool (XS.first (newX s)), Col.int IntKind.i64 (XS.group (newX s))]) ∧ q_23 = AO.mapc true (KD.int IntKind.i64) false (XS.has (newX s)) [MCol.int IntKind.i64 (XS.f (newX s))] ∧ True))
  False) := by kernel_rfl
set_option maxHeartbeats 1000000 in
theorem new_vc (s : GS) (hs : GOk s) : FnV Try.prog Γnone (LNew s) Try.f7 [gV s 0] [some (gO s)] (NewS.good s) := by
  obtain ⟨h1, h2, h3, h4⟩ := hs
  refine FnV.of (newx_nf _) ?_
  simp only [Bif_need, Bif_True]
  simp only [Bif_iff, eq_self, and_true, true_and, AV.val.injEq, AV.agg.injEq, AV.tup.injEq, AV.sl.injEq, AV.ptr.injEq, AV.mp.injEq, Value.int.injEq, Value.bool.injEq, Value.string.injEq, AO.cells.injEq, AO.arr.injEq, AO.mapc.injEq, List.cons.injEq, Col.bool.injEq, Col.int.injEq, Col.str.injEq, MCol.int.injEq, MCol.bool.injEq, MCol.str.injEq, decide_eq_true_eq, decide_eq_false_iff_not, Nat.zero_add, Nat.add_zero, implies_true, Bool.and_eq_true, inR_iff, List.drop_zero, List.take_nil, List.drop_nil, List.nil_append, Int.toNat_natCast, longEnough, colLen, Bool.not_true, Bool.not_false, Bool.true_or, Bool.or_eq_true, Bool.not_eq_true', Bool.not_eq_false', take_take_self, take_tab, one_col, tab_length, mix_length, List.length_take, Nat.min_eq_left, List.set_cons_zero, blt01, Bool.and_false, Bool.and_true, Bool.false_and, Bool.true_and, Bool.false_eq_true, Bool.true_eq_false, false_and, and_false, false_implies, newX]
  repeat' (first | apply And.intro | intro _)
  all_goals try omega
  all_goals try (have h1 := ‹_ ≤ s.n›; have h2 := Nat.le_antisymm h1 (by omega); subst h2)
  all_goals first
    | omega
    | (rw [IntWalk.i64_in _ (by omega)]; omega)
    | (rw [mix_zero, tab_const])
    | (rw [mix_succ])
    | (rw [mix_all, tab_get 0 h3])
    | grind
theorem new_ok : CtOk Try.prog 7 NewS.ct := Sp.ok CtsOk.none hm Try.func7 NewS NewS_found LNew new_vc

/-! Load -/
def noL : LS := ⟨true, false, 0, 0, 0, 0, [], [], []⟩
def oL (l : Option LS) : LS := match l with | some l => l | none => noL

noncomputable def LLoad (x : XS) (l : LS) (k0 : Nat) : Loops := fun body s => match loopId body with
  | 5 => some (cntLI Try.f12 body s x.n (fun k => anyN k (badX x.group l) = false) (fun k => [(24, iv k)]) (fun k => writes s.heap [(k0, some (.mapc true (.int .i64) false (loadM x.group l.first k).1 [.int .i64 (loadM x.group l.first k).2]))]))
  | _ => some (cntLI Try.f12 body s x.n (fun _ => True) (fun k => [(70, iv k)]) (fun k => writes s.heap [(1, some (.arr true 50 x.room x.m [.bool (mix x.n k (fun j => l.set.getD j false) (fun j => x.set.getD j false)), .int .i64 (mix x.n k (fun j => l.at_.getD j 0) (fun j => x.at_.getD j 0)), .bool (mix x.n k (fun _ => false) (fun j => x.first.getD j false)), .int .i64 x.group]))]))

def LoadS : Sp2 where
  X := XS × Option LS
  c := fun (x, l) => loadOk x (oL l)
  Y := fun _ => Unit
  y0 := fun _ => ()
  Z := fun _ => Unit
  z0 := fun _ => ()
  pat := fun (x, l) => match l with
    | some l => ([.ptr 0 0, lsV l 3], xrow x ++ [some (lsO l)])
    | none => ([.ptr 0 0, .val (.slice none 0 0)], xrow x)
  fnd := fun args H => match args with
    | [.ptr r 0, .val (.slice none 0 0)] => (match fndX r H with | some (x, σ) => some ((x, none), σ) | none => none)
    | [.ptr r 0, .sl nl b 3 0 n cap] =>
      (match fndX r H, H[b]? with
      | some (x, σ), some (some (.arr rw 37 room m [.bool set, .int .i64 at_, .bool first])) => some ((x, some ⟨nl, rw, cap, room, n, m, set, at_, first⟩), σ ++ [b])
      | _, _ => none)
    | _ => none
  pre := fun (x, l) => XOk x ∧ LOk (oL l)
  res := fun (x, l) _ => match l with
    | some l => ⟨bv true, [(0, some (xcellA (loadTo x l) 1 4)), (1, some (xarr (loadTo x l))), (2, none)], [xmap (loadTo x l)]⟩
    | none => ⟨bv true, [(0, some (xcellA (loadTo x noL) 1 3)), (1, some (xarr (loadTo x noL))), (2, none)], [xmap (loadTo x noL)]⟩
  pick := fun (x, l) v (H : AHeap) => match (H[0]? : Option (Option AO)) with
    | some (some (.cells _ _ [_, .mp m])) => some ((), match l with | some _ => [0, 1, 2, 3, m] | none => [0, 1, 2, m])
    | _ => none
  res2 := fun _ _ => ⟨bv false, [], []⟩
  pick2 := fun (x, l) v H => some ((), match l with | some _ => [0, 1, 2, 3] | none => [0, 1, 2])

theorem LoadS_found : LoadS.spec.Found := by
  intro args H x σ h
  simp only [Sp2.spec, LoadS] at h
  split at h
  · rename_i r
    split at h
    · rename_i x' σ' hx
      cases h
      obtain ⟨⟨a, mp, rfl⟩, h2⟩ := fndX_found hx
      exact ⟨rfl, h2⟩
    · cases h
  · rename_i r nl b n cap
    split at h
    rotate_left
    · cases h
    rename_i x' σ' rw room m set at_ first hx hb
    cases h
    obtain ⟨⟨a, mp, rfl⟩, h2⟩ := fndX_found hx
    refine ⟨rfl, fun i ao hi => ?_⟩
    match i, hi with
    | 0, hi => obtain rfl := Option.some.inj (Option.some.inj hi); simpa [ren1, AO.ren, AV.rens, AV.ren] using h2 0 _ rfl
    | 1, hi => obtain rfl := Option.some.inj (Option.some.inj hi); simpa [ren1, AO.ren] using h2 1 _ rfl
    | 2, hi => obtain rfl := Option.some.inj (Option.some.inj hi); simpa [ren1, AO.ren] using h2 2 _ rfl
    | 3, hi => obtain rfl := Option.some.inj (Option.some.inj hi); simpa [ren1, AO.ren] using hb
    | i + 4, hi => exact nomatch (show (none : Option (Option AO)) = some (some ao) from hi)
  · cases h

set_option maxRecDepth 100000 in
theorem loadx_nf (x : XS) (l : LS) : (fnV Try.prog Γnone (LLoad x l 4) Try.f12 [AV.ptr 0 0, lsV l 3] (xrow x ++ [some (lsO l)]) (Sp2.good LoadS (x, some l))) = (let q := AV.val (Value.int IntKind.i64 (↑(LS.n l) : Int)) = AV.val (Value.int IntKind.i64 (↑(LS.n l) : Int)) ∧ AV.sl (LS.nl l) 3 3 0 (LS.n l) (LS.cap l) = AV.sl (LS.nl l) 3 3 0 (LS.n l) (LS.cap l) ∧ AV.mp 4 = AV.mp 4 ∧ AV.val (Value.bool ((↑(LS.n l) : Int) != (↑(XS.n x) : Int))) = AV.val (Value.bool ((↑(LS.n l) : Int) != (↑(XS.n x) : Int))) ∧ AV.ptr 0 0 = AV.ptr 0 0 ∧ AV.sl (LS.nl l) 3 3 0 (LS.n l) (LS.cap l) = AV.sl (LS.nl l) 3 3 0 (LS.n l) (LS.cap l) ∧ True;
let q_1 := Bif (LoadS.match_1 (fun (x : XS × Option LS) => Bool) (x, some l) fun (x : XS) (l : Option LS) => loadOk x (oL l)) False ((AV.val (Value.bool false) = AV.val (Value.bool false) ∧ True) ∧ AO.cells true 48 [AV.sl false 1 4 0 (XS.n x) (XS.cap x), AV.mp 2] = AO.cells true 48 [AV.sl false 1 4 0 (XS.n x) (XS.cap x), AV.mp 2] ∧ Bif (AO.deadB (xarr x)) True (AO.arr true 50 (XS.room x) (XS.m x) [Col.bool (XS.set x), Col.int IntKind.i64 (XS.at_ x), Col.bool (XS.first x), Col.int IntKind.i64 (XS.group x)] = AO.arr true 50 (XS.room x) (XS.m x) [Col.bool (XS.set x), Col.int IntKind.i64 (XS.at_ x), Col.bool (XS.first x), Col.int IntKind.i64 (XS.group x)]) ∧ AO.mapc true (KD.int IntKind.i64) false (XS.has x) [MCol.int IntKind.i64 (XS.f x)] = AO.mapc true (KD.int IntKind.i64) false (XS.has x) [MCol.int IntKind.i64 (XS.f x)] ∧ Bif (AO.deadB (lsO l)) True (AO.arr (LS.rw l) 37 (LS.room l) (LS.m l) [Col.bool (LS.set l), Col.int IntKind.i64 (LS.at_ l), Col.bool (LS.first l)] = AO.arr (LS.rw l) 37 (LS.room l) (LS.m l) [Col.bool (LS.set l), Col.int IntKind.i64 (LS.at_ l), Col.bool (LS.first l)]) ∧ True);
let q_2 := Bif (AO.deadB (AO.arr true 50 (XS.room x) (XS.m x) [Col.bool (XS.set x), Col.int IntKind.i64 (XS.at_ x), Col.bool (XS.first x), Col.int IntKind.i64 (XS.group x)])) True (AO.arr true 50 (XS.room x) (XS.m x) [Col.bool (XS.set x), Col.int IntKind.i64 (XS.at_ x), Col.bool (XS.first x), Col.int IntKind.i64 (XS.group x)] = AO.arr true 50 (XS.room x) (XS.m x) [Col.bool (XS.set x), Col.int IntKind.i64 (XS.at_ x), Col.bool (XS.first x), Col.int IntKind.i64 (XS.group x)]);
let q_3 := Bif (AO.deadB (AO.arr (LS.rw l) 37 (LS.room l) (LS.m l) [Col.bool (LS.set l), Col.int IntKind.i64 (LS.at_ l), Col.bool (LS.first l)])) True (AO.arr (LS.rw l) 37 (LS.room l) (LS.m l) [Col.bool (LS.set l), Col.int IntKind.i64 (LS.at_ l), Col.bool (LS.first l)] = AO.arr (LS.rw l) 37 (LS.room l) (LS.m l) [Col.bool (LS.set l), Col.int IntKind.i64 (LS.at_ l), Col.bool (LS.first l)]);
let q_4 := AO.cells true 48 [AV.sl false 1 4 0 (XS.n x) (XS.cap x), AV.mp 2] = AO.cells true 48 [AV.sl false 1 4 0 (XS.n x) (XS.cap x), AV.mp 2];
let q_5 := AO.mapc true (KD.int IntKind.i64) false (XS.has x) [MCol.int IntKind.i64 (XS.f x)] = AO.mapc true (KD.int IntKind.i64) false (XS.has x) [MCol.int IntKind.i64 (XS.f x)];
let q_6 := AV.sl (LS.nl l) 3 3 0 (LS.n l) (LS.cap l);
let q_7 := AV.sl false 1 4 0 (XS.n x) (XS.cap x);
let q_8 := AV.val (Value.int IntKind.i64 (↑(LS.n l) : Int));
let q_9 := AV.val (Value.int IntKind.i64 0);
let q_10 := (↑(LS.n l) : Int) != (↑(XS.n x) : Int);
let q_11 := 0 ≤ XS.n x;
let q_12 := [AV.mp 2];
let q_13 := loadM (XS.group x) (LS.first l) 0;
let q_14 := [Col.int IntKind.i64 (XS.group x)];
Bif q_10 q_1
  (((q_11 ∧ false = false) ∧ (q_9 = q_9 ∧ q) ∧ q_4 ∧ q_2 ∧ q_5 ∧ q_3 ∧ AO.mapc true (KD.int IntKind.i64) false (fun (x : Value) => false) [MCol.int IntKind.i64 fun (x : Value) => 0] = AO.mapc true (KD.int IntKind.i64) false (Prod.fst q_13) [MCol.int IntKind.i64 (Prod.snd q_13)] ∧ True) ∧
    ∀ (x_1 : Nat),
      let q := Bif (List.getD (LS.first l) (0 + Int.toNat (↑x_1 : Int)) false) ((x_1 + 1 ≤ XS.n x ∧ anyN (x_1 + 1) (badX (XS.group x) l) = false) ∧ XS.n x - (x_1 + 1) < XS.n x - x_1 ∧ (AV.val (Value.int IntKind.i64 (IntKind.wrap IntKind.i64 ((↑x_1 : Int) + 1))) = AV.val (Value.int IntKind.i64 (↑(x_1 + 1) : Int)) ∧ q) ∧ q_4 ∧ q_2 ∧ q_5 ∧ q_3 ∧ AO.mapc true (KD.int IntKind.i64) false (fun (u : Value) => keq u (Value.int IntKind.i64 (List.getD (XS.group x) (0 + Int.toNat (↑x_1 : Int)) 0)) || Prod.fst (loadM (XS.group x) (LS.first l) x_1) u) [MCol.int IntKind.i64 fun (u : Value) => bif keq u (Value.int IntKind.i64 (List.getD (XS.group x) (0 + Int.toNat (↑x_1 : Int)) 0)) then (↑x_1 : Int) else Prod.snd (loadM (XS.group x) (LS.first l) x_1) u] = AO.mapc true (KD.int IntKind.i64) false (Prod.fst (loadM (XS.group x) (LS.first l) (x_1 + 1))) [MCol.int IntKind.i64 (Prod.snd (loadM (XS.group x) (LS.first l) (x_1 + 1)))] ∧ True) ((x_1 + 1 ≤ XS.n x ∧ anyN (x_1 + 1) (badX (XS.group x) l) = false) ∧ XS.n x - (x_1 + 1) < XS.n x - x_1 ∧ (AV.val (Value.int IntKind.i64 (IntKind.wrap IntKind.i64 ((↑x_1 : Int) + 1))) = AV.val (Value.int IntKind.i64 (↑(x_1 + 1) : Int)) ∧ q) ∧ q_4 ∧ q_2 ∧ q_5 ∧ q_3 ∧ AO.mapc true (KD.int IntKind.i64) false (Prod.fst (loadM (XS.group x) (LS.first l) x_1)) [MCol.int IntKind.i64 (Prod.snd (loadM (XS.group x) (LS.first l) x_1))] = AO.mapc true (KD.int IntKind.i64) false (Prod.fst (loadM (XS.group x) (LS.first l) (x_1 + 1))) [MCol.int IntKind.i64 (Prod.snd (loadM (XS.group x) (LS.first l) (x_1 + 1)))] ∧ True);
      let q_15 := q_1;
      let q_16 := AO.arr true 50 (XS.room x) (XS.m x) (Col.bool (XS.set x) :: Col.int IntKind.i64 (XS.at_ x) :: Col.bool (XS.first x) :: q_14);
      let q_17 := q_6 = q_6;
      let q_18 := AO.arr (LS.rw l) 37 (LS.room l) (LS.m l) [Col.bool (LS.set l), Col.int IntKind.i64 (LS.at_ l), Col.bool (LS.first l)];
      let q_19 := 0 + Int.toNat (↑x_1 : Int);
      let q_20 := x_1 + 1;
      let q_21 := AO.cells true 48 (q_7 :: q_12);
      let q_22 := AV.val (Value.bool q_10);
      let q_23 := AO.mapc true (KD.int IntKind.i64) false (XS.has x) [MCol.int IntKind.i64 (XS.f x)];
      let q_24 := decide ((↑x_1 : Int) < (↑(LS.n l) : Int));
      let q_25 := AV.ptr 0 0;
      let q_26 := q_8 = q_8;
      let q_27 := AV.mp 4 = AV.mp 4;
      let q_28 := List.getD (XS.group x) q_19 0;
      let q_29 := List.getD (LS.at_ l) q_19 0;
      let q_30 := q_14;
      x_1 ≤ XS.n x ∧ anyN x_1 (badX (XS.group x) l) = false →
        let q := Bif (List.getD (LS.first l) q_19 false) (Bif (q_28 == 0) q_15 (Bif (Prod.fst (loadM (XS.group x) (LS.first l) x_1) (Value.int IntKind.i64 q_28)) q_15 q)) q;
        let q_31 := q_21 = q_21;
        let q_32 := AV.val (Value.int IntKind.i64 (IntKind.wrap IntKind.i64 ((↑x_1 : Int) + 1))) = AV.val (Value.int IntKind.i64 (↑q_20 : Int)) ∧ q_26 ∧ q_17 ∧ q_27 ∧ q_22 = q_22 ∧ q_25 = q_25 ∧ q_17 ∧ True;
        let q_33 := Bif (AO.deadB q_18) True (q_18 = q_18);
        let q_34 := !(decide (List.getD (LS.set l) q_19 false = false) && (decide (q_29 = 0) && (decide (List.getD (LS.first l) q_19 false = false) && true)));
        let q_35 := AO.mapc true (KD.int IntKind.i64) false (Prod.fst (loadM (XS.group x) (LS.first l) x_1)) [MCol.int IntKind.i64 (Prod.snd (loadM (XS.group x) (LS.first l) x_1))];
        let q_36 := Bif (AO.deadB q_16) True (q_16 = q_16);
        let q_37 := AO.arr true 50 (XS.room x) (XS.m x) (Col.bool (mix (XS.n x) 0 (fun (j : Nat) => List.getD (LS.set l) j false) fun (j : Nat) => List.getD (XS.set x) j false) :: Col.int IntKind.i64 (mix (XS.n x) 0 (fun (j : Nat) => List.getD (LS.at_ l) j 0) fun (j : Nat) => List.getD (XS.at_ x) j 0) :: Col.bool (mix (XS.n x) 0 (fun (x : Nat) => false) fun (j : Nat) => List.getD (XS.first x) j false) :: q_30);
        let q_38 := q_23 = q_23;
        let q_39 := q_17;
        let q_40 := q_16;
        let q_41 := AO.mapc true (KD.int IntKind.i64) false (Prod.fst (loadM (XS.group x) (LS.first l) q_20)) [MCol.int IntKind.i64 (Prod.snd (loadM (XS.group x) (LS.first l) q_20))];
        let q_42 := q_18;
        let q_43 := AV.val (Value.bool q_24);
        let q_44 := q_20 ≤ XS.n x ∧ anyN q_20 (badX (XS.group x) l) = false;
        let q_45 := 0 + x_1;
        let q_46 := XS.n x - q_20 < XS.n x - x_1;
        let q_47 := q_22;
        let q_48 := q_19;
        let q_49 := LoadS.match_1 (fun (x : XS × Option LS) => Bool) (x, some l) fun (x : XS) (l : Option LS) => loadOk x (oL l);
        let q_50 := q_25;
        let q_51 := q_26;
        let q_52 := q_27;
        let q_53 := AV.val (Value.int IntKind.i64 (↑x_1 : Int));
        let q_54 := Value.int IntKind.i64 (List.getD (XS.group x) q_48 0);
        let q_55 := decide (q_45 < XS.m x);
        let q_56 := decide (q_45 < LS.m l);
        let q_57 := q_9;
        Bif q_24 (Bif (!LS.nl l && (inR (↑x_1 : Int) (LS.n l) && q_56)) (Bif q_56 (Bif (inR (↑x_1 : Int) (XS.n x) && q_55) (Bif q_55 (Bif (!List.getD (LS.set l) q_48 false) (Bif q_34 (Bif q_34 (Bif q_49 False ((AV.val (Value.bool false) = AV.val (Value.bool false) ∧ True) ∧ q_31 ∧ Bif (AO.deadB (xarr x)) True (q_40 = q_40) ∧ q_38 ∧ Bif (AO.deadB (lsO l)) True (q_42 = q_42) ∧ True)) (Bif (List.getD (LS.first l) q_48 false) (q_44 ∧ q_46 ∧ q_32 ∧ q_31 ∧ q_36 ∧ q_38 ∧ q_33 ∧ AO.mapc true (KD.int IntKind.i64) false (fun (u : Value) => keq u q_54 || Prod.fst (loadM (XS.group x) (LS.first l) x_1) u) [MCol.int IntKind.i64 fun (u : Value) => bif keq u q_54 then (↑x_1 : Int) else Prod.snd (loadM (XS.group x) (LS.first l) x_1) u] = q_41 ∧ True) (q_44 ∧ q_46 ∧ q_32 ∧ q_31 ∧ q_36 ∧ q_38 ∧ q_33 ∧ q_35 = q_41 ∧ True))) q) q) False) False) False) False)
          (((q_11 ∧ True) ∧ (q_57 = q_57 ∧ q_51 ∧ q_39 ∧ q_43 = q_43 ∧ q_53 = q_53 ∧ q_51 ∧ q_39 ∧ q_52 ∧ q_47 = q_47 ∧ q_50 = q_50 ∧ q_39 ∧ True) ∧ q_31 ∧ Bif (AO.deadB q_37) True (q_40 = q_37) ∧ q_38 ∧ q_33 ∧ q_35 = q_35 ∧ True) ∧
            ∀ (x_3 : Nat),
              let q := q_42;
              let q_58 := mix (XS.n x) x_3 (fun (j : Nat) => List.getD (LS.at_ l) j 0) fun (j : Nat) => List.getD (XS.at_ x) j 0;
              let q_59 := mix (XS.n x) x_3 (fun (j : Nat) => List.getD (LS.set l) j false) fun (j : Nat) => List.getD (XS.set x) j false;
              let q_60 := x_3 + 1;
              let q_61 := mix (XS.n x) x_3 (fun (x : Nat) => false) fun (j : Nat) => List.getD (XS.first x) j false;
              let q_62 := q_6;
              let q_63 := q_7;
              let q_64 := q_30;
              let q_65 := q_23;
              let q_66 := [AV.mp 4];
              let q_67 := q_8;
              x_3 ≤ XS.n x ∧ True →
                let q_68 := AO.arr true 50 (XS.room x) (XS.m x) (Col.bool (mix (XS.n x) q_60 (fun (j : Nat) => List.getD (LS.set l) j false) fun (j : Nat) => List.getD (XS.set x) j false) :: Col.int IntKind.i64 (mix (XS.n x) q_60 (fun (j : Nat) => List.getD (LS.at_ l) j 0) fun (j : Nat) => List.getD (XS.at_ x) j 0) :: Col.bool (mix (XS.n x) q_60 (fun (x : Nat) => false) fun (j : Nat) => List.getD (XS.first x) j false) :: q_64);
                let q_69 := 0 + x_3;
                let q_70 := AO.arr true 50 (XS.room x) (XS.m x) (Col.bool q_59 :: Col.int IntKind.i64 q_58 :: Col.bool q_61 :: q_64);
                let q_71 := q_62 = q_62;
                let q_72 := AO.cells true 48 (q_63 :: q_12);
                let q_73 := q_35;
                let q_74 := Bif (AO.deadB (lsO l)) True (q = q);
                let q_75 := 0 + Int.toNat (↑x_3 : Int);
                let q := q;
                let q_76 := AO.cells true 48 (q_63 :: q_66);
                let q_77 := q_65 = q_65;
                let q_78 := List.length q_58;
                let q_79 := q_60;
                let q_80 := q_43;
                let q_81 := List.length q_59;
                let q_82 := List.length q_61;
                let q_83 := q_67 = q_67;
                let q_84 := q_47;
                let q_85 := q_50;
                let q_86 := decide (q_69 < LS.m l);
                let q_87 := decide (q_69 < XS.m x);
                let q_88 := q_64;
                let q_89 := q_53;
                Bif (decide ((↑x_3 : Int) < (↑(LS.n l) : Int))) (Bif (!LS.nl l && (inR (↑x_3 : Int) (LS.n l) && q_86)) (Bif q_86 (Bif (inR (↑x_3 : Int) (XS.n x) && q_87) (Bif (q_87 && (decide (q_69 < q_81) && (decide (q_69 < q_78) && (decide (q_69 < q_82) && true)))) ((q_79 ≤ XS.n x ∧ True) ∧ XS.n x - q_79 < XS.n x - x_3 ∧ (AV.val (Value.int IntKind.i64 (IntKind.wrap IntKind.i64 ((↑x_3 : Int) + 1))) = AV.val (Value.int IntKind.i64 (↑q_79 : Int)) ∧ q_83 ∧ q_71 ∧ q_80 = q_80 ∧ q_89 = q_89 ∧ q_83 ∧ q_71 ∧ q_52 ∧ q_84 = q_84 ∧ q_85 = q_85 ∧ q_71 ∧ True) ∧ q_72 = q_72 ∧ Bif (AO.deadB q_68) True (AO.arr true 50 (XS.room x) (XS.m x) (Col.bool (List.set q_59 q_75 (List.getD (LS.set l) q_75 false)) :: Col.int IntKind.i64 (List.set q_58 q_75 (List.getD (LS.at_ l) q_75 0)) :: Col.bool (List.set q_61 q_75 false) :: q_88) = q_68) ∧ q_77 ∧ Bif (AO.deadB q) True (q = q) ∧ q_73 = q_73 ∧ True) False) False) False) False) (Bif q_49 ((AV.val (Value.bool true) = AV.val (Value.bool true) ∧ True) ∧ q_76 = AO.cells true 48 (AV.sl false 1 4 0 (XS.n (loadTo x l)) (XS.cap (loadTo x l)) :: q_66) ∧ Bif (AO.deadB (xarr (loadTo x l))) True (q_70 = AO.arr true 50 (XS.room (loadTo x l)) (XS.m (loadTo x l)) [Col.bool (XS.set (loadTo x l)), Col.int IntKind.i64 (XS.at_ (loadTo x l)), Col.bool (XS.first (loadTo x l)), Col.int IntKind.i64 (XS.group (loadTo x l))]) ∧ q_74 ∧ q_73 = AO.mapc true (KD.int IntKind.i64) false (XS.has (loadTo x l)) [MCol.int IntKind.i64 (XS.f (loadTo x l))] ∧ True) ((AV.val (Value.bool true) = AV.val (Value.bool false) ∧ True) ∧ q_76 = q_72 ∧ Bif (AO.deadB (xarr x)) True (q_70 = AO.arr true 50 (XS.room x) (XS.m x) (Col.bool (XS.set x) :: Col.int IntKind.i64 (XS.at_ x) :: Col.bool (XS.first x) :: q_88)) ∧ q_77 ∧ q_74 ∧ True))))) := by kernel_rfl
set_option maxHeartbeats 2000000 in
theorem load_vc (x : XS) (l : LS) (hx : XOk x) (hl : LOk l) : FnV Try.prog Γnone (LLoad x l 4) Try.f12 [.ptr 0 0, lsV l 3] (xrow x ++ [some (lsO l)]) (LoadS.good (x, some l)) := by
  obtain ⟨h0, h1, h2, h3, h4, h5, h6⟩ := hx
  obtain ⟨g0, g1, g2, g3, g4, g5⟩ := hl
  have q1 : ∀ k, loadOk x l = true → k < x.n → badX x.group l k = false := fun k h hk => loadOk_bad h hk
  have q2 : loadOk x l = true → l.n = x.n := loadOk_n
  have q3 : l.n = x.n → anyN x.n (badX x.group l) = false → loadOk x l = true := loadOk_of
  refine FnV.of (loadx_nf _ _) ?_
  simp only [Bif_need, Bif_True]
  simp only [Bif_iff, eq_self, and_true, true_and, AV.val.injEq, AV.agg.injEq, AV.tup.injEq, AV.sl.injEq, AV.ptr.injEq, AV.mp.injEq, Value.int.injEq, Value.bool.injEq, Value.string.injEq, AO.cells.injEq, AO.arr.injEq, AO.mapc.injEq, List.cons.injEq, Col.bool.injEq, Col.int.injEq, Col.str.injEq, MCol.int.injEq, MCol.bool.injEq, MCol.str.injEq, decide_eq_true_eq, decide_eq_false_iff_not, Nat.zero_add, Nat.add_zero, implies_true, Bool.and_eq_true, inR_iff, List.drop_zero, List.take_nil, List.drop_nil, List.nil_append, Int.toNat_natCast, longEnough, colLen, Bool.not_true, Bool.not_false, Bool.true_or, Bool.or_eq_true, Bool.not_eq_true', Bool.not_eq_false', take_take_self, take_tab, one_col, tab_length, mix_length, List.length_take, Nat.min_eq_left, List.set_cons_zero, blt01, Bool.and_false, Bool.and_true, Bool.false_and, Bool.true_and, Bool.false_eq_true, Bool.true_eq_false, false_and, and_false, false_implies, oL]
  repeat' (first | apply And.intro | intro _)
  all_goals try omega
  all_goals try (simp only [bne_iff_ne, ne_eq, bne_eq_false_iff_eq, beq_iff_eq, beq_eq_false_iff_ne] at *)
  all_goals try omega
  all_goals try (have h1 := ‹_ ≤ x.n›; have h2 := Nat.le_antisymm h1 (by omega); subst h2)
  all_goals first
    | omega
    | (rw [IntWalk.i64_in _ (by omega)]; omega)
    | (rw [mix_zero, tab_get _ (by assumption)])
    | (rw [mix_succ])
    | rfl
    | (simp only [loadTo]; rw [mix_full (by omega), tab_get _ (by omega)])
    | (simp only [loadTo]; rw [mix_full (by omega), tab_const])
    | (clear h6; grind [badX, anyN_succ])
    | (clear h6; grind [badX, anyN_succ, loadM, loadTo])

noncomputable def LLoad0 (x : XS) : Loops := LLoad x noL 3
set_option maxRecDepth 100000 in
theorem loadx0_nf (x : XS) : (fnV Try.prog Γnone (LLoad x noL 3) Try.f12 [AV.ptr 0 0, AV.val (Value.slice none 0 0)] (xrow x) (Sp2.good LoadS (x, none))) = (let q := AO.cells true 48 [AV.sl false 1 4 0 (XS.n x) (XS.cap x), AV.mp 2] = AO.cells true 48 [AV.sl false 1 4 0 (XS.n x) (XS.cap x), AV.mp 2];
let q_1 := AO.arr true 50 (XS.room x) (XS.m x) [Col.bool (XS.set x), Col.int IntKind.i64 (XS.at_ x), Col.bool (XS.first x), Col.int IntKind.i64 (XS.group x)] = AO.arr true 50 (XS.room x) (XS.m x) [Col.bool (XS.set x), Col.int IntKind.i64 (XS.at_ x), Col.bool (XS.first x), Col.int IntKind.i64 (XS.group x)];
let q_2 := AV.val (Value.bool ((↑0 : Int) != (↑(XS.n x) : Int)));
let q_3 := AO.mapc true (KD.int IntKind.i64) false (XS.has x) [MCol.int IntKind.i64 (XS.f x)] = AO.mapc true (KD.int IntKind.i64) false (XS.has x) [MCol.int IntKind.i64 (XS.f x)];
let q_4 := AV.val (Value.slice none 0 0) = AV.val (Value.slice none 0 0);
let q_5 := LoadS.match_1 (fun (x : XS × Option LS) => Bool) (x, none) fun (x : XS) (l : Option LS) => loadOk x (oL l);
let q_6 := AV.ptr 0 0;
let q_7 := AV.val (Value.int IntKind.i64 0) = AV.val (Value.int IntKind.i64 0);
let q_8 := AV.mp 3 = AV.mp 3;
let q_9 := loadM (XS.group x) (LS.first noL) 0;
let q_10 := 0 ≤ XS.n x;
let q_11 := AV.val (Value.bool false) = AV.val (Value.bool false);
let q_12 := [Col.int IntKind.i64 (XS.group x)];
Bif ((↑0 : Int) != (↑(XS.n x) : Int)) (Bif q_5 False ((q_11 ∧ True) ∧ q ∧ Bif (AO.deadB (xarr x)) True q_1 ∧ q_3 ∧ True))
  (((q_10 ∧ false = false) ∧ (q_7 ∧ q_7 ∧ q_4 ∧ q_8 ∧ q_2 = q_2 ∧ q_6 = q_6 ∧ q_4 ∧ True) ∧ q ∧ Bif (AO.deadB (AO.arr true 50 (XS.room x) (XS.m x) (Col.bool (XS.set x) :: Col.int IntKind.i64 (XS.at_ x) :: Col.bool (XS.first x) :: q_12))) True q_1 ∧ q_3 ∧ AO.mapc true (KD.int IntKind.i64) false (fun (x : Value) => false) [MCol.int IntKind.i64 fun (x : Value) => 0] = AO.mapc true (KD.int IntKind.i64) false (Prod.fst q_9) [MCol.int IntKind.i64 (Prod.snd q_9)] ∧ True) ∧
    ∀ (x_1 : Nat),
      let q := AV.sl false 1 4 0 (XS.n x) (XS.cap x);
      let q_13 := AV.val (Value.slice none 0 0);
      let q_14 := [AV.mp 2];
      let q_15 := AV.val (Value.int IntKind.i64 0);
      let q_16 := q_12;
      x_1 ≤ XS.n x ∧ anyN x_1 (badX (XS.group x) noL) = false →
        let q_17 := AO.arr true 50 (XS.room x) (XS.m x) (Col.bool (mix (XS.n x) 0 (fun (j : Nat) => List.getD (LS.set noL) j false) fun (j : Nat) => List.getD (XS.set x) j false) :: Col.int IntKind.i64 (mix (XS.n x) 0 (fun (j : Nat) => List.getD (LS.at_ noL) j 0) fun (j : Nat) => List.getD (XS.at_ x) j 0) :: Col.bool (mix (XS.n x) 0 (fun (x : Nat) => false) fun (j : Nat) => List.getD (XS.first x) j false) :: q_16);
        let q_18 := AO.mapc true (KD.int IntKind.i64) false (Prod.fst (loadM (XS.group x) (LS.first noL) x_1)) [MCol.int IntKind.i64 (Prod.snd (loadM (XS.group x) (LS.first noL) x_1))];
        let q_19 := q_13 = q_13;
        let q_20 := AO.cells true 48 (q :: q_14);
        let q_21 := q_15 = q_15;
        let q_22 := AO.mapc true (KD.int IntKind.i64) false (XS.has x) [MCol.int IntKind.i64 (XS.f x)];
        let q_23 := q_2;
        let q_24 := q_6;
        let q_25 := q_16;
        let q_26 := AV.val (Value.int IntKind.i64 (↑x_1 : Int));
        ((q_10 ∧ True) ∧ (q_21 ∧ q_21 ∧ q_19 ∧ q_11 ∧ q_26 = q_26 ∧ q_21 ∧ q_19 ∧ q_8 ∧ q_23 = q_23 ∧ q_24 = q_24 ∧ q_19 ∧ True) ∧ q_20 = q_20 ∧ Bif (AO.deadB q_17) True (AO.arr true 50 (XS.room x) (XS.m x) (Col.bool (XS.set x) :: Col.int IntKind.i64 (XS.at_ x) :: Col.bool (XS.first x) :: q_25) = q_17) ∧ q_22 = q_22 ∧ q_18 = q_18 ∧ True) ∧
          ∀ (x_3 : Nat),
            let q := q;
            let q_27 := [AV.mp 3];
            let q_28 := q_25;
            x_3 ≤ XS.n x ∧ True →
              let q_29 := AO.arr true 50 (XS.room x) (XS.m x) (Col.bool (mix (XS.n x) x_3 (fun (j : Nat) => List.getD (LS.set noL) j false) fun (j : Nat) => List.getD (XS.set x) j false) :: Col.int IntKind.i64 (mix (XS.n x) x_3 (fun (j : Nat) => List.getD (LS.at_ noL) j 0) fun (j : Nat) => List.getD (XS.at_ x) j 0) :: Col.bool (mix (XS.n x) x_3 (fun (x : Nat) => false) fun (j : Nat) => List.getD (XS.first x) j false) :: q_28);
              let q_30 := AO.cells true 48 (q :: q_27);
              let q_31 := q_22;
              Bif q_5 ((AV.val (Value.bool true) = AV.val (Value.bool true) ∧ True) ∧ q_30 = AO.cells true 48 (AV.sl false 1 4 0 (XS.n (loadTo x noL)) (XS.cap (loadTo x noL)) :: q_27) ∧ Bif (AO.deadB (xarr (loadTo x noL))) True (q_29 = AO.arr true 50 (XS.room (loadTo x noL)) (XS.m (loadTo x noL)) [Col.bool (XS.set (loadTo x noL)), Col.int IntKind.i64 (XS.at_ (loadTo x noL)), Col.bool (XS.first (loadTo x noL)), Col.int IntKind.i64 (XS.group (loadTo x noL))]) ∧ q_18 = AO.mapc true (KD.int IntKind.i64) false (XS.has (loadTo x noL)) [MCol.int IntKind.i64 (XS.f (loadTo x noL))] ∧ True) ((AV.val (Value.bool true) = AV.val (Value.bool false) ∧ True) ∧ q_30 = AO.cells true 48 (q :: q_14) ∧ Bif (AO.deadB (xarr x)) True (q_29 = AO.arr true 50 (XS.room x) (XS.m x) (Col.bool (XS.set x) :: Col.int IntKind.i64 (XS.at_ x) :: Col.bool (XS.first x) :: q_28)) ∧ q_31 = q_31 ∧ True))) := by kernel_rfl
set_option maxHeartbeats 2000000 in
theorem load0_vc (x : XS) (hx : XOk x) : FnV Try.prog Γnone (LLoad x noL 3) Try.f12 [.ptr 0 0, .val (.slice none 0 0)] (xrow x) (LoadS.good (x, none)) := by
  obtain ⟨h0, h1, h2, h3, h4, h5, h6⟩ := hx
  have q2 : loadOk x noL = true → 0 = x.n := loadOk_n
  have q3 : 0 = x.n → loadOk x noL = true := fun h => loadOk_of h (by rw [← h]; rfl)
  refine FnV.of (loadx0_nf _) ?_
  simp only [Bif_need, Bif_True]
  simp only [Bif_iff, eq_self, and_true, true_and, AV.val.injEq, AV.agg.injEq, AV.tup.injEq, AV.sl.injEq, AV.ptr.injEq, AV.mp.injEq, Value.int.injEq, Value.bool.injEq, Value.string.injEq, AO.cells.injEq, AO.arr.injEq, AO.mapc.injEq, List.cons.injEq, Col.bool.injEq, Col.int.injEq, Col.str.injEq, MCol.int.injEq, MCol.bool.injEq, MCol.str.injEq, decide_eq_true_eq, decide_eq_false_iff_not, Nat.zero_add, Nat.add_zero, implies_true, Bool.and_eq_true, inR_iff, List.drop_zero, List.take_nil, List.drop_nil, List.nil_append, Int.toNat_natCast, longEnough, colLen, Bool.not_true, Bool.not_false, Bool.true_or, Bool.or_eq_true, Bool.not_eq_true', Bool.not_eq_false', take_take_self, take_tab, one_col, tab_length, mix_length, List.length_take, Nat.min_eq_left, List.set_cons_zero, blt01, Bool.and_false, Bool.and_true, Bool.false_and, Bool.true_and, Bool.false_eq_true, Bool.true_eq_false, false_and, and_false, false_implies, oL]
  repeat' (first | apply And.intro | intro _)
  all_goals try omega
  all_goals try (simp only [bne_iff_ne, ne_eq, bne_eq_false_iff_eq, beq_iff_eq, beq_eq_false_iff_ne] at *)
  all_goals try omega
  all_goals first
    | (rw [mix_zero, tab_get _ (by assumption)])
    | (rw [mix_succ])
    | rfl
    | (rw [mix_nil (by omega)]; rfl)
    | (rw [mix_nil (by omega)]; simp only [loadTo]; rw [← q2 ‹_›]; rfl)
    | (clear h6; grind [badX, anyN_succ])
    | (clear h6; grind [badX, anyN_succ, loadM, loadTo])
theorem load_ok : CtOk Try.prog 12 LoadS.ct := Sp2.ok CtsOk.none hm Try.func12 LoadS LoadS_found (fun (x, l) => match l with | some l => LLoad x l 4 | none => LLoad x noL 3) (fun (x, l) h => match l, h with
  | some l, h => load_vc x l h.1 h.2
  | none, h => load0_vc x h.1)
end Go.Wk.L14

namespace Go.Wk.L14
open Go Go.Vs Go.Proofs
set_option linter.unusedSimpArgs false
set_option linter.unusedVariables false
set_option maxRecDepth 10000

/-! New -/
def newY (s : GS) (cr : Nat × Nat) : YS := ⟨s.n, s.n, s.n, s.n, cr.1, s.n, cr.2, s.n, s.g, List.replicate s.n false, List.replicate s.n 0, List.replicate s.n false⟩
def NewYS : Sp where
  X := GS
  Y := fun _ => Nat × Nat
  y0 := fun _ => (0, 0)
  pat := fun s => ([gV s 0], [some (gO s)])
  fnd := NewS.fnd
  pre := GOk
  res := fun s y => ⟨.ptr 1 0, [], [ycellA (newY s y) 2 3, ygO (newY s y), ylO (newY s y)]⟩
  pick := fun s v (H : AHeap) => match v with
    | .ptr b 0 => (match (H[b]? : Option (Option AO)) with
      | some (some (.cells _ _ [.sl _ a _ _ _ cap, .sl _ l _ _ _ _])) => (match (H[a]? : Option (Option AO)) with | some (some (.arr _ _ room _ _)) => some ((cap, room), [0, b, a, l]) | _ => none)
      | _ => none)
    | _ => none
theorem NewYS_found : NewYS.spec.Found := NewS_found

set_option maxRecDepth 100000 in
theorem newy_nf (s : GS) : (fnV Try.prog Γnone (fun (x : Code) (x_1 : AS) => none) Try.f8 [gV s 0] [some (gO s)] (Sp.good NewYS s)) = (let q := 0 + GS.n s;
let q_1 := q * 8;
let q_2 := [Col.int IntKind.i64 (GS.g s)];
Bif (decide (q ≤ GS.m s) && (longEnough q q_2 && (!GS.nl s || decide (GS.n s = 0))) && (decide (q_1 ≤ 140737488355328) && decide (q ≤ 9223372036854775807)) && true)
  (∀ (x : Nat),
    let q_3 := newY s (q + x, q + x);
    let q := q;
    let q_4 := AO.arr (GS.rw s) 3 (GS.room s) (GS.m s) q_2;
    let q_5 := (↑24 : Int) * (↑(GS.n s) : Int);
    let q_6 := AV.ptr 4 0;
    let q_7 := Col.bool (List.replicate (Int.toNat (↑(GS.n s) : Int)) false);
    let q_8 := q + x;
    Bif (decide ((↑(GS.n s) : Int) ≤ (↑(GS.n s) : Int)) && decide (q_5 ≤ 281474976710656)) ((q_6 = q_6 ∧ True) ∧ Bif (AO.deadB (gO s)) True (q_4 = q_4) ∧ AO.cells true 52 [AV.sl false 2 1 0 q q_8, AV.sl false 3 3 0 (Int.toNat (↑(GS.n s) : Int)) (Int.toNat (↑(GS.n s) : Int))] = AO.cells true 52 [AV.sl false 2 1 0 (YS.n q_3) (YS.cap q_3), AV.sl false 3 3 0 (YS.n2 q_3) (YS.cap2 q_3)] ∧ Bif (AO.deadB (ygO q_3)) True (AO.arr true 3 q_8 q [Col.int IntKind.i64 (List.take 0 (List.drop 0 (List.replicate 0 0)) ++ List.take (GS.n s) (List.drop 0 (GS.g s)))] = AO.arr true 3 (YS.room q_3) (YS.m q_3) [Col.int IntKind.i64 (YS.g q_3)]) ∧ Bif (AO.deadB (ylO q_3)) True (AO.arr true 37 (Int.toNat (↑(GS.n s) : Int)) (Int.toNat (↑(GS.n s) : Int)) [q_7, Col.int IntKind.i64 (List.replicate (Int.toNat (↑(GS.n s) : Int)) 0), q_7] = AO.arr true 37 (YS.room2 q_3) (YS.m2 q_3) [Col.bool (YS.set q_3), Col.int IntKind.i64 (YS.at_ q_3), Col.bool (YS.first q_3)]) ∧ True) False)
  False) := by kernel_rfl
set_option maxHeartbeats 1000000 in
theorem newY_vc (s : GS) (hs : GOk s) : FnV Try.prog Γnone (fun _ _ => none) Try.f8 [gV s 0] [some (gO s)] (NewYS.good s) := by
  obtain ⟨h1, h2, h3, h4⟩ := hs
  refine FnV.of (newy_nf _) ?_
  simp only [Bif_need, Bif_True]
  simp only [Bif_iff, eq_self, and_true, true_and, AV.val.injEq, AV.agg.injEq, AV.tup.injEq, AV.sl.injEq, AV.ptr.injEq, AV.mp.injEq, Value.int.injEq, Value.bool.injEq, Value.string.injEq, AO.cells.injEq, AO.arr.injEq, AO.mapc.injEq, List.cons.injEq, Col.bool.injEq, Col.int.injEq, Col.str.injEq, MCol.int.injEq, MCol.bool.injEq, MCol.str.injEq, decide_eq_true_eq, decide_eq_false_iff_not, Nat.zero_add, Nat.add_zero, implies_true, Bool.and_eq_true, inR_iff, List.drop_zero, List.take_nil, List.drop_nil, List.nil_append, Int.toNat_natCast, longEnough, colLen, Bool.not_true, Bool.not_false, Bool.true_or, Bool.or_eq_true, Bool.not_eq_true', Bool.not_eq_false', take_take_self, take_tab, one_col, tab_length, mix_length, List.length_take, Nat.min_eq_left, List.set_cons_zero, blt01, Bool.and_false, Bool.and_true, Bool.false_and, Bool.true_and, Bool.false_eq_true, Bool.true_eq_false, false_and, and_false, false_implies, newY]
  repeat' (first | apply And.intro | intro _)
  all_goals try omega
  all_goals first
    | omega
    | (rw [List.take_of_length_le (by omega)])
    | grind
theorem newY_ok : CtOk Try.prog 8 NewYS.ct := Sp.ok CtsOk.none hm Try.func8 NewYS NewYS_found (fun _ _ _ => none) newY_vc

noncomputable def Γy : Cts := Γnone.add 24 (autoCt Try.prog Γnone Try.f24)
theorem Γy_ok : CtsOk Try.prog Γy := CtsOk.none.add (autoCt_ok CtsOk.none hm Try.func24) Try.func24 (by kernel_rfl) (by kernel_rfl)

/-! At -/
def AtYS : Sp where
  X := YS × Int
  Y := fun _ => Unit
  y0 := fun _ => ()
  pat := fun (y, i) => ([.ptr 0 0, iv i], yrow y)
  fnd := fun args H => match args with | [.ptr r 0, .val (.int .i64 i)] => (match fndY r H with | some (y, σ) => some ((y, i), σ) | none => none) | _ => none
  pre := fun (y, i) => YOk y
  res := fun (y, i) _ => ⟨.agg (atY y i), [], []⟩
  pick := fun _ _ _ => some ((), [0, 1, 2])
theorem AtYS_found : AtYS.spec.Found := by
  intro args H y σ h
  simp only [Sp.spec, AtYS] at h
  split at h
  rotate_left
  · cases h
  split at h
  rotate_left
  · cases h
  rename_i x' σ' hx
  cases h
  obtain ⟨⟨a, mp, rfl⟩, h2⟩ := fndY_found hx
  exact ⟨rfl, h2⟩

set_option maxRecDepth 100000 in
theorem aty_nf (y : YS) (i : Int) : (fnV Try.prog Γy (fun (x : Code) (x_1 : AS) => none) Try.f17 [AV.ptr 0 0, iv i] (yrow y) (Sp.good AtYS (y, i))) = (let q := (AV.agg [AV.val (Value.bool false), AV.val (Value.int IntKind.i64 0), AV.val (Value.bool false)] = AV.agg [AV.val (Value.bool (inY y i && List.getD (YS.set y) (Int.toNat i) false)), AV.val (Value.int IntKind.i64 (bif inY y i then List.getD (YS.at_ y) (Int.toNat i) 0 else 0)), AV.val (Value.bool (inY y i && List.getD (YS.first y) (Int.toNat i) false))] ∧ True) ∧ AO.cells true 52 [AV.sl false 1 1 0 (YS.n y) (YS.cap y), AV.sl false 2 3 0 (YS.n2 y) (YS.cap2 y)] = AO.cells true 52 [AV.sl false 1 1 0 (YS.n y) (YS.cap y), AV.sl false 2 3 0 (YS.n2 y) (YS.cap2 y)] ∧ Bif (AO.deadB (ygO y)) True (AO.arr true 3 (YS.room y) (YS.m y) [Col.int IntKind.i64 (YS.g y)] = AO.arr true 3 (YS.room y) (YS.m y) [Col.int IntKind.i64 (YS.g y)]) ∧ Bif (AO.deadB (ylO y)) True (AO.arr true 37 (YS.room2 y) (YS.m2 y) [Col.bool (YS.set y), Col.int IntKind.i64 (YS.at_ y), Col.bool (YS.first y)] = AO.arr true 37 (YS.room2 y) (YS.m2 y) [Col.bool (YS.set y), Col.int IntKind.i64 (YS.at_ y), Col.bool (YS.first y)]) ∧ True;
let q_1 := AO.cells true 52 [AV.sl false 1 1 0 (YS.n y) (YS.cap y), AV.sl false 2 3 0 (YS.n2 y) (YS.cap2 y)];
let q_2 := 0 + Int.toNat i;
let q_3 := AO.arr true 37 (YS.room2 y) (YS.m2 y) [Col.bool (YS.set y), Col.int IntKind.i64 (YS.at_ y), Col.bool (YS.first y)];
let q_4 := AO.arr true 3 (YS.room y) (YS.m y) [Col.int IntKind.i64 (YS.g y)];
let q_5 := decide (q_2 < YS.m2 y);
Bif (decide (i ≥ 0)) (Bif (!decide (i < (↑(YS.n2 y) : Int))) q (Bif (inR i (YS.n2 y) && q_5) (Bif q_5 ((AV.agg [AV.val (Value.bool (List.getD (YS.set y) q_2 false)), AV.val (Value.int IntKind.i64 (List.getD (YS.at_ y) q_2 0)), AV.val (Value.bool (List.getD (YS.first y) q_2 false))] = AV.agg [AV.val (Value.bool (inY y i && List.getD (YS.set y) (Int.toNat i) false)), AV.val (Value.int IntKind.i64 (bif inY y i then List.getD (YS.at_ y) (Int.toNat i) 0 else 0)), AV.val (Value.bool (inY y i && List.getD (YS.first y) (Int.toNat i) false))] ∧ True) ∧ q_1 = q_1 ∧ Bif (AO.deadB (ygO y)) True (q_4 = q_4) ∧ Bif (AO.deadB (ylO y)) True (q_3 = q_3) ∧ True) False) False)) q) := by kernel_rfl
set_option maxHeartbeats 1000000 in
theorem atY_vc (y : YS) (i : Int) (hy : YOk y) : FnV Try.prog Γy (fun _ _ => none) Try.f17 [.ptr 0 0, iv i] (yrow y) (AtYS.good (y, i)) := by
  obtain ⟨h1, h2, h3, h4, h5, h6, h7, h8⟩ := hy
  refine FnV.of (aty_nf _ _) ?_
  simp only [Bif_need, Bif_True]
  simp only [Bif_iff, eq_self, and_true, true_and, AV.val.injEq, AV.agg.injEq, AV.tup.injEq, AV.sl.injEq, AV.ptr.injEq, AV.mp.injEq, Value.int.injEq, Value.bool.injEq, Value.string.injEq, AO.cells.injEq, AO.arr.injEq, AO.mapc.injEq, List.cons.injEq, Col.bool.injEq, Col.int.injEq, Col.str.injEq, MCol.int.injEq, MCol.bool.injEq, MCol.str.injEq, decide_eq_true_eq, decide_eq_false_iff_not, Nat.zero_add, Nat.add_zero, implies_true, Bool.and_eq_true, inR_iff, List.drop_zero, List.take_nil, List.drop_nil, List.nil_append, Int.toNat_natCast, longEnough, colLen, Bool.not_true, Bool.not_false, Bool.true_or, Bool.or_eq_true, Bool.not_eq_true', Bool.not_eq_false', take_take_self, take_tab, one_col, tab_length, mix_length, List.length_take, Nat.min_eq_left, List.set_cons_zero, blt01, Bool.and_false, Bool.and_true, Bool.false_and, Bool.true_and, Bool.false_eq_true, Bool.true_eq_false, false_and, and_false, false_implies]
  repeat' (first | apply And.intro | intro _)
  all_goals try omega
  all_goals first
    | omega
    | grind [inY]
theorem atY_ok : CtOk Try.prog 17 AtYS.ct := Sp.ok Γy_ok hm Try.func17 AtYS AtYS_found (fun _ _ _ => none) (fun (x, i) hx => atY_vc x i hx)

/-! All -/
def AllYS : Sp where
  X := YS
  Y := fun _ => Nat × Nat
  y0 := fun _ => (0, 0)
  pat := fun y => ([.ptr 0 0], yrow y)
  fnd := fun args H => match args with | [.ptr r 0] => fndY r H | _ => none
  pre := YOk
  res := fun y c => ⟨.sl false 3 3 0 y.n c.1, [], [.arr true 37 c.2 y.n [.bool y.set, .int .i64 y.at_, .bool y.first]]⟩
  pick := fun y v (H : AHeap) => match v with
    | .sl _ b 3 0 _ cap => (match (H[b]? : Option (Option AO)) with | some (some (.arr _ _ room _ _)) => some ((cap, room), [0, 1, 2, b]) | _ => none)
    | _ => none
theorem AllYS_found : AllYS.spec.Found := by
  intro args H x σ h
  simp only [Sp.spec, AllYS] at h
  split at h
  rotate_left
  · cases h
  obtain ⟨⟨a, mp, rfl⟩, h2⟩ := fndY_found h
  exact ⟨rfl, h2⟩

set_option maxRecDepth 100000 in
theorem ally_nf (y : YS) : (fnV Try.prog Γnone (fun (x : Code) (x_1 : AS) => none) Try.f20 [AV.ptr 0 0] (yrow y) (Sp.good AllYS y)) = (let q := 0 + YS.n2 y;
let q_1 := [Col.bool (YS.set y), Col.int IntKind.i64 (YS.at_ y), Col.bool (YS.first y)];
let q_2 := q * 24;
Bif (decide (q ≤ YS.m2 y) && (longEnough q q_1 && true) && (decide (q_2 ≤ 140737488355328) && decide (q ≤ 9223372036854775807)) && true)
  (∀ (x : Nat),
    let q_3 := q + x;
    let q_4 := AO.cells true 52 [AV.sl false 1 1 0 (YS.n y) (YS.cap y), AV.sl false 2 3 0 (YS.n2 y) (YS.cap2 y)];
    let q_5 := q_1;
    let q_6 := List.take 0 (List.drop 0 (List.replicate 0 false));
    let q_7 := AO.arr true 3 (YS.room y) (YS.m y) [Col.int IntKind.i64 (YS.g y)];
    let q := q;
    let q_8 := AO.arr true 37 (YS.room2 y) (YS.m2 y) q_5;
    (AV.sl false 4 3 0 q q_3 = AV.sl false 4 3 0 (YS.n y) q_3 ∧ True) ∧ q_4 = q_4 ∧ Bif (AO.deadB (ygO y)) True (q_7 = q_7) ∧ Bif (AO.deadB (ylO y)) True (q_8 = q_8) ∧ Bif (AO.deadB (AO.arr true 37 q_3 (YS.n y) q_5)) True (AO.arr true 37 q_3 q [Col.bool (q_6 ++ List.take (YS.n2 y) (List.drop 0 (YS.set y))), Col.int IntKind.i64 (List.take 0 (List.drop 0 (List.replicate 0 0)) ++ List.take (YS.n2 y) (List.drop 0 (YS.at_ y))), Col.bool (q_6 ++ List.take (YS.n2 y) (List.drop 0 (YS.first y)))] = AO.arr true 37 q_3 (YS.n y) q_5) ∧ True)
  False) := by kernel_rfl
set_option maxHeartbeats 1000000 in
theorem allY_vc (y : YS) (hy : YOk y) : FnV Try.prog Γnone (fun _ _ => none) Try.f20 [.ptr 0 0] (yrow y) (AllYS.good y) := by
  obtain ⟨h1, h2, h3, h4, h5, h6, h7, h8⟩ := hy
  refine FnV.of (ally_nf _) ?_
  simp only [Bif_need, Bif_True]
  simp only [Bif_iff, eq_self, and_true, true_and, AV.val.injEq, AV.agg.injEq, AV.tup.injEq, AV.sl.injEq, AV.ptr.injEq, AV.mp.injEq, Value.int.injEq, Value.bool.injEq, Value.string.injEq, AO.cells.injEq, AO.arr.injEq, AO.mapc.injEq, List.cons.injEq, Col.bool.injEq, Col.int.injEq, Col.str.injEq, MCol.int.injEq, MCol.bool.injEq, MCol.str.injEq, decide_eq_true_eq, decide_eq_false_iff_not, Nat.zero_add, Nat.add_zero, implies_true, Bool.and_eq_true, inR_iff, List.drop_zero, List.take_nil, List.drop_nil, List.nil_append, Int.toNat_natCast, longEnough, colLen, Bool.not_true, Bool.not_false, Bool.true_or, Bool.or_eq_true, Bool.not_eq_true', Bool.not_eq_false', take_take_self, take_tab, one_col, tab_length, mix_length, List.length_take, Nat.min_eq_left, List.set_cons_zero, blt01, Bool.and_false, Bool.and_true, Bool.false_and, Bool.true_and, Bool.false_eq_true, Bool.true_eq_false, false_and, and_false, false_implies]
  repeat' (first | apply And.intro | intro _)
  all_goals try omega
  all_goals first
    | omega
    | (rw [List.take_of_length_le (by omega)])
    | grind
theorem allY_ok : CtOk Try.prog 20 AllYS.ct := Sp.ok CtsOk.none hm Try.func20 AllYS AllYS_found (fun _ _ _ => none) allY_vc

/-! First -/
noncomputable def LFirstY (y : YS) (gr : Int) : Loops := fun body s => match loopId body with
  | _ => some (cntLI Try.f22 body s y.n (fun k => anyN k (fun j => y.first.getD j false && y.g.getD j 0 == gr) = false) (fun k => [(6, iv k), (5, bv false), (4, iv 0)]) (fun _ => s.heap))
def FirstYS : Sp where
  X := YS × Int
  Y := fun _ => Unit
  y0 := fun _ => ()
  pat := fun (y, i) => ([.ptr 0 0, iv i], yrow y)
  fnd := AtYS.fnd
  pre := fun (y, i) => YOk y
  res := fun (y, i) _ => ⟨.tup [iv (fst (firstY y i)), bv (firstY y i).isSome], [], []⟩
  pick := fun _ _ _ => some ((), [0, 1, 2])
theorem FirstYS_found : FirstYS.spec.Found := AtYS_found

theorem firstY_at {y : YS} {gr : Int} {k : Nat} (hk : k < y.n) (h : anyN k (fun j => y.first.getD j false && y.g.getD j 0 == gr) = false) (h1 : y.first.getD k false = true) (h2 : y.g.getD k 0 = gr) : firstY y gr = some k :=
  findN_some hk (by simp only [h1, h2, beq_self_eq_true, Bool.and_self]) (fun j hj => anyN_not.1 h j hj)
theorem firstY_no {y : YS} {gr : Int} {k : Nat} (hk : ¬ k < y.n) (h : anyN k (fun j => y.first.getD j false && y.g.getD j 0 == gr) = false) : firstY y gr = none :=
  findN_none fun j hj => anyN_not.1 h j (by omega)
set_option maxRecDepth 100000 in
theorem firsty_nf (y : YS) (gr : Int) : (fnV Try.prog Γnone (LFirstY y gr) Try.f22 [AV.ptr 0 0, iv gr] (yrow y) (Sp.good FirstYS (y, gr))) = (let q := AO.cells true 52 [AV.sl false 1 1 0 (YS.n y) (YS.cap y), AV.sl false 2 3 0 (YS.n2 y) (YS.cap2 y)] = AO.cells true 52 [AV.sl false 1 1 0 (YS.n y) (YS.cap y), AV.sl false 2 3 0 (YS.n2 y) (YS.cap2 y)];
let q_1 := AO.arr true 37 (YS.room2 y) (YS.m2 y) [Col.bool (YS.set y), Col.int IntKind.i64 (YS.at_ y), Col.bool (YS.first y)] = AO.arr true 37 (YS.room2 y) (YS.m2 y) [Col.bool (YS.set y), Col.int IntKind.i64 (YS.at_ y), Col.bool (YS.first y)];
let q_2 := AO.arr true 3 (YS.room y) (YS.m y) [Col.int IntKind.i64 (YS.g y)] = AO.arr true 3 (YS.room y) (YS.m y) [Col.int IntKind.i64 (YS.g y)];
let q_3 := AO.deadB (AO.arr true 37 (YS.room2 y) (YS.m2 y) [Col.bool (YS.set y), Col.int IntKind.i64 (YS.at_ y), Col.bool (YS.first y)]);
let q_4 := AV.ptr 0 0;
let q_5 := AO.deadB (AO.arr true 3 (YS.room y) (YS.m y) [Col.int IntKind.i64 (YS.g y)]);
let q_6 := AV.val (Value.int IntKind.i64 0) = AV.val (Value.int IntKind.i64 0);
let q_7 := AV.val (Value.int IntKind.i64 gr) = AV.val (Value.int IntKind.i64 gr) ∧ True;
let q_8 := AV.val (Value.bool false) = AV.val (Value.bool false);
((0 ≤ YS.n y ∧ false = false) ∧ (q_6 ∧ q_8 ∧ q_6 ∧ q_4 = q_4 ∧ q_7) ∧ q ∧ Bif q_5 True q_2 ∧ Bif q_3 True q_1 ∧ True) ∧
  ∀ (x : Nat),
    let q := q;
    let q_9 := q_1;
    let q_10 := q_2;
    let q_11 := x + 1;
    let q_12 := AV.val (Value.int IntKind.i64 0);
    let q_13 := q_4;
    x ≤ YS.n y ∧ (anyN x fun (j : Nat) => List.getD (YS.first y) j false && List.getD (YS.g y) j 0 == gr) = false →
      let q_14 := (q_11 ≤ YS.n y ∧ (anyN q_11 fun (j : Nat) => List.getD (YS.first y) j false && List.getD (YS.g y) j 0 == gr) = false) ∧ YS.n y - q_11 < YS.n y - x ∧ (AV.val (Value.int IntKind.i64 (IntKind.wrap IntKind.i64 ((↑x : Int) + 1))) = AV.val (Value.int IntKind.i64 (↑q_11 : Int)) ∧ q_8 ∧ q_12 = q_12 ∧ q_13 = q_13 ∧ q_7) ∧ q ∧ Bif q_5 True q_10 ∧ Bif q_3 True q_9 ∧ True;
      let q := q ∧ Bif (AO.deadB (ygO y)) True q_10 ∧ Bif (AO.deadB (ylO y)) True q_9 ∧ True;
      let q_15 := 0 + x;
      let q_16 := AV.tup [AV.val (Value.int IntKind.i64 (fst (firstY y gr))), AV.val (Value.bool (Option.isSome (firstY y gr)))];
      let q_17 := 0 + Int.toNat (↑x : Int);
      let q_18 := decide (q_15 < YS.m y);
      let q_19 := decide (q_15 < YS.m2 y);
      Bif (decide ((↑x : Int) < (↑(YS.n2 y) : Int))) (Bif (inR (↑x : Int) (YS.n2 y) && q_19) (Bif q_19 (Bif (List.getD (YS.first y) q_17 false) (Bif (inR (↑x : Int) (YS.n y) && q_18) (Bif q_18 (Bif (List.getD (YS.g y) q_17 0 == gr) ((AV.tup [AV.val (Value.int IntKind.i64 (↑x : Int)), AV.val (Value.bool true)] = q_16 ∧ True) ∧ q) q_14) False) False) q_14) False) False) ((AV.tup [q_12, AV.val (Value.bool false)] = q_16 ∧ True) ∧ q)) := by kernel_rfl
set_option maxHeartbeats 1000000 in
theorem firstY_vc (y : YS) (gr : Int) (hy : YOk y) : FnV Try.prog Γnone (LFirstY y gr) Try.f22 [.ptr 0 0, iv gr] (yrow y) (FirstYS.good (y, gr)) := by
  obtain ⟨h1, h2, h3, h4, h5, h6, h7, h8⟩ := hy
  have q1 : ∀ k, k < y.n → anyN k (fun j => y.first.getD j false && y.g.getD j 0 == gr) = false → y.first.getD k false = true → y.g.getD k 0 = gr → firstY y gr = some k := fun k => firstY_at
  have q2 : ∀ k, ¬ k < y.n → anyN k (fun j => y.first.getD j false && y.g.getD j 0 == gr) = false → firstY y gr = none := fun k => firstY_no
  refine FnV.of (firsty_nf _ _) ?_
  simp only [Bif_need, Bif_True]
  simp only [Bif_iff, eq_self, and_true, true_and, AV.val.injEq, AV.agg.injEq, AV.tup.injEq, AV.sl.injEq, AV.ptr.injEq, AV.mp.injEq, Value.int.injEq, Value.bool.injEq, Value.string.injEq, AO.cells.injEq, AO.arr.injEq, AO.mapc.injEq, List.cons.injEq, Col.bool.injEq, Col.int.injEq, Col.str.injEq, MCol.int.injEq, MCol.bool.injEq, MCol.str.injEq, decide_eq_true_eq, decide_eq_false_iff_not, Nat.zero_add, Nat.add_zero, implies_true, Bool.and_eq_true, inR_iff, List.drop_zero, List.take_nil, List.drop_nil, List.nil_append, Int.toNat_natCast, longEnough, colLen, Bool.not_true, Bool.not_false, Bool.true_or, Bool.or_eq_true, Bool.not_eq_true', Bool.not_eq_false', take_take_self, take_tab, one_col, tab_length, mix_length, List.length_take, Nat.min_eq_left, List.set_cons_zero, blt01, Bool.and_false, Bool.and_true, Bool.false_and, Bool.true_and, Bool.false_eq_true, Bool.true_eq_false, false_and, and_false, false_implies, anyN_succ]
  repeat' (first | apply And.intro | intro _)
  all_goals try omega
  all_goals try (simp only [bne_iff_ne, ne_eq, bne_eq_false_iff_eq, beq_iff_eq, beq_eq_false_iff_ne] at *)
  all_goals first
    | omega
    | (rw [IntWalk.i64_in _ (by omega)]; omega)
    | (have e := q1 _ (by omega) (by first | exact ‹_ ∧ _›.2 | assumption) ‹_› ‹_›; simp [e, fst]; done)
    | (have e := q2 _ (by omega) (by first | exact ‹_ ∧ _›.2 | assumption); simp [e, fst]; done)
    | grind [fst]
theorem firstY_ok : CtOk Try.prog 22 FirstYS.ct := Sp.ok CtsOk.none hm Try.func22 FirstYS FirstYS_found (fun (y, g) => LFirstY y g) (fun (x, i) hx => firstY_vc x i hx)

/-! Reset -/
def ResetYS : Sp where
  X := YS × Int
  Y := fun _ => Unit
  y0 := fun _ => ()
  pat := fun (y, i) => ([.ptr 0 0, iv i], yrow y)
  fnd := AtYS.fnd
  pre := fun (y, i) => YOk y
  res := fun (y, i) _ => ⟨bv (resetY y i).1, [(0, some (ycellA (resetY y i).2 1 2)), (1, some (ygO (resetY y i).2)), (2, some (ylO (resetY y i).2))], []⟩
  pick := fun _ _ _ => some ((), [0, 1, 2])
theorem ResetYS_found : ResetYS.spec.Found := AtYS_found
set_option maxRecDepth 100000 in
theorem resety_nf (y : YS) (i : Int) : (fnV Try.prog Γy (fun (x : Code) (x_1 : AS) => none) Try.f11 [AV.ptr 0 0, iv i] (yrow y) (Sp.good ResetYS (y, i))) = (let q := (AV.val (Value.bool false) = AV.val (Value.bool (Prod.fst (resetY y i))) ∧ True) ∧ AO.cells true 52 [AV.sl false 1 1 0 (YS.n y) (YS.cap y), AV.sl false 2 3 0 (YS.n2 y) (YS.cap2 y)] = AO.cells true 52 [AV.sl false 1 1 0 (YS.n (Prod.snd (resetY y i))) (YS.cap (Prod.snd (resetY y i))), AV.sl false 2 3 0 (YS.n2 (Prod.snd (resetY y i))) (YS.cap2 (Prod.snd (resetY y i)))] ∧ Bif (AO.deadB (ygO (Prod.snd (resetY y i)))) True (AO.arr true 3 (YS.room y) (YS.m y) [Col.int IntKind.i64 (YS.g y)] = AO.arr true 3 (YS.room (Prod.snd (resetY y i))) (YS.m (Prod.snd (resetY y i))) [Col.int IntKind.i64 (YS.g (Prod.snd (resetY y i)))]) ∧ Bif (AO.deadB (ylO (Prod.snd (resetY y i)))) True (AO.arr true 37 (YS.room2 y) (YS.m2 y) [Col.bool (YS.set y), Col.int IntKind.i64 (YS.at_ y), Col.bool (YS.first y)] = AO.arr true 37 (YS.room2 (Prod.snd (resetY y i))) (YS.m2 (Prod.snd (resetY y i))) [Col.bool (YS.set (Prod.snd (resetY y i))), Col.int IntKind.i64 (YS.at_ (Prod.snd (resetY y i))), Col.bool (YS.first (Prod.snd (resetY y i)))]) ∧ True;
let q_1 := 0 + Int.toNat i;
let q_2 := decide (q_1 < YS.m2 y);
Bif (decide (i ≥ 0)) (Bif (!decide (i < (↑(YS.n2 y) : Int))) q (Bif (inR i (YS.n2 y) && q_2) (Bif q_2 (Bif (!List.getD (YS.set y) q_1 false) q (Bif (inR i (YS.n2 y) && q_2) (Bif (q_2 && (decide (q_1 < List.length (YS.set y)) && (decide (q_1 < List.length (YS.at_ y)) && (decide (q_1 < List.length (YS.first y)) && true)))) ((AV.val (Value.bool true) = AV.val (Value.bool (Prod.fst (resetY y i))) ∧ True) ∧ AO.cells true 52 [AV.sl false 1 1 0 (YS.n y) (YS.cap y), AV.sl false 2 3 0 (YS.n2 y) (YS.cap2 y)] = AO.cells true 52 [AV.sl false 1 1 0 (YS.n (Prod.snd (resetY y i))) (YS.cap (Prod.snd (resetY y i))), AV.sl false 2 3 0 (YS.n2 (Prod.snd (resetY y i))) (YS.cap2 (Prod.snd (resetY y i)))] ∧ Bif (AO.deadB (ygO (Prod.snd (resetY y i)))) True (AO.arr true 3 (YS.room y) (YS.m y) [Col.int IntKind.i64 (YS.g y)] = AO.arr true 3 (YS.room (Prod.snd (resetY y i))) (YS.m (Prod.snd (resetY y i))) [Col.int IntKind.i64 (YS.g (Prod.snd (resetY y i)))]) ∧ Bif (AO.deadB (ylO (Prod.snd (resetY y i)))) True (AO.arr true 37 (YS.room2 y) (YS.m2 y) [Col.bool (List.set (YS.set y) q_1 false), Col.int IntKind.i64 (List.set (YS.at_ y) q_1 0), Col.bool (List.set (YS.first y) q_1 false)] = AO.arr true 37 (YS.room2 (Prod.snd (resetY y i))) (YS.m2 (Prod.snd (resetY y i))) [Col.bool (YS.set (Prod.snd (resetY y i))), Col.int IntKind.i64 (YS.at_ (Prod.snd (resetY y i))), Col.bool (YS.first (Prod.snd (resetY y i)))]) ∧ True) False) False)) False) False)) q) := by kernel_rfl
set_option maxHeartbeats 1000000 in
theorem resetY_vc (y : YS) (i : Int) (hy : YOk y) : FnV Try.prog Γy (fun _ _ => none) Try.f11 [.ptr 0 0, iv i] (yrow y) (ResetYS.good (y, i)) := by
  obtain ⟨h1, h2, h3, h4, h5, h6, h7, h8⟩ := hy
  refine FnV.of (resety_nf _ _) ?_
  simp only [Bif_need, Bif_True]
  simp only [Bif_iff, eq_self, and_true, true_and, AV.val.injEq, AV.agg.injEq, AV.tup.injEq, AV.sl.injEq, AV.ptr.injEq, AV.mp.injEq, Value.int.injEq, Value.bool.injEq, Value.string.injEq, AO.cells.injEq, AO.arr.injEq, AO.mapc.injEq, List.cons.injEq, Col.bool.injEq, Col.int.injEq, Col.str.injEq, MCol.int.injEq, MCol.bool.injEq, MCol.str.injEq, decide_eq_true_eq, decide_eq_false_iff_not, Nat.zero_add, Nat.add_zero, implies_true, Bool.and_eq_true, inR_iff, List.drop_zero, List.take_nil, List.drop_nil, List.nil_append, Int.toNat_natCast, longEnough, colLen, Bool.not_true, Bool.not_false, Bool.true_or, Bool.or_eq_true, Bool.not_eq_true', Bool.not_eq_false', take_take_self, take_tab, one_col, tab_length, mix_length, List.length_take, Nat.min_eq_left, List.set_cons_zero, blt01, Bool.and_false, Bool.and_true, Bool.false_and, Bool.true_and, Bool.false_eq_true, Bool.true_eq_false, false_and, and_false, false_implies]
  repeat' (first | apply And.intro | intro _)
  all_goals try omega
  all_goals first
    | omega
    | (simp only [resetY, *, ↓reduceIte, if_true, if_false, Bool.false_eq_true, Bool.true_or, Bool.false_or, Bool.or_false, Bool.or_true, Bool.and_true, Bool.true_and, Bool.and_false, Bool.false_and, Bool.not_true, Bool.not_false, cond_true, cond_false, decide_true, decide_false, not_true_eq_false, not_false_eq_true, BEq.rfl, Nat.zero_add]; done)
    | grind [resetY]
theorem resetY_ok : CtOk Try.prog 11 ResetYS.ct := Sp.ok Γy_ok hm Try.func11 ResetYS ResetYS_found (fun _ _ _ => none) (fun (x, i) hx => resetY_vc x i hx)

/-! Same -/
def SameS : Sp where
  X := LS × LS
  Y := fun _ => Unit
  y0 := fun _ => ()
  pat := fun (a, b) => ([lsV a 0, lsV b 1], [some (lsO a), some (lsO b)])
  fnd := fun args (H : AHeap) => match args with
    | [.sl nl b 3 0 n cap, .sl nl2 b2 3 0 n2 cap2] =>
      (match (H[b]? : Option (Option AO)), (H[b2]? : Option (Option AO)) with
      | some (some (.arr rw 37 room m [.bool set, .int .i64 at_, .bool first])), some (some (.arr rw2 37 room2 m2 [.bool set2, .int .i64 at2, .bool first2])) =>
        some ((⟨nl, rw, cap, room, n, m, set, at_, first⟩, ⟨nl2, rw2, cap2, room2, n2, m2, set2, at2, first2⟩), [b, b2])
      | _, _ => none)
    | _ => none
  pre := fun (a, b) => LOk a ∧ LOk b
  res := fun (a, b) _ => ⟨bv (decide (a.n = b.n) && sameB a.n a b), [], []⟩
  pick := fun _ _ _ => some ((), [0, 1])
theorem SameS_found : SameS.spec.Found := by
  intro args H x σ h
  simp only [Sp.spec, SameS] at h
  split at h
  rotate_left
  · cases h
  split at h
  rotate_left
  · cases h
  rename_i h1 h2
  cases h
  refine ⟨rfl, fun i ao hi => ?_⟩
  match i, hi with
  | 0, hi => obtain rfl := Option.some.inj (Option.some.inj hi); simpa [ren1, AO.ren] using h1
  | 1, hi => obtain rfl := Option.some.inj (Option.some.inj hi); simpa [ren1, AO.ren] using h2
  | i + 2, hi => exact nomatch (show (none : Option (Option AO)) = some (some ao) from hi)

noncomputable def LSame (a b : LS) : Loops := fun body s => match loopId body with
  | _ => some (cntLI Try.f18 body s a.n (fun k => sameB k a b = true) (fun k => [(5, iv k)]) (fun _ => s.heap))
theorem sameB_at {a b : LS} {k n : Nat} (h : sameB n a b = true) (hk : k < n) : a.set.getD k false = b.set.getD k false ∧ a.at_.getD k 0 = b.at_.getD k 0 ∧ a.first.getD k false = b.first.getD k false := by
  have := allN_iff.1 h k hk
  simpa only [Bool.and_eq_true, beq_iff_eq] using this
set_option maxRecDepth 100000 in
theorem same_nf (a : LS) (b : LS) : (fnV Try.prog Γnone (LSame a b) Try.f18 [lsV a 0, lsV b 1] [some (lsO a), some (lsO b)] (Sp.good SameS (a, b))) = (let q := AO.arr (LS.rw b) 37 (LS.room b) (LS.m b) [Col.bool (LS.set b), Col.int IntKind.i64 (LS.at_ b), Col.bool (LS.first b)];
let q_1 := AO.arr (LS.rw a) 37 (LS.room a) (LS.m a) [Col.bool (LS.set a), Col.int IntKind.i64 (LS.at_ a), Col.bool (LS.first a)];
let q_2 := AV.sl (LS.nl b) 1 3 0 (LS.n b) (LS.cap b);
let q_3 := AV.sl (LS.nl a) 0 3 0 (LS.n a) (LS.cap a);
let q_4 := AV.val (Value.bool ((↑(LS.n a) : Int) != (↑(LS.n b) : Int)));
let q_5 := AV.val (Value.bool (decide (LS.n a = LS.n b) && sameB (LS.n a) a b));
let q_6 := AV.val (Value.int IntKind.i64 0);
Bif ((↑(LS.n a) : Int) != (↑(LS.n b) : Int)) ((AV.val (Value.bool false) = q_5 ∧ True) ∧ Bif (AO.deadB (lsO a)) True (q_1 = q_1) ∧ Bif (AO.deadB (lsO b)) True (q = q) ∧ True)
  (((0 ≤ LS.n a ∧ true = true) ∧ (q_6 = q_6 ∧ q_4 = q_4 ∧ q_3 = q_3 ∧ q_2 = q_2 ∧ True) ∧ Bif (AO.deadB q_1) True (q_1 = q_1) ∧ Bif (AO.deadB q) True (q = q) ∧ True) ∧
    ∀ (x : Nat),
      let q := q;
      let q_7 := q_1;
      x ≤ LS.n a ∧ sameB x a b = true →
        let q_8 := Bif (AO.deadB (lsO a)) True (q_7 = q_7) ∧ Bif (AO.deadB (lsO b)) True (q = q) ∧ True;
        let q_9 := 0 + Int.toNat (↑x : Int);
        let q := q;
        let q_10 := q_7;
        let q_11 := x + 1;
        let q_12 := 0 + x;
        let q_13 := q_2;
        let q_14 := q_3;
        let q_15 := q_5;
        let q_16 := q_4;
        let q_17 := decide (q_12 < LS.m b);
        let q_18 := decide (q_12 < LS.m a);
        let q_19 := List.getD (LS.at_ b) q_9 0;
        let q_20 := List.getD (LS.at_ a) q_9 0;
        Bif (decide ((↑x : Int) < (↑(LS.n a) : Int))) (Bif (!LS.nl a && (inR (↑x : Int) (LS.n a) && q_18)) (Bif q_18 (Bif (!LS.nl b && (inR (↑x : Int) (LS.n b) && q_17)) (Bif q_17 (Bif (!(decide (List.getD (LS.set a) q_9 false = List.getD (LS.set b) q_9 false) && (decide (q_20 = q_19) && (decide (List.getD (LS.first a) q_9 false = List.getD (LS.first b) q_9 false) && true)))) ((AV.val (Value.bool false) = q_15 ∧ True) ∧ q_8) ((q_11 ≤ LS.n a ∧ sameB q_11 a b = true) ∧ LS.n a - q_11 < LS.n a - x ∧ (AV.val (Value.int IntKind.i64 (IntKind.wrap IntKind.i64 ((↑x : Int) + 1))) = AV.val (Value.int IntKind.i64 (↑q_11 : Int)) ∧ q_16 = q_16 ∧ q_14 = q_14 ∧ q_13 = q_13 ∧ True) ∧ Bif (AO.deadB q_10) True (q_10 = q_10) ∧ Bif (AO.deadB q) True (q = q) ∧ True)) False) False) False) False) ((AV.val (Value.bool true) = q_15 ∧ True) ∧ q_8))) := by kernel_rfl
set_option maxHeartbeats 1000000 in
theorem same_vc (a b : LS) (ha : LOk a) (hb : LOk b) : FnV Try.prog Γnone (LSame a b) Try.f18 [lsV a 0, lsV b 1] [some (lsO a), some (lsO b)] (SameS.good (a, b)) := by
  obtain ⟨h0, h1, h2, h3, h4, h5⟩ := ha
  obtain ⟨g0, g1, g2, g3, g4, g5⟩ := hb
  have q : sameB a.n a b = true → ∀ k, k < a.n → a.set.getD k false = b.set.getD k false ∧ a.at_.getD k 0 = b.at_.getD k 0 ∧ a.first.getD k false = b.first.getD k false := fun h k hk => sameB_at h hk
  refine FnV.of (same_nf _ _) ?_
  simp only [Bif_need, Bif_True]
  simp only [Bif_iff, eq_self, and_true, true_and, AV.val.injEq, AV.agg.injEq, AV.tup.injEq, AV.sl.injEq, AV.ptr.injEq, AV.mp.injEq, Value.int.injEq, Value.bool.injEq, Value.string.injEq, AO.cells.injEq, AO.arr.injEq, AO.mapc.injEq, List.cons.injEq, Col.bool.injEq, Col.int.injEq, Col.str.injEq, MCol.int.injEq, MCol.bool.injEq, MCol.str.injEq, decide_eq_true_eq, decide_eq_false_iff_not, Nat.zero_add, Nat.add_zero, implies_true, Bool.and_eq_true, inR_iff, List.drop_zero, List.take_nil, List.drop_nil, List.nil_append, Int.toNat_natCast, longEnough, colLen, Bool.not_true, Bool.not_false, Bool.true_or, Bool.or_eq_true, Bool.not_eq_true', Bool.not_eq_false', take_take_self, take_tab, one_col, tab_length, mix_length, List.length_take, Nat.min_eq_left, List.set_cons_zero, blt01, Bool.and_false, Bool.and_true, Bool.false_and, Bool.true_and, Bool.false_eq_true, Bool.true_eq_false, false_and, and_false, false_implies]
  repeat' (first | apply And.intro | intro _)
  all_goals try omega
  all_goals try (simp only [bne_iff_ne, ne_eq, bne_eq_false_iff_eq, beq_iff_eq, beq_eq_false_iff_ne] at *)
  all_goals first
    | omega
    | (rw [IntWalk.i64_in _ (by omega)]; omega)
    | (clear q; grind [sameB, allN_succ])
    | (cases hs : sameB a.n a b <;> grind)
theorem same_ok : CtOk Try.prog 18 SameS.ct := Sp.ok CtsOk.none hm Try.func18 SameS SameS_found (fun (a, b) => LSame a b) (fun (a, b) h => same_vc a b h.1 h.2)

/-! Trip -/
noncomputable def Γz : Cts := Γy.add 22 FirstYS.ct
theorem Γz_ok : CtsOk Try.prog Γz := Γy_ok.add firstY_ok Try.func22 (by kernel_rfl) (by kernel_rfl)
noncomputable def LTripY (y : YS) (i : Int) : Loops := fun body s => match loopId body with
  | _ => some (cntLI Try.f15 body s y.n (fun _ => True) (fun k => [(8, iv k), (7, bv (anyN k fun j => y.set.getD j false && y.g.getD j 0 == y.g.getD i.toNat 0))]) (fun _ => s.heap))
def TripYS : Sp where
  X := YS × Int × Int
  Y := fun _ => Unit
  y0 := fun _ => ()
  pat := fun (y, i, now) => ([.ptr 0 0, iv i, iv now], yrow y)
  fnd := fun args H => match args with | [.ptr r 0, .val (.int .i64 i), .val (.int .i64 now)] => (match fndY r H with | some (y, σ) => some ((y, i, now), σ) | none => none) | _ => none
  pre := fun (y, _, _) => YOk y
  res := fun (y, i, now) _ => ⟨bv (tripY y i now).1, [(0, some (ycellA (tripY y i now).2 1 2)), (1, some (ygO (tripY y i now).2)), (2, some (ylO (tripY y i now).2))], []⟩
  pick := fun _ _ _ => some ((), [0, 1, 2])
theorem TripYS_found : TripYS.spec.Found := by
  intro args H y σ h
  simp only [Sp.spec, TripYS] at h
  split at h
  rotate_left
  · cases h
  split at h
  rotate_left
  · cases h
  rename_i x' σ' hx
  cases h
  obtain ⟨⟨a, mp, rfl⟩, h2⟩ := fndY_found hx
  exact ⟨rfl, h2⟩
theorem firstY_lt (y : YS) (gr : Int) (h : (firstY y gr).isSome = true) : 0 ≤ fst (firstY y gr) ∧ fst (firstY y gr) < (y.n : Int) := by
  cases hf : firstY y gr with
  | none => rw [hf] at h; cases h
  | some k =>
    have := (findN_eq hf).1
    simp only [fst]; omega
set_option maxRecDepth 100000 in
theorem tripy_nf (y : YS) (i : Int) (now : Int) : (fnV Try.prog Γz (LTripY y i) Try.f15 [AV.ptr 0 0, iv i, iv now] (yrow y) (Sp.good TripYS (y, i, now))) = (let q := (AV.val (Value.bool false) = AV.val (Value.bool (Prod.fst (tripY y i now))) ∧ True) ∧ AO.cells true 52 [AV.sl false 1 1 0 (YS.n y) (YS.cap y), AV.sl false 2 3 0 (YS.n2 y) (YS.cap2 y)] = AO.cells true 52 [AV.sl false 1 1 0 (YS.n (Prod.snd (tripY y i now))) (YS.cap (Prod.snd (tripY y i now))), AV.sl false 2 3 0 (YS.n2 (Prod.snd (tripY y i now))) (YS.cap2 (Prod.snd (tripY y i now)))] ∧ Bif (AO.deadB (ygO (Prod.snd (tripY y i now)))) True (AO.arr true 3 (YS.room y) (YS.m y) [Col.int IntKind.i64 (YS.g y)] = AO.arr true 3 (YS.room (Prod.snd (tripY y i now))) (YS.m (Prod.snd (tripY y i now))) [Col.int IntKind.i64 (YS.g (Prod.snd (tripY y i now)))]) ∧ Bif (AO.deadB (ylO (Prod.snd (tripY y i now)))) True (AO.arr true 37 (YS.room2 y) (YS.m2 y) [Col.bool (YS.set y), Col.int IntKind.i64 (YS.at_ y), Col.bool (YS.first y)] = AO.arr true 37 (YS.room2 (Prod.snd (tripY y i now))) (YS.m2 (Prod.snd (tripY y i now))) [Col.bool (YS.set (Prod.snd (tripY y i now))), Col.int IntKind.i64 (YS.at_ (Prod.snd (tripY y i now))), Col.bool (YS.first (Prod.snd (tripY y i now)))]) ∧ True;
let q_1 := AO.cells true 52 [AV.sl false 1 1 0 (YS.n y) (YS.cap y), AV.sl false 2 3 0 (YS.n2 y) (YS.cap2 y)];
let q_2 := AO.arr true 37 (YS.room2 y) (YS.m2 y) [Col.bool (YS.set y), Col.int IntKind.i64 (YS.at_ y), Col.bool (YS.first y)];
let q_3 := AO.arr true 3 (YS.room y) (YS.m y) [Col.int IntKind.i64 (YS.g y)];
let q_4 := 0 + Int.toNat i;
let q_5 := AV.val (Value.int IntKind.i64 i) = AV.val (Value.int IntKind.i64 i) ∧ AV.val (Value.int IntKind.i64 now) = AV.val (Value.int IntKind.i64 now) ∧ True;
let q_6 := AV.ptr 0 0;
let q_7 := AV.val (Value.bool false) = AV.val (Value.bool false);
let q_8 := decide (q_4 < YS.m2 y);
let q_9 := AV.val (Value.int IntKind.i64 0);
let q_10 := AV.val (Value.bool (List.getD (YS.set y) q_4 false));
Bif (decide (i ≥ 0))
  (Bif (!decide (i < (↑(YS.n2 y) : Int))) q
    (Bif (inR i (YS.n2 y) && q_8)
      (Bif q_8
        (Bif (List.getD (YS.set y) q_4 false) q
          (((0 ≤ YS.n y ∧ True) ∧ (q_9 = q_9 ∧ q_7 ∧ q_10 = q_10 ∧ q_7 ∧ q_6 = q_6 ∧ q_5) ∧ q_1 = q_1 ∧ Bif (AO.deadB q_3) True (q_3 = q_3) ∧ Bif (AO.deadB q_2) True (q_2 = q_2) ∧ True) ∧
            ∀ (x : Nat),
              let q := q_1;
              let q_11 := Prod.snd (tripY y i now);
              let q_12 := q_3;
              let q_13 := q_2;
              let q_14 := x + 1;
              let q_15 := List.getD (YS.g y) (Int.toNat i) 0;
              let q_16 := q_6;
              x ≤ YS.n y ∧ True →
                let q_17 := q = q ∧ Bif (AO.deadB q_12) True (q_12 = q_12) ∧ Bif (AO.deadB q_13) True (q_13 = q_13) ∧ True;
                let q_18 := q_4;
                let q_19 := AV.val (Value.bool (List.getD (YS.set y) q_18 false)) = AV.val (Value.bool (List.getD (YS.set y) q_18 false)) ∧ q_7 ∧ q_16 = q_16 ∧ q_5;
                let q_20 := q = AO.cells true 52 [AV.sl false 1 1 0 (YS.n q_11) (YS.cap q_11), AV.sl false 2 3 0 (YS.n2 q_11) (YS.cap2 q_11)];
                let q_21 := AV.val (Value.bool (anyN q_14 fun (j : Nat) => List.getD (YS.set y) j false && List.getD (YS.g y) j 0 == q_15));
                let q_22 := AV.val (Value.int IntKind.i64 (IntKind.wrap IntKind.i64 ((↑x : Int) + 1))) = AV.val (Value.int IntKind.i64 (↑q_14 : Int));
                let q_23 := YS.n y - q_14 < YS.n y - x;
                let q_24 := Bif (AO.deadB (ygO q_11)) True (q_12 = AO.arr true 3 (YS.room q_11) (YS.m q_11) [Col.int IntKind.i64 (YS.g q_11)]);
                let q_25 := decide (q_18 < YS.m2 y) && (decide (q_18 < List.length (YS.set y)) && (decide (q_18 < List.length (YS.at_ y)) && (decide (q_18 < List.length (YS.first y)) && true)));
                let q_26 := AO.arr true 37 (YS.room2 q_11) (YS.m2 q_11) [Col.bool (YS.set q_11), Col.int IntKind.i64 (YS.at_ q_11), Col.bool (YS.first q_11)];
                let q_27 := q_14 ≤ YS.n y ∧ True;
                let q_28 := 0 + x;
                let q_29 := anyN x fun (j : Nat) => List.getD (YS.set y) j false && List.getD (YS.g y) j 0 == q_15;
                let q_30 := decide (q_18 < YS.m y);
                let q_31 := AV.val (Value.bool true) = AV.val (Value.bool (Prod.fst (tripY y i now))) ∧ True;
                let q_32 := List.getD (YS.g y) q_18 0;
                let q_33 := 0 + Int.toNat (↑x : Int);
                let q_34 := inR i (YS.n2 y) && decide (q_18 < YS.m2 y);
                let q_35 := decide (q_28 < YS.m2 y);
                let q_36 := decide (q_28 < YS.m y);
                let q_37 := AO.deadB (ylO q_11);
                let q_38 := Col.int IntKind.i64 (List.set (YS.at_ y) q_18 now);
                let q_39 := Col.bool (List.set (YS.set y) q_18 true);
                Bif (decide ((↑x : Int) < (↑(YS.n2 y) : Int))) (Bif q_29 (q_27 ∧ q_23 ∧ (q_22 ∧ AV.val (Value.bool true) = q_21 ∧ q_19) ∧ q_17) (Bif (inR (↑x : Int) (YS.n2 y) && q_35) (Bif q_35 (Bif (List.getD (YS.set y) q_33 false) (Bif (inR (↑x : Int) (YS.n y) && q_36) (Bif q_36 (Bif (inR i (YS.n y) && q_30) (Bif q_30 (q_27 ∧ q_23 ∧ (q_22 ∧ AV.val (Value.bool (List.getD (YS.g y) q_33 0 == q_32)) = q_21 ∧ q_19) ∧ q_17) False) False) False) False) (q_27 ∧ q_23 ∧ (q_22 ∧ AV.val (Value.bool false) = q_21 ∧ q_19) ∧ q_17)) False) False))
                  (Bif (inR i (YS.n y) && q_30)
                    (Bif q_30
                      (YOk y ∧
                        ∀ (x : Unit),
                          let q_40 := Bif (!q_29) (Bif (inR i (YS.n y) && q_30) (Bif q_30 (Bif q_34 (Bif q_25 (q_31 ∧ q_20 ∧ q_24 ∧ Bif q_37 True (AO.arr true 37 (YS.room2 y) (YS.m2 y) [q_39, q_38, Col.bool (List.set (YS.first y) q_18 (bif true then q_32 != 0 else false))] = q_26) ∧ True) False) False) False) False) (Bif q_34 (Bif q_25 (q_31 ∧ q_20 ∧ q_24 ∧ Bif q_37 True (AO.arr true 37 (YS.room2 y) (YS.m2 y) [q_39, q_38, Col.bool (List.set (YS.first y) q_18 false)] = q_26) ∧ True) False) False);
                          let q_41 := 0 + Int.toNat (fst (firstY y q_32));
                          let q_42 := q_18;
                          let q_43 := q_11;
                          let q_44 := inR (fst (firstY y (List.getD (YS.g y) q_42 0))) (YS.n2 y) && decide (q_41 < YS.m2 y);
                          let q_45 := fst (firstY y (List.getD (YS.g y) q_42 0));
                          let q_46 := decide (q_42 < YS.m y);
                          let q_47 := decide (q_42 < YS.m2 y);
                          let q_48 := decide (q_41 < YS.m2 y);
                          let q_49 := List.getD (YS.g y) q_42 0;
                          let q_50 := List.length (List.set (YS.first y) q_41 false);
                          Bif (Option.isSome (firstY y q_49)) (Bif q_44 (Bif q_48 (Bif (List.getD (YS.at_ y) q_41 0 == now) (Bif (decide (q_45 > i)) (Bif q_44 (Bif (q_48 && (decide (q_41 < List.length (YS.first y)) && true)) (Bif (inR i (YS.n y) && q_46) (Bif q_46 (Bif (inR i (YS.n2 y) && q_47) (Bif (q_47 && (decide (q_42 < List.length (YS.set y)) && (decide (q_42 < List.length (YS.at_ y)) && (decide (q_42 < q_50) && true)))) (q_31 ∧ q = AO.cells true 52 [AV.sl false 1 1 0 (YS.n q_43) (YS.cap q_43), AV.sl false 2 3 0 (YS.n2 q_43) (YS.cap2 q_43)] ∧ Bif (AO.deadB (ygO q_43)) True (q_12 = AO.arr true 3 (YS.room q_43) (YS.m q_43) [Col.int IntKind.i64 (YS.g q_43)]) ∧ Bif (AO.deadB (ylO q_43)) True (AO.arr true 37 (YS.room2 y) (YS.m2 y) [Col.bool (List.set (YS.set y) q_42 true), Col.int IntKind.i64 (List.set (YS.at_ y) q_42 now), Col.bool (List.set (List.set (YS.first y) q_41 false) q_42 (bif true then q_49 != 0 else false))] = AO.arr true 37 (YS.room2 q_43) (YS.m2 q_43) [Col.bool (YS.set q_43), Col.int IntKind.i64 (YS.at_ q_43), Col.bool (YS.first q_43)]) ∧ True) False) False) False) False) False) False) q_40) q_40) False) False) q_40)
                      False)
                    False)))
        False)
      False))
  q) := by kernel_rfl
set_option maxHeartbeats 1000000 in
theorem tripY_vc (y : YS) (i now : Int) (hy : YOk y) : FnV Try.prog Γz (LTripY y i) Try.f15 [.ptr 0 0, iv i, iv now] (yrow y) (TripYS.good (y, i, now)) := by
  have hy' := hy
  obtain ⟨h1, h2, h3, h4, h5, h6, h7, h8⟩ := hy
  have hlt := firstY_lt y (y.g.getD i.toNat 0)
  refine FnV.of (tripy_nf _ _ _) ?_
  simp only [Bif_need, Bif_True]
  simp only [Bif_iff, eq_self, and_true, true_and, AV.val.injEq, AV.agg.injEq, AV.tup.injEq, AV.sl.injEq, AV.ptr.injEq, AV.mp.injEq, Value.int.injEq, Value.bool.injEq, Value.string.injEq, AO.cells.injEq, AO.arr.injEq, AO.mapc.injEq, List.cons.injEq, Col.bool.injEq, Col.int.injEq, Col.str.injEq, MCol.int.injEq, MCol.bool.injEq, MCol.str.injEq, decide_eq_true_eq, decide_eq_false_iff_not, Nat.zero_add, Nat.add_zero, implies_true, Bool.and_eq_true, inR_iff, List.drop_zero, List.take_nil, List.drop_nil, List.nil_append, Int.toNat_natCast, longEnough, colLen, Bool.not_true, Bool.not_false, Bool.true_or, Bool.or_eq_true, Bool.not_eq_true', Bool.not_eq_false', take_take_self, take_tab, one_col, tab_length, mix_length, List.length_take, Nat.min_eq_left, List.set_cons_zero, blt01, Bool.and_false, Bool.and_true, Bool.false_and, Bool.true_and, Bool.false_eq_true, Bool.true_eq_false, false_and, and_false, false_implies, anyN_succ]
  repeat' (first | apply And.intro | intro _)
  all_goals try omega
  all_goals try (have h1 := ‹_ ≤ y.n›; have h2 := Nat.le_antisymm h1 (by omega); subst h2)
  all_goals first
    | omega
    | (rw [IntWalk.i64_in _ (by omega)]; omega)
    | (have := hlt ‹_›; omega)
    | (simp only [anyN_succ, *, ↓reduceIte, if_true, if_false, Bool.false_eq_true, Bool.true_or, Bool.false_or, Bool.or_false, Bool.or_true, Bool.and_true, Bool.true_and, Bool.and_false, Bool.false_and, Bool.not_true, Bool.not_false, cond_true, cond_false, decide_true, decide_false, not_true_eq_false, not_false_eq_true, BEq.rfl, Nat.zero_add]; done)
    | (simp only [tripY, putY, moveY, *, ↓reduceIte, if_true, if_false, Bool.false_eq_true, Bool.true_or, Bool.false_or, Bool.or_false, Bool.or_true, Bool.and_true, Bool.true_and, Bool.and_false, Bool.false_and, Bool.not_true, Bool.not_false, cond_true, cond_false, decide_true, decide_false, not_true_eq_false, not_false_eq_true, BEq.rfl, Nat.zero_add]; done)
    | grind [tripY, putY, moveY]
theorem tripY_ok : CtOk Try.prog 15 TripYS.ct := Sp.ok Γz_ok hm Try.func15 TripYS TripYS_found (fun (y, i, _) => LTripY y i) (fun (x, i, now) hx => tripY_vc x i now hx)
end Go.Wk.L14
