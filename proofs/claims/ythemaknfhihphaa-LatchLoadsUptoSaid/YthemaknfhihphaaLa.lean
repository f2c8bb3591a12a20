/-
  What latches are, and what the functions of a row of latches come to; under the rows' own bounds.
-/
import Derived.Test.YthemaknfhihphaaKc
import Derived.Test.YthemaknfhihphaaProg
namespace Go.Wk.L14
open Go Go.Vs
set_option linter.unusedSimpArgs false
set_option linter.unusedVariables false

/-! ### a row of latches, as it lies in memory, and what its functions come to -/
structure XS where
  n : Nat
  m : Nat
  cap : Nat
  room : Nat
  set : List Bool
  at_ : List Int
  first : List Bool
  group : List Int
  has : Value → Bool
  f : Value → Int

abbrev xarr (x : XS) : AO := .arr true 50 x.room x.m [.bool x.set, .int .i64 x.at_, .bool x.first, .int .i64 x.group]
abbrev xmap (x : XS) : AO := .mapc true (.int .i64) false x.has [.int .i64 x.f]
abbrev xcellA (x : XS) (a m : Nat) : AO := .cells true 48 [.sl false a 4 0 x.n x.cap, .mp m]
abbrev xrow (x : XS) : AHeap := [some (xcellA x 1 2), some (xarr x), some (xmap x)]

def fndX (r : Nat) (H : AHeap) : Option (XS × List Nat) :=
  match H[r]? with
  | some (some (.cells true 48 [.sl false a 4 0 n cap, .mp mp])) =>
    match H[a]?, H[mp]? with
    | some (some (.arr true 50 room m [.bool set, .int .i64 at_, .bool first, .int .i64 group])), some (some (.mapc true (.int .i64) false has [.int .i64 f])) => some (⟨n, m, cap, room, set, at_, first, group, has, f⟩, [r, a, mp])
    | _, _ => none
  | _ => none

theorem fndX_found {r : Nat} {H : AHeap} {x : XS} {σ : List Nat} (h : fndX r H = some (x, σ)) : (∃ a mp, σ = [r, a, mp]) ∧ ∀ (i : Nat) (ao : AO), (xrow x)[i]? = some (some ao) → H[ren1 σ i]? = some (some (ao.ren σ)) := by
  unfold fndX at h
  split at h
  rotate_left
  · cases h
  rename_i a n cap mp h1
  split at h
  rotate_left
  · cases h
  rename_i room m set at_ first group has f h2 h3
  cases h
  refine ⟨⟨a, mp, rfl⟩, fun i ao hi => ?_⟩
  match i, hi with
  | 0, hi => simp at hi; subst hi; simpa [ren1, AO.ren, AV.rens, AV.ren] using h1
  | 1, hi => simp at hi; subst hi; simpa [ren1, AO.ren] using h2
  | 2, hi => simp at hi; subst hi; simpa [ren1, AO.ren] using h3
  | i + 3, hi => simp at hi

structure XOk (x : XS) : Prop where
  m : x.m = x.n
  n : x.n ≤ 1048576
  set : x.set.length = x.n
  at_ : x.at_.length = x.n
  first : x.first.length = x.n
  group : x.group.length = x.n
  f : ∀ g : Int, x.has (Value.int .i64 g) = true → 0 ≤ x.f (Value.int .i64 g) ∧ x.f (Value.int .i64 g) < x.n

def grp (x : XS) (i : Nat) : Int := x.group.getD i 0
def mark (x : XS) (i now : Int) : Bool :=
  (x.group.getD i.toNat 0 != 0) && (!(anyN x.n fun j => x.set.getD j false && x.group.getD j 0 == x.group.getD i.toNat 0) || (x.has (Value.int .i64 (x.group.getD i.toNat 0)) && (decide (x.f (Value.int .i64 (x.group.getD i.toNat 0)) > i) && (x.at_.set i.toNat now).getD (x.f (Value.int .i64 (x.group.getD i.toNat 0))).toNat 0 == now)))
def put (x : XS) (i now : Int) (m : Bool) : XS :=
  { x with set := x.set.set i.toNat true, at_ := x.at_.set i.toNat now, has := bif m then (fun u => keq u (Value.int .i64 (x.group.getD i.toNat 0)) || x.has u) else x.has, f := bif m then (fun u => bif keq u (Value.int .i64 (x.group.getD i.toNat 0)) then i else x.f u) else x.f }
def trip (x : XS) (i now : Int) : Bool × XS :=
  if i < 0 then (false, x) else if i ≥ (x.n : Int) then (false, x) else
  if x.set.getD i.toNat false then (false, x) else (true, put x i now (mark x i now))

def clr (x : XS) (i : Int) (m : Bool) : XS :=
  { x with set := x.set.set i.toNat false, at_ := x.at_.set i.toNat 0, first := x.first.set i.toNat false, has := bif m then (fun u => x.has u && !keq u (Value.int .i64 (x.group.getD i.toNat 0))) else x.has, f := bif m then (fun u => bif keq u (Value.int .i64 (x.group.getD i.toNat 0)) then 0 else x.f u) else x.f }
def reset (x : XS) (i : Int) : Bool × XS :=
  if i < 0 then (false, x) else if i ≥ (x.n : Int) then (false, x) else
  if x.set.getD i.toNat false then (true, clr x i (x.has (Value.int .i64 (x.group.getD i.toNat 0)) && x.f (Value.int .i64 (x.group.getD i.toNat 0)) == i)) else (false, x)

/-- What a latch shows: is it set, since when, is it the first one. -/
def shF (x : XS) (i : Int) : Bool := x.has (Value.int .i64 (x.group.getD i.toNat 0)) && x.f (Value.int .i64 (x.group.getD i.toNat 0)) == i
def inX (x : XS) (i : Int) : Bool := !(decide (i < 0) || decide (i ≥ (x.n : Int)))
theorem inX_of {x : XS} {k : Nat} (h : k < x.n) : inX x (k : Int) = true := by simp only [inX, Bool.not_eq_true', Bool.or_eq_false_iff, decide_eq_false_iff_not]; omega
def atX (x : XS) (i : Int) : List AV := [bv (inX x i && x.set.getD i.toNat false), iv (bif inX x i then x.at_.getD i.toNat 0 else 0), bv (inX x i && shF x i)]

/-! ### slices of latches -/
structure LS where
  nl : Bool
  rw : Bool
  cap : Nat
  room : Nat
  n : Nat
  m : Nat
  set : List Bool
  at_ : List Int
  first : List Bool
abbrev lsO (l : LS) : AO := .arr l.rw 37 l.room l.m [.bool l.set, .int .i64 l.at_, .bool l.first]
abbrev lsV (l : LS) (b : Nat) : AV := .sl l.nl b 3 0 l.n l.cap
structure LOk (l : LS) : Prop where
  m : l.m = l.n
  n : l.n ≤ 1048576
  cap : l.nl = true → l.n = 0
  set : l.set.length = l.n
  at_ : l.at_.length = l.n
  first : l.first.length = l.n

/-- What is loaded: which groups have a first one, and which one. -/
def loadM (g : List Int) (first : List Bool) : Nat → (Value → Bool) × (Value → Int)
  | 0 => (fun _ => false, fun _ => 0)
  | k + 1 => bif first.getD k false then (fun u => keq u (Value.int .i64 (g.getD k 0)) || (loadM g first k).1 u, fun u => bif keq u (Value.int .i64 (g.getD k 0)) then (k : Int) else (loadM g first k).2 u) else loadM g first k
def badX (g : List Int) (l : LS) (k : Nat) : Bool :=
  (!l.set.getD k false && !(!l.set.getD k false && (l.at_.getD k 0 == 0 && !l.first.getD k false))) || (l.first.getD k false && (g.getD k 0 == 0 || (loadM g l.first k).1 (Value.int .i64 (g.getD k 0))))
def loadOk (x : XS) (l : LS) : Bool := decide (l.n = x.n) && !anyN x.n (badX x.group l)
def loadTo (x : XS) (l : LS) : XS := { x with set := l.set, at_ := l.at_, first := List.replicate x.n false, has := (loadM x.group l.first x.n).1, f := (loadM x.group l.first x.n).2 }
theorem loadOk_n {x : XS} {l : LS} (h : loadOk x l = true) : l.n = x.n := by simp only [loadOk, Bool.and_eq_true, decide_eq_true_eq] at h; exact h.1
theorem loadOk_bad {x : XS} {l : LS} {k : Nat} (h : loadOk x l = true) (hk : k < x.n) : badX x.group l k = false := by
  simp only [loadOk, Bool.and_eq_true, Bool.not_eq_true'] at h; exact anyN_not.1 h.2 k hk
theorem loadOk_of {x : XS} {l : LS} (hn : l.n = x.n) (h : anyN x.n (badX x.group l) = false) : loadOk x l = true := by simp [loadOk, hn, h]

/-! ### the document's -/
structure YS where
  n : Nat
  n2 : Nat
  m : Nat
  m2 : Nat
  cap : Nat
  cap2 : Nat
  room : Nat
  room2 : Nat
  g : List Int
  set : List Bool
  at_ : List Int
  first : List Bool
abbrev ycellA (y : YS) (a b : Nat) : AO := .cells true 52 [.sl false a 1 0 y.n y.cap, .sl false b 3 0 y.n2 y.cap2]
abbrev ygO (y : YS) : AO := .arr true 3 y.room y.m [.int .i64 y.g]
abbrev ylO (y : YS) : AO := .arr true 37 y.room2 y.m2 [.bool y.set, .int .i64 y.at_, .bool y.first]
abbrev yrow (y : YS) : AHeap := [some (ycellA y 1 2), some (ygO y), some (ylO y)]

def fndY (r : Nat) (H : AHeap) : Option (YS × List Nat) :=
  match H[r]? with
  | some (some (.cells true 52 [.sl false a 1 0 n cap, .sl false b 3 0 n' cap2])) =>
    match H[a]?, H[b]? with
    | some (some (.arr true 3 room m [.int .i64 g])), some (some (.arr true 37 room2 m' [.bool set, .int .i64 at_, .bool first])) =>
      some (⟨n, n', m, m', cap, cap2, room, room2, g, set, at_, first⟩, [r, a, b])
    | _, _ => none
  | _ => none

theorem fndY_found {r : Nat} {H : AHeap} {y : YS} {σ : List Nat} (h : fndY r H = some (y, σ)) : (∃ a b, σ = [r, a, b]) ∧ ∀ (i : Nat) (ao : AO), (yrow y)[i]? = some (some ao) → H[ren1 σ i]? = some (some (ao.ren σ)) := by
  unfold fndY at h
  split at h
  rotate_left
  · cases h
  rename_i a n cap b n' cap2 h1
  split at h
  rotate_left
  · cases h
  rename_i room m g room2 m' set at_ first h2 h3
  cases h
  refine ⟨⟨a, b, rfl⟩, fun i ao hi => ?_⟩
  match i, hi with
  | 0, hi => simp at hi; subst hi; simpa [ren1, AO.ren, AV.rens, AV.ren] using h1
  | 1, hi => simp at hi; subst hi; simpa [ren1, AO.ren] using h2
  | 2, hi => simp at hi; subst hi; simpa [ren1, AO.ren] using h3
  | i + 3, hi => simp at hi

structure YOk (y : YS) : Prop where
  n2 : y.n2 = y.n
  m : y.m = y.n
  m2 : y.m2 = y.n
  n : y.n ≤ 1048576
  g : y.g.length = y.n
  set : y.set.length = y.n
  at_ : y.at_.length = y.n
  first : y.first.length = y.n

def fst (o : Option Nat) : Int := match o with | some k => (k : Int) | none => 0
def firstY (y : YS) (gr : Int) : Option Nat := findN y.n fun j => y.first.getD j false && y.g.getD j 0 == gr
def moveY (y : YS) (i now : Int) : Bool := (firstY y (y.g.getD i.toNat 0)).isSome && (y.at_.getD (fst (firstY y (y.g.getD i.toNat 0))).toNat 0 == now && decide (fst (firstY y (y.g.getD i.toNat 0)) > i))
def putY (y : YS) (i now : Int) : YS :=
  { y with set := y.set.set i.toNat true, at_ := y.at_.set i.toNat now, first := (bif moveY y i now then y.first.set (fst (firstY y (y.g.getD i.toNat 0))).toNat false else y.first).set i.toNat ((moveY y i now || !(anyN y.n fun j => y.set.getD j false && y.g.getD j 0 == y.g.getD i.toNat 0)) && (y.g.getD i.toNat 0 != 0)) }
def tripY (y : YS) (i now : Int) : Bool × YS :=
  if i ≥ 0 then if i < (y.n : Int) then if y.set.getD i.toNat false then (false, y) else (true, putY y i now) else (false, y) else (false, y)
def resetY (y : YS) (i : Int) : Bool × YS :=
  if i ≥ 0 then if i < (y.n : Int) then if y.set.getD i.toNat false then (true, { y with set := y.set.set i.toNat false, at_ := y.at_.set i.toNat 0, first := y.first.set i.toNat false }) else (false, y) else (false, y) else (false, y)
def inY (y : YS) (i : Int) : Bool := decide (i ≥ 0) && decide (i < (y.n : Int))
def atY (y : YS) (i : Int) : List AV := [bv (inY y i && y.set.getD i.toNat false), iv (bif inY y i then y.at_.getD i.toNat 0 else 0), bv (inY y i && y.first.getD i.toNat false)]
def badY (g : List Int) (l : LS) (i : Nat) : Bool :=
  (!l.set.getD i false && !(!l.set.getD i false && (l.at_.getD i 0 == 0 && !l.first.getD i false))) || (l.first.getD i false && g.getD i 0 == 0) || anyN i fun k => l.first.getD i false && (l.first.getD k false && g.getD i 0 == g.getD k 0)
def sameB (n : Nat) (a b : LS) : Bool := allN n fun i => a.set.getD i false == b.set.getD i false && (a.at_.getD i 0 == b.at_.getD i 0 && a.first.getD i false == b.first.getD i false)
end Go.Wk.L14

namespace Go.Wk.L14
open Go Go.Vs Go.Proofs
set_option linter.unusedSimpArgs false
set_option linter.unusedVariables false
set_option maxRecDepth 10000

theorem hm : Try.prog.follows .mixedOrders = true := by kernel_rfl
noncomputable def Γ1 : Cts := (Γnone.add 23 (autoCt Try.prog Γnone Try.f23)).add 21 (autoCt Try.prog Γnone Try.f21)
theorem Γ1_ok : CtsOk Try.prog Γ1 :=
  (CtsOk.none.add (autoCt_ok CtsOk.none hm Try.func23) Try.func23 (by kernel_rfl) (by kernel_rfl)).add (autoCt_ok CtsOk.none hm Try.func21) Try.func21 (by kernel_rfl) (by kernel_rfl)

/-! Trip -/
noncomputable def LTrip (x : XS) (i now : Int) : Loops := fun body s => match loopId body with
  | 6 => some (cntLI Try.f14 body s x.n (fun _ => True) (fun k => [(30, iv k), (8, bv (!anyN k fun j => x.set.getD j false && x.group.getD j 0 == x.group.getD i.toNat 0))]) (fun _ => s.heap))
  | _ => none

def TripS : Sp where
  X := XS × Int × Int
  Y := fun _ => Unit
  y0 := fun _ => ()
  pat := fun (x, i, now) => ([.ptr 0 0, iv i, iv now], xrow x)
  fnd := fun args H => match args with | [.ptr r 0, .val (.int .i64 i), .val (.int .i64 now)] => (match fndX r H with | some (x, σ) => some ((x, i, now), σ) | none => none) | _ => none
  pre := fun (x, i, now) => XOk x
  res := fun (x, i, now) _ => ⟨bv (trip x i now).1, [(0, some (xcellA (trip x i now).2 1 2)), (1, some (xarr (trip x i now).2)), (2, some (xmap (trip x i now).2))], []⟩
  pick := fun _ _ _ => some ((), [0, 1, 2])

theorem TripS_found : TripS.spec.Found := by
  intro args H x σ h
  simp only [Sp.spec, TripS] at h
  split at h
  rotate_left
  · cases h
  rename_i r i now
  split at h
  rotate_left
  · cases h
  rename_i x' σ' hx
  cases h
  obtain ⟨⟨a, mp, rfl⟩, h2⟩ := fndX_found hx
  exact ⟨rfl, h2⟩

set_option maxRecDepth 100000 in
theorem trip_nf (x : XS) (i : Int) (now : Int) : (fnV Try.prog Γ1 (LTrip x i now) Try.f14 [AV.ptr 0 0, iv i, iv now] (xrow x) (Sp.good TripS (x, i, now))) = (let q := (AV.val (Value.bool false) = AV.val (Value.bool (Prod.fst (trip x i now))) ∧ True) ∧ AO.cells true 48 [AV.sl false 1 4 0 (XS.n x) (XS.cap x), AV.mp 2] = AO.cells true 48 [AV.sl false 1 4 0 (XS.n (Prod.snd (trip x i now))) (XS.cap (Prod.snd (trip x i now))), AV.mp 2] ∧ Bif (AO.deadB (xarr (Prod.snd (trip x i now)))) True (AO.arr true 50 (XS.room x) (XS.m x) [Col.bool (XS.set x), Col.int IntKind.i64 (XS.at_ x), Col.bool (XS.first x), Col.int IntKind.i64 (XS.group x)] = AO.arr true 50 (XS.room (Prod.snd (trip x i now))) (XS.m (Prod.snd (trip x i now))) [Col.bool (XS.set (Prod.snd (trip x i now))), Col.int IntKind.i64 (XS.at_ (Prod.snd (trip x i now))), Col.bool (XS.first (Prod.snd (trip x i now))), Col.int IntKind.i64 (XS.group (Prod.snd (trip x i now)))]) ∧ AO.mapc true (KD.int IntKind.i64) false (XS.has x) [MCol.int IntKind.i64 (XS.f x)] = AO.mapc true (KD.int IntKind.i64) false (XS.has (Prod.snd (trip x i now))) [MCol.int IntKind.i64 (XS.f (Prod.snd (trip x i now)))] ∧ True;
let q_1 := AO.arr true 50 (XS.room x) (XS.m x) [Col.bool (XS.set x), Col.int IntKind.i64 (XS.at_ x), Col.bool (XS.first x), Col.int IntKind.i64 (XS.group x)];
let q_2 := 0 + Int.toNat i;
let q_3 := AO.cells true 48 [AV.sl false 1 4 0 (XS.n x) (XS.cap x), AV.mp 2];
let q_4 := Prod.snd (trip x i now);
let q_5 := AV.sl false 1 4 0 (XS.n x) (XS.cap x);
let q_6 := AO.mapc true (KD.int IntKind.i64) false (XS.has x) [MCol.int IntKind.i64 (XS.f x)];
let q_7 := AV.val (Value.int IntKind.i64 i) = AV.val (Value.int IntKind.i64 i) ∧ AV.val (Value.int IntKind.i64 now) = AV.val (Value.int IntKind.i64 now) ∧ True;
let q_8 := AV.ptr 0 0;
let q_9 := AV.pel 1 4 q_2 0;
let q_10 := AV.val (Value.int IntKind.i64 (↑(XS.n x) : Int));
let q_11 := decide (q_2 < XS.m x);
let q_12 := [AV.mp 2];
let q_13 := AV.val (Value.bool (List.getD (XS.set x) q_2 false));
let q_14 := AV.val (Value.bool false) = AV.val (Value.bool false);
let q_15 := AV.val (Value.int IntKind.i64 0);
Bif (decide (i < 0)) q
  (Bif (decide (i ≥ (↑(XS.n x) : Int))) q
    (Bif (inR i (XS.n x) && q_11)
      (Bif q_11
        (Bif (List.getD (XS.set x) q_2 false) q
          (((0 ≤ XS.n x ∧ True) ∧ (q_15 = q_15 ∧ AV.val (Value.bool true) = AV.val (Value.bool true) ∧ q_10 = q_10 ∧ q_5 = q_5 ∧ q_13 = q_13 ∧ q_9 = q_9 ∧ q_14 ∧ q_8 = q_8 ∧ q_7) ∧ q_3 = q_3 ∧ Bif (AO.deadB q_1) True (q_1 = q_1) ∧ q_6 = q_6 ∧ True) ∧
            ∀ (x_1 : Nat),
              let q := Bif (AO.deadB (xarr q_4)) True (AO.arr true 50 (XS.room x) (XS.m x) [Col.bool (List.set (XS.set x) q_2 true), Col.int IntKind.i64 (List.set (XS.at_ x) q_2 now), Col.bool (XS.first x), Col.int IntKind.i64 (XS.group x)] = AO.arr true 50 (XS.room q_4) (XS.m q_4) [Col.bool (XS.set q_4), Col.int IntKind.i64 (XS.at_ q_4), Col.bool (XS.first q_4), Col.int IntKind.i64 (XS.group q_4)]);
              let q_16 := q_3 = AO.cells true 48 (AV.sl false 1 4 0 (XS.n q_4) (XS.cap q_4) :: q_12);
              let q_17 := q_1;
              let q_18 := q_2;
              let q_19 := q_5;
              let q_20 := x_1 + 1;
              let q_21 := q_6;
              let q_22 := 0 + Int.toNat (XS.f x (Value.int IntKind.i64 (List.getD (XS.group x) q_18 0)));
              let q_23 := AO.mapc true (KD.int IntKind.i64) false (XS.has q_4) [MCol.int IntKind.i64 (XS.f q_4)];
              let q_24 := Value.int IntKind.i64 (List.getD (XS.group x) q_18 0);
              let q_25 := AO.cells true 48 (q_19 :: q_12);
              let q_26 := AV.pel 1 4 q_18 0;
              let q_27 := AV.val (Value.bool true) = AV.val (Value.bool (Prod.fst (trip x i now))) ∧ True;
              let q_28 := 0 + x_1;
              let q_29 := q_8;
              let q_30 := decide (q_18 < XS.m x);
              let q_31 := List.getD (XS.group x) (Int.toNat i) 0;
              let q_32 := AV.val (Value.bool (List.getD (XS.set x) q_18 false));
              let q_33 := q_10;
              x_1 ≤ XS.n x ∧ True →
                let q_34 := q_27 ∧ q_16 ∧ q ∧ q_21 = q_23 ∧ True;
                let q_35 := q_33 = q_33 ∧ q_19 = q_19 ∧ q_32 = q_32 ∧ q_26 = q_26 ∧ q_14 ∧ q_29 = q_29 ∧ q_7;
                let q_36 := q_25 = q_25 ∧ Bif (AO.deadB q_17) True (q_17 = q_17) ∧ q_21 = q_21 ∧ True;
                let q := Bif q_30 (q_27 ∧ q_16 ∧ q ∧ AO.mapc true (KD.int IntKind.i64) false (fun (u : Value) => keq u q_24 || XS.has x u) [MCol.int IntKind.i64 fun (u : Value) => bif keq u q_24 then i else XS.f x u] = q_23 ∧ True) False;
                let q_37 := q_30;
                let q_38 := AV.val (Value.bool !anyN q_20 fun (j : Nat) => List.getD (XS.set x) j false && List.getD (XS.group x) j 0 == q_31);
                let q_39 := decide (q_22 < XS.m x);
                let q_40 := AV.val (Value.int IntKind.i64 (IntKind.wrap IntKind.i64 ((↑x_1 : Int) + 1))) = AV.val (Value.int IntKind.i64 (↑q_20 : Int));
                let q_41 := XS.f x q_24;
                let q_42 := XS.n x - q_20 < XS.n x - x_1;
                let q_43 := q_18;
                let q_44 := q_20 ≤ XS.n x ∧ True;
                let q_45 := !anyN x_1 fun (j : Nat) => List.getD (XS.set x) j false && List.getD (XS.group x) j 0 == q_31;
                let q_46 := decide (q_28 < XS.m x);
                let q_47 := List.getD (XS.group x) q_43 0;
                let q_48 := 0 + Int.toNat (↑x_1 : Int);
                Bif (decide ((↑x_1 : Int) < (↑(XS.n x) : Int))) (Bif (inR (↑x_1 : Int) (XS.n x) && q_46) (Bif q_46 (Bif q_45 (Bif (List.getD (XS.set x) q_48 false) (Bif q_37 (q_44 ∧ q_42 ∧ (q_40 ∧ AV.val (Value.bool !List.getD (XS.group x) q_48 0 == q_47) = q_38 ∧ q_35) ∧ q_36) False) (q_44 ∧ q_42 ∧ (q_40 ∧ AV.val (Value.bool true) = q_38 ∧ q_35) ∧ q_36)) (q_44 ∧ q_42 ∧ (q_40 ∧ AV.val (Value.bool false) = q_38 ∧ q_35) ∧ q_36)) False) False) (Bif (q_37 && (decide (q_43 < List.length (XS.set x)) && true)) (Bif (q_37 && (decide (q_43 < List.length (XS.at_ x)) && true)) (Bif q_37 (Bif q_37 (Bif (q_47 != 0) (Bif q_45 q (Bif (XS.has x (Value.int IntKind.i64 q_47)) (Bif (decide (q_41 > i)) (Bif (inR q_41 (XS.n x) && q_39) (Bif q_39 (Bif (List.getD (List.set (XS.at_ x) q_43 now) (0 + Int.toNat q_41) 0 == now) q q_34) False) False) q_34) q_34)) q_34) False) False) False) False)))
        False)
      False))) := by kernel_rfl
set_option maxHeartbeats 1000000 in
theorem trip_vc (x : XS) (i now : Int) (hx : XOk x) : FnV Try.prog Γ1 (LTrip x i now) Try.f14 [.ptr 0 0, iv i, iv now] (xrow x) (TripS.good (x, i, now)) := by
  obtain ⟨h0, h1, h2, h3, h4, h5, h6⟩ := hx
  refine FnV.of (trip_nf _ _ _) ?_
  simp only [Bif_need, Bif_True]
  simp only [Bif_iff, eq_self, and_true, true_and, AV.val.injEq, AV.agg.injEq, AV.tup.injEq, AV.sl.injEq, AV.ptr.injEq, AV.mp.injEq, Value.int.injEq, Value.bool.injEq, Value.string.injEq, AO.cells.injEq, AO.arr.injEq, AO.mapc.injEq, List.cons.injEq, Col.bool.injEq, Col.int.injEq, Col.str.injEq, MCol.int.injEq, MCol.bool.injEq, MCol.str.injEq, decide_eq_true_eq, decide_eq_false_iff_not, Nat.zero_add, Nat.add_zero, implies_true, Bool.and_eq_true, inR_iff, List.drop_zero, List.take_nil, List.drop_nil, List.nil_append, Int.toNat_natCast, longEnough, colLen, Bool.not_true, Bool.not_false, Bool.true_or, Bool.or_eq_true, Bool.not_eq_true', Bool.not_eq_false', take_take_self, take_tab, one_col, tab_length, mix_length, List.length_take, Nat.min_eq_left, List.set_cons_zero, blt01, Bool.and_false, Bool.and_true, Bool.false_and, Bool.true_and, Bool.false_eq_true, Bool.true_eq_false, false_and, and_false, false_implies]
  repeat' (first | apply And.intro | intro _)
  all_goals try omega
  all_goals try (have h1 := ‹_ ≤ x.n›; have h2 := Nat.le_antisymm h1 (by omega); subst h2)
  all_goals first
    | omega
    | (rw [IntWalk.i64_in _ (by omega)]; omega)
    | exact h6 _ ‹_›
    | (have := h6 _ ‹_›; omega)
    | (simp only [anyN_succ, *, ↓reduceIte, if_true, if_false, Bool.false_eq_true, Bool.true_or, Bool.false_or, Bool.or_false, Bool.or_true, Bool.and_true, Bool.true_and, Bool.and_false, Bool.false_and, Bool.not_true, Bool.not_false, cond_true, cond_false, decide_true, decide_false, not_true_eq_false, not_false_eq_true, BEq.rfl, Nat.zero_add]; done)
    | (clear h6; simp only [trip, put, mark, *, ↓reduceIte, if_true, if_false, Bool.false_eq_true, Bool.true_or, Bool.false_or, Bool.or_false, Bool.or_true, Bool.and_true, Bool.true_and, Bool.and_false, Bool.false_and, Bool.not_true, Bool.not_false, cond_true, cond_false, decide_true, decide_false, not_true_eq_false, not_false_eq_true, BEq.rfl, Nat.zero_add]; done)

theorem trip_ok : CtOk Try.prog 14 TripS.ct := Sp.ok Γ1_ok hm Try.func14 TripS TripS_found (fun (x, i, now) => LTrip x i now) (fun (x, i, now) hx => trip_vc x i now hx)

/-! Reset -/
def ResetS : Sp where
  X := XS × Int
  Y := fun _ => Unit
  y0 := fun _ => ()
  pat := fun (x, i) => ([.ptr 0 0, iv i], xrow x)
  fnd := fun args H => match args with | [.ptr r 0, .val (.int .i64 i)] => (match fndX r H with | some (x, σ) => some ((x, i), σ) | none => none) | _ => none
  pre := fun (x, i) => XOk x
  res := fun (x, i) _ => ⟨bv (reset x i).1, [(0, some (xcellA (reset x i).2 1 2)), (1, some (xarr (reset x i).2)), (2, some (xmap (reset x i).2))], []⟩
  pick := fun _ _ _ => some ((), [0, 1, 2])

theorem ResetS_found : ResetS.spec.Found := by
  intro args H x σ h
  simp only [Sp.spec, ResetS] at h
  split at h
  rotate_left
  · cases h
  rename_i r i
  split at h
  rotate_left
  · cases h
  rename_i x' σ' hx
  cases h
  obtain ⟨⟨a, mp, rfl⟩, h2⟩ := fndX_found hx
  exact ⟨rfl, h2⟩

set_option maxRecDepth 100000 in
theorem reset_nf (x : XS) (i : Int) : (fnV Try.prog Γ1 (fun (x : Code) (x_1 : AS) => none) Try.f10 [AV.ptr 0 0, iv i] (xrow x) (Sp.good ResetS (x, i))) = (let q := (AV.val (Value.bool false) = AV.val (Value.bool (Prod.fst (reset x i))) ∧ True) ∧ AO.cells true 48 [AV.sl false 1 4 0 (XS.n x) (XS.cap x), AV.mp 2] = AO.cells true 48 [AV.sl false 1 4 0 (XS.n (Prod.snd (reset x i))) (XS.cap (Prod.snd (reset x i))), AV.mp 2] ∧ Bif (AO.deadB (xarr (Prod.snd (reset x i)))) True (AO.arr true 50 (XS.room x) (XS.m x) [Col.bool (XS.set x), Col.int IntKind.i64 (XS.at_ x), Col.bool (XS.first x), Col.int IntKind.i64 (XS.group x)] = AO.arr true 50 (XS.room (Prod.snd (reset x i))) (XS.m (Prod.snd (reset x i))) [Col.bool (XS.set (Prod.snd (reset x i))), Col.int IntKind.i64 (XS.at_ (Prod.snd (reset x i))), Col.bool (XS.first (Prod.snd (reset x i))), Col.int IntKind.i64 (XS.group (Prod.snd (reset x i)))]) ∧ AO.mapc true (KD.int IntKind.i64) false (XS.has x) [MCol.int IntKind.i64 (XS.f x)] = AO.mapc true (KD.int IntKind.i64) false (XS.has (Prod.snd (reset x i))) [MCol.int IntKind.i64 (XS.f (Prod.snd (reset x i)))] ∧ True;
let q_1 := (AV.val (Value.bool true) = AV.val (Value.bool (Prod.fst (reset x i))) ∧ True) ∧ AO.cells true 48 [AV.sl false 1 4 0 (XS.n x) (XS.cap x), AV.mp 2] = AO.cells true 48 [AV.sl false 1 4 0 (XS.n (Prod.snd (reset x i))) (XS.cap (Prod.snd (reset x i))), AV.mp 2] ∧ Bif (AO.deadB (xarr (Prod.snd (reset x i)))) True (AO.arr true 50 (XS.room x) (XS.m x) [Col.bool (List.set (XS.set x) (0 + Int.toNat i) false), Col.int IntKind.i64 (List.set (XS.at_ x) (0 + Int.toNat i) 0), Col.bool (List.set (XS.first x) (0 + Int.toNat i) false), Col.int IntKind.i64 (XS.group x)] = AO.arr true 50 (XS.room (Prod.snd (reset x i))) (XS.m (Prod.snd (reset x i))) [Col.bool (XS.set (Prod.snd (reset x i))), Col.int IntKind.i64 (XS.at_ (Prod.snd (reset x i))), Col.bool (XS.first (Prod.snd (reset x i))), Col.int IntKind.i64 (XS.group (Prod.snd (reset x i)))]) ∧ AO.mapc true (KD.int IntKind.i64) false (XS.has x) [MCol.int IntKind.i64 (XS.f x)] = AO.mapc true (KD.int IntKind.i64) false (XS.has (Prod.snd (reset x i))) [MCol.int IntKind.i64 (XS.f (Prod.snd (reset x i)))] ∧ True;
let q_2 := 0 + Int.toNat i;
let q_3 := decide (q_2 < XS.m x);
let q_4 := Value.int IntKind.i64 (List.getD (XS.group x) q_2 0);
let q_5 := [AV.mp 2];
Bif (decide (i < 0)) q (Bif (decide (i ≥ (↑(XS.n x) : Int))) q (Bif (inR i (XS.n x) && q_3) (Bif q_3 (Bif (!List.getD (XS.set x) q_2 false) q (Bif (q_3 && (decide (q_2 < List.length (XS.set x)) && (decide (q_2 < List.length (XS.at_ x)) && (decide (q_2 < List.length (XS.first x)) && true)))) (Bif q_3 (Bif (XS.has x q_4) (Bif (XS.f x q_4 == i) (Bif q_3 ((AV.val (Value.bool true) = AV.val (Value.bool (Prod.fst (reset x i))) ∧ True) ∧ AO.cells true 48 (AV.sl false 1 4 0 (XS.n x) (XS.cap x) :: q_5) = AO.cells true 48 (AV.sl false 1 4 0 (XS.n (Prod.snd (reset x i))) (XS.cap (Prod.snd (reset x i))) :: q_5) ∧ Bif (AO.deadB (xarr (Prod.snd (reset x i)))) True (AO.arr true 50 (XS.room x) (XS.m x) [Col.bool (List.set (XS.set x) q_2 false), Col.int IntKind.i64 (List.set (XS.at_ x) q_2 0), Col.bool (List.set (XS.first x) q_2 false), Col.int IntKind.i64 (XS.group x)] = AO.arr true 50 (XS.room (Prod.snd (reset x i))) (XS.m (Prod.snd (reset x i))) [Col.bool (XS.set (Prod.snd (reset x i))), Col.int IntKind.i64 (XS.at_ (Prod.snd (reset x i))), Col.bool (XS.first (Prod.snd (reset x i))), Col.int IntKind.i64 (XS.group (Prod.snd (reset x i)))]) ∧ AO.mapc true (KD.int IntKind.i64) false (fun (u : Value) => XS.has x u && !keq u q_4) [MCol.int IntKind.i64 fun (u : Value) => bif keq u q_4 then 0 else XS.f x u] = AO.mapc true (KD.int IntKind.i64) false (XS.has (Prod.snd (reset x i))) [MCol.int IntKind.i64 (XS.f (Prod.snd (reset x i)))] ∧ True) False) q_1) q_1) False) False)) False) False))) := by kernel_rfl
set_option maxHeartbeats 1000000 in
theorem reset_vc (x : XS) (i : Int) (hx : XOk x) : FnV Try.prog Γ1 (fun _ _ => none) Try.f10 [.ptr 0 0, iv i] (xrow x) (ResetS.good (x, i)) := by
  obtain ⟨h0, h1, h2, h3, h4, h5, h6⟩ := hx
  refine FnV.of (reset_nf _ _) ?_
  simp only [Bif_need, Bif_True]
  simp only [Bif_iff, eq_self, and_true, true_and, AV.val.injEq, AV.agg.injEq, AV.tup.injEq, AV.sl.injEq, AV.ptr.injEq, AV.mp.injEq, Value.int.injEq, Value.bool.injEq, Value.string.injEq, AO.cells.injEq, AO.arr.injEq, AO.mapc.injEq, List.cons.injEq, Col.bool.injEq, Col.int.injEq, Col.str.injEq, MCol.int.injEq, MCol.bool.injEq, MCol.str.injEq, decide_eq_true_eq, decide_eq_false_iff_not, Nat.zero_add, Nat.add_zero, implies_true, Bool.and_eq_true, inR_iff, List.drop_zero, List.take_nil, List.drop_nil, List.nil_append, Int.toNat_natCast, longEnough, colLen, Bool.not_true, Bool.not_false, Bool.true_or, Bool.or_eq_true, Bool.not_eq_true', Bool.not_eq_false', take_take_self, take_tab, one_col, tab_length, mix_length, List.length_take, Nat.min_eq_left, List.set_cons_zero, blt01, Bool.and_false, Bool.and_true, Bool.false_and, Bool.true_and, Bool.false_eq_true, Bool.true_eq_false, false_and, and_false, false_implies]
  repeat' (first | apply And.intro | intro _)
  all_goals try omega
  all_goals first
    | omega
    | (clear h6; simp only [reset, clr, *, ↓reduceIte, if_true, if_false, Bool.false_eq_true, Bool.true_or, Bool.false_or, Bool.or_false, Bool.or_true, Bool.and_true, Bool.true_and, Bool.and_false, Bool.false_and, Bool.not_true, Bool.not_false, cond_true, cond_false, decide_true, decide_false, not_true_eq_false, not_false_eq_true, BEq.rfl, Nat.zero_add]; done)

/-! At -/
def AtS : Sp where
  X := XS × Int
  Y := fun _ => Unit
  y0 := fun _ => ()
  pat := fun (x, i) => ([.ptr 0 0, iv i], xrow x)
  fnd := fun args H => match args with | [.ptr r 0, .val (.int .i64 i)] => (match fndX r H with | some (x, σ) => some ((x, i), σ) | none => none) | _ => none
  pre := fun (x, i) => XOk x
  res := fun (x, i) _ => ⟨.agg (atX x i), [], []⟩
  pick := fun _ _ _ => some ((), [0, 1, 2])

theorem AtS_found : AtS.spec.Found := by
  intro args H x σ h
  simp only [Sp.spec, AtS] at h
  split at h
  rotate_left
  · cases h
  rename_i r i
  split at h
  rotate_left
  · cases h
  rename_i x' σ' hx
  cases h
  obtain ⟨⟨a, mp, rfl⟩, h2⟩ := fndX_found hx
  exact ⟨rfl, h2⟩

set_option maxRecDepth 100000 in
theorem atx_nf (x : XS) (i : Int) : (fnV Try.prog Γ1 (fun (x : Code) (x_1 : AS) => none) Try.f16 [AV.ptr 0 0, iv i] (xrow x) (Sp.good AtS (x, i))) = (let q := AO.cells true 48 [AV.sl false 1 4 0 (XS.n x) (XS.cap x), AV.mp 2] = AO.cells true 48 [AV.sl false 1 4 0 (XS.n x) (XS.cap x), AV.mp 2] ∧ Bif (AO.deadB (xarr x)) True (AO.arr true 50 (XS.room x) (XS.m x) [Col.bool (XS.set x), Col.int IntKind.i64 (XS.at_ x), Col.bool (XS.first x), Col.int IntKind.i64 (XS.group x)] = AO.arr true 50 (XS.room x) (XS.m x) [Col.bool (XS.set x), Col.int IntKind.i64 (XS.at_ x), Col.bool (XS.first x), Col.int IntKind.i64 (XS.group x)]) ∧ AO.mapc true (KD.int IntKind.i64) false (XS.has x) [MCol.int IntKind.i64 (XS.f x)] = AO.mapc true (KD.int IntKind.i64) false (XS.has x) [MCol.int IntKind.i64 (XS.f x)] ∧ True;
let q_1 := AV.agg [AV.val (Value.bool (inX x i && List.getD (XS.set x) (Int.toNat i) false)), AV.val (Value.int IntKind.i64 (bif inX x i then List.getD (XS.at_ x) (Int.toNat i) 0 else 0)), AV.val (Value.bool (inX x i && shF x i))];
let q_2 := decide (0 + Int.toNat i < XS.m x);
let q_3 := (AV.agg [AV.val (Value.bool false), AV.val (Value.int IntKind.i64 0), AV.val (Value.bool false)] = q_1 ∧ True) ∧ q;
let q_4 := 0 + Int.toNat i;
let q_5 := AV.val (Value.int IntKind.i64 (List.getD (XS.at_ x) q_4 0));
let q_6 := Value.int IntKind.i64 (List.getD (XS.group x) q_4 0);
let q_7 := AV.val (Value.bool (List.getD (XS.set x) q_4 false));
Bif (decide (i < 0)) q_3 (Bif (decide (i ≥ (↑(XS.n x) : Int))) q_3 (Bif (inR i (XS.n x) && q_2) (Bif q_2 (Bif q_2 (Bif (XS.has x q_6) ((AV.agg [q_7, q_5, AV.val (Value.bool (XS.f x q_6 == i))] = q_1 ∧ True) ∧ q) ((AV.agg [q_7, q_5, AV.val (Value.bool false)] = q_1 ∧ True) ∧ q)) False) False) False))) := by kernel_rfl
set_option maxHeartbeats 1000000 in
theorem at_vc (x : XS) (i : Int) (hx : XOk x) : FnV Try.prog Γ1 (fun _ _ => none) Try.f16 [.ptr 0 0, iv i] (xrow x) (AtS.good (x, i)) := by
  obtain ⟨h0, h1, h2, h3, h4, h5, h6⟩ := hx
  refine FnV.of (atx_nf _ _) ?_
  simp only [Bif_need, Bif_True]
  simp only [Bif_iff, eq_self, and_true, true_and, AV.val.injEq, AV.agg.injEq, AV.tup.injEq, AV.sl.injEq, AV.ptr.injEq, AV.mp.injEq, Value.int.injEq, Value.bool.injEq, Value.string.injEq, AO.cells.injEq, AO.arr.injEq, AO.mapc.injEq, List.cons.injEq, Col.bool.injEq, Col.int.injEq, Col.str.injEq, MCol.int.injEq, MCol.bool.injEq, MCol.str.injEq, decide_eq_true_eq, decide_eq_false_iff_not, Nat.zero_add, Nat.add_zero, implies_true, Bool.and_eq_true, inR_iff, List.drop_zero, List.take_nil, List.drop_nil, List.nil_append, Int.toNat_natCast, longEnough, colLen, Bool.not_true, Bool.not_false, Bool.true_or, Bool.or_eq_true, Bool.not_eq_true', Bool.not_eq_false', take_take_self, take_tab, one_col, tab_length, mix_length, List.length_take, Nat.min_eq_left, List.set_cons_zero, blt01, Bool.and_false, Bool.and_true, Bool.false_and, Bool.true_and, Bool.false_eq_true, Bool.true_eq_false, false_and, and_false, false_implies]
  repeat' (first | apply And.intro | intro _)
  all_goals try omega
  all_goals first
    | omega
    | (clear h6; simp only [inX, shF, *, ↓reduceIte, if_true, if_false, Bool.false_eq_true, Bool.true_or, Bool.false_or, Bool.or_false, Bool.or_true, Bool.and_true, Bool.true_and, Bool.and_false, Bool.false_and, Bool.not_true, Bool.not_false, cond_true, cond_false, decide_true, decide_false, not_true_eq_false, not_false_eq_true, BEq.rfl, Nat.zero_add]; done)
end Go.Wk.L14

namespace Go.Wk.L14
open Go Go.Vs Go.Proofs
set_option linter.unusedSimpArgs false
set_option linter.unusedVariables false
set_option maxRecDepth 10000

theorem reset_ok : CtOk Try.prog 10 ResetS.ct := Sp.ok Γ1_ok hm Try.func10 ResetS ResetS_found (fun _ _ _ => none) (fun (x, i) hx => reset_vc x i hx)
theorem at_ok : CtOk Try.prog 16 AtS.ct := Sp.ok Γ1_ok hm Try.func16 AtS AtS_found (fun _ _ _ => none) (fun (x, i) hx => at_vc x i hx)

/-! First -/
def FirstS : Sp where
  X := XS × Int
  Y := fun _ => Unit
  y0 := fun _ => ()
  pat := fun (x, g) => ([.ptr 0 0, iv g], xrow x)
  fnd := fun args H => match args with | [.ptr r 0, .val (.int .i64 g)] => (match fndX r H with | some (x, σ) => some ((x, g), σ) | none => none) | _ => none
  pre := fun _ => True
  res := fun (x, g) _ => ⟨.tup [iv (x.f (.int .i64 g)), bv (x.has (.int .i64 g))], [], []⟩
  pick := fun _ _ _ => some ((), [0, 1, 2])

theorem FirstS_found : FirstS.spec.Found := by
  intro args H x σ h
  simp only [Sp.spec, FirstS] at h
  split at h
  rotate_left
  · cases h
  rename_i r i
  split at h
  rotate_left
  · cases h
  rename_i x' σ' hx
  cases h
  obtain ⟨⟨a, mp, rfl⟩, h2⟩ := fndX_found hx
  exact ⟨rfl, h2⟩

set_option maxRecDepth 100000 in
theorem firstx_nf (x : XS) (g : Int) : (fnV Try.prog Γnone (fun (x : Code) (x_1 : AS) => none) Try.f21 [AV.ptr 0 0, iv g] (xrow x) (Sp.good FirstS (x, g))) = (let q := AO.cells true 48 [AV.sl false 1 4 0 (XS.n x) (XS.cap x), AV.mp 2];
let q_1 := AO.arr true 50 (XS.room x) (XS.m x) [Col.bool (XS.set x), Col.int IntKind.i64 (XS.at_ x), Col.bool (XS.first x), Col.int IntKind.i64 (XS.group x)];
let q_2 := AV.tup [AV.val (Value.int IntKind.i64 (XS.f x (Value.int IntKind.i64 g))), AV.val (Value.bool (XS.has x (Value.int IntKind.i64 g)))];
let q_3 := AO.mapc true (KD.int IntKind.i64) false (XS.has x) [MCol.int IntKind.i64 (XS.f x)];
(q_2 = q_2 ∧ True) ∧ q = q ∧ Bif (AO.deadB (xarr x)) True (q_1 = q_1) ∧ q_3 = q_3 ∧ True) := by kernel_rfl
theorem first_vc (x : XS) (g : Int) : FnV Try.prog Γnone (fun _ _ => none) Try.f21 [.ptr 0 0, iv g] (xrow x) (FirstS.good (x, g)) := by
  refine FnV.of (firstx_nf _ _) ?_
  simp only [Bif_need, Bif_True]
  simp only [Bif_iff, eq_self, and_true, true_and, AV.val.injEq, AV.agg.injEq, AV.tup.injEq, AV.sl.injEq, AV.ptr.injEq, AV.mp.injEq, Value.int.injEq, Value.bool.injEq, Value.string.injEq, AO.cells.injEq, AO.arr.injEq, AO.mapc.injEq, List.cons.injEq, Col.bool.injEq, Col.int.injEq, Col.str.injEq, MCol.int.injEq, MCol.bool.injEq, MCol.str.injEq, decide_eq_true_eq, decide_eq_false_iff_not, Nat.zero_add, Nat.add_zero, implies_true, Bool.and_eq_true, inR_iff, List.drop_zero, List.take_nil, List.drop_nil, List.nil_append, Int.toNat_natCast, longEnough, colLen, Bool.not_true, Bool.not_false, Bool.true_or, Bool.or_eq_true, Bool.not_eq_true', Bool.not_eq_false', take_take_self, take_tab, one_col, tab_length, mix_length, List.length_take, Nat.min_eq_left, List.set_cons_zero, blt01, Bool.and_false, Bool.and_true, Bool.false_and, Bool.true_and, Bool.false_eq_true, Bool.true_eq_false, false_and, and_false, false_implies]
  repeat' (first | apply And.intro | intro _)
  all_goals try omega
  all_goals first
    | (simp only [cond_true, *, ↓reduceIte, if_true, if_false, Bool.false_eq_true, Bool.true_or, Bool.false_or, Bool.or_false, Bool.or_true, Bool.and_true, Bool.true_and, Bool.and_false, Bool.false_and, Bool.not_true, Bool.not_false, cond_true, cond_false, decide_true, decide_false, not_true_eq_false, not_false_eq_true, BEq.rfl, Nat.zero_add]; done)
theorem first_ok : CtOk Try.prog 21 FirstS.ct := Sp.ok CtsOk.none hm Try.func21 FirstS FirstS_found (fun _ _ _ => none) (fun (x, g) _ => first_vc x g)

/-! All -/
noncomputable def Γ2 : Cts := Γnone.add 16 AtS.ct
theorem Γ2_ok : CtsOk Try.prog Γ2 := CtsOk.none.add at_ok Try.func16 (by kernel_rfl) (by kernel_rfl)

structure AllX where
  k : Nat
  nl : Bool
  cap : Nat
  room : Nat

noncomputable def LAll (x : XS) : Loops := fun body s => match loopId body with
  | _ => some (mkLI Try.f19 body s (X := AllX) ⟨0, true, 0, 0⟩ [0, 1, 2, 3] (fun a => a.k ≤ x.n ∧ (a.nl = true → a.k = 0) ∧ a.cap ≤ a.room ∧ (a.nl = true → a.cap = 0)) (fun a => x.n - a.k)
      (fun a => [(10, iv a.k), (3, .sl a.nl 3 3 0 a.k a.cap)]) (fun a => xrow x ++ [some (.arr true 37 a.room a.k [.bool (x.set.take a.k), .int .i64 (x.at_.take a.k), .bool (tab a.k fun j => shF x j)])])
      (fun a s' => match Vs.look s'.env 3 with
        | some (.sl nl b 3 0 _ cap) => (match s'.heap[b]? with | some (some (.arr true 37 room _ _)) => some (⟨a.k + 1, nl, cap, room⟩, [0, 1, 2, b]) | _ => none)
        | _ => none))

def AllS : Sp where
  X := XS
  Y := fun _ => Bool × Nat × Nat
  y0 := fun _ => (true, 0, 0)
  pat := fun x => ([.ptr 0 0], xrow x)
  fnd := fun args H => match args with | [.ptr r 0] => fndX r H | _ => none
  pre := XOk
  res := fun x y => ⟨.sl (y.1 && decide (x.n = 0)) 3 3 0 x.n y.2.1, [], [.arr true 37 y.2.2 x.n [.bool x.set, .int .i64 x.at_, .bool (tab x.n fun j => shF x j)]]⟩
  pick := fun x v H => match v with
    | .sl nl b 3 0 _ cap => (match H[b]? with | some (some (.arr true 37 room _ _)) => some ((nl, cap, room), [0, 1, 2, b]) | _ => none)
    | _ => none

theorem AllS_found : AllS.spec.Found := by
  intro args H x σ h
  simp only [Sp.spec, AllS] at h
  split at h
  rotate_left
  · cases h
  obtain ⟨⟨a, mp, rfl⟩, h2⟩ := fndX_found h
  exact ⟨rfl, h2⟩

set_option maxRecDepth 100000 in
theorem allx_nf (x : XS) : (fnV Try.prog Γ2 (LAll x) Try.f19 [AV.ptr 0 0] (xrow x) (Sp.good AllS x)) = (let q := AO.arr true 50 (XS.room x) (XS.m x) [Col.bool (XS.set x), Col.int IntKind.i64 (XS.at_ x), Col.bool (XS.first x), Col.int IntKind.i64 (XS.group x)];
let q_1 := AO.cells true 48 [AV.sl false 1 4 0 (XS.n x) (XS.cap x), AV.mp 2];
let q_2 := 0 = 0;
let q_3 := AO.mapc true (KD.int IntKind.i64) false (XS.has x) [MCol.int IntKind.i64 (XS.f x)];
let q_4 := AV.val (Value.slice none 0 0);
let q_5 := AV.ptr 0 0;
let q_6 := AV.val (Value.int IntKind.i64 (↑(XS.n x) : Int));
let q_7 := AV.val (Value.int IntKind.i64 0);
((0 ≤ XS.n x ∧ (true = true → q_2) ∧ 0 ≤ 0 ∧ (true = true → q_2)) ∧ (q_7 = q_7 ∧ (true = true ∧ q_2 ∧ q_2) ∧ q_6 = q_6 ∧ q_4 = q_4 ∧ q_5 = q_5 ∧ True) ∧ q_1 = q_1 ∧ Bif (AO.deadB q) True (q = q) ∧ q_3 = q_3 ∧ True ∧ True) ∧
  ∀ (x_1 : AllX),
    let q_8 := AllX.k x_1 = 0;
    let q_9 := AllX.cap x_1 = 0;
    AllX.k x_1 ≤ XS.n x ∧ (AllX.nl x_1 = true → q_8) ∧ AllX.cap x_1 ≤ AllX.room x_1 ∧ (AllX.nl x_1 = true → q_9) →
      let q_10 := q_1;
      let q := q;
      let q_11 := q_3;
      let q_12 := [Col.bool (XS.set x), Col.int IntKind.i64 (XS.at_ x), Col.bool (tab (XS.n x) fun (j : Nat) => shF x (↑j : Int))];
      let q_13 := tab (AllX.k x_1) fun (j : Nat) => shF x (↑j : Int);
      let q_14 := Col.int IntKind.i64 (List.take (AllX.k x_1) (XS.at_ x));
      let q_15 := Col.bool (List.take (AllX.k x_1) (XS.set x));
      Bif (decide ((↑(AllX.k x_1) : Int) < (↑(XS.n x) : Int)))
        (XOk x ∧
          ∀ (x_3 : Unit),
            let q_16 := AllX.k x_1 + 1;
            let q_17 := 0 + AllX.k x_1;
            let q_18 := 0 + AllX.cap x_1;
            let q_19 := q_16 * 24;
            let q_20 := q_13;
            Bif (decide (q_17 ≤ AllX.k x_1) && (longEnough q_17 [q_15, q_14, Col.bool q_20] && (!AllX.nl x_1 || decide q_8)) && (decide (q_19 ≤ 140737488355328) && decide (q_16 ≤ 9223372036854775807)) && (decide (q_18 ≤ AllX.room x_1) && (!AllX.nl x_1 || decide q_9)))
              (∀ (x_4 : Nat),
                let q_21 := AllX.k (AllX.mk q_16 (AllX.nl x_1 && false) (q_16 + x_4) (q_16 + x_4));
                let q_22 := AllX.mk q_16 (AllX.nl x_1 && false) (q_16 + x_4) (q_16 + x_4);
                let q := q;
                let q_23 := q_16 + x_4;
                let q_24 := AO.arr true 37 (AllX.room q_22) q_21 [Col.bool (List.take q_21 (XS.set x)), Col.int IntKind.i64 (List.take q_21 (XS.at_ x)), Col.bool (tab q_21 fun (j : Nat) => shF x (↑j : Int))];
                let q_25 := q_16;
                let q_26 := q_10;
                let q_27 := q_11;
                let q_28 := q_4;
                let q_29 := inX x (↑(AllX.k x_1) : Int);
                let q_30 := q_5;
                let q_31 := List.replicate 1 false;
                let q_32 := q_6;
                (q_21 ≤ XS.n x ∧
                    (AllX.nl q_22 = true →
                        let q := q_23;
                        AllX.k (AllX.mk q_25 (AllX.nl x_1 && false) q q) = 0) ∧
                      AllX.cap q_22 ≤ AllX.room q_22 ∧
                        (AllX.nl q_22 = true →
                          let q := q_23;
                          AllX.cap (AllX.mk q_25 (AllX.nl x_1 && false) q q) = 0)) ∧
                  XS.n x - q_21 < XS.n x - AllX.k x_1 ∧ (AV.val (Value.int IntKind.i64 (IntKind.wrap IntKind.i64 ((↑(AllX.k x_1) : Int) + 1))) = AV.val (Value.int IntKind.i64 (↑q_21 : Int)) ∧ AV.sl (AllX.nl x_1 && false) 5 3 0 q_25 q_23 = AV.sl (AllX.nl q_22) 5 3 0 q_21 (AllX.cap q_22) ∧ q_32 = q_32 ∧ q_28 = q_28 ∧ q_30 = q_30 ∧ True) ∧ q_26 = q_26 ∧ Bif (AO.deadB q) True (q = q) ∧ q_27 = q_27 ∧ Bif (AO.deadB q_24) True (AO.arr true 37 q_23 q_25 [Col.bool (List.take (AllX.k x_1) (List.drop 0 (List.take (AllX.k x_1) (XS.set x))) ++ List.take 1 (List.drop 0 (List.set q_31 0 (q_29 && List.getD (XS.set x) (Int.toNat (↑(AllX.k x_1) : Int)) false)))), Col.int IntKind.i64 (List.take (AllX.k x_1) (List.drop 0 (List.take (AllX.k x_1) (XS.at_ x))) ++ List.take 1 (List.drop 0 (List.set (List.replicate 1 0) 0 (bif q_29 then List.getD (XS.at_ x) (Int.toNat (↑(AllX.k x_1) : Int)) 0 else 0)))), Col.bool (List.take (AllX.k x_1) (List.drop 0 q_20) ++ List.take 1 (List.drop 0 (List.set q_31 0 (q_29 && shF x (↑(AllX.k x_1) : Int)))))] = q_24) ∧ True)
              False)
        ((AV.sl (AllX.nl x_1) 3 3 0 (AllX.k x_1) (AllX.cap x_1) = AV.sl (AllX.nl x_1 && decide (XS.n x = 0)) 3 3 0 (XS.n x) (AllX.cap x_1) ∧ True) ∧ q_10 = q_10 ∧ Bif (AO.deadB (xarr x)) True (q = q) ∧ q_11 = q_11 ∧ Bif (AO.deadB (AO.arr true 37 (AllX.room x_1) (XS.n x) q_12)) True (AO.arr true 37 (AllX.room x_1) (AllX.k x_1) [q_15, q_14, Col.bool q_13] = AO.arr true 37 (AllX.room x_1) (XS.n x) q_12) ∧ True)) := by kernel_rfl
set_option maxHeartbeats 1000000 in
theorem all_vc (x : XS) (hx : XOk x) : FnV Try.prog Γ2 (LAll x) Try.f19 [.ptr 0 0] (xrow x) (AllS.good x) := by
  have hx' := hx
  obtain ⟨h0, h1, h2, h3, h4, h5, h6⟩ := hx
  refine FnV.of (allx_nf _) ?_
  simp only [Bif_need, Bif_True]
  simp only [Bif_iff, eq_self, and_true, true_and, AV.val.injEq, AV.agg.injEq, AV.tup.injEq, AV.sl.injEq, AV.ptr.injEq, AV.mp.injEq, Value.int.injEq, Value.bool.injEq, Value.string.injEq, AO.cells.injEq, AO.arr.injEq, AO.mapc.injEq, List.cons.injEq, Col.bool.injEq, Col.int.injEq, Col.str.injEq, MCol.int.injEq, MCol.bool.injEq, MCol.str.injEq, decide_eq_true_eq, decide_eq_false_iff_not, Nat.zero_add, Nat.add_zero, implies_true, Bool.and_eq_true, inR_iff, List.drop_zero, List.take_nil, List.drop_nil, List.nil_append, Int.toNat_natCast, longEnough, colLen, Bool.not_true, Bool.not_false, Bool.true_or, Bool.or_eq_true, Bool.not_eq_true', Bool.not_eq_false', take_take_self, take_tab, one_col, tab_length, mix_length, List.length_take, Nat.min_eq_left, List.set_cons_zero, blt01, Bool.and_false, Bool.and_true, Bool.false_and, Bool.true_and, Bool.false_eq_true, Bool.true_eq_false, false_and, and_false, false_implies]
  repeat' (first | apply And.intro | intro _)
  all_goals try omega
  all_goals first
    | omega
    | (rw [IntWalk.i64_in _ (by omega)]; omega)
    | (rw [take_getD false (by omega), inX_of (by omega), Bool.true_and])
    | (rw [take_getD 0 (by omega), inX_of (by omega), cond_true])
    | (rw [tab_succ, inX_of (by omega), Bool.true_and])
    | (rw [List.take_of_length_le (by omega)])
    | (have h1 := Nat.le_antisymm (by omega : _ ≤ x.n) (by omega); rw [h1])
    | grind
end Go.Wk.L14
