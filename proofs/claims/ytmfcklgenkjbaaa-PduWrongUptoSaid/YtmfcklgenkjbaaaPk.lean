/-
  The request of a kind; under the rows' own bounds.
-/
import Derived.Test.YtmfcklgenkjbaaaPj
namespace Go.Wk.P04
open Go Go.Vs Go.Proofs
set_option linter.unusedSimpArgs false
set_option linter.unusedVariables false
set_option maxRecDepth 10000

/-! get -/
/-- What is behind the first byte; what is left behind so many words. -/
def tl (x : SS) : SS := { x with off := x.off + cutOff x.cap 1, n := x.n - 1, cap := x.cap - 1 }
theorem tl_ok {x : SS} (h : BOk x) (hn : 0 < x.n) : BOk (tl x) := by
  obtain ⟨h1, h2, h3, h4, h5, h6, h7⟩ := h
  refine ⟨h1, ?_, ?_, ?_, ?_, ?_, ?_⟩ <;> simp only [tl]
  · unfold cutOff; split <;> omega
  · omega
  · omega
  · unfold cutOff; split <;> omega
  · intro h; have := h6 h; omega
  · intro i hi; have := h7 (i + 1) (by omega); rw [show x.off + cutOff x.cap 1 + i = x.off + (i + 1) by unfold cutOff; split <;> omega]; exact this
/-- x's region under another head; the head behind the first byte. -/
def atH (x : SS) (h : H4) : SS := ⟨h.nl, x.rw, h.off, h.n, h.cap, x.room, x.m, x.l⟩
def hd0 (x : SS) : H4 := ⟨x.nl, x.off + cutOff x.cap (Int.toNat 1), x.n - 1, x.cap - 1⟩
theorem at_fold (x : SS) (h : H4) : SS.mk h.nl x.rw h.off h.n h.cap x.room x.m x.l = atH x h := rfl
theorem at0_fold (x : SS) : SS.mk x.nl x.rw (x.off + cutOff x.cap (Int.toNat 1)) (x.n - 1) (x.cap - 1) x.room x.m x.l = atH x (hd0 x) := rfl
theorem hd0_fold (x : SS) : (⟨x.nl, x.off + cutOff x.cap (Int.toNat 1), x.n - 1, x.cap - 1⟩ : H4) = hd0 x := rfl
theorem at_tl (x : SS) : atH x (hd0 x) = tl x := rfl
theorem at_next (x : SS) (h : H4) : atH x (nextH h) = nextW (atH x h) := rfl
theorem at_n (x : SS) (h : H4) : (atH x h).n = h.n := rfl
theorem at_cap (x : SS) (h : H4) : (atH x h).cap = h.cap := rfl
def qtyG (k : Kd) (x : SS) : Int := bif k.most == 0 then 0 else wordW (atH x (nextH (hd0 x)))
def toG (k : Kd) (x : SS) : Int := bif k.most == 0 then 0 else bif k.to then wordW (atH x (nextH (nextH (hd0 x)))) else 0
def u1 (l : List Int) : List Int := bif Nat.beq l.length 0 then l else l.set 0 (if 1 < l.getD 0 0 then 1 else l.getD 0 0)
def uw (x : SS) : List Int := uwN x.get (x.n / 2)
def ub (x : SS) (n : Int) : List Int := uL x (lenU n) (topU x n)
def valsG (k : Kd) (x : SS) : List Int :=
  bif k.most == 0 then (bif k.bits then u1 (uw (atH x (nextH (hd0 x)))) else uw (atH x (nextH (hd0 x)))) else
  bif k.to then uw (atH x (restH (nextH (nextH (nextH (nextH (hd0 x))))))) else
  bif k.all && k.bits then ub (atH x (restH (nextH (nextH (hd0 x))))) (qtyG k x) else
  bif k.all then uw (atH x (restH (nextH (nextH (hd0 x))))) else []
def nlG (k : Kd) (x : SS) : Bool :=
  bif k.most == 0 then Nat.beq ((nextH (hd0 x)).n / 2) 0 else
  bif k.to then Nat.beq ((restH (nextH (nextH (nextH (nextH (hd0 x)))))).n / 2) 0 else
  bif k.all && k.bits then !inU (qtyG k x) else
  bif k.all then Nat.beq ((restH (nextH (nextH (hd0 x)))).n / 2) 0 else true
theorem uw_length (x : SS) : (uw x).length = x.n / 2 := uwN_length ..
theorem u1_length (l : List Int) : (u1 l).length = l.length := by
  unfold u1; cases Nat.beq l.length 0 <;> simp
theorem u1_pos (l : List Int) (h : 0 < l.length) : u1 l = l.set 0 (if 1 < l.getD 0 0 then 1 else l.getD 0 0) := by
  have : Nat.beq l.length 0 = false := by cases hl : l.length with | zero => omega | succ n => rfl
  simp only [u1, this, cond_false]
theorem u1_none (l : List Int) (h : l.length = 0) : u1 l = l := by
  have : Nat.beq l.length 0 = true := by rw [h]; rfl
  simp only [u1, this, cond_true]
theorem ub_length (x : SS) (n : Int) : (ub x n).length = lenU n := mix_length ..
theorem restH_nl (h : H4) : (restH h).nl = h.nl := (restH_same h.nl h.off h.n h.cap).1
theorem restH_n (h : H4) : (restH h).n = h.n - min h.n 1 := (restH_same h.nl h.off h.n h.cap).2.1
theorem restH_cap (h : H4) : (restH h).cap = h.cap - min h.n 1 := (restH_same h.nl h.off h.n h.cap).2.2.1
theorem restH_off (h : H4) : (restH h).off = h.off + cutOff h.cap (min h.n 1) := (restH_same h.nl h.off h.n h.cap).2.2.2
theorem rest_ok' {x : SS} {h : H4} (hx : BOk (atH x h)) : BOk (atH x (restH h)) := by
  obtain ⟨h1, h2, h3, h4, h5, h6, h7⟩ := hx
  simp only [atH] at h1 h2 h3 h4 h5 h6 h7
  refine ⟨h1, ?_, ?_, ?_, ?_, ?_, ?_⟩ <;> simp only [atH, restH_nl, restH_n, restH_cap, restH_off]
  · unfold cutOff; split <;> omega
  · omega
  · omega
  · unfold cutOff; split <;> omega
  · intro h; have := h6 h; omega
  · intro i hi; have := h7 (i + min h.n 1) (by omega); rw [show h.off + cutOff h.cap (min h.n 1) + i = h.off + (i + min h.n 1) by unfold cutOff; split <;> omega]; exact this
noncomputable def Γ7 : Cts := ((((Γ6.add 9 PutS.ct).add 30 WordS.ct).add 32 RestS.ct).add 31 UnwordsS.ct).add 14 UnbitsS.ct
theorem Γ7_ok : CtsOk Try.prog Γ7 := ((((Γ6_ok.add put_ok Try.func9 (by kernel_rfl) (by kernel_rfl)).add word_ok Try.func30 (by kernel_rfl) (by kernel_rfl)).add rest_ok Try.func32 (by kernel_rfl) (by kernel_rfl)).add unwords_ok Try.func31 (by kernel_rfl) (by kernel_rfl)).add unbits_ok Try.func14 (by kernel_rfl) (by kernel_rfl)
abbrev wvO (n : Nat) (y : Nat × Nat) (l : List Int) : AO := .arr true 33 (n + y.1 + y.2) n [.int .u16 l]
def GetKS : Sp where
  X := Kd × SS
  Y := fun _ => Nat × Nat
  y0 := fun _ => (0, 0)
  pat := fun x => ([kdA x.1, ssV x.2 0], [some (bO x.2)])
  fnd := fun args H => match args with
    | [.agg [.val (.int .i64 most), .val (.int .i64 least), .val (.int .i64 more), .val (.bool all), .val (.bool reads), .val (.bool bits), .val (.bool to)], v] =>
      (match fndS 5 .u8 v H with | some (s, b) => some ((⟨most, least, more, all, reads, bits, to⟩, s), [b]) | none => none)
    | _ => none
  pre := fun x => BOk x.2 ∧ 0 < x.2.n
  res := fun x y => ⟨.agg [iv (IntKind.i64.wrap (x.2.get 0)), iv (wordW (atH x.2 (hd0 x.2))), iv (qtyG x.1 x.2), .sl (nlG x.1 x.2) 1 1 0 (valsG x.1 x.2).length ((valsG x.1 x.2).length + y.1), iv (toG x.1 x.2)], [], [wvO (valsG x.1 x.2).length y (valsG x.1 x.2)]⟩
  pick := fun x v H => match v with
    | .agg [_, _, _, s, _] => (pkO (valsG x.1 x.2).length s H).map fun (y, b) => (y, [0, b])
    | _ => none
theorem GetKS_found : GetKS.spec.Found := by
  intro args H x σ h
  simp only [Sp.spec, GetKS] at h
  split at h
  rotate_left
  · cases h
  split at h
  rotate_left
  · cases h
  rename_i q b hq
  cases h
  obtain ⟨rfl, h2⟩ := fndS_found hq
  exact ⟨rfl, fun i ao hi => by
    match i, hi with
    | 0, hi => obtain rfl := Option.some.inj (Option.some.inj hi); exact h2⟩
theorem beq0f {n : Nat} (h : 0 < n) : Nat.beq n 0 = false := by cases n with | zero => omega | succ n => rfl
set_option maxRecDepth 100000 in
theorem getk_nf (k : Kd) (x : SS) : (fnV Try.prog Γ7 (fun (x : Code) (x_1 : AS) => none) Try.f21 [kdA k, ssV x 0] [some (bO x)] (Sp.good GetKS (k, x))) = (let q := nextH (H4.mk (SS.nl x) (SS.off x + cutOff (SS.cap x) (Int.toNat 1)) (SS.n x - 1) (SS.cap x - 1));
let q_1 := SS.mk (SS.nl x) (SS.rw x) (SS.off x + cutOff (SS.cap x) (Int.toNat 1)) (SS.n x - 1) (SS.cap x - 1) (SS.room x) (SS.m x) (SS.l x);
let q_2 := decide (SS.off x + 0 < SS.m x);
let q_3 := AV.val (Value.int IntKind.i64 0);
let q_4 := AV.val (Value.int IntKind.i64 (wordW (atH x (hd0 x))));
Bif (inC 1 (SS.n x) && (decide (SS.cap x = 1) || Nat.blt 0 (SS.room x)))
  (Bif (!SS.nl x && (inR 0 (SS.n x) && q_2))
    (Bif q_2
      (BOk q_1 ∧
        ∀ (x_1 : Unit),
          let q_5 := H4.n q / 2;
          let q_6 := SS.mk (H4.nl q) (SS.rw x) (H4.off q) (H4.n q) (H4.cap q) (SS.room x) (SS.m x) (SS.l x);
          let q_7 := nextH q;
          let q_8 := AV.val (Value.int IntKind.i64 (IntKind.wrap IntKind.i64 (List.getD (SS.l x) (SS.off x + Int.toNat 0) 0))) = AV.val (Value.int IntKind.i64 (IntKind.wrap IntKind.i64 (SS.get x 0)));
          let q_9 := AV.val (Value.int IntKind.i64 (wordW q_1)) = q_4;
          let q_10 := AO.arr (SS.rw x) 5 (SS.room x) (SS.m x) [Col.int IntKind.u8 (SS.l x)];
          let q_11 := q_3 = AV.val (Value.int IntKind.i64 (toG k x)) ∧ True;
          let q := q;
          let q_12 := [Col.int IntKind.u16 (valsG k x)];
          let q_13 := SS.off x + cutOff (SS.cap x) (Int.toNat 1);
          let q_14 := 0 + Int.toNat 0;
          let q_15 := 0 - List.length (valsG k x);
          let q_16 := SS.cap x - 1;
          let q_17 := SS.n x - 1;
          let q_18 := Bif (AO.deadB (bO x)) True (q_10 = q_10);
          let q_19 := q_4;
          let q_20 := q_3;
          Bif (Kd.most k == 0)
            (BOk q_6 ∧
              ∀ (x_2 : Nat × Nat),
                let q_21 := ((q_8 ∧ q_9 ∧ q_20 = AV.val (Value.int IntKind.i64 (qtyG k x)) ∧ AV.sl (Nat.beq q_5 0) 14 1 0 q_5 (q_5 + Prod.fst x_2) = AV.sl (nlG k x) 14 1 0 (List.length (valsG k x)) (List.length (valsG k x) + (q_5 + Prod.fst x_2 - List.length (valsG k x))) ∧ q_11) ∧ True) ∧ q_18 ∧ Bif (AO.deadB (wvO (List.length (valsG k x)) (q_5 + Prod.fst x_2 - List.length (valsG k x), q_5 + Prod.fst x_2 + Prod.snd x_2 - (q_5 + Prod.fst x_2)) (valsG k x))) True (AO.arr true 33 (q_5 + Prod.fst x_2 + Prod.snd x_2) q_5 [Col.int IntKind.u16 (uwN (SS.get q_6) q_5)] = AO.arr true 33 (List.length (valsG k x) + (q_5 + Prod.fst x_2 - List.length (valsG k x)) + (q_5 + Prod.fst x_2 + Prod.snd x_2 - (q_5 + Prod.fst x_2))) (List.length (valsG k x)) q_12) ∧ True;
                let q_22 := List.getD (uwN (SS.get q_6) q_5) q_14 0;
                let q_23 := q_5;
                let q_24 := List.length (uwN (SS.get q_6) q_23);
                let q := q;
                let q_25 := q_23 + Prod.fst x_2 + Prod.snd x_2 - (q_23 + Prod.fst x_2);
                let q_26 := List.length (valsG k x) + (q_23 + Prod.fst x_2 - List.length (valsG k x));
                let q_27 := !Nat.beq q_23 0 && (inR 0 q_23 && decide (0 < q_23));
                let q_28 := q_23 + Prod.fst x_2;
                let q_29 := q_10;
                let q_30 := decide (0 < q_23);
                let q_31 := q_20;
                Bif (Kd.bits k) (Bif (decide ((↑q_23 : Int) > 0)) (Bif q_27 (Bif q_30 (Bif q_27 (Bif (q_30 && (decide (0 < q_24) && true)) (((q_8 ∧ q_9 ∧ q_31 = AV.val (Value.int IntKind.i64 (qtyG k x)) ∧ AV.sl (Nat.beq q_23 0) 14 1 0 q_23 q_28 = AV.sl (nlG k x) 14 1 0 (List.length (valsG k x)) q_26 ∧ q_31 = AV.val (Value.int IntKind.i64 (toG k x)) ∧ True) ∧ True) ∧ Bif (AO.deadB (bO x)) True (q_29 = q_29) ∧ Bif (AO.deadB (wvO (List.length (valsG k x)) (q_28 - List.length (valsG k x), q_25) (valsG k x))) True (AO.arr true 33 (q_28 + Prod.snd x_2) q_23 [Col.int IntKind.u16 (List.set (uwN (SS.get (SS.mk (H4.nl q) (SS.rw x) (H4.off q) (H4.n q) (H4.cap q) (SS.room x) (SS.m x) (SS.l x))) q_23) q_14 (if 1 < q_22 then 1 else q_22))] = AO.arr true 33 (q_26 + q_25) (List.length (valsG k x)) q_12) ∧ True) False) False) False) False) q_21) q_21)
            (BOk q_6 ∧
              ∀ (x_2 : Unit),
                let q_21 :=
                  Bif (Kd.all k)
                    (BOk (SS.mk (H4.nl q_7) (SS.rw x) (H4.off q_7) (H4.n q_7) (H4.cap q_7) (SS.room x) (SS.m x) (SS.l x)) ∧
                      ∀ (x_3 : Unit),
                        let q := restH q_7;
                        let q_21 := q_13;
                        let q_22 := q_16;
                        let q_23 := q_17;
                        BOk (SS.mk (H4.nl q) (SS.rw x) (H4.off q) (H4.n q) (H4.cap q) (SS.room x) (SS.m x) (SS.l x)) ∧
                          ∀ (x_4 : Nat × Nat),
                            let q := H4.n q / 2;
                            let q_24 := nextH (H4.mk (SS.nl x) q_21 q_23 q_22);
                            let q_25 := q + Prod.fst x_4 + Prod.snd x_4 - (q + Prod.fst x_4);
                            let q_26 := List.length (valsG k x) + (q + Prod.fst x_4 - List.length (valsG k x));
                            let q_27 := q + Prod.fst x_4;
                            let q_28 := q_10;
                            ((q_8 ∧ AV.val (Value.int IntKind.i64 (wordW (SS.mk (SS.nl x) (SS.rw x) q_21 q_23 q_22 (SS.room x) (SS.m x) (SS.l x)))) = q_19 ∧ AV.val (Value.int IntKind.i64 (wordW (SS.mk (H4.nl q_24) (SS.rw x) (H4.off q_24) (H4.n q_24) (H4.cap q_24) (SS.room x) (SS.m x) (SS.l x)))) = AV.val (Value.int IntKind.i64 (qtyG k x)) ∧ AV.sl (Nat.beq q 0) 14 1 0 q q_27 = AV.sl (nlG k x) 14 1 0 (List.length (valsG k x)) q_26 ∧ q_11) ∧ True) ∧ Bif (AO.deadB (bO x)) True (q_28 = q_28) ∧ Bif (AO.deadB (wvO (List.length (valsG k x)) (q_27 - List.length (valsG k x), q_25) (valsG k x))) True (AO.arr true 33 (q_27 + Prod.snd x_4) q [Col.int IntKind.u16 (uwN (SS.get (SS.mk (H4.nl (restH (nextH q_24))) (SS.rw x) (H4.off (restH (nextH q_24))) (H4.n (restH (nextH q_24))) (H4.cap (restH (nextH q_24))) (SS.room x) (SS.m x) (SS.l x))) q)] = AO.arr true 33 (q_26 + q_25) (List.length (valsG k x)) q_12) ∧ True)
                    (((q_8 ∧ q_9 ∧ AV.val (Value.int IntKind.i64 (wordW q_6)) = AV.val (Value.int IntKind.i64 (qtyG k x)) ∧ (nlG k x = true ∧ List.length (valsG k x) = 0 ∧ List.length (valsG k x) + q_15 = 0) ∧ q_11) ∧ True) ∧ q_18 ∧ Bif (AO.deadB (wvO (List.length (valsG k x)) (q_15, 0) (valsG k x))) True False ∧ True);
                let q_22 := q_7;
                let q := q;
                let q_23 := q_8;
                let q_24 := q_10;
                let q_25 := q_13;
                let q_26 := BOk (SS.mk (H4.nl q_22) (SS.rw x) (H4.off q_22) (H4.n q_22) (H4.cap q_22) (SS.room x) (SS.m x) (SS.l x));
                let q_27 := q_17;
                let q_28 := q_16;
                let q_29 := q_12;
                let q_30 := q_19;
                Bif (Kd.to k)
                  (q_26 ∧
                    ∀ (x_3 : Unit),
                      let q := nextH q_22;
                      BOk (SS.mk (H4.nl q) (SS.rw x) (H4.off q) (H4.n q) (H4.cap q) (SS.room x) (SS.m x) (SS.l x)) ∧
                        ∀ (x_4 : Unit),
                          let q := nextH q;
                          let q_31 := q_25;
                          let q_32 := q_28;
                          let q_33 := q_27;
                          BOk (SS.mk (H4.nl q) (SS.rw x) (H4.off q) (H4.n q) (H4.cap q) (SS.room x) (SS.m x) (SS.l x)) ∧
                            ∀ (x_5 : Unit),
                              let q := restH q;
                              let q_34 := nextH (H4.mk (SS.nl x) q_31 q_33 q_32);
                              BOk (SS.mk (H4.nl q) (SS.rw x) (H4.off q) (H4.n q) (H4.cap q) (SS.room x) (SS.m x) (SS.l x)) ∧
                                ∀ (x_6 : Nat × Nat),
                                  let q := H4.n q / 2;
                                  let q_35 := nextH q_34;
                                  let q_36 := q_34;
                                  let q_37 := q + Prod.fst x_6 + Prod.snd x_6 - (q + Prod.fst x_6);
                                  let q_38 := List.length (valsG k x) + (q + Prod.fst x_6 - List.length (valsG k x));
                                  let q_39 := q + Prod.fst x_6;
                                  let q_40 := q_24;
                                  ((q_23 ∧ AV.val (Value.int IntKind.i64 (wordW (SS.mk (SS.nl x) (SS.rw x) q_31 q_33 q_32 (SS.room x) (SS.m x) (SS.l x)))) = q_30 ∧ AV.val (Value.int IntKind.i64 (wordW (SS.mk (H4.nl q_36) (SS.rw x) (H4.off q_36) (H4.n q_36) (H4.cap q_36) (SS.room x) (SS.m x) (SS.l x)))) = AV.val (Value.int IntKind.i64 (qtyG k x)) ∧ AV.sl (Nat.beq q 0) 14 1 0 q q_39 = AV.sl (nlG k x) 14 1 0 (List.length (valsG k x)) q_38 ∧ AV.val (Value.int IntKind.i64 (wordW (SS.mk (H4.nl q_35) (SS.rw x) (H4.off q_35) (H4.n q_35) (H4.cap q_35) (SS.room x) (SS.m x) (SS.l x)))) = AV.val (Value.int IntKind.i64 (toG k x)) ∧ True) ∧ True) ∧ Bif (AO.deadB (bO x)) True (q_40 = q_40) ∧ Bif (AO.deadB (wvO (List.length (valsG k x)) (q_39 - List.length (valsG k x), q_37) (valsG k x))) True (AO.arr true 33 (q_39 + Prod.snd x_6) q [Col.int IntKind.u16 (uwN (SS.get (SS.mk (H4.nl (restH (nextH (nextH q_35)))) (SS.rw x) (H4.off (restH (nextH (nextH q_35)))) (H4.n (restH (nextH (nextH q_35)))) (H4.cap (restH (nextH (nextH q_35)))) (SS.room x) (SS.m x) (SS.l x))) q)] = AO.arr true 33 (q_38 + q_37) (List.length (valsG k x)) q_29) ∧ True)
                  (Bif (Kd.all k)
                    (Bif (Kd.bits k)
                      (q_26 ∧
                        ∀ (x_3 : Unit),
                          let q_31 := SS.mk (H4.nl (restH q_22)) (SS.rw x) (H4.off (restH q_22)) (H4.n (restH q_22)) (H4.cap (restH q_22)) (SS.room x) (SS.m x) (SS.l x);
                          let q := wordW (SS.mk (H4.nl q) (SS.rw x) (H4.off q) (H4.n q) (H4.cap q) (SS.room x) (SS.m x) (SS.l x));
                          BOk q_31 ∧
                            ∀ (x_4 : Nat × Nat),
                              let q_32 := lenU q + Prod.fst x_4;
                              let q := q;
                              let q_33 := q_31;
                              let q_34 := List.length (valsG k x) + (q_32 - List.length (valsG k x));
                              let q_35 := q_32 + Prod.snd x_4 - q_32;
                              let q_36 := q_24;
                              ((q_23 ∧ AV.val (Value.int IntKind.i64 (wordW (SS.mk (SS.nl x) (SS.rw x) q_25 q_27 q_28 (SS.room x) (SS.m x) (SS.l x)))) = q_30 ∧ AV.val (Value.int IntKind.i64 q) = AV.val (Value.int IntKind.i64 (qtyG k x)) ∧ AV.sl (!inU q) 22 1 0 (lenU q) q_32 = AV.sl (nlG k x) 22 1 0 (List.length (valsG k x)) q_34 ∧ q_11) ∧ True) ∧ Bif (AO.deadB (bO x)) True (q_36 = q_36) ∧ Bif (AO.deadB (wvO (List.length (valsG k x)) (q_32 - List.length (valsG k x), q_35) (valsG k x))) True (AO.arr true 33 (q_32 + Prod.snd x_4) (lenU q) [Col.int IntKind.u16 (uL q_33 (lenU q) (topU q_33 q))] = AO.arr true 33 (q_34 + q_35) (List.length (valsG k x)) q_29) ∧ True)
                      q_21)
                    q_21)))
      False)
    False)
  False) := by kernel_rfl
set_option maxHeartbeats 1000000 in
theorem getK_vc (k : Kd) (x : SS) (hx : BOk x) (hn : 0 < x.n) : FnV Try.prog Γ7 (fun _ _ => none) Try.f21 [kdA k, ssV x 0] [some (bO x)] (GetKS.good (k, x)) := by
  have b0 : BOk (atH x (hd0 x)) := tl_ok hx hn
  have b1 : BOk (atH x (nextH (hd0 x))) := nextW_ok b0
  have b2 : BOk (atH x (nextH (nextH (hd0 x)))) := nextW_ok b1
  have b3 : BOk (atH x (nextH (nextH (nextH (hd0 x))))) := nextW_ok b2
  have b4 : BOk (atH x (nextH (nextH (nextH (nextH (hd0 x)))))) := nextW_ok b3
  have b5 := rest_ok' b2
  have b6 := rest_ok' b4
  have hnl := hx.nl0 hn
  obtain ⟨k1, k2, k3, k4, k5, k6, k7⟩ := hx
  refine FnV.of (getk_nf _ _) ?_
  all_goals try simp only [Bif_need, Bif_True]
  all_goals try simp only [Bif_iff, eq_self, and_true, true_and, AV.val.injEq, AV.agg.injEq, AV.tup.injEq, AV.sl.injEq, AV.ptr.injEq, AV.mp.injEq, Value.int.injEq, Value.bool.injEq, Value.string.injEq, AO.cells.injEq, AO.arr.injEq, AO.mapc.injEq, List.cons.injEq, Col.bool.injEq, Col.int.injEq, Col.str.injEq, MCol.int.injEq, MCol.bool.injEq, MCol.str.injEq, decide_eq_true_eq, decide_eq_false_iff_not, Nat.zero_add, Nat.add_zero, implies_true, Bool.and_eq_true, inR_iff, List.drop_zero, List.take_nil, List.drop_nil, List.nil_append, Int.toNat_natCast, longEnough, colLen, Bool.not_true, Bool.not_false, Bool.true_or, Bool.or_eq_true, Bool.not_eq_true', Bool.not_eq_false', take_take_self, take_tab, one_col, tab_length, mix_length, List.length_take, Nat.min_eq_left, List.set_cons_zero, blt01, Bool.and_false, Bool.and_true, Bool.false_and, Bool.true_and, Bool.false_eq_true, Bool.true_eq_false, false_and, and_false, false_implies]
  all_goals repeat' (first | apply And.intro | intro (⟨k, c, r⟩ : Nat × Nat × Nat) | intro _)
  all_goals try dsimp only at *
  all_goals try omega
  all_goals try simp only [at0_fold, hd0_fold, at_fold]
  all_goals try simp only [at0_fold, hd0_fold, at_fold] at *
  all_goals first
    | assumption
    | omega
    | rfl
    | (have e1 := ‹k.all = true›; have e2 := ‹k.all = false›; rw [e1] at e2; cases e2; done)
    | (simp only [inC, Bool.and_eq_true, decide_eq_true_eq]; omega)
    | exact beq0f (by omega)
    | exact beq0f (by simp only [gt_iff_lt, decide_eq_true_eq] at *; omega)
    | (simp only [uwN_length]; omega)
    | (rw [Nat.blt_eq]; omega)
    | (have e1 := u1_pos (uw (atH x (nextH (hd0 x)))) (by rw [uw_length]; exact Int.ofNat_lt.1 ‹_›)
       simp only [valsG, *, cond_true]; rfl)
    | (have e1 := u1_none (uw (atH x (nextH (hd0 x)))) (by rw [uw_length, at_n]; omega)
       simp only [valsG, *, cond_true]; rfl)
    | (simp only [valsG, qtyG, *, cond_true, cond_false, Bool.and_true, Bool.and_false, Bool.true_and, Bool.false_and]; rfl)
    | (simp only [qtyG, toG, nlG, *, cond_true, cond_false, Bool.and_true, Bool.and_false, Bool.true_and, Bool.false_and]; done)
    | (simp only [qtyG, toG, nlG, *, cond_true, cond_false, Bool.and_true, Bool.and_false, Bool.true_and, Bool.false_and]; rfl)
    | (simp only [valsG, qtyG, *, cond_true, cond_false, Bool.and_true, Bool.and_false, Bool.true_and, Bool.false_and, uw_length, u1_length, ub_length, at_n, List.length_nil] <;> omega)
    | (simp only [valsG, qtyG, *, cond_true, cond_false, Bool.and_true, Bool.and_false, Bool.true_and, Bool.false_and, uw, ub]; rfl)
theorem getK_ok : CtOk Try.prog 21 GetKS.ct := Sp.ok Γ7_ok hm Try.func21 GetKS GetKS_found (fun _ _ _ => none) (fun x h => getK_vc x.1 x.2 h.1 h.2)
end Go.Wk.P04
