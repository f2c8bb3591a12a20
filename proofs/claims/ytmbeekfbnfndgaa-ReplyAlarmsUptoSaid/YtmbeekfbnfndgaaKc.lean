/-
  The same: regions that draw their order, contracts, the arguments of a law; no condition.
-/
import Derived.Test.YtmbeekfbnfndgaaKb
import Derived.ChangeArms
import Derived.IntWalk
import Derived.ReadAgain
import Derived.Below
import Derived.ChangeSame
import Derived.ProofKit
import Derived.OpenShut
import Derived.JoinedCond
namespace Go.Vs
open Go Go.RowKit
set_option linter.unusedSimpArgs false
set_option linter.unusedVariables false

def Eqv (s s' : AS) : Prop := s'.heap = s.heap ∧ ∀ t, look s'.env t = look s.env t

section
variable {P : Program} {Γ : Cts} {R : Rg}

theorem Eqv.same {s s' : AS} (h : Eqv s s') (j : Nat) : footJ R j s' = footJ R j s ∧ treeD P Γ R j s' = treeD P Γ R j s :=
  same_gen (by rw [h.1]) (fun t _ => h.2 t) (fun id _ => by rw [h.1])

theorem okD_eqv {j : Nat} {acc acc' : List Rec} {s s' : AS} {r : Res} (hp : acc.Perm acc') (h : Eqv s s') (hok : okD R j acc s r = true) : okD R j acc' s' r = true := by
  have hf : footJ R j s' = footJ R j s := (Eqv.same (P := default) (Γ := fun _ => none) h j).1
  simp only [okD, Bool.and_eq_true] at hok ⊢
  obtain ⟨⟨⟨⟨⟨⟨h1, h2⟩, h3⟩, h4⟩, h5⟩, h6⟩, h7⟩ := hok
  refine ⟨⟨⟨⟨⟨⟨h1, h2⟩, h3⟩, by rw [hf, h.1]; exact h4⟩, h5⟩, ?_⟩, ?_⟩
  · refine resAlls_mono (fun b hb => ?_) h6
    simp only [Bool.or_eq_true, List.any_eq_true] at hb ⊢
    rcases hb with hb | ⟨A, hA, hb⟩
    · exact .inl hb
    · exact .inr ⟨A, hp.mem_iff.1 hA, hb⟩
  · rw [List.all_eq_true] at h7 ⊢
    intro A hA
    have := h7 A (hp.mem_iff.2 hA)
    simpa only [recD, hf] using this

theorem applyD_eqv {j : Nat} {s s' : AS} {r : Res} (h : Eqv s s') : Eqv (applyD R j s r) (applyD R j s' r) := by
  refine ⟨by simp only [applyD, h.1], fun t => ?_⟩
  simp only [applyD]
  cases hd : dstO R j with
  | nil => exact h.2 t
  | cons d l => simp only [List.head?_cons, putE, look, h.2 t]

theorem remV_eqv {K : AS → Prop} (HK : ∀ s s', Eqv s s' → K s → K s') : ∀ (rem : List Nat) {acc acc' : List Rec} {s s' : AS}, acc.Perm acc' → Eqv s s' → remV P Γ R K rem acc s → remV P Γ R K rem acc' s'
  | [], _, _, s, s', _, h, hk => HK s s' h hk
  | j :: rem, acc, acc', s, s', hp, h, hk => by
    simp only [remV, opV] at hk ⊢
    rw [(Eqv.same h j).2]
    refine OutT.wp_mono (fun r hr => ?_) hk
    cases hb : okD R j acc s r with
    | false => rw [hb] at hr; exact hr.elim
    | true =>
      rw [okD_eqv hp h hb]
      have hr := hr.yes hb
      have hf : footJ R j s' = footJ R j s := (Eqv.same (P := P) (Γ := Γ) h j).1
      refine remV_eqv HK rem ?_ (applyD_eqv h) hr
      simp only [recD, hf]
      exact hp.cons _

theorem opV_mono {j : Nat} {acc : List Rec} {s : AS} {k k' : List Rec → AS → Prop} (hk : ∀ a s, k a s → k' a s) (h : opV P Γ R j acc s k) : opV P Γ R j acc s k' :=
  OutT.wp_mono (fun r hr => Bif.mk (fun hb => hk _ _ (hr.yes hb)) (fun hb => (hr.no hb).elim)) h

theorem applyAt_own {m : Nat} {r : Res} {H H' : AHeap} {id : Nat} (hl : H.length = H'.length) (hor : id ∈ r.wr.map (·.1) ∨ (m ≤ id ∧ id < m + r.new.length)) : (applyAt m r H)[id]? = (applyAt m r H')[id]? := by
  unfold applyAt
  by_cases hr : m ≤ id ∧ id < m + r.new.length
  · have : ∀ (l : List AO) (H H' : AHeap) (m : Nat), H.length = H'.length → m ≤ id → id < m + l.length → (setNew H m l)[id]? = (setNew H' m l)[id]? := by
      intro l
      induction l with
      | nil => intro H H' m _ h1 h2; simp at h2; omega
      | cons x l ih =>
        intro H H' m hl h1 h2
        simp only [setNew]
        by_cases e : id = m
        · subst e
          rw [setNew_get_out _ _ _ _ (by omega), setNew_get_out _ _ _ _ (by omega)]
          by_cases hlt : id < H.length
          · rw [List.getElem?_set_self hlt, List.getElem?_set_self (by omega)]
          · rw [List.getElem?_eq_none (by simp; omega), List.getElem?_eq_none (by simp; omega)]
        · exact ih _ _ _ (by simpa using hl) (by omega) (by simp only [List.length_cons] at h2; omega)
    exact this _ _ _ _ (by simp only [writes_length]; exact hl) hr.1 hr.2
  · rw [setNew_get_out _ _ _ _ hr, setNew_get_out _ _ _ _ hr, writes_get, writes_get]
    have hm := hor.resolve_right hr
    cases hw : wrAt r.wr id with
    | some a => simp only [hl]
    | none =>
      exfalso
      have : ∀ (l : List (Nat × Option AO)), id ∈ l.map (·.1) → wrAt l id ≠ none := by
        intro l
        induction l with
        | nil => intro h; simp at h
        | cons p l ih =>
          intro h
          simp only [wrAt]
          cases hl2 : wrAt l id with
          | some a => simp
          | none =>
            have hn : id ∉ l.map (·.1) := fun hh => ih hh hl2
            simp only [List.map_cons, List.mem_cons] at h
            have := h.resolve_right hn
            subst this
            simp
      exact this _ hm hw

/-- What the two checks say of two operations, the one behind the other. -/
theorem commute {i j : Nat} (hne : i ≠ j) (hi : i < R.ops.size) (hj : j < R.ops.size) (hnw : R.wt j i = false) {acc : List Rec} {s : AS} {k k' : List Rec → AS → Prop}
    (hkk : ∀ {a a' s s'}, List.Perm a a' → Eqv s s' → k a s → k' a' s')
    (h : opV P Γ R i acc s fun a1 s1 => opV P Γ R j a1 s1 k) : opV P Γ R j acc s fun a1 s1 => opV P Γ R i a1 s1 k' := by
  unfold opV at h
  obtain ⟨hsafe, hall⟩ := OutT.wp_iff.1 h
  -- what is known at each outcome of i, and then of j
  have key : ∀ ri, (treeD P Γ R i s).can ri → okD R i acc s ri = true ∧ treeD P Γ R j (applyD R i s ri) = treeD P Γ R j s ∧ footJ R j (applyD R i s ri) = footJ R j s ∧ (treeD P Γ R j s).wp (fun _ => True) ∧
      ∀ rj, (treeD P Γ R j s).can rj → okD R j (recD R i s ri :: acc) (applyD R i s ri) rj = true ∧ k (recD R j (applyD R i s ri) rj :: recD R i s ri :: acc) (applyD R j (applyD R i s ri) rj) ∧ chk R (recD R i s ri) ⟨j, footJ R j s, rj⟩ = true := by
    intro ri hri
    have h1 := hall ri hri
    cases hok : okD R i acc s ri with
    | false => rw [hok] at h1; exact h1.elim
    | true =>
    have h1 := h1.yes hok
    obtain ⟨hs1, ha1⟩ := OutT.wp_iff.1 h1
    obtain ⟨r0, hr0⟩ := OutT.some_can hs1
    have chkOf : ∀ rj, (treeD P Γ R j (applyD R i s ri)).can rj → okD R j (recD R i s ri :: acc) (applyD R i s ri) rj = true ∧ chk R (recD R i s ri) (recD R j (applyD R i s ri) rj) = true := by
      intro rj hrj
      have h2 := ha1 rj hrj
      cases hok2 : okD R j (recD R i s ri :: acc) (applyD R i s ri) rj with
      | false => rw [hok2] at h2; exact h2.elim
      | true =>
        refine ⟨rfl, ?_⟩
        simp only [okD, Bool.and_eq_true, List.all_eq_true] at hok2
        have := hok2.2 (recD R i s ri) (by simp)
        simp only [recD, hnw, Bool.false_or] at this
        exact this
    have hc0 := (chkOf r0 hr0).2
    simp only [chk, chk1, Bool.and_eq_true] at hc0
    obtain ⟨⟨⟨⟨⟨c1, c2⟩, c3⟩, c4⟩, c5⟩, c6⟩ := hc0
    have hlook : ∀ t ∈ looksO R j, look s.env t = look (applyD R i s ri).env t := fun t ht => by
      simp only [applyD]
      rw [look_put]
      exact fun hm => (disj_iff.1 c1 t hm) ht
    have hwid : ri.new.length ≤ R.wid i := by
      simp only [okD, Bool.and_eq_true] at hok
      exact Nat.le_of_ble_eq_true hok.1.1.1.1.1.2
    have hheap : ∀ id ∈ footJ R j (applyD R i s ri), s.heap[id]? = (applyD R i s ri).heap[id]? := fun id hid => by
      simp only [applyD]
      rw [applyAt_out]
      · exact fun hm => disj_iff.1 c2 id hm hid
      · have := outside_iff.1 (List.all_eq_true.1 c3 id hid)
        simp only [recD] at this
        omega
    obtain ⟨f1, t1⟩ := same_gen (P := P) (Γ := Γ) (R := R) (j := j) (s := applyD R i s ri) (s' := s) (by simp only [applyD, applyAt_length]) hlook hheap
    refine ⟨rfl, t1.symm, f1.symm, by rw [t1]; exact hs1, fun rj hrj => ?_⟩
    rw [t1] at hrj
    obtain ⟨g1, g2⟩ := chkOf rj hrj
    have h2 := (ha1 rj hrj).yes g1
    refine ⟨g1, h2, ?_⟩
    simpa only [recD, f1] using g2
  obtain ⟨ri0, hri0⟩ := OutT.some_can hsafe
  obtain ⟨_, _, _, hsafej, _⟩ := key ri0 hri0
  unfold opV
  refine OutT.wp_iff.2 ⟨hsafej, fun rj hrj => ?_⟩
  -- j first
  have okj : okD R j acc s rj = true := by
    obtain ⟨hoki, ht, hf, _, hjall⟩ := key ri0 hri0
    obtain ⟨g1, _, g3⟩ := hjall rj hrj
    simp only [chk, chk1, Bool.and_eq_true] at g3
    obtain ⟨⟨⟨⟨⟨c1, c2⟩, c3⟩, c4⟩, c5⟩, c6⟩ := g3
    have hwid : ri0.new.length ≤ R.wid i := by
      simp only [okD, Bool.and_eq_true] at hoki
      exact Nat.le_of_ble_eq_true hoki.1.1.1.1.1.2
    simp only [okD, Bool.and_eq_true] at g1 ⊢
    obtain ⟨⟨⟨⟨⟨⟨h1, h2⟩, h3⟩, h4⟩, h5⟩, h6⟩, h7⟩ := g1
    refine ⟨⟨⟨⟨⟨⟨h1, h2⟩, h3⟩, ?_⟩, h5⟩, ?_⟩, ?_⟩
    · rw [List.all_eq_true] at h4 ⊢
      intro p hp
      have := h4 p hp
      simp only [Bool.and_eq_true, hf] at this ⊢
      refine ⟨this.1, ?_⟩
      have hmem := memN_iff.1 this.1
      have e : (applyD R i s ri0).heap[p.1]? = s.heap[p.1]? := by
        simp only [applyD]
        rw [applyAt_out]
        · exact fun hm => disj_iff.1 c2 p.1 hm hmem
        · have := outside_iff.1 (List.all_eq_true.1 c3 p.1 hmem)
          simp only [recD] at this
          omega
      rw [e] at this
      exact this.2
    · refine resAlls_mono2 (fun b hb hq => ?_) h6 c4
      simp only [Bool.or_eq_true, List.any_cons, recD] at hb hq ⊢
      rcases hb with hb | hb | hb
      · exact .inl hb
      · rw [hq] at hb; simp at hb
      · exact .inr hb
    · rw [List.all_eq_true] at h7 ⊢
      intro A hA
      have := h7 A (by simp [hA])
      simpa only [recD, hf] using this
  rw [okj]
  -- then i
  have hiss : ∀ ri, (treeD P Γ R i s).can ri → treeD P Γ R i (applyD R j s rj) = treeD P Γ R i s ∧ footJ R i (applyD R j s rj) = footJ R i s := by
    intro ri hri
    obtain ⟨hoki, ht, hf, _, hjall⟩ := key ri hri
    obtain ⟨g1, _, g3⟩ := hjall rj hrj
    simp only [chk, chk1, Bool.and_eq_true] at g3
    obtain ⟨⟨⟨⟨⟨c1, c2⟩, c3⟩, c4⟩, ⟨⟨⟨d1, d2⟩, d3⟩, d4⟩⟩, c6⟩ := g3
    have hwid : rj.new.length ≤ R.wid j := by
      simp only [okD, Bool.and_eq_true] at okj
      exact Nat.le_of_ble_eq_true okj.1.1.1.1.1.2
    obtain ⟨f1, t1⟩ := same_gen (P := P) (Γ := Γ) (R := R) (j := i) (s := s) (s' := applyD R j s rj) (by simp only [applyD, applyAt_length])
      (fun t ht => by simp only [applyD]; exact look_put fun hm => (disj_iff.1 d1 t hm) ht)
      (fun id hid => by
        simp only [applyD]
        rw [applyAt_out]
        · exact fun hm => disj_iff.1 d2 id hm hid
        · have := outside_iff.1 (List.all_eq_true.1 d3 id hid)
          omega)
    exact ⟨t1, f1⟩
  obtain ⟨ti, fi⟩ := hiss ri0 hri0
  show (treeD P Γ R i (applyD R j s rj)).wp _
  rw [ti]
  refine OutT.wp_iff.2 ⟨hsafe, fun ri hri => ?_⟩
  obtain ⟨hoki, ht, hf, _, hjall⟩ := key ri hri
  obtain ⟨g1, g2, g3⟩ := hjall rj hrj
  have g3' := g3
  simp only [chk, chk1, Bool.and_eq_true] at g3
  obtain ⟨⟨⟨⟨⟨c1, c2⟩, c3⟩, c4⟩, ⟨⟨⟨d1, d2⟩, d3⟩, d4⟩⟩, c6⟩ := g3
  have hwi : ri.new.length ≤ R.wid i := by
    simp only [okD, Bool.and_eq_true] at hoki
    exact Nat.le_of_ble_eq_true hoki.1.1.1.1.1.2
  have hwj : rj.new.length ≤ R.wid j := by
    simp only [okD, Bool.and_eq_true] at okj
    exact Nat.le_of_ble_eq_true okj.1.1.1.1.1.2
  have oki : okD R i (recD R j s rj :: acc) (applyD R j s rj) ri = true := by
    simp only [okD, Bool.and_eq_true] at hoki ⊢
    obtain ⟨⟨⟨⟨⟨⟨h1, h2⟩, h3⟩, h4⟩, h5⟩, h6⟩, h7⟩ := hoki
    refine ⟨⟨⟨⟨⟨⟨h1, h2⟩, h3⟩, ?_⟩, h5⟩, ?_⟩, ?_⟩
    · rw [List.all_eq_true] at h4 ⊢
      intro p hp
      have := h4 p hp
      simp only [Bool.and_eq_true, fi] at this ⊢
      refine ⟨this.1, ?_⟩
      have hmem := memN_iff.1 this.1
      have e : (applyD R j s rj).heap[p.1]? = s.heap[p.1]? := by
        simp only [applyD]
        rw [applyAt_out]
        · exact fun hm => disj_iff.1 d2 p.1 hm hmem
        · have := outside_iff.1 (List.all_eq_true.1 d3 p.1 hmem)
          omega
      rw [e]
      exact this.2
    · refine resAlls_mono (fun b hb => ?_) h6
      simp only [Bool.or_eq_true, List.any_cons] at hb ⊢
      rcases hb with hb | hb
      · exact .inl hb
      · exact .inr (.inr hb)
    · rw [List.all_eq_true] at h7 ⊢
      intro A hA
      rcases List.mem_cons.1 hA with rfl | hA
      · simp only [recD, fi, Bool.or_eq_true]
        right
        have := chk_symm g3'
        simpa only [recD] using this
      · have := h7 A hA
        simpa only [recD, fi] using this
  rw [oki]
  refine hkk ?_ ?_ g2
  · simp only [recD, hf, fi]
    exact List.Perm.swap _ _ _
  · refine ⟨?_, fun t => ?_⟩
    · simp only [applyD]
      refine List.ext_getElem? fun id => ?_
      -- where each writes
      have wi_foot : ∀ x ∈ ri.wr.map (·.1), x ∈ footJ R i s := fun x hx => by
        simp only [okD, Bool.and_eq_true, List.all_eq_true] at hoki
        obtain ⟨p, hp, rfl⟩ := List.mem_map.1 hx
        exact memN_iff.1 (hoki.1.1.1.2 p hp).1
      have wj_foot : ∀ x ∈ rj.wr.map (·.1), x ∈ footJ R j s := fun x hx => by
        simp only [okD, Bool.and_eq_true, List.all_eq_true] at okj
        obtain ⟨p, hp, rfl⟩ := List.mem_map.1 hx
        exact memN_iff.1 (okj.1.1.1.2 p hp).1
      have hap := ranges_apart (R := R) hne hi hj
      by_cases ti : id ∈ ri.wr.map (·.1) ∨ (R.start i ≤ id ∧ id < R.start i + ri.new.length)
      · have nj1 : id ∉ rj.wr.map (·.1) := fun hm => by
          rcases ti with ti | ti
          · exact disj_iff.1 c2 id ti (wj_foot id hm)
          · have := outside_iff.1 (List.all_eq_true.1 c3 id (wj_foot id hm))
            simp only [recD] at this
            omega
        have nj2 : ¬ (R.start j ≤ id ∧ id < R.start j + rj.new.length) := fun hm => by
          rcases ti with ti | ti
          · have := outside_iff.1 (List.all_eq_true.1 d3 id (by simpa only [recD] using wi_foot id ti))
            omega
          · omega
        rw [applyAt_own (by simp only [applyAt_length]) ti (H' := s.heap), applyAt_out nj1 nj2]
      · have ti := not_or.1 ti
        rw [applyAt_out ti.1 ti.2]
        by_cases tj : id ∈ rj.wr.map (·.1) ∨ (R.start j ≤ id ∧ id < R.start j + rj.new.length)
        · exact applyAt_own (by simp only [applyAt_length]) tj
        · have tj := not_or.1 tj
          rw [applyAt_out tj.1 tj.2, applyAt_out tj.1 tj.2, applyAt_out ti.1 ti.2]
    · simp only [applyD]
      have hd : ∀ d1 ∈ dstO R i, ∀ d2 ∈ dstO R j, d1 ≠ d2 := fun d1 h1 d2 h2 e => by
        subst e
        simp only [recD] at c6
        exact disj_iff.1 c6 d1 h1 h2
      cases h1 : dstO R i with
      | nil => simp [putE]
      | cons a l =>
        cases h2 : dstO R j with
        | nil => simp [putE]
        | cons b l2 =>
          have hab : a ≠ b := hd a (by simp [h1]) b (by simp [h2])
          simp only [List.head?_cons, putE, look]
          cases ha : Nat.beq a t with
          | true =>
            have := Nat.eq_of_beq_eq_true ha
            subst this
            cases hb : Nat.beq b a with
            | true => exact absurd (Nat.eq_of_beq_eq_true hb).symm hab
            | false => rfl
          | false => cases hb : Nat.beq b t <;> rfl
end
end Go.Vs

namespace Go.Vs
open Go Go.RowKit
set_option linter.unusedSimpArgs false
set_option linter.unusedVariables false

theorem viewG_mk (foot : List Nat) : ∀ (m i : Nat) (H : AHeap) (j : Nat) (ao : AO), H[j]? = some (some ao) → (i + j) ∈ foot → j < m → (viewG foot m i H)[j]? = some (some ao)
  | 0, _, _, _, _, _, _, h => by omega
  | m + 1, i, [], j, ao, h, _, _ => by simp at h
  | m + 1, i, x :: H, 0, ao, h, hf, _ => by
    simp only [List.getElem?_cons_zero, Option.some.injEq] at h
    subst h
    simp only [viewG, List.getElem?_cons_zero, memN_iff.2 (by simpa using hf)]
  | m + 1, i, x :: H, j + 1, ao, h, hf, hl => by
    simp only [viewG, List.getElem?_cons_succ]
    exact viewG_mk foot m (i + 1) H j ao (by simpa using h) (by rw [show i + 1 + j = i + (j + 1) by omega]; exact hf) (by omega)

mutual
theorem AV.sc_alls {n : Nat} : ∀ v : AV, v.sc n = true → v.alls (fun b => Nat.blt b n) = true
  | .val _, _ => rfl
  | .ptr b _, h => h
  | .pel b _ _ _, h => h
  | .sl _ b _ _ _ _, h => h
  | .mp b, h => h
  | .ch b, h => h
  | .fn _ a c, h => by simp only [AV.sc, AV.alls, Bool.and_eq_true] at *; exact ⟨AV.scs_alls a h.1, AV.scs_alls c h.2⟩
  | .ifc _ v, h => AV.sc_alls v h
  | .agg cs, h => AV.scs_alls cs h
  | .tup cs, h => AV.scs_alls cs h
theorem AV.scs_alls {n : Nat} : ∀ vs : List AV, AV.scs n vs = true → AV.allsL (fun b => Nat.blt b n) vs = true
  | [], _ => rfl
  | v :: vs, h => by simp only [AV.scs, AV.allsL, Bool.and_eq_true] at *; exact ⟨AV.sc_alls v h.1, AV.scs_alls vs h.2⟩
end
theorem AO.sc_alls {n : Nat} (ao : AO) (h : ao.sc n = true) : ao.alls (fun b => Nat.blt b n) = true := by
  cases ao with
  | cells _ _ cs => exact AV.scs_alls cs h
  | arr _ _ _ _ _ => rfl
  | mapc _ _ _ _ _ => rfl
theorem AO.alls_mono {p p' : Nat → Bool} (h : ∀ b, p b = true → p' b = true) (ao : AO) (h1 : ao.alls p = true) : ao.alls p' = true := AO.alls_mono2 (fun b hb _ => h b hb) ao h1 h1
theorem AV.alls_mono {p p' : Nat → Bool} (h : ∀ b, p b = true → p' b = true) (v : AV) (h1 : v.alls p = true) : v.alls p' = true := AV.alls_mono2 (fun b hb _ => h b hb) v h1 h1

section
variable {P : Program} {Γ : Cts} {R : Rg}

theorem pull {K : AS → Prop} (HK : ∀ s s', Eqv s s' → K s → K s') : ∀ (rem : List Nat) {acc : List Rec} {s : AS} {j : Nat}, remV P Γ R K rem acc s → j ∈ rem → (∀ i ∈ rem, i < R.ops.size) → rem.Nodup → (∀ i ∈ rem, i ≠ j → R.wt j i = false) →
    opV P Γ R j acc s fun a s' => remV P Γ R K (rem.erase j) a s'
  | [], _, _, _, _, hj, _, _, _ => by simp at hj
  | i :: rem, acc, s, j, h, hj, hlt, hnd, hw => by
    by_cases e : i = j
    · subst e; simp only [List.erase_cons_head]; exact h
    · have hjr : j ∈ rem := by rcases List.mem_cons.1 hj with h' | h'; exact absurd h'.symm e; exact h'
      rw [List.erase_cons_tail (by simpa using e)]
      simp only [remV] at h
      have h2 := opV_mono (fun a1 s1 h1 => pull HK rem h1 hjr (fun k hk => hlt k (by simp [hk])) (List.nodup_cons.1 hnd).2 (fun k hk => hw k (by simp [hk]))) h
      exact commute e (hlt i (by simp)) (hlt j hj) (hw i (by simp) e) (fun hp he hk => remV_eqv HK _ hp he hk) h2

def envAlls (p : Nat → Bool) (env : Env) : Prop := ∀ t v, look env t = some v → v.alls p = true

structure AtD (R : Rg) (F : Fr) (w0 : World) (k0 : Nat) (β0 : Pl) (rem : List Nat) (acc : List Rec) (s : AS) (a : Act) (w : World) : Prop where
  ex : ∃ β, EnvOk R.N β s.env a ∧ Sim F w0 β s.heap w ∧ Pl.Ext k0 β0 β
  k0le : k0 ≤ R.base
  len : s.heap.length = R.base + total R.ops.toList
  envok : ∀ j ∈ rem, envAlls (R.out j) s.env
  heapok : ∀ j ∈ rem, ∀ (i : Nat) (ao : AO), s.heap[i]? = some (some ao) → ao.alls (R.out j) = true
  dead : ∀ j ∈ rem, ∀ id, R.out j id = false → ∀ ao : AO, s.heap[id]? ≠ some (some ao)
  accok : ∀ A ∈ acc, A.idx ∉ rem ∧ A.idx < R.ops.size
  remok : ∀ j ∈ rem, j < R.ops.size
  nodup : rem.Nodup

theorem starts_ge : ∀ (l : List Oper) (b k : Nat), k < l.length → b ≤ (starts b l).getD k 0 ∧ (starts b l).getD k 0 + wOf l[k]? ≤ b + total l
  | [], b, k, h => by simp at h
  | o :: r, b, 0, _ => by simp only [starts, wOf, total, List.getD_cons_zero, List.getElem?_cons_zero]; omega
  | o :: r, b, k + 1, h => by
    have := starts_ge r (b + width o.op) k (by simpa using h)
    simp only [starts, List.getD_cons_succ, List.getElem?_cons_succ, total]
    omega

theorem range_in {j : Nat} (hj : j < R.ops.size) : R.base ≤ R.start j ∧ R.start j + R.wid j ≤ R.base + total R.ops.toList := by
  have := starts_ge R.ops.toList R.base j (by simpa using hj)
  rw [Array.getElem?_toList] at this
  exact this

theorem dst_of {j : Nat} {o : Oper} (hj : R.ops[j]? = some o) : (dstO R j).head? = o.dst := by
  simp only [dstO, hj]; cases o.dst <;> rfl

/-- What is left of the state when an outcome has come. -/
theorem AtD.next {F w0 k0 β0 rem acc s a w} (hat : AtD R F w0 k0 β0 rem acc s a w) {j : Nat} (hjr : j ∈ rem) {r : Res} (hok : okD R j acc s r = true) {β : Pl} (he : EnvOk R.N β s.env a) (hs : Sim F w0 β s.heap w) (h0 : Pl.Ext k0 β0 β)
    {V : AHeap} (hVl : V.length = R.start j) (hV : Sub V s.heap) (hVm : ∀ p ∈ r.wr, p.1 ∈ footJ R j s → ∀ ao : AO, s.heap[p.1]? = some (some ao) → V[p.1]? = some (some ao)) (hsc : AHeap.sc V.length V = true) {β' : Pl} {w' : World} (h' : Sim (partF β V) w β' (r.apply V) w') (hb : Pl.Ext V.length β β') {d : Option Tmp} (hd : (dstO R j).head? = d) :
    AtD R F w0 k0 β0 (rem.erase j) (recD R j s r :: acc) (applyD R j s r) (a.put d (r.val.conc β')) w' := by
  have hjlt := hat.remok j hjr
  obtain ⟨g1, g2⟩ := range_in hjlt
  simp only [okD, Bool.and_eq_true, List.all_eq_true] at hok
  obtain ⟨⟨⟨⟨⟨⟨h1, h2⟩, _⟩, h4⟩, h5⟩, h6⟩, h7⟩ := hok
  have h2 := Nat.le_of_ble_eq_true h2
  have hm : V.length + r.new.length ≤ s.heap.length := by rw [hVl, hat.len]; omega
  have hwr : ∀ p ∈ r.wr, ∃ ao : AO, V[p.1]? = some (some ao) := fun p hp => by
    obtain ⟨q1, q2⟩ := h4 p hp
    split at q2
    · rename_i ao hao; exact ⟨ao, hVm p hp (memN_iff.1 q1) ao hao⟩
    · cases q2
  simp only [resAlls, Bool.and_eq_true, List.all_eq_true] at h5
  simp only [menOk, resAlls, Bool.and_eq_true, List.all_eq_true] at h6
  have hmen : ∀ (i : Nat) (ao : AO), (r.apply V)[i]? = some (some ao) → ao.alls (fun b => Nat.blt b (V.length + r.new.length)) = true ∧ ((∃ p ∈ r.wr, p.2 = some ao) ∨ ao ∈ r.new ∨ V[i]? = some (some ao)) := fun i ao hi => by
    rw [apply_get] at hi
    split at hi
    · split at hi
      · simp only [Option.some.injEq] at hi
        have hmem := List.mem_of_getElem? hi
        exact ⟨by rw [hVl]; exact h5.2 ao hmem, .inr (.inl hmem)⟩
      · cases hi
    · rw [writes_get] at hi
      cases hw : wrAt r.wr i with
      | some a2 =>
        rw [hw] at hi
        simp only at hi
        split at hi
        · simp only [Option.some.injEq] at hi
          subst hi
          have : ∀ (l : List (Nat × Option AO)), wrAt l i = some (some ao) → ∃ p ∈ l, p.2 = some ao := by
            intro l
            induction l with
            | nil => intro h; cases h
            | cons p l ih =>
              intro hp
              simp only [wrAt] at hp
              split at hp
              · rename_i a' ha'
                simp only [Option.some.injEq] at hp; subst hp
                obtain ⟨q, hq, he⟩ := ih ha'
                exact ⟨q, by simp [hq], he⟩
              · split at hp
                · simp only [Option.some.injEq] at hp; exact ⟨p, by simp, hp⟩
                · cases hp
          obtain ⟨p, hp, hpe⟩ := this r.wr hw
          exact ⟨by rw [hVl]; have := h5.1.2 p hp; rw [hpe] at this; exact this, .inl ⟨p, hp, hpe⟩⟩
        · cases hi
      | none =>
        rw [hw] at hi
        exact ⟨AO.alls_mono (fun b hb => by simp only [Nat.blt_eq] at *; omega) ao (AO.sc_alls ao (AHeap.sc_get hsc hi)), .inr (.inr hi)⟩
  have hout : ∀ b, R.out j b = true → outside V.length (V.length + r.new.length) b = true := fun b hb => by
    rw [Rg.out, outside_iff] at hb; rw [outside_iff, hVl]; omega
  have hwhole := hs.whole hV h' hb hm hwr (fun i ao hi => AO.alls_mono hout ao (hat.heapok j hjr i ao hi)) (fun i ao hi => (hmen i ao hi).1)
  rw [hVl] at hwhole
  -- ids of what came lie outside the others' ranges
  have hp2 : ∀ i ∈ rem.erase j, ∀ b, (Nat.blt b R.base || !(R.out j b) || acc.any (fun A => !(R.out A.idx b))) = true → R.out i b = true := fun i hi b hb => by
    have hi' := List.mem_of_mem_erase hi
    have hij : i ≠ j := fun e => by subst e; exact (List.Nodup.not_mem_erase hat.nodup) hi
    obtain ⟨k1, k2⟩ := range_in (hat.remok i hi')
    have inr : ∀ k, R.out k b = false → R.start k ≤ b ∧ b < R.start k + R.wid k := fun k hk => by
      have : ¬ (b < R.start k ∨ R.start k + R.wid k ≤ b) := fun hh => by
        have := outside_iff.2 hh; simp only [Rg.out] at hk; rw [this] at hk; cases hk
      omega
    rw [Rg.out, outside_iff]
    simp only [Bool.or_eq_true, Nat.blt_eq, Bool.not_eq_true', List.any_eq_true] at hb
    rcases hb with (hb | hb) | ⟨A, hA, hb⟩
    · left; omega
    · have := inr j hb
      have := ranges_apart (R := R) hij (hat.remok i hi') hjlt
      omega
    · have := inr A.idx hb
      have hAi : A.idx ≠ i := fun e => (hat.accok A hA).1 (e ▸ hi')
      have := ranges_apart (R := R) hAi (hat.accok A hA).2 (hat.remok i hi')
      omega
  have hVj : ∀ b, b < R.start j → joinPl (R.start j + r.new.length) β' β b = β b := fun b hlt => by
    rw [joinPl_at]; rw [if_pos (by omega)]; exact hb.old b (by omega)
  refine ⟨⟨joinPl (R.start j + r.new.length) β' β, ?_, ?_, ?_⟩, hat.k0le, by simp only [applyD, applyAt_length]; exact hat.len, fun i hi => ?_, fun i hi id ao hid => ?_, fun i hi id hid ao hao => ?_, fun A hA => ?_, fun i hi => hat.remok i (List.mem_of_mem_erase hi), hat.nodup.erase j⟩
  · have e1 : r.val.conc β' = r.val.conc (joinPl (R.start j + r.new.length) β' β) := (AV.conc_alls (fun b hb' => by
      rw [joinPl_at]; rw [if_pos (by simpa using hb')]) r.val h5.1.1).symm
    have he' : EnvOk R.N (joinPl (R.start j + r.new.length) β' β) s.env a := ⟨he.size, fun t v hv => by
      rw [AV.conc_alls (p := R.out j) (fun b hb' => ?_) v (hat.envok j hjr t v hv)]
      · exact he.at_ t v hv
      · have := outside_iff.1 (hout b hb')
        rw [hVl] at this
        rw [joinPl_at]
        split
        · exact hb.old b (by omega)
        · rfl, he.defers⟩
    rw [e1]
    simp only [applyD, hd]
    refine he'.put ?_
    cases d with
    | none => rfl
    | some d =>
      have : d ∈ dstO R j := by cases hl : dstO R j with | nil => rw [hl] at hd; cases hd | cons x l => rw [hl] at hd; simp at hd; simp [hd]
      exact h1 d this
  · simp only [applyD]; exact hwhole
  · have := hat.k0le
    exact ⟨fun b hb' => (hVj b (by omega)).trans (h0.old b hb'), fun b o ho => hb.ice b o (h0.ice b o ho)⟩
  · intro t v hv
    simp only [applyD, hd] at hv
    have hval : r.val.alls (R.out i) = true := AV.alls_mono (hp2 i hi) r.val h6.1.1
    cases d with
    | none => exact hat.envok i (List.mem_of_mem_erase hi) t v hv
    | some d =>
      simp only [putE, look] at hv
      split at hv
      · simp only [Option.some.injEq] at hv; subst hv; exact hval
      · exact hat.envok i (List.mem_of_mem_erase hi) t v hv
  · simp only [applyD] at hid
    have hid' : (applyAt V.length r s.heap)[id]? = some (some ao) := by rw [hVl]; exact hid
    rcases applyAt_cases hV hm (fun p hp => let ⟨a2, ha2⟩ := hwr p hp; (List.getElem?_eq_some_iff.1 ha2).1) hid' with ⟨q1, q2⟩ | ⟨q1, _⟩
    · rcases (hmen id ao q1).2 with ⟨p, hp, hpe⟩ | hn | hv
      · have := h6.1.2 p hp
        rw [hpe] at this
        exact AO.alls_mono (hp2 i hi) _ this
      · exact AO.alls_mono (hp2 i hi) _ (h6.2 ao hn)
      · exact hat.heapok i (List.mem_of_mem_erase hi) id ao (hV id ao hv)
    · exact hat.heapok i (List.mem_of_mem_erase hi) id ao q1
  · have hi' := List.mem_of_mem_erase hi
    have hij : i ≠ j := fun e => by subst e; exact (List.Nodup.not_mem_erase hat.nodup) hi
    have hin : R.start i ≤ id ∧ id < R.start i + R.wid i := by
      have : ¬ (id < R.start i ∨ R.start i + R.wid i ≤ id) := fun hh => by
        have := outside_iff.2 hh; simp only [Rg.out] at hid; rw [this] at hid; cases hid
      omega
    have hap := ranges_apart (R := R) hij (hat.remok i hi') hjlt
    simp only [applyD] at hao
    rw [applyAt_out] at hao
    · exact hat.dead i hi' id hid ao hao
    · intro hm'
      obtain ⟨p, hp, rfl⟩ := List.mem_map.1 hm'
      obtain ⟨a2, ha2⟩ := hwr p hp
      exact hat.dead i hi' p.1 hid a2 (hV _ _ ha2)
    · omega
  · rcases List.mem_cons.1 hA with rfl | hA
    · exact ⟨List.Nodup.not_mem_erase hat.nodup, hjlt⟩
    · exact ⟨fun hh => (hat.accok A hA).1 (List.mem_of_mem_erase hh), (hat.accok A hA).2⟩
end
end Go.Vs

namespace Go.Vs
open Go Go.RowKit
set_option linter.unusedSimpArgs false
set_option linter.unusedVariables false

section
variable {P : Program} {Γ : Cts} {R : Rg}

theorem runD (hΓ : CtsOk P Γ) {F w0 k0 β0 rem acc s a w} (hat : AtD R F w0 k0 β0 rem acc s a w) {j : Nat} (hjr : j ∈ rem) {o : Oper} (hj : R.ops[j]? = some o) {k : List Rec → AS → Prop}
    (h : (treeO P Γ R o j (rho s.env) s.heap).wp fun r => Bif (okD R j acc s r) (k (recD R j s r :: acc) (applyD R j s r)) False) {next : Act → World → Prop} {Q : Exit → Act → World → Prop}
    (hn : ∀ acc' s' a' w', k acc' s' → AtD R F w0 k0 β0 (rem.erase j) acc' s' a' w' → next a' w') : o.wp P a w next Q := by
  obtain ⟨β, he, hs, h0⟩ := hat.ex
  unfold treeO at h
  simp only [OutT.wp] at h
  cases hc : (AHeap.sc (R.start j) (viewG (footD o (rho s.env) s.heap) (R.start j) 0 s.heap) && (footD o (rho s.env) s.heap).all (fun b => Nat.blt b (R.start j))) with
  | false => rw [hc] at h; exact h.elim
  | true =>
  have h := h.yes hc
  simp only [Bool.and_eq_true, List.all_eq_true] at hc
  obtain ⟨hsc, hfl⟩ := hc
  have hfoot : footJ R j s = footD o (rho s.env) s.heap := by simp only [footJ, hj]
  generalize hV : viewG (footD o (rho s.env) s.heap) (R.start j) 0 s.heap = V at h hsc
  have hVl : V.length = R.start j := by rw [← hV, viewG_length]
  have hsub : Sub V s.heap := fun i ao hi => by rw [← hV] at hi; exact (viewG_get _ _ _ _ _ _ hi).1
  have hVm : ∀ id ∈ footJ R j s, ∀ ao : AO, s.heap[id]? = some (some ao) → V[id]? = some (some ao) := fun id hid ao hao => by
    rw [hfoot] at hid
    rw [← hV]
    exact viewG_mk _ _ _ _ _ _ hao (by simpa using hid) (by have := hfl id hid; simpa using this)
  rw [← hVl] at hsc
  have hd := dst_of hj
  have fin : ∀ (t : OutT), opTree P Γ o (rho s.env) V = t → ∀ r w' β', t.can r → Sim (partF β V) w β' (r.apply V) w' → Pl.Ext V.length β β' → next (a.put o.dst (r.val.conc β')) w' := fun t ht r w' β' hcan hs' hb => by
    rw [ht] at h
    have hr := OutT.wp_can h hcan
    cases hok : okD R j acc s r with
    | false => rw [hok] at hr; exact hr.elim
    | true => exact hn _ _ _ _ (hr.yes hok) (hat.next hjr hok he hs h0 hVl hsub (fun p _ hp ao hao => hVm p.1 hp ao hao) hsc hs' hb hd)
  have hp := hs.part hsub
  unfold Oper.wp
  cases ha : aop P o (rho s.env) V with
  | some t =>
    have ht : opTree P Γ o (rho s.env) V = t := by unfold opTree; rw [ha]
    obtain ⟨r, w', β', hcan, hrun, hs', hb, _⟩ := aop_tells ha β _ _ w a.eval he.eval hp hsc (by rw [ht] at h; exact OutT.wp_mono (fun _ _ => trivial) h)
    rcases hrun with hrun | ⟨hrun, hv⟩
    · rw [hrun, Oper.upon_value]; exact fin t ht r w' β' hcan hs' hb
    · rw [hrun, Oper.upon_skip, ← hv]; exact fin t ht r w' β' hcan hs' hb
  | none =>
    cases hcall : callAt Γ o (rho s.env) V with
    | none =>
      have ht : opTree P Γ o (rho s.env) V = .need false (rv (.val undef)) := by unfold opTree; rw [ha, hcall]
      rw [ht] at h; exact h.elim
    | some ft =>
      obtain ⟨f, t⟩ := ft
      have ht : opTree P Γ o (rho s.env) V = t := by unfold opTree; rw [ha, hcall]
      have hsafe : t.wp (fun _ => True) := by rw [ht] at h; exact OutT.wp_mono (fun _ _ => trivial) h
      unfold callAt at hcall
      split at hcall
      rotate_left
      · cases hcall
      rename_i x args ats ho
      split at hcall
      rotate_left
      · cases hcall
      rename_i f' first cap l hx hl
      split at hcall
      rotate_left
      · cases hcall
      rename_i c hc
      simp only [Option.map_eq_some_iff, Prod.mk.injEq] at hcall
      obtain ⟨t', ht', rfl, rfl⟩ := hcall
      obtain ⟨hok, fn, hfn, hb, hname⟩ := hΓ _ _ hc
      have hcl := hok _ _ _ ht' β _ _ w hp hsc hsafe
      have hxe : a.eval x = .func (.func f') (AV.concs β first).toArray (AV.concs β cap).toArray := by rw [he.eval x _ hx]; rfl
      rw [call_run ho hxe hfn hb hname, Oper.upon_enter]
      have hargs : (AV.concs β first).toArray ++ args.map a.eval ++ (AV.concs β cap).toArray = (AV.concs β (first ++ (l ++ cap))).toArray := by
        have : args.map a.eval = (AV.concs β l).toArray := by rw [← opsAV_spec he.eval hl, ← Array.toList_map, Array.toArray_toList]
        rw [this]
        simp [concs_map]
      rw [hargs]
      refine hcl.mono fun e w' ⟨r, β', hcan, hee, hs', hbb, _⟩ => ?_
      subst hee
      exact fin t' ht r w' β' hcan hs' hbb

theorem sc_none (n : Nat) : ∀ m, AHeap.sc n (List.replicate m (none : Option AO)) = true
  | 0 => rfl
  | m + 1 => by simp only [List.replicate_succ, AHeap.sc, sc_none n m]

/-- One operation that comes up. -/
theorem opD (hΓ : CtsOk P Γ) {F w0 k0 β0 rem acc s a w} (hat : AtD R F w0 k0 β0 rem acc s a w) {j : Nat} (hjr : j ∈ rem) {k : List Rec → AS → Prop} (h : opV P Γ R j acc s k) {next : Act → World → Prop} {Q : Exit → Act → World → Prop}
    (hn : ∀ acc' s' a' w', k acc' s' → AtD R F w0 k0 β0 (rem.erase j) acc' s' a' w' → next a' w') : wpOp P R.ops Q j next a w := by
  have hjlt := hat.remok j hjr
  have hj : R.ops[j]? = some R.ops[j] := Array.getElem?_eq_getElem hjlt
  generalize R.ops[j] = o at hj
  obtain ⟨β, he, hs, h0⟩ := hat.ex
  have skip : Bif (okD R j acc s (just (.val undef))) (k (recD R j s (just (.val undef)) :: acc) (applyD R j s (just (.val undef)))) False → next (a.put o.dst undef) w := fun hr => by
    cases hok : okD R j acc s (just (.val undef)) with
    | false => rw [hok] at hr; exact hr.elim
    | true =>
      have hr := hr.yes hok
      refine hn _ _ _ _ hr ?_
      have hz : ∀ (i : Nat) (ao : AO), (List.replicate (R.start j) (none : Option AO))[i]? ≠ some (some ao) := fun i ao => by rw [List.getElem?_replicate]; split <;> simp
      have hsub : Sub (List.replicate (R.start j) (none : Option AO)) s.heap := fun i ao hi => absurd hi (hz i ao)
      refine hat.next hjr hok he hs h0 (V := List.replicate (R.start j) none) (by simp) hsub (fun p hp => by simp [just] at hp) (sc_none _ _) (β' := β) ?_ Pl.Ext.refl (dst_of hj)
      have := hs.part hsub
      simpa [just, Res.apply, writes] using this
  unfold wpOp
  simp only [hj]
  unfold opV treeD at h
  simp only [hj] at h
  cases hg : o.guard with
  | none =>
    simp only [hg] at h
    rw [if_pos (by simp [Region.wanted, hg])]
    exact .inl (runD hΓ hat hjr hj h hn)
  | some gw =>
    obtain ⟨g, want⟩ := gw
    simp only [hg] at h
    cases hd : guardSlot R.ops g with
    | none => rw [hd] at h; exact h.elim
    | some d =>
      simp only [hd] at h
      split at h
      · rename_i b hb
        have hat0 := he.at_ d _ hb
        have hy : yielded R.ops a.tmps g = some b := by
          unfold yielded; unfold guardSlot at hd; rw [hd]; simp only [Option.bind_some, hat0, AV.conc]
        cases want <;> cases b
        · rw [if_pos (by simp [Region.wanted, hg, hy])]
          exact .inl (runD hΓ hat hjr hj h hn)
        · rw [if_neg (by simp [Region.wanted, hg, hy])]
          exact skip h
        · rw [if_neg (by simp [Region.wanted, hg, hy])]
          exact skip h
        · rw [if_pos (by simp [Region.wanted, hg, hy])]
          exact .inl (runD hΓ hat hjr hj h hn)
      · rename_i vs hb
        have hat0 := he.at_ d _ hb
        have hy : yielded R.ops a.tmps g = none := by
          unfold yielded; unfold guardSlot at hd; rw [hd]; simp only [Option.bind_some, hat0, AV.conc]
        rw [if_neg (by simp [Region.wanted, hg, hy])]
        exact skip h
      · exact h.elim

/-! ### every order -/
def listedOf (n : Nat) (rem : List Nat) (listed : Array Bool) : Prop := listed.size = n ∧ ∀ i, i < n → (listed.getD i false = true ↔ i ∉ rem)

theorem waits_listed {listed : Array Bool} (hclosed : ∀ j o, R.ops[j]? = some o → listed.getD j false = true → ∀ e ∈ o.after, Region.binds .any e = true → listed.getD e.on false = true) :
    ∀ (f j i : Nat), listed.getD j false = true → waits R f j i = true → listed.getD i false = true
  | 0, _, _, _, h => by simp [waits] at h
  | f + 1, j, i, hj, h => by
    simp only [waits] at h
    split at h
    · rename_i o ho
      simp only [List.any_eq_true, Bool.and_eq_true, Bool.or_eq_true] at h
      obtain ⟨e, he, hb, h⟩ := h
      have hl := hclosed j o ho hj e (by simpa using he) hb
      rcases h with h | h
      · have := Nat.eq_of_beq_eq_true h; rw [← this]; exact hl
      · exact waits_listed hclosed f e.on i hl h
    · cases h

theorem getD_tf {l : Array Bool} {i : Nat} (h : i < l.size) : l.getD i true = l.getD i false := by
  simp [Array.getD_eq_getD_getElem?, Array.getElem?_eq_getElem h]

theorem anyD (hΓ : CtsOk P Γ) {K : AS → Prop} (HK : ∀ s s', Eqv s s' → K s → K s') (hedge : ∀ j o, R.ops[j]? = some o → ∀ e ∈ o.after, Region.binds .any e = true → e.on < j) {F w0 k0 β0} {Q : Exit → Act → World → Prop}
    (hQ : ∀ acc s a w, K s → AtD R F w0 k0 β0 [] acc s a w → Q .normal a w) : ∀ (fuel : Nat) (rem : List Nat) (listed : Array Bool) (acc : List Rec) (s : AS) (a : Act) (w : World), rem.length = fuel → listedOf R.ops.size rem listed →
    (∀ j o, R.ops[j]? = some o → listed.getD j false = true → ∀ e ∈ o.after, Region.binds .any e = true → listed.getD e.on false = true) → remV P Γ R K rem acc s → AtD R F w0 k0 β0 rem acc s a w → wpAny P .any R.ops Q fuel listed a w
  | 0, rem, listed, acc, s, a, w, hf, hl, hc, h, hat => by
    obtain rfl := List.length_eq_zero_iff.1 hf
    refine ⟨?_, hQ acc s a w h hat⟩
    refine List.eq_nil_iff_forall_not_mem.2 fun i hi => ?_
    obtain ⟨hun, o, ho, _⟩ := mem_ready.1 hi
    have hlt := (Array.getElem?_eq_some_iff.1 ho).1
    rw [getD_tf (by rw [hl.1]; exact hlt)] at hun
    have := (hl.2 i hlt).2 (by simp)
    rw [this] at hun; cases hun
  | fuel + 1, rem, listed, acc, s, a, w, hf, hl, hc, h, hat => by
    refine ⟨fun hnone => ?_, fun i hi => ?_⟩
    · -- the least of those that are left can come up
      exfalso
      have hne : rem ≠ [] := fun e => by rw [e] at hf; cases hf
      have : ∃ m, m ∈ rem ∧ ∀ x ∈ rem, m ≤ x := by
        clear hf hl hc h hat hnone
        induction rem with
        | nil => exact absurd rfl hne
        | cons x l ih =>
          by_cases hl : l = []
          · subst hl; exact ⟨x, by simp, by simp⟩
          · obtain ⟨m, hm, hmin⟩ := ih hl
            by_cases hxm : x ≤ m
            · exact ⟨x, by simp, fun y hy => by rcases List.mem_cons.1 hy with rfl | hy; exact Nat.le_refl _; have := hmin y hy; omega⟩
            · exact ⟨m, by simp [hm], fun y hy => by rcases List.mem_cons.1 hy with rfl | hy; omega; exact hmin y hy⟩
      obtain ⟨m, hm, hmin⟩ := this
      have hmlt := hat.remok m hm
      have hr : m ∈ Region.ready .any R.ops listed := by
        refine mem_ready.2 ⟨?_, _, Array.getElem?_eq_getElem hmlt, fun e he hb => ?_⟩
        · rw [getD_tf (by rw [hl.1]; exact hmlt)]
          cases hv : listed.getD m false with
          | false => rfl
          | true => exact absurd hm ((hl.2 m hmlt).1 hv)
        · have hlt := hedge m _ (Array.getElem?_eq_getElem hmlt) e he hb
          exact (hl.2 e.on (by omega)).2 fun hh => by have := hmin _ hh; omega
      rw [hnone] at hr; cases hr
    · obtain ⟨hun, o, ho, hall⟩ := mem_ready.1 hi
      have hlt := (Array.getElem?_eq_some_iff.1 ho).1
      have hir : i ∈ rem := by
        rw [getD_tf (by rw [hl.1]; exact hlt)] at hun
        by_cases hh : i ∈ rem
        · exact hh
        · have := (hl.2 i hlt).2 hh; rw [this] at hun; cases hun
      have hw : ∀ k ∈ rem, k ≠ i → R.wt i k = false := fun k hk _ => by
        cases hv : R.wt i k with
        | false => rfl
        | true =>
          exfalso
          have hkl : listed.getD k false = true := by
            unfold Rg.wt at hv
            cases hsz : R.ops.size with
            | zero => omega
            | succ f =>
              rw [hsz] at hv
              simp only [waits, ho, List.any_eq_true, Bool.and_eq_true, Bool.or_eq_true] at hv
              obtain ⟨e, he, hb, hv⟩ := hv
              have hel := hall e (by simpa using he) hb
              rcases hv with hv | hv
              · have := Nat.eq_of_beq_eq_true hv; rw [← this]; exact hel
              · exact waits_listed hc f e.on k hel hv
          exact (hl.2 k (hat.remok k hk)).1 hkl hk
      have hop := pull HK rem h hir hat.remok hat.nodup hw
      refine opD hΓ hat hir hop fun acc' s' a' w' hk' hat' => ?_
      refine anyD hΓ HK hedge hQ fuel (rem.erase i) _ acc' s' a' w' (by rw [List.length_erase_of_mem hir]; omega) ⟨by simp [hl.1], fun k hk => ?_⟩ (fun j o' hj hlj e he hb => ?_) hk' hat'
      · by_cases hki : k = i
        · subst hki
          have : (listed.setIfInBounds k true).getD k false = true := by
            rw [Array.getD_eq_getD_getElem?, Array.getElem?_setIfInBounds_self_of_lt (by rw [hl.1]; exact hk)]; rfl
          simp only [this, true_iff]
          exact List.Nodup.not_mem_erase hat.nodup
        · rw [getD_set_ne false (Ne.symm hki), hl.2 k hk]
          exact not_congr ⟨fun h => (List.mem_erase_of_ne hki).2 h, fun h => List.mem_of_mem_erase h⟩
      · by_cases hji : j = i
        · subst hji
          have := ho.symm.trans hj
          cases this
          exact getD_set_true (hall e he hb)
        · rw [getD_set_ne false (Ne.symm hji)] at hlj
          exact getD_set_true (hc j o' hj hlj e he hb)
end

theorem padTo_eq : ∀ (n : Nat) (H : AHeap), padTo n H = H ++ List.replicate n none
  | 0, H => by simp [padTo]
  | n + 1, H => by simp only [padTo]; rw [padTo_eq n]; simp [List.replicate_succ]

theorem trimL_get : ∀ (H : AHeap) (i : Nat) (ao : AO), (trimL H)[i]? = some (some ao) → H[i]? = some (some ao)
  | [], _, _, h => by simp [trimL] at h
  | x :: r, i, ao, h => by
    simp only [trimL] at h
    split at h
    · split at h
      · simp at h
      · cases i with
        | zero => simpa using h
        | succ i => simp at h
    · rename_i y l hl
      cases i with
      | zero => simpa using h
      | succ i =>
        simp only [List.getElem?_cons_succ] at h ⊢
        rw [← hl] at h
        exact trimL_get r i ao h

def EqvC (K : AS → Prop) : AS → Prop := fun s' => ∃ s2, Eqv s2 s' ∧ K s2

theorem gdD_look {R : Rg} {j : Nat} {s : AS} {d : Nat} {b : Bool} (h : gdD R j s = some (d, b)) : look s.env d = some (.val (.bool b)) := by
  unfold gdD at h
  split at h
  rotate_left
  · cases h
  split at h
  rotate_left
  · cases h
  split at h
  rotate_left
  · cases h
  split at h
  · rename_i hl
    cases h; exact hl
  · cases h

theorem Eqv.again {s : AS} {d : Nat} {v : AV} (h : look s.env d = some v) : Eqv ⟨(d, v) :: s.env, s.heap⟩ s := by
  refine ⟨rfl, fun t => ?_⟩
  simp only [look]
  cases hb : Nat.beq d t with
  | true => have := Nat.eq_of_beq_eq_true hb; subst this; exact h
  | false => rfl

theorem remG_remV {P : Program} {Γ : Cts} {R : Rg} {K : AS → Prop} : ∀ (rem : List Nat) {acc : List Rec} {s : AS}, remG P Γ R K rem acc s → remV P Γ R (EqvC K) rem acc s
  | [], _, s, h => ⟨s, ⟨rfl, fun _ => rfl⟩, h⟩
  | j :: rem, acc, s, h => by
    have HK : ∀ s s', Eqv s s' → EqvC K s → EqvC K s' := fun s1 s2 ⟨e1, e2⟩ ⟨s3, ⟨f1, f2⟩, hk⟩ => ⟨s3, ⟨e1.trans f1, fun t => (e2 t).trans (f2 t)⟩, hk⟩
    simp only [remG] at h
    split at h
    · rename_i d b hg
      have hl := gdD_look hg
      cases b with
      | true =>
        have h1 : remV P Γ R (EqvC K) (j :: rem) acc ⟨(d, .val (.bool true)) :: s.env, s.heap⟩ := opV_mono (fun _ _ h => remG_remV rem h) h
        exact remV_eqv HK (j :: rem) (List.Perm.refl _) (Eqv.again hl) h1
      | false =>
        have h1 : remV P Γ R (EqvC K) (j :: rem) acc ⟨(d, .val (.bool false)) :: s.env, s.heap⟩ := opV_mono (fun _ _ h => remG_remV rem h) h
        exact remV_eqv HK (j :: rem) (List.Perm.refl _) (Eqv.again hl) h1
    · exact opV_mono (fun _ _ h => remG_remV rem h) h

theorem drawV_ok {P : Program} {Γ : Cts} (hΓ : CtsOk P Γ) (hm : P.follows .mixedOrders = true) {N : Nat} : ∀ id ops K s k0, drawV P Γ N k0 ops K s → ∀ F w0 β0 a w, At N F w0 k0 β0 s a w → (Code.region id ops true).wp P (fun e a' w' => e = .normal ∧ ∃ s', K s' ∧ At N F w0 k0 β0 s' a' w') a w := by
  intro id ops K s k0 h F w0 β0 a w hat
  unfold drawV at h
  cases hc : (edgesB ops && AHeap.sc s.heap.length s.heap && scE s.heap.length s.env && Nat.ble k0 s.heap.length) with
  | false => rw [hc] at h; exact h.elim
  | true =>
  have h := h.yes hc
  simp only [Bool.and_eq_true] at hc
  obtain ⟨⟨⟨hed, hscH⟩, hscE⟩, hk0⟩ := hc
  have hk0 := Nat.le_of_ble_eq_true hk0
  obtain ⟨β, he, hs, h0, _⟩ := hat.ex
  refine wp_region_any hm ?_
  have hedge : ∀ j o, ops[j]? = some o → ∀ e ∈ o.after, Region.binds .any e = true → e.on < j := fun j o hj e he hb => by
    simp only [edgesB, List.all_eq_true] at hed
    have := hed (o, j) (by rw [List.mem_zipIdx_iff_getElem?]; simpa using hj) e (by simpa using he)
    simp only [hb, Bool.not_true, Bool.false_or, Nat.blt_eq] at this
    exact this
  have hlive : ∀ (i : Nat) (ao : AO), (padTo (total ops.toList) s.heap)[i]? = some (some ao) → s.heap[i]? = some (some ao) := fun i ao hi => by
    rw [padTo_eq] at hi
    rcases Nat.lt_or_ge i s.heap.length with hl | hl
    · rwa [List.getElem?_append_left hl] at hi
    · rw [List.getElem?_append_right hl, List.getElem?_replicate] at hi
      split at hi <;> cases hi
  have hout : ∀ (R : Rg), R.base = s.heap.length → R.ops = ops → ∀ j, j < ops.size → ∀ b, Nat.blt b s.heap.length = true → R.out j b = true := fun R hb ho j hj b hlt => by
    have := range_in (R := R) (j := j) (by rw [ho]; exact hj)
    rw [Rg.out, outside_iff]
    simp only [Nat.blt_eq] at hlt
    left; omega
  have hat0 : AtD ⟨ops, N, s.heap.length⟩ F w0 k0 β0 (List.range ops.size) [] ⟨s.env, padTo (total ops.toList) s.heap⟩ a { w with drawn := w.drawn + 1 } :=
    { ex := ⟨β, he, (hs.drop hlive).drew, h0⟩
      k0le := hk0
      len := by simp only [padTo_eq, List.length_append, List.length_replicate]
      envok := fun j hj t v hv => AV.alls_mono (hout ⟨ops, N, s.heap.length⟩ rfl rfl j (List.mem_range.1 hj)) v (AV.sc_alls v (look_sc hscE hv))
      heapok := fun j hj i ao hi => AO.alls_mono (hout ⟨ops, N, s.heap.length⟩ rfl rfl j (List.mem_range.1 hj)) ao (AO.sc_alls ao (AHeap.sc_get hscH (hlive i ao hi)))
      dead := fun j hj i hi ao hao => by
        have hlt := (List.getElem?_eq_some_iff.1 (hlive i ao hao)).1
        have := hout ⟨ops, N, s.heap.length⟩ rfl rfl j (List.mem_range.1 hj) i (by simpa using hlt)
        rw [this] at hi; cases hi
      accok := fun A hA => by simp at hA
      remok := fun j hj => List.mem_range.1 hj
      nodup := List.nodup_range }
  -- what is asked at the end does not hang on how the list of slots is ordered
  let K' : AS → Prop := fun s' => ∃ s2, Eqv s2 s' ∧ Bif (Nat.ble k0 (trimL s2.heap).length) (K ⟨s2.env, trimL s2.heap⟩) False
  have hK' : remV P Γ ⟨ops, N, s.heap.length⟩ K' (List.range ops.size) [] ⟨s.env, padTo (total ops.toList) s.heap⟩ := remG_remV _ h
  refine anyD (R := ⟨ops, N, s.heap.length⟩) hΓ (K := K') ?_ hedge (fun acc s' a' w' hk' hat' => ?_) ops.size (List.range ops.size) _ [] _ a _ (by simp) ⟨by simp, fun i hi => ?_⟩ (fun j o hj hl => ?_) hK' hat0
  · rintro s1 s2 ⟨e1, e2⟩ ⟨s3, ⟨f1, f2⟩, hk⟩
    exact ⟨s3, ⟨e1.trans f1, fun t => (e2 t).trans (f2 t)⟩, hk⟩
  · obtain ⟨s2, ⟨e1, e2⟩, hb⟩ := hk'
    cases hb2 : Nat.ble k0 (trimL s2.heap).length with
    | false => rw [hb2] at hb; exact hb.elim
    | true =>
      obtain ⟨β', he', hs', h0'⟩ := hat'.ex
      refine ⟨rfl, _, hb.yes hb2, β', ⟨he'.size, fun t v hv => he'.at_ t v (by rw [e2]; exact hv), he'.defers⟩, ?_, h0', Nat.le_of_ble_eq_true hb2⟩
      exact hs'.drop fun i ao hi => by rw [e1]; exact trimL_get _ i ao hi
  · have : (Array.replicate ops.size false).getD i false = false := by simp [Array.getD_eq_getD_getElem?, Array.getElem?_replicate]; split <;> rfl
    rw [this]; simp [hi]
  · have : (Array.replicate ops.size false).getD j false = false := by simp [Array.getD_eq_getD_getElem?, Array.getElem?_replicate]; split <;> rfl
    rw [this] at hl; cases hl
end Go.Vs

namespace Go.Vs
open Go Go.RowKit
set_option linter.unusedSimpArgs false
set_option linter.unusedVariables false

/-! ### contracts under names of their own -/
theorem rens_get' {τ : List Nat} : ∀ {cs : List AV} {j : Nat} {v : AV}, (AV.rens τ cs)[j]? = some v → ∃ u, cs[j]? = some u ∧ v = u.ren τ
  | [], _, _, h => by simp [AV.rens] at h
  | x :: cs, 0, v, h => by simp [AV.rens] at h; exact ⟨x, rfl, h.symm⟩
  | x :: cs, j + 1, v, h => by simp [AV.rens] at h; simpa using rens_get' h

theorem AO.is_ren {β : Pl} {τ : List Nat} {at_ : Nat} {ao : AO} {o : Obj} (h : ao.Is (β.pull τ) at_ o) : (ao.ren τ).Is β at_ o := by
  cases ao with
  | cells rw T cs =>
    obtain ⟨c, fz, h1, h2, h3⟩ := h
    exact ⟨c, fz, h1, h2, fun j v hj => by
      obtain ⟨u, hu, rfl⟩ := rens_get' hj
      rw [AV.ren_conc]; exact h3 j u hu⟩
  | arr rw T room n cols => exact h
  | mapc rw kd agg has cols => exact h

theorem AO.live_ren {τ : List Nat} {ao : AO} (h : (ao.ren τ).live) : ao.live := by cases ao <;> exact h
theorem AO.wf_ren {τ : List Nat} {ao : AO} (h : ao.wf) : (ao.ren τ).wf := by cases ao <;> exact h

mutual
theorem AV.ren_same {σ σ' : List Nat} {n : Nat} (h : ∀ i, i < n → ren1 σ i = ren1 σ' i) : ∀ v : AV, v.sc n = true → v.ren σ = v.ren σ'
  | .val _, _ => rfl
  | .ptr b _, hs => by simp only [AV.sc, Nat.blt_eq] at hs; simp only [AV.ren, h b hs]
  | .pel b _ _ _, hs => by simp only [AV.sc, Nat.blt_eq] at hs; simp only [AV.ren, h b hs]
  | .sl _ b _ _ _ _, hs => by simp only [AV.sc, Nat.blt_eq] at hs; simp only [AV.ren, h b hs]
  | .mp b, hs => by simp only [AV.sc, Nat.blt_eq] at hs; simp only [AV.ren, h b hs]
  | .ch b, hs => by simp only [AV.sc, Nat.blt_eq] at hs; simp only [AV.ren, h b hs]
  | .fn _ a c, hs => by simp only [AV.sc, Bool.and_eq_true] at hs; simp only [AV.ren, AV.rens_same h a hs.1, AV.rens_same h c hs.2]
  | .ifc _ v, hs => by simp only [AV.sc] at hs; simp only [AV.ren, AV.ren_same h v hs]
  | .agg cs, hs => by simp only [AV.sc] at hs; simp only [AV.ren, AV.rens_same h cs hs]
  | .tup cs, hs => by simp only [AV.sc] at hs; simp only [AV.ren, AV.rens_same h cs hs]
theorem AV.rens_same {σ σ' : List Nat} {n : Nat} (h : ∀ i, i < n → ren1 σ i = ren1 σ' i) : ∀ vs : List AV, AV.scs n vs = true → AV.rens σ vs = AV.rens σ' vs
  | [], _ => rfl
  | v :: vs, hs => by simp only [AV.scs, Bool.and_eq_true] at hs; simp only [AV.rens, AV.ren_same h v hs.1, AV.rens_same h vs hs.2]
end
theorem AO.ren_same {σ σ' : List Nat} {n : Nat} (h : ∀ i, i < n → ren1 σ i = ren1 σ' i) {ao : AO} (hs : ao.sc n = true) : ao.ren σ = ao.ren σ' := by
  cases ao with
  | cells rw T cs => simp only [AO.ren, AV.rens_same h cs hs]
  | _ => rfl

mutual
theorem AV.sc_more {n m : Nat} (h : n ≤ m) : ∀ v : AV, v.sc n = true → v.sc m = true
  | .val _, _ => rfl
  | .ptr b _, hs => by simp only [AV.sc, Nat.blt_eq] at *; omega
  | .pel b _ _ _, hs => by simp only [AV.sc, Nat.blt_eq] at *; omega
  | .sl _ b _ _ _ _, hs => by simp only [AV.sc, Nat.blt_eq] at *; omega
  | .mp b, hs => by simp only [AV.sc, Nat.blt_eq] at *; omega
  | .ch b, hs => by simp only [AV.sc, Nat.blt_eq] at *; omega
  | .fn _ a c, hs => by simp only [AV.sc, Bool.and_eq_true] at *; exact ⟨AV.scs_more h a hs.1, AV.scs_more h c hs.2⟩
  | .ifc _ v, hs => by simp only [AV.sc] at *; exact AV.sc_more h v hs
  | .agg cs, hs => by simp only [AV.sc] at *; exact AV.scs_more h cs hs
  | .tup cs, hs => by simp only [AV.sc] at *; exact AV.scs_more h cs hs
theorem AV.scs_more {n m : Nat} (h : n ≤ m) : ∀ vs : List AV, AV.scs n vs = true → AV.scs m vs = true
  | [], _ => rfl
  | v :: vs, hs => by simp only [AV.scs, Bool.and_eq_true] at *; exact ⟨AV.sc_more h v hs.1, AV.scs_more h vs hs.2⟩
end
theorem AO.sc_more {n m : Nat} (h : n ≤ m) {ao : AO} (hs : ao.sc n = true) : ao.sc m = true := by
  cases ao with
  | cells rw T cs => exact AV.scs_more h cs hs
  | _ => rfl

def newIds (n : Nat) : Nat → List Nat
  | 0 => []
  | m + 1 => n :: newIds (n + 1) m
theorem newIds_length : ∀ (m n : Nat), (newIds n m).length = m
  | 0, _ => rfl
  | m + 1, n => by simp [newIds, newIds_length m]
theorem newIds_get : ∀ (m n j : Nat), j < m → (newIds n m)[j]? = some (n + j)
  | m + 1, n, 0, _ => rfl
  | m + 1, n, j + 1, h => by simp only [newIds, List.getElem?_cons_succ]; rw [newIds_get m (n + 1) j (by omega)]; congr 1; omega

def renO (σ : List Nat) : Option AO → Option AO
  | some ao => some (ao.ren σ)
  | none => none

/-- An outcome, told under the caller's names; what is new comes behind all the caller has. -/
def renR (σ : List Nat) (n : Nat) (r : Res) : Res :=
  ⟨r.val.ren (σ ++ newIds n r.new.length), r.wr.map (fun p => (ren1 σ p.1, renO (σ ++ newIds n r.new.length) p.2)), r.new.map (AO.ren (σ ++ newIds n r.new.length))⟩

def OutT.mapR (f : Res → Res) : OutT → OutT
  | .ret r => .ret (f r)
  | .need b k => .need b (k.mapR f)
  | .needP p k => .needP p (k.mapR f)
  | .split b t e => .split b (t.mapR f) (e.mapR f)
  | .all a k => .all a fun x => (k x).mapR f

theorem OutT.mapR_wp {f : Res → Res} {Q : Res → Prop} : ∀ {t : OutT}, (t.mapR f).wp Q → t.wp fun r => Q (f r)
  | .ret _, h => h
  | .need b k, h => Bif.mk (fun hb => OutT.mapR_wp (t := k) (h.yes hb)) (fun hb => (h.no hb).elim)
  | .needP p k, h => ⟨h.1, OutT.mapR_wp (t := k) h.2⟩
  | .split b t e, h => Bif.mk (fun hb => OutT.mapR_wp (t := t) (h.yes hb)) (fun hb => OutT.mapR_wp (t := e) (h.no hb))
  | .all _ k, h => fun x => OutT.mapR_wp (t := k x) (h x)

theorem OutT.mapR_can {f : Res → Res} {r : Res} : ∀ {t : OutT}, t.can r → (t.mapR f).can (f r)
  | .ret _, h => by cases h; rfl
  | .need _ k, h => ⟨h.1, OutT.mapR_can (t := k) h.2⟩
  | .needP _ k, h => ⟨h.1, OutT.mapR_can (t := k) h.2⟩
  | .split _ t e, h => h.elim (fun h => .inl ⟨h.1, OutT.mapR_can (t := t) h.2⟩) (fun h => .inr ⟨h.1, OutT.mapR_can (t := e) h.2⟩)
  | .all _ k, ⟨x, h⟩ => ⟨x, OutT.mapR_can (t := k x) h⟩

/-- The outcome speaks of what there is. -/
def resOk (K : AHeap) (r : Res) : Bool :=
  r.val.sc (K.length + r.new.length) && r.wr.all (fun p => (match K[p.1]? with | some (some _) => true | _ => false) && (match p.2 with | some ao => ao.sc (K.length + r.new.length) | none => true)) && r.new.all (AO.sc (K.length + r.new.length))

theorem ren1_app_left {σ l : List Nat} {i : Nat} (h : i < σ.length) : ren1 (σ ++ l) i = ren1 σ i := by
  simp only [ren1, List.getD_eq_getElem?_getD, List.getElem?_append_left h]
theorem ren1_app_new {σ : List Nat} {n m j : Nat} (h : j < m) : ren1 (σ ++ newIds n m) (σ.length + j) = n + j := by
  simp only [ren1, List.getD_eq_getElem?_getD, List.getElem?_append_right (Nat.le_add_right _ _), Nat.add_sub_cancel_left, newIds_get m n j h, Option.getD_some]

theorem wrAt_mem {id : Nat} {a : Option AO} : ∀ {l : List (Nat × Option AO)}, wrAt l id = some a → (id, a) ∈ l
  | [], h => by cases h
  | p :: l, h => by
    simp only [wrAt] at h
    split at h
    · rename_i a' ha'
      cases h
      exact List.mem_cons_of_mem _ (wrAt_mem ha')
    · split at h
      · rename_i hb
        have := Nat.eq_of_beq_eq_true hb
        cases h; subst this; exact List.mem_cons_self ..
      · cases h

/-- What is written, under other names. -/
theorem wrAt_ren {σ : List Nat} {g : Option AO → Option AO} (hn : nodupB σ = true) {i : Nat} (hi : i < σ.length) : ∀ {l : List (Nat × Option AO)}, (∀ p ∈ l, p.1 < σ.length) → wrAt (l.map fun p => (ren1 σ p.1, g p.2)) (ren1 σ i) = (wrAt l i).map g
  | [], _ => rfl
  | p :: l, h => by
    have inj : ren1 σ p.1 = ren1 σ i → p.1 = i := fun e => by
      have hp := h p (by simp)
      have e1 : σ[p.1]? = some (ren1 σ p.1) := by simp [ren1, List.getD_eq_getElem?_getD, List.getElem?_eq_getElem hp]
      have e2 : σ[i]? = some (ren1 σ i) := by simp [ren1, List.getD_eq_getElem?_getD, List.getElem?_eq_getElem hi]
      rw [← e] at e2
      exact nodupB_inj hn e1 e2
    simp only [List.map_cons, wrAt, wrAt_ren hn hi (l := l) (fun q hq => h q (by simp [hq]))]
    cases wrAt l i with
    | some a => rfl
    | none =>
      simp only [Option.map_none]
      cases hb : Nat.beq p.1 i with
      | true => have := Nat.eq_of_beq_eq_true hb; subst this; simp
      | false =>
        have hb2 : Nat.beq (ren1 σ p.1) (ren1 σ i) = false := by
          cases hc : Nat.beq (ren1 σ p.1) (ren1 σ i) with
          | false => rfl
          | true => have := inj (Nat.eq_of_beq_eq_true hc); rw [this] at hb; simp at hb
        rw [hb2]; rfl

def wholePl (k n m : Nat) (β1 β : Pl) : Pl := ⟨fun b => if b < n then β b else if b < n + m then β1 (k + (b - n)) else β b, β1.ice⟩

theorem Sim.wholeR {F w0 β} {H K : AHeap} {w : World} (h : Sim F w0 β H w) (hscH : AHeap.sc H.length H = true) {σ : List Nat} (hn : nodupB σ = true) (hlen : σ.length = K.length) (hσlt : ∀ i, i < σ.length → ren1 σ i < H.length) (hK : ∀ (i : Nat) (ao : AO), K[i]? = some (some ao) → H[ren1 σ i]? = some (some (ao.ren σ))) (hscK : AHeap.sc K.length K = true)
    {r : Res} {β1 : Pl} {w' : World} (h' : Sim (partF (β.pull σ) K) w β1 (r.apply K) w') (hb : Pl.Ext K.length (β.pull σ) β1) (hr : resOk K r = true) :
    ∃ β2, Sim F w0 β2 ((renR σ H.length r).apply H) w' ∧ Pl.Ext H.length β β2 ∧ (r.new = [] → ∀ b, β2 b = β b) ∧ (renR σ H.length r).val.conc β2 = r.val.conc β1 := by
  simp only [resOk, Bool.and_eq_true, List.all_eq_true] at hr
  obtain ⟨⟨hrv, hrw⟩, hrn⟩ := hr
  let m := r.new.length
  let σ' := σ ++ newIds H.length m
  have hlt : ∀ i ao, K[i]? = some (some ao) → i < σ.length := fun i ao hi => by rw [hlen]; exact (List.getElem?_eq_some_iff.1 hi).1
  have hwrlt : ∀ p ∈ r.wr, p.1 < σ.length := fun p hp => by
    have := (hrw p hp).1
    split at this
    · rename_i ao hao; exact hlt _ _ hao
    · cases this
  have hσ1 : ∀ i, i < K.length → ren1 σ' i = ren1 σ i := fun i hi => ren1_app_left (by rw [hlen]; exact hi)
  have hσ2 : ∀ j, j < m → ren1 σ' (K.length + j) = H.length + j := fun j hj => by rw [← hlen]; exact ren1_app_new hj
  have inj : ∀ i j, i < σ.length → j < σ.length → ren1 σ i = ren1 σ j → i = j := fun i j hi hj e => by
    have e1 : σ[i]? = some (ren1 σ i) := by simp [ren1, List.getD_eq_getElem?_getD, List.getElem?_eq_getElem hi]
    have e2 : σ[j]? = some (ren1 σ j) := by simp [ren1, List.getD_eq_getElem?_getD, List.getElem?_eq_getElem hj]
    rw [← e] at e2
    exact nodupB_inj hn e1 e2
  let β2 := wholePl K.length H.length m β1 β
  have hβold : ∀ b, b < H.length → β2 b = β b := fun b hb => by show (if b < H.length then β b else _) = _; rw [if_pos hb]
  have hβsame : m = 0 → ∀ b, β2 b = β b := fun h0 b => by
    show (if b < H.length then β b else if b < H.length + m then _ else β b) = _
    split
    · rfl
    · rw [if_neg (by omega)]
  have hβnew : ∀ j, j < m → β2 (H.length + j) = β1 (K.length + j) := fun j hj => by show (if H.length + j < H.length then _ else if H.length + j < H.length + m then β1 (K.length + (H.length + j - H.length)) else _) = _; rw [if_neg (by omega), if_pos (by omega), Nat.add_sub_cancel_left]
  -- where σ' leads
  have hlead : ∀ i, i < K.length + m → β2 (ren1 σ' i) = β1 i := fun i hi => by
    by_cases hik : i < K.length
    · rw [hσ1 i hik, hβold _ (hσlt i (by omega)), hb.old i hik]; rfl
    · rw [show i = K.length + (i - K.length) by omega, hσ2 _ (by omega), hβnew _ (by omega)]
  have hext1 : Pl.Ext (K.length + m) β1 (β2.pull σ') := ⟨fun b hb => hlead b hb, fun _ _ h => h⟩
  have hext2 : Pl.Ext H.length β β2 := ⟨hβold, fun b o ho => hb.ice b o ho⟩
  have hnl : (renR σ H.length r).new.length = m := by simp [renR, m]
  have hcases : ∀ (id : Nat) (ao' : AO), ((renR σ H.length r).apply H)[id]? = some (some ao') →
      (∃ i ao, i < K.length + m ∧ (r.apply K)[i]? = some (some ao) ∧ ao' = ao.ren σ' ∧ id = ren1 σ' i ∧ ao.sc (K.length + m) = true) ∨
      (H[id]? = some (some ao') ∧ ∀ i a, K[i]? = some (some a) → ren1 σ i ≠ id) := by
    intro id ao' hid
    rw [apply_get, hnl] at hid
    split at hid
    · rename_i hge
      split at hid
      · rename_i hlt'
        simp only [Option.some.injEq, renR, List.getElem?_map, Option.map_eq_some_iff] at hid
        obtain ⟨ao, hao, rfl⟩ := hid
        refine .inl ⟨K.length + (id - H.length), ao, by omega, ?_, rfl, by rw [hσ2 _ (by omega)]; omega, hrn ao (List.mem_of_getElem? hao)⟩
        rw [apply_get, if_pos (by omega), if_pos (by omega), Nat.add_sub_cancel_left, hao]
      · cases hid
    · rename_i hlt'
      rw [writes_get] at hid
      by_cases him : ∃ i, i < σ.length ∧ ren1 σ i = id
      · obtain ⟨i, hi, rfl⟩ := him
        have hwr : wrAt (renR σ H.length r).wr (ren1 σ i) = (wrAt r.wr i).map (renO σ') := wrAt_ren (g := renO σ') hn hi hwrlt
        rw [hwr] at hid
        have hiK : i < K.length := by omega
        have hap : (r.apply K)[i]? = match wrAt r.wr i with | some ao => some ao | none => K[i]? := by
          rw [apply_get, if_neg (by omega), writes_get]
          cases wrAt r.wr i with
          | some a => simp [hiK]
          | none => rfl
        cases hw : wrAt r.wr i with
        | some x =>
          rw [hw] at hid hap
          simp only [Option.map_some] at hid
          split at hid
          · simp only [Option.some.injEq] at hid
            cases x with
            | none => cases hid
            | some ao =>
              simp only [renO, Option.some.injEq] at hid
              have := (hrw _ (wrAt_mem hw)).2
              exact .inl ⟨i, ao, by omega, hap, hid.symm, (hσ1 i hiK).symm, this⟩
          · cases hid
        | none =>
          rw [hw] at hid hap
          simp only [Option.map_none] at hid
          by_cases hKi : ∃ a, K[i]? = some (some a)
          · obtain ⟨a, ha⟩ := hKi
            have := hK i a ha
            rw [hid] at this
            simp only [Option.some.injEq] at this
            have hsa := AHeap.sc_get hscK ha
            refine .inl ⟨i, a, by omega, by rw [hap]; exact ha, ?_, (hσ1 i hiK).symm, ?_⟩
            · rw [this]; exact AO.ren_same (n := K.length) (fun b hb => (hσ1 b hb).symm) hsa
            · exact AO.sc_more (by omega) hsa
          · refine .inr ⟨hid, fun i2 a ha e => ?_⟩
            have := inj i2 i (hlt i2 a ha) hi e
            subst this
            exact hKi ⟨a, ha⟩
      · have hnone : wrAt (renR σ H.length r).wr id = none := by
          cases hw : wrAt (renR σ H.length r).wr id with
          | none => rfl
          | some a =>
            have := wrAt_mem hw
            simp only [renR, List.mem_map] at this
            obtain ⟨p, hp, he⟩ := this
            simp only [Prod.mk.injEq] at he
            exact absurd ⟨p.1, hwrlt p hp, he.1⟩ him
        rw [hnone] at hid
        exact .inr ⟨hid, fun i a ha e => him ⟨i, hlt i a ha, e⟩⟩
  have hnotF : ∀ (id : Nat) (ao : AO), H[id]? = some (some ao) → ao.live → (∀ i a, K[i]? = some (some a) → ren1 σ i ≠ id) → ¬ (partF (β.pull σ) K).may (β id).1 := fun id ao hid hl hnv ⟨i, ai, hi, hli, hrwi, he⟩ =>
    h.away (hK i ai hi) hid (AO.ren_live hli) hl (hnv i ai hi) (by rw [AO.ren_rw]; exact hrwi) he
  have hmay : ∀ b, (partF (β.pull σ) K).may b → F.may b ∨ w0.heap.size ≤ b := fun b ⟨i, ai, hi, hli, hrwi, he⟩ => by
    have := h.own _ _ (hK i ai hi) (AO.ren_live hli) (by rw [AO.ren_rw]; exact hrwi)
    rw [← he]; exact this
  refine ⟨β2, ⟨h'.os.trans h.os, h'.tape.trans h.tape, h'.output.trans h.output, Nat.le_trans h.size h'.size, fun b hlt' hF => ?_, h'.ice, fun b o hbo => ?_, fun id ao hid => ?_, fun id ao hid hl => ?_, fun id ao hid hl => ?_, fun id ao hid hl hrw' => ?_, fun id ao hid hl hrw' => ?_, fun id ao hid hl hrw' => ?_, fun i j ai aj hi hj hli hlj hij hri hrj => ?_⟩, hext2, fun hnew => hβsame (by simp [m, hnew]), ?_⟩
  · have := h.size
    rw [h'.block b (by omega) (fun hm => by rcases hmay b hm with h1 | h1; exact hF h1; omega)]
    exact h.block b hlt' hF
  · rcases h'.iceF b o hbo with h1 | h1 | h1
    · exact h.iceF b o h1
    · exact .inr (hmay b h1)
    · exact .inr (.inr (Nat.le_trans h.size h1))
  · rcases hcases id ao hid with ⟨i, a, h1, h2, rfl, rfl, h5⟩ | ⟨h1, h2⟩
    · exact AO.wf_ren (h'.wf i a h2)
    · exact h.wf id ao h1
  · rcases hcases id ao hid with ⟨i, a, h1, h2, rfl, rfl, h5⟩ | ⟨h1, h2⟩
    · rw [hlead i h1]; exact h'.spot i a h2 (AO.live_ren hl)
    · rw [hβold id (List.getElem?_eq_some_iff.1 h1).1]; exact h.spot id ao h1 hl
  · rcases hcases id ao hid with ⟨i, a, h1, h2, rfl, rfl, h5⟩ | ⟨h1, h2⟩
    · obtain ⟨o, ho, his⟩ := h'.obj i a h2 (AO.live_ren hl)
      rw [hlead i h1]
      exact ⟨o, ho, AO.is_ren (his.same hext1 h5)⟩
    · obtain ⟨o, ho, his⟩ := h.obj id ao h1 hl
      rw [hβold id (List.getElem?_eq_some_iff.1 h1).1]
      refine ⟨o, ?_, his.same hext2 (AHeap.sc_get hscH h1)⟩
      rw [h'.block _ (h.lt h1 hl) (hnotF id ao h1 hl h2)]
      exact ho
  · rcases hcases id ao hid with ⟨i, a, h1, h2, rfl, rfl, h5⟩ | ⟨h1, h2⟩
    · rw [hlead i h1]
      rcases h'.own i a h2 (AO.live_ren hl) (by rw [AO.ren_rw] at hrw'; exact hrw') with h3 | h3
      · exact hmay _ h3
      · exact .inr (Nat.le_trans h.size h3)
    · rw [hβold id (List.getElem?_eq_some_iff.1 h1).1]; exact h.own id ao h1 hl hrw'
  · rcases hcases id ao hid with ⟨i, a, h1, h2, rfl, rfl, h5⟩ | ⟨h1, h2⟩
    · rw [hlead i h1]; exact h'.out i a h2 (AO.live_ren hl) (by rw [AO.ren_rw] at hrw'; exact hrw')
    · rw [hβold id (List.getElem?_eq_some_iff.1 h1).1]
      intro o ho
      rcases h'.iceF _ o ho with h3 | h3 | h3
      · exact h.out id ao h1 hl hrw' o h3
      · exact hnotF id ao h1 hl h2 h3
      · have := h.lt h1 hl; omega
  · rcases hcases id ao hid with ⟨i, a, h1, h2, rfl, rfl, h5⟩ | ⟨h1, h2⟩
    · rw [hlead i h1]; exact h'.ro i a h2 (AO.live_ren hl) (by rw [AO.ren_rw] at hrw'; exact hrw')
    · rw [hβold id (List.getElem?_eq_some_iff.1 h1).1]
      obtain ⟨o, ho⟩ := h.ro id ao h1 hl hrw'
      exact ⟨o, hb.ice _ _ ho⟩
  · have hpart : ∀ (i id : Nat) (a ao : AO), (r.apply K)[i]? = some (some a) → a.live → a.rw = true → H[id]? = some (some ao) → ao.live → (∀ i a, K[i]? = some (some a) → ren1 σ i ≠ id) → (β1 i).1 ≠ (β id).1 := by
      intro i id a ao hi' hl' hrw' hid' hlo hnv e
      rcases h'.own i a hi' hl' hrw' with h3 | h3
      · rw [e] at h3; exact hnotF id ao hid' hlo hnv h3
      · have := h.lt hid' hlo; omega
    rcases hcases i ai hi with ⟨i1, a1, h1, h2, rfl, rfl, h5⟩ | ⟨h1, h2⟩ <;> rcases hcases j aj hj with ⟨j1, b1, g1, g2, rfl, rfl, g5⟩ | ⟨g1, g2⟩
    · rw [hlead i1 h1, hlead j1 g1]
      exact h'.apart i1 j1 a1 b1 h2 g2 (AO.live_ren hli) (AO.live_ren hlj) (fun e => hij (by rw [e])) (by rw [AO.ren_rw] at hri; exact hri) (by rw [AO.ren_rw] at hrj; exact hrj)
    · rw [hlead i1 h1, hβold j (List.getElem?_eq_some_iff.1 g1).1]
      exact hpart i1 j a1 aj h2 (AO.live_ren hli) (by rw [AO.ren_rw] at hri; exact hri) g1 hlj g2
    · rw [hlead j1 g1, hβold i (List.getElem?_eq_some_iff.1 h1).1]
      exact fun e => hpart j1 i b1 ai g2 (AO.live_ren hlj) (by rw [AO.ren_rw] at hrj; exact hrj) h1 hli h2 e.symm
    · rw [hβold i (List.getElem?_eq_some_iff.1 h1).1, hβold j (List.getElem?_eq_some_iff.1 g1).1]
      exact h.apart i j ai aj h1 g1 hli hlj hij hri hrj
  · show (r.val.ren σ').conc β2 = _
    rw [AV.ren_conc, AV.conc_same hext1.old r.val hrv]

/-- What a function does, told for arguments and memory under names of their own. -/
structure Spec where
  X : Type
  pat : X → List AV × AHeap
  fnd : List AV → AHeap → Option (X × List Nat)
  out : X → OutT

/-- What is found is there. -/
def Spec.Found (S : Spec) : Prop := ∀ args H x σ, S.fnd args H = some (x, σ) → args = AV.rens σ (S.pat x).1 ∧ ∀ (i : Nat) (ao : AO), (S.pat x).2[i]? = some (some ao) → H[ren1 σ i]? = some (some (ao.ren σ))

def Spec.ct (S : Spec) : Ct := fun args H =>
  match S.fnd args H with
  | some (x, σ) =>
    if nodupB σ && Nat.beq σ.length (S.pat x).2.length && σ.all (fun b => Nat.blt b H.length) && AHeap.sc (S.pat x).2.length (S.pat x).2 then some ((S.out x).mapR (renR σ H.length)) else none
  | none => none

/-- What is to be shown of a function's end: its result, and memory, are what an outcome tells, if regions are called otherwise. -/
def Good (t : OutT) (K : AHeap) (v : AV) (H' : AHeap) : Prop :=
  ∃ r τ, t.can r ∧ resOk K r = true ∧ Fits K.length τ ⟨[(0, v)], H'⟩ ⟨[(0, r.val)], r.apply K⟩

theorem Spec.ok {P : Program} {Γ : Cts} (hΓ : CtsOk P Γ) {L : Loops} {D : Nat → Nat → Array Oper → (AS → Prop) → AS → Prop} {k : Nat} (hD : ∀ N, DOk P N k (D N)) {f : FuncId} {fn : Func} (hf : P.funcs[f]? = some fn) (S : Spec) (hfnd : S.Found) (hk : ∀ x, (S.pat x).2.length = k)
    (h : ∀ x, (S.out x).wp (fun _ => True) → fnVC P Γ L D fn (S.pat x).1 (S.pat x).2 (Good (S.out x) (S.pat x).2)) : CtOk P f S.ct := by
  intro args H t ht β F w0 w hs hsc hsafe
  unfold Spec.ct at ht
  split at ht
  rotate_left
  · cases ht
  rename_i x σ hx
  split at ht
  rotate_left
  · cases ht
  rename_i hc
  cases ht
  simp only [Bool.and_eq_true, List.all_eq_true] at hc
  obtain ⟨⟨⟨hn, hl⟩, hσ⟩, hscK⟩ := hc
  have hl := Nat.eq_of_beq_eq_true hl
  obtain ⟨ha, hK⟩ := hfnd args H x σ hx
  have hpull := hs.pull hn (K := (S.pat x).2) (by omega) (fun i ao hi => .inr (hK i ao hi))
  have hpart := hpull.part (V := (S.pat x).2) (fun _ _ h => h)
  have hargs : AV.concs β args = AV.concs (β.pull σ) (S.pat x).1 := by rw [ha, AV.rens_concs]
  rw [hargs]
  refine (fnVC_sound hΓ (H := (S.pat x).2) (D := D) (by rw [hk x]; exact hD) hf (h x (OutT.wp_mono (fun _ _ => trivial) (OutT.mapR_wp hsafe))) hpart).mono fun e w' ⟨v, H', β', ⟨r, τ, hcan, hrok, hfit⟩, he, hs', hext, hle⟩ => ?_
  subst he
  unfold Fits at hfit
  cases hb : (nodupB (standsAt τ 0 (r.apply (S.pat x).2)) && Nat.beq τ.length (r.apply (S.pat x).2).length && idUpTo τ (S.pat x).2.length && Nat.ble (S.pat x).2.length (r.apply (S.pat x).2).length) with
  | false => simp only [hb] at hfit; exact hfit.elim
  | true =>
  simp only [hb] at hfit
  obtain ⟨h1, h2⟩ := hfit
  simp only [Bool.and_eq_true] at hb
  obtain ⟨⟨⟨b1, b2⟩, b3⟩, b4⟩ := hb
  have b2 := Nat.eq_of_beq_eq_true b2
  have hv : v.conc β' = r.val.conc (β'.pull τ) := by
    obtain ⟨u, hu, hfv⟩ := envFits_look (t := 0) (v := r.val) h1 rfl
    simp [look] at hu
    subst hu
    exact fitsV_conc hfv
  have hs2 := hs'.pullF (K := r.apply (S.pat x).2) (standsAt_inj b1) (fun i ao hi => by simpa using heapFits_get h2 hi)
  have hext2 : Pl.Ext (S.pat x).2.length (β.pull σ) (β'.pull τ) := ⟨fun b hb => by
    show β' (ren1 τ b) = _
    rw [idUpTo_get b3 hb]; exact hext.old b hb, hext.ice⟩
  obtain ⟨β2, g1, g2, g3, g4⟩ := hs.wholeR hsc hn hl (fun i hi => by
    have := hσ (ren1 σ i) (by
      have e1 : σ[i]? = some (ren1 σ i) := by simp [ren1, List.getD_eq_getElem?_getD, List.getElem?_eq_getElem hi]
      exact List.mem_of_getElem? e1)
    simpa using this) hK hscK hs2 hext2 hrok
  exact ⟨_, β2, OutT.mapR_can hcan, by rw [hv, g4], g1, g2, fun hnew => g3 (by simpa [renR] using hnew)⟩
end Go.Vs

namespace Go.Vs
open Go Go.RowKit
set_option linter.unusedSimpArgs false
set_option linter.unusedVariables false

/-! ### contracts that are computed: functions without loops -/
def OutT.bind : OutT → (Res → OutT) → OutT
  | .ret r, f => f r
  | .need b k, f => .need b (k.bind f)
  | .needP p k, f => .needP p (k.bind f)
  | .split b t e, f => .split b (t.bind f) (e.bind f)
  | .all a k, f => .all a fun x => (k x).bind f

theorem OutT.bind_wp {f : Res → OutT} {Q : Res → Prop} : ∀ {t : OutT}, (t.bind f).wp Q → t.wp fun r => (f r).wp Q
  | .ret _, h => h
  | .need b k, h => Bif.mk (fun hb => OutT.bind_wp (t := k) (h.yes hb)) (fun hb => (h.no hb).elim)
  | .needP p k, h => ⟨h.1, OutT.bind_wp (t := k) h.2⟩
  | .split b t e, h => Bif.mk (fun hb => OutT.bind_wp (t := t) (h.yes hb)) (fun hb => OutT.bind_wp (t := e) (h.no hb))
  | .all _ k, h => fun x => OutT.bind_wp (t := k x) (h x)

def failT : OutT := .need false (rv (.val undef))
theorem failT_wp {Q : Res → Prop} (h : failT.wp Q) : False := h

abbrev KT := AS → List Nat → OutT

def finT (N : Nat) (o : Oper) (s : AS) (wr : List Nat) (r : Res) (K : KT) : OutT :=
  .need ((r.new.isEmpty || scE s.heap.length s.env) && okDst N o.dst) (K ⟨putE s.env o.dst r.val, r.apply s.heap⟩ (r.wr.map (·.1) ++ wr))

def stepT (P : Program) (Γ : Cts) (N : Nat) (o : Oper) (s : AS) (wr : List Nat) (K : KT) : OutT :=
  .need (AHeap.sc s.heap.length s.heap) ((opTree P Γ o (rho s.env) s.heap).bind fun r => finT N o s wr r K)

/-- What was there, and is not told as written, is as it was. -/
def Kept (k0 : Nat) (H0 : AHeap) (s : AS) (wr : List Nat) : Prop := ∀ i, i < k0 → i ∉ wr → s.heap[i]? = H0[i]?

theorem Kept.apply {k0 : Nat} {H0 : AHeap} {s : AS} {wr : List Nat} (h : Kept k0 H0 s wr) (hk : k0 ≤ s.heap.length) (r : Res) (env : Env) : Kept k0 H0 ⟨env, r.apply s.heap⟩ (r.wr.map (·.1) ++ wr) := by
  intro i hi hn
  simp only [List.mem_append, not_or] at hn
  rw [← h i hi hn.2]
  show (r.apply s.heap)[i]? = _
  rw [apply_get, if_neg (by omega), writes_get, wrAt_none hn.1]

theorem stepT_vc {P : Program} {Γ : Cts} {N k0 : Nat} {H0 : AHeap} {o : Oper} {s : AS} {wr : List Nat} {K : KT} {Q : Res → Prop} (h : (stepT P Γ N o s wr K).wp Q) (hi : Kept k0 H0 s wr) (hk : k0 ≤ s.heap.length) :
    stepV P Γ N o s fun s' => k0 ≤ s'.heap.length ∧ ∃ wr', Kept k0 H0 s' wr' ∧ (K s' wr').wp Q := by
  unfold stepT at h
  simp only [OutT.wp] at h
  unfold stepV
  refine Bif.mk (fun hb => ?_) (fun hb => (h.no hb).elim)
  have h := OutT.bind_wp (h.yes hb)
  have fin : ∀ r : Res, (finT N o s wr r K).wp Q → finish N o s r fun s' => k0 ≤ s'.heap.length ∧ ∃ wr', Kept k0 H0 s' wr' ∧ (K s' wr').wp Q := fun r hr => by
    unfold finT at hr
    unfold finish
    refine Bif.mk (fun hb => ?_) (fun hb => (hr.no hb).elim)
    exact ⟨Nat.le_trans hk (apply_le r _), _, hi.apply hk r _, hr.yes hb⟩
  unfold opTree at h
  cases ha : aop P o (rho s.env) s.heap with
  | some t =>
    simp only [ha] at h ⊢
    exact OutT.wp_mono fin h
  | none =>
    simp only [ha] at h ⊢
    cases hc : callAt Γ o (rho s.env) s.heap with
    | some ft =>
      simp only [hc] at h ⊢
      exact OutT.wp_mono fin h
    | none => simp only [hc] at h; exact h.elim

def seqT (P : Program) (Γ : Cts) (N : Nat) (ops : Array Oper) : List Oper → KT → AS → List Nat → OutT
  | [], K, s, wr => K s wr
  | o :: rest, K, s, wr =>
    match o.guard with
    | none => stepT P Γ N o s wr fun s' wr' => seqT P Γ N ops rest K s' wr'
    | some (j, want) =>
      match guardSlot ops j with
      | none => failT
      | some d =>
        match look s.env d with
        | some (.val (.bool b)) =>
          match want with
          | true => .need (Nat.blt d N && okDst N o.dst) (.split b (stepT P Γ N o ⟨(d, .val (.bool true)) :: s.env, s.heap⟩ wr fun s' wr' => seqT P Γ N ops rest K s' wr') (seqT P Γ N ops rest K ⟨putE ((d, .val (.bool false)) :: s.env) o.dst (.val undef), s.heap⟩ wr))
          | false => .need (Nat.blt d N && okDst N o.dst) (.split b (seqT P Γ N ops rest K ⟨putE ((d, .val (.bool true)) :: s.env) o.dst (.val undef), s.heap⟩ wr) (stepT P Γ N o ⟨(d, .val (.bool false)) :: s.env, s.heap⟩ wr fun s' wr' => seqT P Γ N ops rest K s' wr'))
        | some (.val (.tuple _)) => .need (okDst N o.dst) (seqT P Γ N ops rest K ⟨putE s.env o.dst (.val undef), s.heap⟩ wr)
        | _ => failT

theorem stepV_mono {P : Program} {Γ : Cts} {N : Nat} {o : Oper} {s : AS} {K K' : AS → Prop} (hk : ∀ s, K s → K' s) (h : stepV P Γ N o s K) : stepV P Γ N o s K' := by
  unfold stepV at h ⊢
  refine Bif.mk (fun hb => ?_) (fun hb => (h.no hb).elim)
  have h := h.yes hb
  have fin : ∀ r : Res, finish N o s r K → finish N o s r K' := fun r hr => by
    unfold finish at hr ⊢
    exact Bif.mk (fun hb => hk _ (hr.yes hb)) (fun hb => (hr.no hb).elim)
  split at h
  · exact OutT.wp_mono fin h
  · split at h
    · exact OutT.wp_mono fin h
    · exact h.elim

/-- What is held of the state, and of what is told as written. -/
def InvT (k0 : Nat) (H0 : AHeap) (K : KT) (Q : Res → Prop) (s : AS) : Prop := k0 ≤ s.heap.length ∧ ∃ wr, Kept k0 H0 s wr ∧ (K s wr).wp Q

theorem seqT_vc {P : Program} {Γ : Cts} {N k0 : Nat} {H0 : AHeap} {ops : Array Oper} {Q : Res → Prop} : ∀ (l : List Oper) {K : KT} {s : AS} {wr : List Nat}, (seqT P Γ N ops l K s wr).wp Q → Kept k0 H0 s wr → k0 ≤ s.heap.length →
    seqOps P Γ N ops l (InvT k0 H0 K Q) s
  | [], K, s, wr, h, hi, hk => ⟨hk, wr, hi, h⟩
  | o :: rest, K, s, wr, h, hi, hk => by
    have next : ∀ s', k0 ≤ s'.heap.length ∧ (∃ wr', Kept k0 H0 s' wr' ∧ (seqT P Γ N ops rest K s' wr').wp Q) → seqOps P Γ N ops rest (InvT k0 H0 K Q) s' := fun s' ⟨hk', wr', hi', h'⟩ => seqT_vc rest h' hi' hk'
    simp only [seqT] at h
    simp only [seqOps]
    cases hg : o.guard with
    | none =>
      simp only [hg] at h ⊢
      exact stepV_mono next (stepT_vc h hi hk)
    | some gw =>
      obtain ⟨j, want⟩ := gw
      simp only [hg] at h ⊢
      cases hd : guardSlot ops j with
      | none => simp only [hd] at h; exact h.elim
      | some d =>
        simp only [hd] at h ⊢
        split at h
        · rename_i b hb
          simp only [hb]
          cases want with
          | true =>
            simp only [OutT.wp] at h
            refine Bif.mk (fun hc => ?_) (fun hc => (h.no hc).elim)
            have h := h.yes hc
            exact Bif.mk (fun hb => stepV_mono next (stepT_vc (h.yes hb) (s := ⟨(d, .val (.bool true)) :: s.env, s.heap⟩) hi hk)) (fun hb => seqT_vc rest (h.no hb) hi hk)
          | false =>
            simp only [OutT.wp] at h
            refine Bif.mk (fun hc => ?_) (fun hc => (h.no hc).elim)
            have h := h.yes hc
            exact Bif.mk (fun hb => seqT_vc rest (h.yes hb) hi hk) (fun hb => stepV_mono next (stepT_vc (h.no hb) (s := ⟨(d, .val (.bool false)) :: s.env, s.heap⟩) hi hk))
        · rename_i vs hb
          simp only [hb]
          simp only [OutT.wp] at h
          exact Bif.mk (fun hc => seqT_vc rest (h.yes hc) hi hk) (fun hc => (h.no hc).elim)
        · exact h.elim

/-! regions that draw their order -/
def opT (P : Program) (Γ : Cts) (R : Rg) (j : Nat) (acc : List Rec) (s : AS) (wr : List Nat) (k : List Rec → AS → List Nat → OutT) : OutT :=
  (treeD P Γ R j s).bind fun r => .need (okD R j acc s r) (k (recD R j s r :: acc) (applyD R j s r) (r.wr.map (·.1) ++ wr))
def remT (P : Program) (Γ : Cts) (R : Rg) (K : KT) : List Nat → List Rec → AS → List Nat → OutT
  | [], _, s, wr => K s wr
  | j :: rem, acc, s, wr =>
    match gdD R j s with
    | some (d, b) => .split b (opT P Γ R j acc ⟨(d, .val (.bool true)) :: s.env, s.heap⟩ wr fun acc' s' wr' => remT P Γ R K rem acc' s' wr') (opT P Γ R j acc ⟨(d, .val (.bool false)) :: s.env, s.heap⟩ wr fun acc' s' wr' => remT P Γ R K rem acc' s' wr')
    | none => opT P Γ R j acc s wr fun acc' s' wr' => remT P Γ R K rem acc' s' wr'

def drawT (P : Program) (Γ : Cts) (N k0 : Nat) (ops : Array Oper) (K : KT) (s : AS) (wr : List Nat) : OutT :=
  .need (edgesB ops && AHeap.sc s.heap.length s.heap && scE s.heap.length s.env && Nat.ble k0 s.heap.length)
    (remT P Γ ⟨ops, N, s.heap.length⟩ (fun s' wr' => .need (Nat.ble k0 (trimL s'.heap).length) (K ⟨s'.env, trimL s'.heap⟩ wr')) (List.range ops.size) [] ⟨s.env, padTo (total ops.toList) s.heap⟩ wr)

theorem opT_vc {P : Program} {Γ : Cts} {R : Rg} {k0 : Nat} {H0 : AHeap} {Q : Res → Prop} (hkb : k0 ≤ R.base) {j : Nat} (hj : j < R.ops.size) {acc : List Rec} {s : AS} {wr : List Nat} {k : List Rec → AS → List Nat → OutT} (h : (opT P Γ R j acc s wr k).wp Q) (hi : Kept k0 H0 s wr) :
    opV P Γ R j acc s fun acc' s' => ∃ wr', Kept k0 H0 s' wr' ∧ (k acc' s' wr').wp Q := by
  simp only [opV, opT] at h ⊢
  refine OutT.wp_mono (fun r hr => ?_) (OutT.bind_wp h)
  simp only [OutT.wp] at hr
  refine Bif.mk (fun hc => ?_) (fun hc => (hr.no hc).elim)
  refine ⟨_, ?_, hr.yes hc⟩
  intro i hi' hn
  simp only [List.mem_append, not_or] at hn
  rw [← hi i hi' hn.2]
  have := (range_in hj).1
  exact applyAt_out hn.1 (by omega)

theorem remT_vc {P : Program} {Γ : Cts} {R : Rg} {k0 : Nat} {H0 : AHeap} {Q : Res → Prop} (hkb : k0 ≤ R.base) : ∀ (rem : List Nat) {K : KT} {acc : List Rec} {s : AS} {wr : List Nat}, (remT P Γ R K rem acc s wr).wp Q → Kept k0 H0 s wr → (∀ j ∈ rem, j < R.ops.size) →
    remG P Γ R (fun s' => ∃ wr', Kept k0 H0 s' wr' ∧ (K s' wr').wp Q) rem acc s
  | [], K, acc, s, wr, h, hi, _ => ⟨wr, hi, h⟩
  | j :: rem, K, acc, s, wr, h, hi, hj => by
    have next : ∀ acc' s', (∃ wr', Kept k0 H0 s' wr' ∧ (remT P Γ R K rem acc' s' wr').wp Q) → remG P Γ R (fun s' => ∃ wr', Kept k0 H0 s' wr' ∧ (K s' wr').wp Q) rem acc' s' := fun acc' s' ⟨wr', hi', h'⟩ => remT_vc hkb rem h' hi' (fun i hi => hj i (by simp [hi]))
    simp only [remT] at h
    simp only [remG]
    split at h
    · rename_i d b hg
      simp only [hg]
      simp only [OutT.wp] at h
      exact Bif.mk (fun hb => opV_mono next (opT_vc hkb (hj j (by simp)) (h.yes hb) (s := ⟨(d, .val (.bool true)) :: s.env, s.heap⟩) hi)) (fun hb => opV_mono next (opT_vc hkb (hj j (by simp)) (h.no hb) (s := ⟨(d, .val (.bool false)) :: s.env, s.heap⟩) hi))
    · rename_i hg
      simp only [hg]
      exact opV_mono next (opT_vc hkb (hj j (by simp)) h hi)

theorem trimL_same : ∀ (H : AHeap) (i : Nat), i < (trimL H).length → (trimL H)[i]? = H[i]?
  | [], i, h => by simp [trimL] at h
  | x :: r, i, h => by
    simp only [trimL] at h ⊢
    split at h
    · rename_i hr
      split at h
      · simp at h
      · rename_i ao
        have : i = 0 := by simp at h; exact h
        subst this; rfl
    · rename_i y l hl
      cases i with
      | zero => rfl
      | succ i =>
        simp only [List.getElem?_cons_succ]
        rw [← hl]
        exact trimL_same r i (by rw [hl]; simpa using h)

theorem remG_mono {P : Program} {Γ : Cts} {R : Rg} {K K' : AS → Prop} (hk : ∀ s, K s → K' s) : ∀ (rem : List Nat) {acc : List Rec} {s : AS}, remG P Γ R K rem acc s → remG P Γ R K' rem acc s
  | [], _, _, h => hk _ h
  | j :: rem, acc, s, h => by
    simp only [remG] at h ⊢
    split at h
    · exact Bif.mk (fun hb => opV_mono (fun _ _ h => remG_mono hk rem h) (h.yes hb)) (fun hb => opV_mono (fun _ _ h => remG_mono hk rem h) (h.no hb))
    · exact opV_mono (fun _ _ h => remG_mono hk rem h) h

theorem drawT_vc {P : Program} {Γ : Cts} {N k0 : Nat} {H0 : AHeap} {ops : Array Oper} {K : KT} {Q : Res → Prop} {s : AS} {wr : List Nat} (h : (drawT P Γ N k0 ops K s wr).wp Q) (hi : Kept k0 H0 s wr) (hk : k0 ≤ s.heap.length) :
    drawV P Γ N k0 ops (InvT k0 H0 K Q) s := by
  unfold drawT at h
  simp only [OutT.wp] at h
  unfold drawV
  refine Bif.mk (fun hc => ?_) (fun hc => (h.no hc).elim)
  refine remG_mono (fun s' ⟨wr', hi', h'⟩ => ?_) _ (remT_vc (R := ⟨ops, N, s.heap.length⟩) hk _ (h.yes hc) (k0 := k0) (H0 := H0) ?_ (fun j hj => List.mem_range.1 hj))
  · intro i hi2 hn
    show (padTo _ s.heap)[i]? = _
    rw [padTo_eq, List.getElem?_append_left (by omega)]; exact hi i hi2 hn
  · simp only [OutT.wp] at h'
    refine Bif.mk (fun hb => ?_) (fun hb => (h'.no hb).elim)
    have hle := Nat.le_of_ble_eq_true hb
    refine ⟨hle, wr', fun i hi2 hn => ?_, h'.yes hb⟩
    show (trimL s'.heap)[i]? = _
    rw [trimL_same _ _ (by omega)]; exact hi' i hi2 hn

/-! code -/
theorem seqOps_mono {P : Program} {Γ : Cts} {N : Nat} {ops : Array Oper} {K K' : AS → Prop} (hk : ∀ s, K s → K' s) : ∀ (l : List Oper) {s : AS}, seqOps P Γ N ops l K s → seqOps P Γ N ops l K' s
  | [], _, h => hk _ h
  | o :: rest, s, h => by
    simp only [seqOps] at h ⊢
    split at h
    · exact stepV_mono (fun _ h => seqOps_mono hk rest h) h
    · split at h
      · exact h.elim
      · split at h
        · split at h
          · exact Bif.mk (fun hc => Bif.mk (fun hb => stepV_mono (fun _ h => seqOps_mono hk rest h) ((h.yes hc).yes hb)) (fun hb => seqOps_mono hk rest ((h.yes hc).no hb))) (fun hc => (h.no hc).elim)
          · exact Bif.mk (fun hc => Bif.mk (fun hb => seqOps_mono hk rest ((h.yes hc).yes hb)) (fun hb => stepV_mono (fun _ h => seqOps_mono hk rest h) ((h.yes hc).no hb))) (fun hc => (h.no hc).elim)
        · exact Bif.mk (fun hc => seqOps_mono hk rest (h.yes hc)) (fun hc => (h.no hc).elim)
        · exact h.elim

theorem drawV_mono {P : Program} {Γ : Cts} {N k0 : Nat} {ops : Array Oper} {K K' : AS → Prop} (hk : ∀ s, K s → K' s) {s : AS} (h : drawV P Γ N k0 ops K s) : drawV P Γ N k0 ops K' s := by
  unfold drawV at h ⊢
  exact Bif.mk (fun hc => remG_mono (fun s h => Bif.mk (fun hb => hk _ (h.yes hb)) (fun hb => (h.no hb).elim)) _ (h.yes hc)) (fun hc => (h.no hc).elim)

theorem vc_mono {P : Program} {Γ : Cts} {N k0 : Nat} {L : Loops} : ∀ {Q Q' : Ex → AS → Prop} (hq : ∀ e s, Q e s → Q' e s) (c : Code) {s : AS},
    vc P Γ N k0 L (fun _ ops K s => drawV P Γ N k0 ops K s) c Q s → vc P Γ N k0 L (fun _ ops K s => drawV P Γ N k0 ops K s) c Q' s
  | Q, Q', hq, .skip, s, h => hq _ _ h
  | Q, Q', hq, .label _, s, h => hq _ _ h
  | Q, Q', hq, .exit id, s, h => hq _ _ h
  | Q, Q', hq, .ret, s, h => hq _ _ h
  | Q, Q', hq, .region id ops draw, s, h => by
    cases draw with
    | true => exact drawV_mono (K := Q .normal) (K' := Q' .normal) (fun s h => hq _ _ h) h
    | false => exact seqOps_mono (K := Q .normal) (K' := Q' .normal) (fun s h => hq _ _ h) _ h
  | Q, Q', hq, .seq a b, s, h => by
    simp only [vc] at h ⊢
    refine vc_mono (fun e s' h => ?_) a h
    cases e with
    | normal => exact vc_mono hq b h
    | exit i => exact hq _ _ h
    | ret => exact hq _ _ h
  | Q, Q', hq, .cond c t f, s, h => by
    simp only [vc] at h ⊢
    split at h
    · exact Bif.mk (fun hc => vc_mono hq t (h.yes hc)) (fun hc => vc_mono hq f (h.no hc))
    · exact h.elim
  | Q, Q', hq, .block id body, s, h => by
    simp only [vc] at h ⊢
    refine vc_mono (fun e s' h => ?_) body h
    cases e with
    | normal => exact hq _ _ h
    | exit i => exact Bif.mk (fun hc => hq _ _ (h.yes hc)) (fun hc => hq _ _ (h.no hc))
    | ret => exact hq _ _ h
  | Q, Q', hq, .loop body, s, h => by
    simp only [vc] at h ⊢
    split at h
    · refine ⟨h.1, fun x hx => vc_mono (fun e s' h => ?_) body (h.2 x hx)⟩
      cases e with
      | normal => exact h
      | exit i => exact hq _ _ h
      | ret => exact hq _ _ h
    · exact h.elim
  | Q, Q', hq, .rangeFunc .., s, h => h.elim
  | Q, Q', hq, .scope _, s, h => h.elim
  | Q, Q', hq, .goto _, s, h => h.elim
  | Q, Q', hq, .refuse _, s, h => h.elim

def execT (P : Program) (Γ : Cts) (N k0 : Nat) : Code → (Ex → KT) → KT
  | .skip, K, s, wr => K .normal s wr
  | .label _, K, s, wr => K .normal s wr
  | .region id ops draw, K, s, wr => match draw with | true => drawT P Γ N k0 ops (K .normal) s wr | false => seqT P Γ N ops ops.toList (K .normal) s wr
  | .seq a b, K, s, wr => execT P Γ N k0 a (fun e s' wr' => match e with | .normal => execT P Γ N k0 b K s' wr' | .exit i => K (.exit i) s' wr' | .ret => K .ret s' wr') s wr
  | .cond c t f, K, s, wr => match rho s.env c with | some (.val (.bool b)) => .split b (execT P Γ N k0 t K s wr) (execT P Γ N k0 f K s wr) | _ => failT
  | .block id body, K, s, wr => execT P Γ N k0 body (fun e s' wr' => match e with | .normal => K .normal s' wr' | .exit i => (match Nat.beq i id with | true => K .normal s' wr' | false => K (.exit i) s' wr') | .ret => K .ret s' wr') s wr
  | .exit id, K, s, wr => K (.exit id) s wr
  | .ret, K, s, wr => K .ret s wr
  | _, _, _, _ => failT

theorem execT_vc {P : Program} {Γ : Cts} {N k0 : Nat} {H0 : AHeap} {L : Loops} {Q : Res → Prop} : ∀ (c : Code) {K : Ex → KT} {s : AS} {wr : List Nat}, (execT P Γ N k0 c K s wr).wp Q → Kept k0 H0 s wr → k0 ≤ s.heap.length →
    vc P Γ N k0 L (fun _ ops K s => drawV P Γ N k0 ops K s) c (fun e s' => InvT k0 H0 (K e) Q s') s
  | .skip, K, s, wr, h, hi, hk => ⟨hk, wr, hi, h⟩
  | .label _, K, s, wr, h, hi, hk => ⟨hk, wr, hi, h⟩
  | .exit id, K, s, wr, h, hi, hk => ⟨hk, wr, hi, h⟩
  | .ret, K, s, wr, h, hi, hk => ⟨hk, wr, hi, h⟩
  | .region id ops draw, K, s, wr, h, hi, hk => by
    cases draw with
    | true => exact drawT_vc h hi hk
    | false => exact seqT_vc _ h hi hk
  | .seq a b, K, s, wr, h, hi, hk => by
    simp only [vc]
    refine vc_mono (fun e s' ⟨hk', wr', hi', h'⟩ => ?_) a (execT_vc a h hi hk)
    cases e with
    | normal => exact execT_vc b h' hi' hk'
    | exit i => exact ⟨hk', wr', hi', h'⟩
    | ret => exact ⟨hk', wr', hi', h'⟩
  | .cond c t f, K, s, wr, h, hi, hk => by
    simp only [execT] at h
    simp only [vc]
    split at h
    · rename_i b hb
      simp only [OutT.wp] at h
      simp only [hb]
      exact Bif.mk (fun hc => execT_vc t (h.yes hc) hi hk) (fun hc => execT_vc f (h.no hc) hi hk)
    · exact h.elim
  | .block id body, K, s, wr, h, hi, hk => by
    simp only [vc]
    refine vc_mono (fun e s' ⟨hk', wr', hi', h'⟩ => ?_) body (execT_vc body h hi hk)
    cases e with
    | normal => exact ⟨hk', wr', hi', h'⟩
    | exit i =>
      simp only at h' ⊢
      cases hb : Nat.beq i id with
      | true => rw [hb] at h'; exact ⟨hk', wr', hi', h'⟩
      | false => rw [hb] at h'; exact ⟨hk', wr', hi', h'⟩
    | ret => exact ⟨hk', wr', hi', h'⟩
  | .loop body, K, s, wr, h, hi, hk => h.elim
  | .rangeFunc .., K, s, wr, h, hi, hk => h.elim
  | .scope _, K, s, wr, h, hi, hk => h.elim
  | .goto _, K, s, wr, h, hi, hk => h.elim
  | .refuse _, K, s, wr, h, hi, hk => h.elim
end Go.Vs

namespace Go.Vs
open Go Go.RowKit
set_option linter.unusedSimpArgs false
set_option linter.unusedVariables false

/-! ### contracts that are computed -/
def deadAO : AO := .arr true 0 0 0 []

def atH (H : AHeap) (i : Nat) : Option AO := match H[i]? with | some x => x | none => none

/-- The new regions, from i on; those that nobody can reach are told as not there. -/
def newPart (live : List Nat) : Nat → AHeap → List AO
  | _, [] => []
  | i, x :: r =>
    match (match memN live i with | true => x | false => none), newPart live (i + 1) r with
    | none, [] => []
    | none, l => deadAO :: l
    | some ao, l => ao :: l

def dedup : List Nat → List Nat
  | [] => []
  | x :: r => match memN (dedup r) x with | true => dedup r | false => x :: dedup r

def below (k : Nat) : List Nat → List Nat
  | [] => []
  | x :: r => match Nat.blt x k with | true => x :: below k r | false => below k r

def mkWr (H' : AHeap) (w : List Nat) : List (Nat × Option AO) := w.map fun i => (i, atH H' i)

def mkRes (k0 : Nat) (v : AV) (H' : AHeap) (wr : List Nat) : Res :=
  ⟨v, mkWr H' (dedup (below k0 wr)), newPart (reach H' 8 (v.ids ++ (dedup (below k0 wr)).flatMap (idsAt H'))) k0 (H'.drop k0)⟩

theorem mem_dedup {x : Nat} : ∀ {l : List Nat}, x ∈ dedup l ↔ x ∈ l
  | [] => Iff.rfl
  | y :: r => by
    simp only [dedup]
    cases h : memN (dedup r) y with
    | true =>
      simp only
      rw [mem_dedup (l := r), List.mem_cons]
      exact ⟨.inr, fun h' => h'.elim (fun e => by subst e; exact mem_dedup.1 (memN_iff.1 h)) id⟩
    | false => simp only [List.mem_cons, mem_dedup (l := r)]

theorem mem_below {k x : Nat} : ∀ {l : List Nat}, x ∈ below k l ↔ x ∈ l ∧ x < k
  | [] => by simp [below]
  | y :: r => by
    simp only [below]
    cases h : Nat.blt y k with
    | true =>
      have hy : y < k := by simpa using h
      simp only [List.mem_cons, mem_below (l := r)]
      exact ⟨fun h' => h'.elim (fun e => by subst e; exact ⟨.inl rfl, hy⟩) (fun h' => ⟨.inr h'.1, h'.2⟩), fun h' => h'.1.elim .inl (fun h2 => .inr ⟨h2, h'.2⟩)⟩
    | false =>
      have hy : ¬ y < k := fun hh => by rw [show Nat.blt y k = true by simpa using hh] at h; cases h
      simp only [List.mem_cons, mem_below (l := r)]
      exact ⟨fun h' => ⟨.inr h'.1, h'.2⟩, fun h' => ⟨h'.1.elim (fun e => by subst e; exact absurd h'.2 hy) id, h'.2⟩⟩

theorem wrAt_mkWr {H' : AHeap} {i : Nat} : ∀ {w : List Nat}, wrAt (mkWr H' w) i = if i ∈ w then some (atH H' i) else none
  | [] => rfl
  | y :: r => by
    simp only [mkWr, List.map_cons, wrAt]
    have ih := wrAt_mkWr (H' := H') (i := i) (w := r)
    simp only [mkWr] at ih
    rw [ih]
    by_cases h : i ∈ r
    · rw [if_pos h, if_pos (List.mem_cons_of_mem _ h)]
    · rw [if_neg h]
      simp only
      cases hb : Nat.beq y i with
      | true => have := Nat.eq_of_beq_eq_true hb; subst this; rw [if_pos (List.mem_cons_self ..)]
      | false =>
        have : y ≠ i := fun e => by subst e; simp at hb
        rw [if_neg (fun h' => by rcases List.mem_cons.1 h' with e | e; exact this e.symm; exact h e)]

theorem newPart_get {live : List Nat} : ∀ {H : AHeap} {i j : Nat} {ao : AO}, (newPart live i H)[j]? = some ao → ao.deadB = true ∨ H[j]? = some (some ao)
  | [], _, _, _, h => by simp [newPart] at h
  | x :: r, i, j, ao, h => by
    simp only [newPart] at h
    split at h
    · simp at h
    · cases j with
      | zero => simp at h; subst h; exact .inl rfl
      | succ j =>
        simp only [List.getElem?_cons_succ] at h
        rcases newPart_get h with h1 | h1
        · exact .inl h1
        · exact .inr (by simpa using h1)
    · rename_i a hm
      have hx : x = some a := by
        split at hm
        · exact hm
        · cases hm
      cases j with
      | zero => simp at h; subst h; exact .inr (by simp [hx])
      | succ j =>
        simp only [List.getElem?_cons_succ] at h
        rcases newPart_get h with h1 | h1
        · exact .inl h1
        · exact .inr (by simpa using h1)

theorem mkRes_get {H H' : AHeap} {v : AV} {wr : List Nat} (hk : H.length ≤ H'.length) (hkept : ∀ i, i < H.length → i ∉ wr → H'[i]? = H[i]?) {i : Nat} {ao : AO} (h : ((mkRes H.length v H' wr).apply H)[i]? = some (some ao)) : ao.deadB = true ∨ H'[i]? = some (some ao) := by
  rw [apply_get] at h
  split at h
  · rename_i hge
    split at h
    · simp only [Option.some.injEq, mkRes] at h
      rcases newPart_get h with h1 | h1
      · exact .inl h1
      · rw [List.getElem?_drop, Nat.add_sub_cancel' hge] at h1; exact .inr h1
    · cases h
  · rename_i hlt
    rw [writes_get] at h
    simp only [mkRes, wrAt_mkWr] at h
    by_cases hm : i ∈ dedup (below H.length wr)
    · rw [if_pos hm] at h
      simp only at h
      rw [if_pos (by omega)] at h
      simp only [Option.some.injEq, atH] at h
      right
      split at h
      · rename_i x hx; rw [hx, h]
      · cases h
    · rw [if_neg hm] at h
      simp only at h
      have : i ∉ wr := fun hw => hm (mem_dedup.2 (mem_below.2 ⟨hw, by omega⟩))
      rw [hkept i (by omega) this]; exact .inr h

theorem Sim.dropDead {F : Fr} {w0 : World} {β : Pl} {H K : AHeap} {w : World} (h : Sim F w0 β H w) (hd : ∀ (i : Nat) (ao : AO), K[i]? = some (some ao) → ao.deadB = true ∨ H[i]? = some (some ao)) : Sim F w0 β K w := by
  have live : ∀ (i : Nat) (ao : AO), K[i]? = some (some ao) → ao.live → H[i]? = some (some ao) := fun i ao hi hl => by
    rcases hd i ao hi with h1 | h1
    · exact absurd hl (deadB_live h1).1
    · exact h1
  exact ⟨h.os, h.tape, h.output, h.size, h.block, h.ice, h.iceF, fun i ao hi => by rcases hd i ao hi with h1 | h1; exact (deadB_live h1).2; exact h.wf i ao h1,
    fun i ao hi hl => h.spot i ao (live i ao hi hl) hl, fun i ao hi hl => h.obj i ao (live i ao hi hl) hl, fun i ao hi hl => h.own i ao (live i ao hi hl) hl, fun i ao hi hl => h.out i ao (live i ao hi hl) hl, fun i ao hi hl => h.ro i ao (live i ao hi hl) hl,
    fun i j ai aj hi hj hli hlj => h.apart i j ai aj (live i ai hi hli) (live j aj hj hlj) hli hlj⟩

theorem Sim.rePl {F : Fr} {w0 : World} {β β' : Pl} {K : AHeap} {w : World} {n : Nat} (h : Sim F w0 β K w) (hsc : ∀ (i : Nat) (ao : AO), K[i]? = some (some ao) → i < n ∧ ao.sc n = true) (hβ : ∀ b, b < n → β' b = β b) (hice : β'.ice = β.ice) : Sim F w0 β' K w := by
  refine ⟨h.os, h.tape, h.output, h.size, h.block, by rw [hice]; exact h.ice, by rw [hice]; exact h.iceF, h.wf, fun i ao hi hl => by rw [hβ i (hsc i ao hi).1]; exact h.spot i ao hi hl, fun i ao hi hl => ?_, fun i ao hi hl hr => ?_, fun i ao hi hl hr => ?_, fun i ao hi hl hr => ?_, fun i j ai aj hi hj hli hlj hij hri hrj => ?_⟩
  · rw [hβ i (hsc i ao hi).1]
    obtain ⟨o, ho, his⟩ := h.obj i ao hi hl
    exact ⟨o, ho, his.same ⟨hβ, by rw [hice]; exact fun _ _ h => h⟩ (hsc i ao hi).2⟩
  · rw [hβ i (hsc i ao hi).1]; exact h.own i ao hi hl hr
  · rw [hβ i (hsc i ao hi).1, hice]; exact h.out i ao hi hl hr
  · rw [hβ i (hsc i ao hi).1, hice]; exact h.ro i ao hi hl hr
  · rw [hβ i (hsc i ai hi).1, hβ j (hsc j aj hj).1]; exact h.apart i j ai aj hi hj hli hlj hij hri hrj

theorem resOk_sc {H : AHeap} {r : Res} (hr : resOk H r = true) (hsc : AHeap.sc H.length H = true) {i : Nat} {ao : AO} (h : (r.apply H)[i]? = some (some ao)) : i < H.length + r.new.length ∧ ao.sc (H.length + r.new.length) = true := by
  simp only [resOk, Bool.and_eq_true, List.all_eq_true] at hr
  obtain ⟨⟨_, hrw⟩, hrn⟩ := hr
  rw [apply_get] at h
  split at h
  · split at h
    · rename_i h1 h2
      simp only [Option.some.injEq] at h
      exact ⟨h2, hrn ao (List.mem_of_getElem? h)⟩
    · cases h
  · rename_i hlt
    refine ⟨by omega, ?_⟩
    rw [writes_get] at h
    cases hw : wrAt r.wr i with
    | some a =>
      rw [hw] at h
      simp only at h
      split at h
      · simp only [Option.some.injEq] at h
        subst h
        exact (hrw _ (wrAt_mem hw)).2
      · cases h
    | none =>
      rw [hw] at h
      exact AO.sc_more (by omega) (AHeap.sc_get hsc h)

def autoK (P : Program) (fn : Func) (H : AHeap) (e : Ex) : KT := fun s wr =>
  match e with
  | .exit _ => failT
  | .normal => (match resAV P fn s with | some v => .need (resOk H (mkRes H.length v s.heap wr)) (.ret (mkRes H.length v s.heap wr)) | none => failT)
  | .ret => (match resAV P fn s with | some v => .need (resOk H (mkRes H.length v s.heap wr)) (.ret (mkRes H.length v s.heap wr)) | none => failT)

def autoT (P : Program) (Γ : Cts) (fn : Func) (args : List AV) (H : AHeap) : OutT :=
  match fn.body with
  | some c => .need (Nat.ble args.length fn.ntmps) (execT P Γ fn.ntmps H.length c (autoK P fn H) ⟨env0 0 args, H⟩ [])
  | none => failT

def autoCt (P : Program) (Γ : Cts) (fn : Func) : Ct := fun args H => some (autoT P Γ fn args H)

theorem autoCt_ok {P : Program} {Γ : Cts} (hΓ : CtsOk P Γ) (hm : P.follows .mixedOrders = true) {f : FuncId} {fn : Func} (hf : P.funcs[f]? = some fn) : CtOk P f (autoCt P Γ fn) := by
  intro args H t ht β F w0 w hs hsc hsafe
  simp only [autoCt, Option.some.injEq] at ht
  have hsafe2 : t.wp t.can := OutT.wp_iff.2 ⟨hsafe, fun r hr => hr⟩
  have hvc : fnVC P Γ (fun _ _ => none) (fun N _ ops K s => drawV P Γ N H.length ops K s) fn args H (fun v H' => H.length ≤ H'.length ∧ ∃ wr, (∀ i, i < H.length → i ∉ wr → H'[i]? = H[i]?) ∧ resOk H (mkRes H.length v H' wr) = true ∧ t.can (mkRes H.length v H' wr)) := by
    have h : (autoT P Γ fn args H).wp t.can := by rw [ht]; exact hsafe2
    unfold autoT at h
    unfold fnVC
    cases hb : fn.body with
    | none => rw [hb] at h; exact h.elim
    | some c =>
      rw [hb] at h
      simp only [OutT.wp] at h
      refine Bif.mk (fun hc => ?_) (fun hc => (h.no hc).elim)
      refine vc_mono (fun e s' ⟨hk', wr', hi', h'⟩ => ?_) c (execT_vc (H0 := H) c (h.yes hc) (fun i _ _ => rfl) (Nat.le_refl _))
      cases e with
      | exit i => exact h'.elim
      | normal =>
        simp only [autoK] at h'
        split at h'
        · rename_i v hv
          simp only [hv]
          simp only [OutT.wp] at h'
          cases hr : resOk H (mkRes H.length v s'.heap wr') with
          | false => rw [hr] at h'; exact h'.elim
          | true => exact ⟨hk', wr', hi', hr, h'.yes hr⟩
        · exact h'.elim
      | ret =>
        simp only [autoK] at h'
        split at h'
        · rename_i v hv
          simp only [hv]
          simp only [OutT.wp] at h'
          cases hr : resOk H (mkRes H.length v s'.heap wr') with
          | false => rw [hr] at h'; exact h'.elim
          | true => exact ⟨hk', wr', hi', hr, h'.yes hr⟩
        · exact h'.elim
  refine (fnVC_sound hΓ (H := H) (fun N id ops K s h F w0 β0 a w hat => drawV_ok hΓ hm id ops K s _ h F w0 β0 a w hat) hf hvc hs).mono fun e w' ⟨v, H', β', ⟨hle, wr, hkept, hrok, hcan⟩, he, hs', hext, _⟩ => ?_
  subst he
  have hsc2 := fun i ao hi => resOk_sc hrok hsc (i := i) (ao := ao) hi
  have hd := hs'.dropDead (K := (mkRes H.length v H' wr).apply H) (fun i ao hi => mkRes_get hle hkept hi)
  have hrv : v.sc (H.length + (mkRes H.length v H' wr).new.length) = true := by
    simp only [resOk, Bool.and_eq_true] at hrok; exact hrok.1.1
  have hβ : ∀ b, b < H.length + (mkRes H.length v H' wr).new.length → (joinPl (H.length + (mkRes H.length v H' wr).new.length) β' β) b = β' b := fun b hb => by rw [joinPl_at, if_pos hb]
  refine ⟨_, joinPl (H.length + (mkRes H.length v H' wr).new.length) β' β, hcan, ?_, hd.rePl hsc2 hβ rfl, ⟨fun b hb => ?_, hext.ice⟩, fun hnew b => ?_⟩
  · congr 1
    exact (AV.conc_same hβ v hrv).symm
  · rw [hβ b (by omega)]; exact hext.old b hb
  · rw [joinPl_at, hnew]
    simp only [List.length_nil, Nat.add_zero]
    split
    · rename_i hb; exact hext.old b hb
    · rfl
end Go.Vs

namespace Go.Vs
open Go Go.RowKit
set_option linter.unusedSimpArgs false
set_option linter.unusedVariables false

/-! ### arguments: what is read of them, as columns -/
inductive Sh where
  | int (k : IntKind)
  | bool
  | str
  | row (e : Nat) (l : List Sh)

def fieldsSh (P : Program) (g : TypeId → Option (List Sh)) : Nat → List Field → Option (List Sh)
  | _, [] => some []
  | off, f :: r =>
    match g f.type with
    | some l => if Nat.beq f.offset off && Nat.beq l.length (P.cellsOf f.type) then (match fieldsSh P g (off + l.length) r with | some l' => some (l ++ l') | none => none) else none
    | none => none

/-- The shapes of a type's cells. -/
def cellSh (P : Program) : Nat → TypeId → Option (List Sh)
  | 0, _ => none
  | d + 1, t =>
    match P.underlying t with
    | some (.int k) => some [.int k]
    | some .bool => some [.bool]
    | some .string => some [.str]
    | some (.slice e) => match cellSh P d e with | some l => if Nat.beq l.length (P.cellsOf e) && Nat.blt 0 l.length then some [.row e l] else none | none => none
    | some (.struct fs) => match fieldsSh P (cellSh P d) 0 fs.toList with | some l => if Nat.beq l.length (P.cellsOf t) then some l else none | none => none
    | _ => none

def HdOk (B : Nat) (h : Hd) : Prop := h.len ≤ h.cap ∧ h.cap ≤ B ∧ (h.nl = true → h.cap = 0)

mutual
/-- A column of n places of this shape. -/
def ColSh (B : Nat) : Sh → Nat → Col → Prop
  | .int k, n, c => ∃ l, c = .int k l ∧ l.length = n ∧ ∀ x ∈ l, (Lit.int k x).wf = true
  | .bool, n, c => ∃ l, c = .bool l ∧ l.length = n
  | .str, n, c => ∃ l, c = .str l ∧ l.length = n ∧ ∀ s ∈ l, s.size ≤ B
  | .row e l, n, c => ∃ hd cols, c = .far n e l.length hd cols ∧ ∀ i, HdOk B (hd i) ∧ ColsSh B l (hd i).len (cols i)
def ColsSh (B : Nat) : List Sh → Nat → List Col → Prop
  | [], _, cs => cs = []
  | s :: r, n, cs => ∃ c cs', cs = c :: cs' ∧ ColSh B s n c ∧ ColsSh B r n cs'
end

theorem ColsSh.length {B n : Nat} : ∀ {l : List Sh} {cs : List Col}, ColsSh B l n cs → cs.length = l.length
  | [], cs, h => by simp only [ColsSh] at h; subst h; rfl
  | s :: r, cs, h => by
    simp only [ColsSh] at h
    obtain ⟨c, cs', rfl, _, h⟩ := h
    simp [ColsSh.length h]

mutual
theorem ColSh.empty (B : Nat) : ∀ s : Sh, ∃ c, ColSh B s 0 c
  | .int k => ⟨.int k [], by simp only [ColSh]; exact ⟨[], rfl, rfl, fun x h => by simp at h⟩⟩
  | .bool => ⟨.bool [], by simp only [ColSh]; exact ⟨[], rfl, rfl⟩⟩
  | .str => ⟨.str [], by simp only [ColSh]; exact ⟨[], rfl, rfl, fun x h => by simp at h⟩⟩
  | .row e l => by
    obtain ⟨cs, hcs⟩ := ColsSh.empty B l
    exact ⟨.far 0 e l.length (fun _ => ⟨true, 0, 0⟩) (fun _ => cs), by simp only [ColSh]; exact ⟨_, _, rfl, fun i => ⟨⟨Nat.le_refl _, Nat.zero_le _, fun _ => rfl⟩, hcs⟩⟩⟩
theorem ColsSh.empty (B : Nat) : ∀ l : List Sh, ∃ cs, ColsSh B l 0 cs
  | [] => ⟨[], by simp only [ColsSh]⟩
  | s :: r => by
    obtain ⟨c, hc⟩ := ColSh.empty B s
    obtain ⟨cs, hcs⟩ := ColsSh.empty B r
    exact ⟨c :: cs, by simp only [ColsSh]; exact ⟨c, cs, rfl, hc, hcs⟩⟩
end

def CellOk (B : Nat) (ice : Nat → Obj → Prop) (s : Sh) (v : Value) : Prop := ∃ c, ColSh B s 1 c ∧ Holds ice c 0 v

theorem one_of {α : Type} {l : List α} (h : l.length = 1) : ∃ a, l = [a] := List.length_eq_one_iff.1 h

/-- Cells of one shape make a column. -/
theorem cells_col {B : Nat} {ice : Nat → Obj → Prop} (s : Sh) (n : Nat) (v : Nat → Value) (h : ∀ i, i < n → CellOk B ice s (v i)) : ∃ c, ColSh B s n c ∧ ∀ i, i < n → Holds ice c i (v i) := by
  cases s with
  | int k =>
    have hz : ∀ i, i < n → ∃ z, v i = .int k z ∧ (Lit.int k z).wf = true := fun i hi => by
      obtain ⟨c, hc, hh⟩ := h i hi
      simp only [ColSh] at hc
      obtain ⟨l, rfl, hl, hw⟩ := hc
      obtain ⟨z, rfl⟩ := one_of hl
      generalize v i = u at hh
      cases hh
      exact ⟨z, rfl, hw z (by simp)⟩
    let z : Nat → Int := fun i => match v i with | .int _ x => x | _ => 0
    have hzi : ∀ i, i < n → v i = .int k (z i) ∧ (Lit.int k (z i)).wf = true := fun i hi => by
      obtain ⟨x, hx, hw⟩ := hz i hi
      have : z i = x := by simp only [z, hx]
      rw [this]; exact ⟨hx, hw⟩
    have hmem : ∀ x ∈ (List.range n).map z, (Lit.int k x).wf = true := fun x hx => by
      obtain ⟨i, hi, rfl⟩ := List.mem_map.1 hx
      exact (hzi i (List.mem_range.1 hi)).2
    refine ⟨.int k ((List.range n).map z), by simp only [ColSh]; exact ⟨_, rfl, by simp, hmem⟩, fun i hi => ?_⟩
    · rw [(hzi i hi).1]
      exact .mk_int (by simp [List.getD_eq_getElem?_getD, List.getElem?_range hi])
  | bool =>
    let z : Nat → Bool := fun i => match v i with | .bool x => x | _ => false
    have hzi : ∀ i, i < n → v i = .bool (z i) := fun i hi => by
      obtain ⟨c, hc, hh⟩ := h i hi
      simp only [ColSh] at hc
      obtain ⟨l, rfl, hl⟩ := hc
      obtain ⟨x, rfl⟩ := one_of hl
      generalize hv : v i = u at hh
      cases hh
      simp only [z, hv]
    refine ⟨.bool ((List.range n).map z), by simp only [ColSh]; exact ⟨_, rfl, by simp⟩, fun i hi => ?_⟩
    rw [hzi i hi]
    exact .mk_bool (by simp [List.getD_eq_getElem?_getD, List.getElem?_range hi])
  | str =>
    have hz : ∀ i, i < n → ∃ x : ByteArray, v i = .string x ∧ x.size ≤ B := fun i hi => by
      obtain ⟨c, hc, hh⟩ := h i hi
      simp only [ColSh] at hc
      obtain ⟨l, rfl, hl, hw⟩ := hc
      obtain ⟨x, rfl⟩ := one_of hl
      generalize v i = u at hh
      cases hh
      exact ⟨x, rfl, hw x (by simp)⟩
    let z : Nat → ByteArray := fun i => match v i with | .string x => x | _ => ByteArray.empty
    have hzi : ∀ i, i < n → v i = .string (z i) ∧ (z i).size ≤ B := fun i hi => by
      obtain ⟨x, hx, hw⟩ := hz i hi
      have : z i = x := by simp only [z, hx]
      rw [this]; exact ⟨hx, hw⟩
    have hmem : ∀ x ∈ (List.range n).map z, x.size ≤ B := fun x hx => by
      obtain ⟨i, hi, rfl⟩ := List.mem_map.1 hx
      exact (hzi i (List.mem_range.1 hi)).2
    refine ⟨.str ((List.range n).map z), by simp only [ColSh]; exact ⟨_, rfl, by simp, hmem⟩, fun i hi => ?_⟩
    · rw [(hzi i hi).1]
      exact .mk_str (by simp [List.getD_eq_getElem?_getD, List.getElem?_range hi])
  | row e l =>
    obtain ⟨ec, hec⟩ := ColsSh.empty B l
    have hp : ∀ i, ∃ p : Hd × List Col, HdOk B p.1 ∧ ColsSh B l p.1.len p.2 ∧ (i < n → Far ice e p.1 p.2 (v i)) := fun i => by
      by_cases hi : i < n
      · obtain ⟨c, hc, hh⟩ := h i hi
        simp only [ColSh] at hc
        obtain ⟨hd, cols, rfl, hok⟩ := hc
        generalize hv : v i = u at hh
        cases hh with
        | far _ _ _ _ _ _ _ hw hf => exact ⟨(hd 0, cols 0), (hok 0).1, (hok 0).2, fun _ => hf⟩
      · exact ⟨(⟨true, 0, 0⟩, ec), ⟨Nat.le_refl _, Nat.zero_le _, fun _ => rfl⟩, hec, fun h => absurd h hi⟩
    have hch := fun i => Classical.choose_spec (hp i)
    refine ⟨.far n e l.length (fun i => (Classical.choose (hp i)).1) (fun i => (Classical.choose (hp i)).2), by simp only [ColSh]; exact ⟨_, _, rfl, fun i => ⟨(hch i).1, (hch i).2.1⟩⟩, fun i hi => ?_⟩
    exact .far _ _ _ _ _ _ _ (ColsSh.length (hch i).2.1) ((hch i).2.2 hi)

theorem cells_cols {B : Nat} {ice : Nat → Obj → Prop} : ∀ (l : List Sh) (n : Nat) (v : Nat → Nat → Value), (∀ i, i < n → ∀ (j : Nat) (s : Sh), l[j]? = some s → CellOk B ice s (v i j)) →
    ∃ cols, ColsSh B l n cols ∧ ∀ i, i < n → ∀ (j : Nat) (c : Col), cols[j]? = some c → Holds ice c i (v i j)
  | [], n, v, h => ⟨[], by simp only [ColsSh], fun i _ j c hj => by simp at hj⟩
  | s :: r, n, v, h => by
    obtain ⟨c, hc, hh⟩ := cells_col s n (fun i => v i 0) (fun i hi => h i hi 0 s rfl)
    obtain ⟨cs, hcs, hhs⟩ := cells_cols r n (fun i j => v i (j + 1)) (fun i hi j s hj => h i hi (j + 1) s (by simpa using hj))
    refine ⟨c :: cs, by simp only [ColsSh]; exact ⟨c, cs, rfl, hc, hcs⟩, fun i hi j c' hj => ?_⟩
    cases j with
    | zero => simp at hj; subst hj; exact hh i hi
    | succ j => exact hhs i hi j c' (by simpa using hj)

/-- How much a reading holds. -/
structure Bulk (H : Type) where
  one : DataW H → Nat
  all : List (DataW H) → Nat
  slice : ∀ es rs, one (.slice es rs) = all es + all rs + 1
  agg : ∀ ps, one (.agg ps) = all ps + 1
  str : ∀ b, one (.lit (.string b)) = b.length + 1
  pos : ∀ d, 1 ≤ one d
  nil : all [] = 0
  cons : ∀ d r, all (d :: r) = one d + all r

theorem Bulk.le {H : Type} (U : Bulk H) {d : DataW H} : ∀ {l : List (DataW H)}, d ∈ l → U.one d ≤ U.all l
  | x :: r, h => by
    rw [U.cons]
    rcases List.mem_cons.1 h with rfl | h
    · omega
    · have := U.le h; omega
theorem Bulk.len {H : Type} (U : Bulk H) : ∀ l : List (DataW H), l.length ≤ U.all l
  | [] => by rw [U.nil]; exact Nat.le_refl _
  | x :: r => by rw [U.cons, List.length_cons]; have := U.len r; have := U.pos x; omega

theorem cell_none {w : World} {a : Addr} {v : Value} (h : w.cell? a = some v) : a.spot = none ∧ ∃ c T fz, w.heap[a.block]? = some (.cells c T fz) ∧ c[a.off]? = some v := by
  unfold World.cell? at h
  split at h
  · rename_i c T fz hc
    split at h
    · cases h
    · rename_i hs
      exact ⟨by simpa using hs, c, T, fz, hc, h⟩
  · cases h

theorem add_add (b o n m : Nat) : (Addr.add (Addr.add ⟨b, o, none⟩ n) m) = ⟨b, o + (n + m), none⟩ := by rw [addr_add, addr_add, Nat.add_assoc]

def iceOf (w : World) : Nat → Obj → Prop := fun b o => w.heap[b]? = some o

section
variable {H : Type} {enc : TypeId × Value → H} {P : Program} {w : World} {base : Nat} {held : Bool} (U : Bulk H)

theorem fields_ok {n B : Nat} {cs : List Value} {g : TypeId → Option (List Sh)} (ih : ∀ (t : TypeId) (cs' : List Value) (x : DataW H × List MemPlace) (l : List Sh), DataW.trod enc P w base (fun _ => true) held n t cs' = some x → g t = some l → U.one x.1 ≤ B → cs'.length = l.length ∧ ∀ (j : Nat) (v : Value) (s : Sh), cs'[j]? = some v → l[j]? = some s → CellOk B (iceOf w) s v) :
    ∀ (fs : List Field) (off : Nat) (l : List Sh), fieldsSh P g off fs = some l → (∀ f ∈ fs, ∃ x, DataW.trod enc P w base (fun _ => true) held n f.type ((cs.drop f.offset).take (P.cellsOf f.type)) = some x ∧ U.one x.1 ≤ B) →
    ∀ (j : Nat) (v : Value) (s : Sh), cs[off + j]? = some v → l[j]? = some s → CellOk B (iceOf w) s v
  | [], off, l, hl, _, j, v, s, _, hs => by simp only [fieldsSh, Option.some.injEq] at hl; subst hl; simp at hs
  | f :: r, off, l, hl, hx, j, v, s, hv, hs => by
    simp only [fieldsSh] at hl
    split at hl
    rotate_left
    · cases hl
    rename_i l1 hl1
    split at hl
    rotate_left
    · cases hl
    rename_i hc
    simp only [Bool.and_eq_true] at hc
    have ho := Nat.eq_of_beq_eq_true hc.1
    have hn := Nat.eq_of_beq_eq_true hc.2
    split at hl
    rotate_left
    · cases hl
    rename_i l2 hl2
    cases hl
    obtain ⟨x, hx1, hx2⟩ := hx f (by simp)
    obtain ⟨q1, q2⟩ := ih f.type _ x l1 hx1 hl1 hx2
    by_cases hj : j < l1.length
    · refine q2 j v s ?_ (by rw [List.getElem?_append_left hj] at hs; exact hs)
      rw [List.getElem?_take, if_pos (by omega), List.getElem?_drop, ho]; exact hv
    · refine fields_ok ih r (off + l1.length) l2 hl2 (fun f' hf' => hx f' (by simp [hf'])) (j - l1.length) v s ?_ (by rw [List.getElem?_append_right (by omega)] at hs; exact hs)
      rw [show off + l1.length + (j - l1.length) = off + j by omega]; exact hv

theorem trod_cells {B : Nat} : ∀ (d fuel : Nat) (t : TypeId) (cs : List Value) (x : DataW H × List MemPlace) (l : List Sh), DataW.trod enc P w base (fun _ => true) held fuel t cs = some x → cellSh P d t = some l → U.one x.1 ≤ B →
    cs.length = l.length ∧ ∀ (j : Nat) (v : Value) (s : Sh), cs[j]? = some v → l[j]? = some s → CellOk B (iceOf w) s v
  | 0, _, _, _, _, _, _, hl, _ => by cases hl
  | d + 1, fuel, t, cs, x, l, hx, hl, hB => by
    simp only [cellSh] at hl
    split at hl
    · rename_i k hk
      cases hl
      obtain ⟨n, rfl, _, hw⟩ := DataW.trod_int hk hx
      refine ⟨rfl, fun j v s hv hs => ?_⟩
      cases j with
      | zero =>
        simp at hv hs; subst hv; subst hs
        exact ⟨.int k [n], by simp only [ColSh]; exact ⟨_, rfl, rfl, fun y hy => by simp at hy; subst hy; exact hw⟩, .mk_int rfl⟩
      | succ j => simp at hv
    · rename_i hk
      cases hl
      obtain ⟨b, rfl, _⟩ := DataW.trod_bool hk hx
      refine ⟨rfl, fun j v s hv hs => ?_⟩
      cases j with
      | zero =>
        simp at hv hs; subst hv; subst hs
        exact ⟨.bool [b], by simp only [ColSh]; exact ⟨_, rfl, rfl⟩, .mk_bool rfl⟩
      | succ j => simp at hv
    · rename_i hk
      cases hl
      obtain ⟨b, rfl, rfl, _⟩ := DataW.trod_string hk hx
      refine ⟨rfl, fun j v s hv hs => ?_⟩
      cases j with
      | zero =>
        simp at hv hs; subst hv; subst hs
        rw [U.str] at hB
        have hb : b.size ≤ B := by simp at hB; have : b.data.size = b.size := rfl; omega
        exact ⟨.str [b], by simp only [ColSh]; exact ⟨_, rfl, rfl, fun y hy => by simp at hy; subst hy; exact hb⟩, .mk_str rfl⟩
      | succ j => simp at hv
    · rename_i e hk
      split at hl
      rotate_left
      · cases hl
      rename_i le hle
      split at hl
      rotate_left
      · cases hl
      rename_i hc
      cases hl
      simp only [Bool.and_eq_true] at hc
      have hn := Nat.eq_of_beq_eq_true hc.1
      have hpos : 0 < le.length := by simpa using hc.2
      obtain ⟨ec, hec⟩ := ColsSh.empty B le
      rcases DataW.trod_slice hk hx with ⟨rfl, rfl⟩ | ⟨a, len, cap, elems, rest, n, _, rfl, rfl, _, hlc, hcm, hlen, hel, hsp, _⟩
      · refine ⟨rfl, fun j v s hv hs => ?_⟩
        cases j with
        | zero =>
          simp at hv hs; subst hv; subst hs
          exact ⟨.far 1 e le.length (fun _ => ⟨true, 0, 0⟩) (fun _ => ec), by simp only [ColSh]; exact ⟨_, _, rfl, fun i => ⟨⟨Nat.le_refl _, Nat.zero_le _, fun _ => rfl⟩, hec⟩⟩, .far _ _ _ _ _ _ _ hec.length (.none _ _)⟩
        | succ j => simp at hv
      · refine ⟨rfl, fun j v s hv hs => ?_⟩
        cases j with
        | succ j => simp at hv
        | zero =>
        simp at hv hs; subst hv; subst hs
        obtain ⟨hrl, hrest⟩ := hsp rfl
        -- every place, and what is read there
        have hplace : ∀ i, i < cap → ∃ y, (w.cells? base (a.add (i * P.cellsOf e)) (P.cellsOf e)).bind (DataW.trod enc P w base (fun _ => true) held n e) = some y ∧ U.one y.1 ≤ B := fun i hi => by
          simp only [U.slice] at hB
          by_cases hil : i < len
          · have h1 := hel i hil
            rw [List.getElem?_eq_getElem (by omega)] at h1
            refine ⟨_, h1, ?_⟩
            have := U.le (List.mem_map.2 ⟨elems[i]'(by omega), List.getElem_mem _, rfl⟩ : (elems[i]'(by omega)).1 ∈ elems.map (·.1))
            omega
          · have h1 := hrest (i - len) (by omega)
            rw [show len + (i - len) = i by omega, List.getElem?_eq_getElem (by omega)] at h1
            refine ⟨_, h1, ?_⟩
            have := U.le (List.mem_map.2 ⟨rest[i - len]'(by omega), List.getElem_mem _, rfl⟩ : (rest[i - len]'(by omega)).1 ∈ rest.map (·.1))
            omega
        have hcapB : cap ≤ B := by
          simp only [U.slice] at hB
          have h1 := U.len (elems.map (·.1))
          have h2 := U.len (rest.map (·.1))
          simp only [List.length_map] at h1 h2
          omega
        rcases Nat.eq_zero_or_pos cap with h0 | hcp
        · subst h0
          obtain rfl : len = 0 := by omega
          exact ⟨.far 1 e le.length (fun _ => ⟨false, 0, 0⟩) (fun _ => ec), by simp only [ColSh]; exact ⟨_, _, rfl, fun i => ⟨⟨Nat.le_refl _, Nat.zero_le _, fun h => by cases h⟩, hec⟩⟩, .far _ _ _ _ _ _ _ hec.length (.dead _ _ _)⟩
        · -- the object
          have hcell : ∀ i, i < cap → ∃ csi y, DataW.trod enc P w base (fun _ => true) held n e csi = some y ∧ U.one y.1 ≤ B ∧ csi.length = le.length ∧ ∀ j, j < le.length → w.cell? ((a.add (i * le.length)).add j) = csi[j]? := fun i hi => by
            obtain ⟨y, hy, hyB⟩ := hplace i hi
            rw [Option.bind_eq_some_iff] at hy
            obtain ⟨csi, h1, h2⟩ := hy
            obtain ⟨_, h3, h4⟩ := World.cells?_some h1
            rw [← hn] at h3 h4
            exact ⟨csi, y, h2, hyB, h3, h4⟩
          have hobj : a.spot = none ∧ ∃ c T fz, w.heap[a.block]? = some (.cells c T fz) := by
            obtain ⟨csi, y, _, _, hl3, h4⟩ := hcell 0 hcp
            have h5 := h4 0 hpos
            rw [List.getElem?_eq_getElem (by omega), Nat.zero_mul] at h5
            have e0 : (a.add 0).add 0 = a := by simp [Addr.add]
            rw [e0] at h5
            obtain ⟨k1, c, T, fz, k2, _⟩ := cell_none h5
            exact ⟨k1, c, T, fz, k2⟩
          obtain ⟨hspot, c, T, fz, hob⟩ := hobj
          obtain ⟨ab, ao, asp⟩ := a
          simp only at hspot hob
          subst hspot
          have hget : ∀ i, i < cap → ∃ csi y, DataW.trod enc P w base (fun _ => true) held n e csi = some y ∧ U.one y.1 ≤ B ∧ csi.length = le.length ∧ ∀ j, j < le.length → c[ao + (i * le.length + j)]? = csi[j]? := fun i hi => by
            obtain ⟨csi, y, h1, h2, h3, h4⟩ := hcell i hi
            refine ⟨csi, y, h1, h2, h3, fun j hj => ?_⟩
            have := h4 j hj
            rw [add_add, cell_of hob] at this
            exact this
          have hsize : ao + cap * le.length ≤ c.size := by
            obtain ⟨csi, y, _, _, h3, h4⟩ := hget (cap - 1) (by omega)
            have h5 := h4 (le.length - 1) (by omega)
            rw [List.getElem?_eq_getElem (by omega)] at h5
            have h6 := (Array.getElem?_eq_some_iff.1 h5).1
            have h7 : cap * le.length = (cap - 1) * le.length + le.length := by
              rw [← Nat.succ_mul]; congr 1; omega
            omega
          let v : Nat → Nat → Value := fun i j => (c[ao + (i * le.length + j)]?).getD undef
          obtain ⟨cols, hcols, hholds⟩ := cells_cols (B := B) (ice := iceOf w) le len v (fun i hi j s hs => by
            obtain ⟨csi, y, h1, h2, h3, h4⟩ := hget i (by omega)
            have hj : j < le.length := (List.getElem?_eq_some_iff.1 hs).1
            obtain ⟨_, q2⟩ := trod_cells d n e csi y le h1 hle h2
            have h5 := h4 j hj
            rw [List.getElem?_eq_getElem (by omega)] at h5
            refine q2 j _ s (List.getElem?_eq_getElem (by omega)) hs |> fun h => ?_
            have : v i j = csi[j]'(by omega) := by simp only [v, h5, Option.getD_some]
            rw [this]; exact h)
          have hcl := hcols.length
          refine ⟨.far 1 e le.length (fun _ => ⟨false, len, cap⟩) (fun _ => cols), by simp only [ColSh]; exact ⟨_, _, rfl, fun i => ⟨⟨hlc, hcapB, fun h => by cases h⟩, hcols⟩⟩, .far _ _ _ _ _ _ _ hcl (.row e T len cap cols ab ao c fz v hob (by rw [hcl]; exact hsize) hlc (fun i hi j hj => ?_) hholds)⟩
          obtain ⟨csi, y, h1, h2, h3, h4⟩ := hget i (by omega)
          rw [hcl] at hj ⊢
          have h5 := h4 j hj
          rw [List.getElem?_eq_getElem (by omega)] at h5
          rw [h5]
          simp only [v, h5, Option.getD_some]
    · rename_i fs hk
      split at hl
      rotate_left
      · cases hl
      rename_i l1 hl1
      split at hl
      rotate_left
      · cases hl
      rename_i hc
      cases hl
      have hn := Nat.eq_of_beq_eq_true hc
      obtain ⟨xs, n, _, rfl, hcs, hxl, hxs⟩ := DataW.trod_struct hk hx
      refine ⟨by omega, fun j v s hv hs => ?_⟩
      refine fields_ok U (n := n) (g := cellSh P d) (fun t cs' x l h1 h2 h3 => trod_cells d n t cs' x l h1 h2 h3) fs.toList 0 _ hl1 (fun f hf => ?_) j v s (by simpa using hv) hs
      obtain ⟨i, hi, he⟩ := List.getElem_of_mem hf
      have hi' : i < fs.size := by simpa using hi
      have h1 := hxs i f (by rw [Array.getElem?_eq_getElem hi', ← he]; rfl)
      rw [List.getElem?_eq_getElem (by omega)] at h1
      refine ⟨_, h1, ?_⟩
      simp only [U.agg] at hB
      have := U.le (List.mem_map.2 ⟨xs[i]'(by omega), List.getElem_mem _, rfl⟩ : (xs[i]'(by omega)).1 ∈ xs.map (·.1))
      omega
    · cases hl
end
end Go.Vs

namespace Go.Vs
open Go Go.RowKit
set_option linter.unusedSimpArgs false
set_option linter.unusedVariables false

/-! ### functions with loops: what is told of them -/
/-- What a function does: of x (what it is called with) a result, and what was made on the way (y) that is known behind the call alone. -/
structure Sp where
  X : Type
  Y : X → Type
  y0 : (x : X) → Y x
  pat : X → List AV × AHeap
  fnd : List AV → AHeap → Option (X × List Nat)
  pre : X → Prop
  res : (x : X) → Y x → Res
  pick : (x : X) → AV → AHeap → Option (Y x × List Nat)

def Sp.spec (S : Sp) : Spec := ⟨S.X, S.pat, S.fnd, fun x => .needP (S.pre x) (.all (S.y0 x) fun y => .ret (S.res x y))⟩

def Sp.good (S : Sp) (x : S.X) (v : AV) (H' : AHeap) : Prop :=
  match S.pick x v H' with
  | some (y, τ) => Bif (resOk (S.pat x).2 (S.res x y)) (Fits (S.pat x).2.length τ ⟨[(0, v)], H'⟩ ⟨[(0, (S.res x y).val)], (S.res x y).apply (S.pat x).2⟩) False
  | none => False

def Sp.ct (S : Sp) : Ct := S.spec.ct

/-- What is to be shown of a function. -/
def fnV (P : Program) (Γ : Cts) (L : Loops) (fn : Func) (args : List AV) (H : AHeap) (G : AV → AHeap → Prop) : Prop :=
  fnVC P Γ L (fun N _ ops K s => drawV P Γ N H.length ops K s) fn args H G

/-- The same, behind a name that nothing opens by itself. -/
structure FnV (P : Program) (Γ : Cts) (L : Loops) (fn : Func) (args : List AV) (H : AHeap) (G : AV → AHeap → Prop) : Prop where
  out : fnV P Γ L fn args H G
theorem FnV.of {P : Program} {Γ : Cts} {L : Loops} {fn : Func} {args : List AV} {H : AHeap} {G : AV → AHeap → Prop} {p : Prop} (h : fnV P Γ L fn args H G = p) (hp : p) : FnV P Γ L fn args H G := ⟨h ▸ hp⟩

theorem Sp.ok {P : Program} {Γ : Cts} (hΓ : CtsOk P Γ) (hm : P.follows .mixedOrders = true) {f : FuncId} {fn : Func} (hf : P.funcs[f]? = some fn) (S : Sp) (hfnd : S.spec.Found) (L : S.X → Loops)
    (h : ∀ x, S.pre x → FnV P Γ (L x) fn (S.pat x).1 (S.pat x).2 (S.good x)) : CtOk P f S.ct := by
  intro args H t ht β F w0 w hs hsc hsafe
  unfold Sp.ct Spec.ct at ht
  split at ht
  rotate_left
  · cases ht
  rename_i x σ hx
  split at ht
  rotate_left
  · cases ht
  rename_i hc
  cases ht
  simp only [Bool.and_eq_true, List.all_eq_true] at hc
  obtain ⟨⟨⟨hn, hl⟩, hσ⟩, hscK⟩ := hc
  have hl := Nat.eq_of_beq_eq_true hl
  obtain ⟨ha, hK⟩ := hfnd args H x σ hx
  have hpull := hs.pull hn (K := (S.pat x).2) (Nat.le_of_eq hl.symm) (fun i ao hi => .inr (hK i ao hi))
  have hpart := hpull.part (V := (S.pat x).2) (fun _ _ h => h)
  have hargs : AV.concs β args = AV.concs (β.pull σ) (S.pat x).1 := by rw [ha, AV.rens_concs]; rfl
  rw [hargs]
  have hpre : S.pre x := (OutT.mapR_wp hsafe).1
  refine (fnVC_sound hΓ (H := (S.pat x).2) (D := fun N _ ops K s => drawV P Γ N (S.pat x).2.length ops K s) (fun N id ops K s h F w0 β0 a w hat => drawV_ok hΓ hm id ops K s _ h F w0 β0 a w hat) hf (h x hpre).out hpart).mono fun e w' ⟨v, H', β', hg, he, hs', hext, hle⟩ => ?_
  subst he
  unfold Sp.good at hg
  split at hg
  rotate_left
  · exact hg.elim
  rename_i y τ hpick
  cases hrok : resOk (S.pat x).2 (S.res x y) with
  | false => rw [hrok] at hg; exact hg.elim
  | true =>
  have hfit := hg.yes hrok
  have hcan : (S.spec.out x).can (S.res x y) := ⟨hpre, y, rfl⟩
  generalize S.res x y = r at hrok hfit hcan
  unfold Fits at hfit
  cases hb : (nodupB (standsAt τ 0 (r.apply (S.pat x).2)) && Nat.beq τ.length (r.apply (S.pat x).2).length && idUpTo τ (S.pat x).2.length && Nat.ble (S.pat x).2.length (r.apply (S.pat x).2).length) with
  | false => simp only [hb] at hfit; exact hfit.elim
  | true =>
  simp only [hb] at hfit
  obtain ⟨h1, h2⟩ := hfit
  simp only [Bool.and_eq_true] at hb
  obtain ⟨⟨⟨b1, b2⟩, b3⟩, b4⟩ := hb
  have b2 := Nat.eq_of_beq_eq_true b2
  have hv : v.conc β' = r.val.conc (β'.pull τ) := by
    obtain ⟨u, hu, hfv⟩ := envFits_look (t := 0) (v := r.val) h1 rfl
    simp [look] at hu
    subst hu
    exact fitsV_conc hfv
  have hs2 := hs'.pullF (K := r.apply (S.pat x).2) (standsAt_inj b1) (fun i ao hi => by simpa using heapFits_get h2 hi)
  have hext2 : Pl.Ext (S.pat x).2.length (β.pull σ) (β'.pull τ) := ⟨fun b hb => by
    show β' (ren1 τ b) = _
    rw [idUpTo_get b3 hb]; exact hext.old b hb, hext.ice⟩
  obtain ⟨β2, g1, g2, g3, g4⟩ := hs.wholeR hsc hn hl (fun i hi => by
    have := hσ (ren1 σ i) (by
      have e1 : σ[i]? = some (ren1 σ i) := by simp [ren1, List.getD_eq_getElem?_getD, List.getElem?_eq_getElem hi]
      exact List.mem_of_getElem? e1)
    simpa using this) hK hscK hs2 hext2 hrok
  exact ⟨_, β2, OutT.mapR_can hcan, by rw [hv, g4], g1, g2, fun hnew => g3 (by simpa [renR] using hnew)⟩

/-- Of two ends, which c tells. -/
structure Sp2 where
  X : Type
  c : X → Bool
  Y : X → Type
  y0 : (x : X) → Y x
  Z : X → Type
  z0 : (x : X) → Z x
  pat : X → List AV × AHeap
  fnd : List AV → AHeap → Option (X × List Nat)
  pre : X → Prop
  res : (x : X) → Y x → Res
  pick : (x : X) → AV → AHeap → Option (Y x × List Nat)
  res2 : (x : X) → Z x → Res
  pick2 : (x : X) → AV → AHeap → Option (Z x × List Nat)

def Sp2.fst (S : Sp2) : Sp := ⟨S.X, S.Y, S.y0, S.pat, S.fnd, S.pre, S.res, S.pick⟩
def Sp2.snd (S : Sp2) : Sp := ⟨S.X, S.Z, S.z0, S.pat, S.fnd, S.pre, S.res2, S.pick2⟩
def Sp2.spec (S : Sp2) : Spec := ⟨S.X, S.pat, S.fnd, fun x => .needP (S.pre x) (.split (S.c x) (.all (S.y0 x) fun y => .ret (S.res x y)) (.all (S.z0 x) fun z => .ret (S.res2 x z)))⟩
def Sp2.ct (S : Sp2) : Ct := S.spec.ct
def Sp2.good (S : Sp2) (x : S.X) (v : AV) (H' : AHeap) : Prop := Bif (S.c x) (S.fst.good x v H') (S.snd.good x v H')

theorem Sp.good_Good {S : Sp} {x : S.X} {v : AV} {H' : AHeap} (h : S.good x v H') : ∃ y τ, resOk (S.pat x).2 (S.res x y) = true ∧ Fits (S.pat x).2.length τ ⟨[(0, v)], H'⟩ ⟨[(0, (S.res x y).val)], (S.res x y).apply (S.pat x).2⟩ := by
  unfold Sp.good at h
  split at h
  rotate_left
  · exact h.elim
  rename_i y τ _
  cases hr : resOk (S.pat x).2 (S.res x y) with
  | false => rw [hr] at h; exact h.elim
  | true => exact ⟨y, τ, hr, h.yes hr⟩

theorem fnV_mono {P : Program} {Γ : Cts} {L : Loops} {fn : Func} {args : List AV} {H : AHeap} {G G' : AV → AHeap → Prop} (hg : ∀ v H', G v H' → G' v H') (h : fnV P Γ L fn args H G) : fnV P Γ L fn args H G' := by
  unfold fnV fnVC at h ⊢
  split at h
  · exact h.elim
  · rename_i c hc
    refine Bif.mk (fun hb => vc_mono (fun e s h => ?_) c (h.yes hb)) (fun hb => (h.no hb).elim)
    cases e with
    | exit _ => exact h
    | normal =>
      simp only at h ⊢
      split at h
      · rename_i v hv
        exact hg _ _ h
      · exact h
    | ret =>
      simp only at h ⊢
      split at h
      · rename_i v hv
        exact hg _ _ h
      · exact h

theorem Spec.ok' {P : Program} {Γ : Cts} (hΓ : CtsOk P Γ) (hm : P.follows .mixedOrders = true) {f : FuncId} {fn : Func} (hf : P.funcs[f]? = some fn) (S : Spec) (hfnd : S.Found) (L : S.X → Loops)
    (h : ∀ x, (S.out x).wp (fun _ => True) → fnV P Γ (L x) fn (S.pat x).1 (S.pat x).2 (Good (S.out x) (S.pat x).2)) : CtOk P f S.ct := by
  intro args H t ht
  unfold Spec.ct at ht
  split at ht
  rotate_left
  · cases ht
  rename_i x σ hx
  -- the same, for this x alone
  let S' : Spec := ⟨{y : S.X // y = x}, fun y => S.pat y.1, fun a K => (match S.fnd a K with | some (y, σ) => (open Classical in if h : y = x then some (⟨y, h⟩, σ) else none) | none => none), fun y => S.out y.1⟩
  have hf' : S'.Found := by
    intro a K y σ' hy
    simp only [S'] at hy
    split at hy
    · rename_i y2 σ2 h2
      split at hy
      · cases hy; exact hfnd a K _ _ h2
      · cases hy
    · cases hy
  have hok := Spec.ok (k := (S.pat x).2.length) hΓ (D := fun N _ ops K s => drawV P Γ N (S.pat x).2.length ops K s) (fun N id ops K s h F w0 β0 a w hat => drawV_ok hΓ hm id ops K s _ h F w0 β0 a w hat) hf S' hf' (fun y => by obtain ⟨y, rfl⟩ := y; rfl) (L := L x) (fun y hw => by
    obtain ⟨y, rfl⟩ := y
    exact h y hw)
  refine hok args H t ?_
  unfold Spec.ct
  simp only [S', hx, dif_pos]
  exact ht

theorem Sp2.ok {P : Program} {Γ : Cts} (hΓ : CtsOk P Γ) (hm : P.follows .mixedOrders = true) {f : FuncId} {fn : Func} (hf : P.funcs[f]? = some fn) (S : Sp2) (hfnd : S.spec.Found) (L : S.X → Loops)
    (h : ∀ x, S.pre x → FnV P Γ (L x) fn (S.pat x).1 (S.pat x).2 (S.good x)) : CtOk P f S.ct := by
  refine Spec.ok' hΓ hm hf S.spec hfnd L fun x hw => fnV_mono (fun v H' hg => ?_) (h x hw.1).out
  unfold Sp2.good at hg
  have hpre := hw.1
  cases hc : S.c x with
  | true =>
    rw [hc] at hg
    obtain ⟨y, τ, h1, h2⟩ := Sp.good_Good (S := S.fst) hg
    exact ⟨S.res x y, τ, ⟨hpre, .inl ⟨hc, y, rfl⟩⟩, h1, h2⟩
  | false =>
    rw [hc] at hg
    obtain ⟨y, τ, h1, h2⟩ := Sp.good_Good (S := S.snd) hg
    exact ⟨S.res2 x y, τ, ⟨hpre, .inr ⟨hc, y, rfl⟩⟩, h1, h2⟩

/-! ### contracts, one behind the other -/
def Cts.add (Γ : Cts) (f : FuncId) (c : Ct) : Cts := fun g => match Nat.beq g f with | true => some c | false => Γ g
def Γnone : Cts := fun _ => none
theorem CtsOk.none {P : Program} : CtsOk P Γnone := fun _ _ h => by cases h
theorem CtsOk.add {P : Program} {Γ : Cts} (h : CtsOk P Γ) {f : FuncId} {c : Ct} (hc : CtOk P f c) {fn : Func} (hf : P.funcs[f]? = some fn) (hb : fn.body.isSome = true) (hn : (fn.name == "runtime.NumGoroutine") = false) : CtsOk P (Γ.add f c) := by
  intro g c' hg
  unfold Cts.add at hg
  split at hg
  · rename_i he
    have := Nat.eq_of_beq_eq_true he
    subst this
    cases hg
    exact ⟨hc, fn, hf, hb, hn⟩
  · exact h g c' hg

/-! ### loops: what is carried, and what stays -/
def tmpsOf : List Operand → List Nat
  | [] => []
  | .tmp t :: r => t :: tmpsOf r
  | _ :: r => tmpsOf r
def minus (w : List Nat) : List Nat → List Nat
  | [] => []
  | x :: r => match memN w x with | true => minus w r | false => x :: minus w r
def freeOps : List Oper → List Nat → List Nat
  | [], _ => []
  | o :: r, w => minus w (tmpsOf o.op.operands.toList) ++ freeOps r (match o.dst with | some d => d :: w | none => w)
def freeCode : Code → List Nat
  | .region _ ops _ => freeOps ops.toList []
  | .seq a b => freeCode a ++ freeCode b
  | .cond c t f => tmpsOf [c] ++ (freeCode t ++ freeCode f)
  | .block _ b => freeCode b
  | .loop b => freeCode b
  | .scope b => freeCode b
  | .rangeFunc f _ a b => tmpsOf [f] ++ (freeCode a ++ freeCode b)
  | _ => []
def wrOps : List Oper → List Nat
  | [] => []
  | o :: r => match o.dst with | some d => d :: wrOps r | none => wrOps r
def wrCode : Code → List Nat
  | .region _ ops _ => wrOps ops.toList
  | .seq a b => wrCode a ++ wrCode b
  | .cond _ t f => wrCode t ++ wrCode f
  | .block _ b => wrCode b
  | .loop b => wrCode b
  | .scope b => wrCode b
  | .rangeFunc _ _ a b => wrCode a ++ wrCode b
  | _ => []
def resTmps : List ResultVar → List Nat
  | [] => []
  | .tmp t :: r => t :: resTmps r
  | .cell t _ :: r => t :: resTmps r
def liveF (fn : Func) : List Nat := resTmps fn.results.toList ++ (match fn.body with | some c => freeCode c | none => [])
def keepE (live : List Nat) : List Nat → Env → Env
  | _, [] => []
  | w, (d, v) :: r => match memN w d, memN live d with | false, true => (d, v) :: keepE live (d :: w) r | _, _ => keepE live w r
def keysE : Env → List Nat
  | [] => []
  | (d, _) :: r => d :: keysE r
def loopId : Code → Nat
  | .region id _ _ => id
  | .seq a b => match a with | .skip => loopId b | .label _ => loopId b | _ => loopId a
  | .block _ b => loopId b
  | .loop b => loopId b
  | _ => 0
def idsTo (n : Nat) : List Nat := List.range n

/-- The state at a loop's head: what it carries; all else is as it was. -/
@[reducible] def headS (fn : Func) (body : Code) (s : AS) (env : Env) (heap : AHeap) : AS :=
  ⟨env ++ keepE (liveF fn) (keysE env ++ wrCode body) s.env, heap⟩

@[reducible] def mkLI (fn : Func) (body : Code) (s : AS) {X : Type} (x0 : X) (t0 : List Nat) (ok : X → Prop) (mu : X → Nat) (env : X → Env) (heap : X → AHeap) (nx : X → AS → Option (X × List Nat)) : LI :=
  ⟨X, x0, t0, ok, fun x => headS fn body s (env x) (heap x), mu, nx⟩

/-- A loop that counts to n; no memory is made. -/
@[reducible] def cntLI (fn : Func) (body : Code) (s : AS) (n : Nat) (ok : Nat → Prop) (env : Nat → Env) (heap : Nat → AHeap) : LI :=
  ⟨Nat, 0, idsTo s.heap.length, fun k => k ≤ n ∧ ok k, fun k => headS fn body s (env k) (heap k), fun k => n - k, fun k _ => some (k + 1, idsTo s.heap.length)⟩

theorem Bif_need (b : Bool) (p : Prop) : Bif b p False ↔ (b = true ∧ p) := by cases b <;> simp [Bif]
theorem Bif_iff (b : Bool) (p q : Prop) : Bif b p q ↔ ((b = true → p) ∧ (b = false → q)) := by cases b <;> simp [Bif]
theorem Bif_same (b : Bool) (p : Prop) : Bif b True p ↔ (b = false → p) := by cases b <;> simp [Bif]
theorem Bif_True (b : Bool) : Bif b True True ↔ True := by cases b <;> simp [Bif]

/-! ### plain words for loops -/
def anyN (n : Nat) (p : Nat → Bool) : Bool := (List.range n).any p
def allN (n : Nat) (p : Nat → Bool) : Bool := (List.range n).all p
def findN (n : Nat) (p : Nat → Bool) : Option Nat := (List.range n).find? p
def tab {α : Type} (n : Nat) (f : Nat → α) : List α := (List.range n).map f

theorem anyN_zero (p : Nat → Bool) : anyN 0 p = false := rfl
theorem anyN_succ (n : Nat) (p : Nat → Bool) : anyN (n + 1) p = (anyN n p || p n) := by simp [anyN, List.range_succ]
theorem allN_zero (p : Nat → Bool) : allN 0 p = true := rfl
theorem allN_succ (n : Nat) (p : Nat → Bool) : allN (n + 1) p = (allN n p && p n) := by simp [allN, List.range_succ]
theorem anyN_iff {n : Nat} {p : Nat → Bool} : anyN n p = true ↔ ∃ i, i < n ∧ p i = true := by simp [anyN]
theorem anyN_not {n : Nat} {p : Nat → Bool} : anyN n p = false ↔ ∀ i, i < n → p i = false := by simp [anyN]
theorem allN_iff {n : Nat} {p : Nat → Bool} : allN n p = true ↔ ∀ i, i < n → p i = true := by simp [allN]
theorem allN_not {n : Nat} {p : Nat → Bool} : allN n p = false ↔ ∃ i, i < n ∧ p i = false := by simp [allN]
theorem findN_some {n k : Nat} {p : Nat → Bool} (hk : k < n) (hp : p k = true) (hb : ∀ j, j < k → p j = false) : findN n p = some k := by
  simp only [findN, List.find?_range_eq_some]; exact ⟨hp, by simpa using hk, fun j hj => by simp [hb j hj]⟩
theorem findN_none {n : Nat} {p : Nat → Bool} (hb : ∀ j, j < n → p j = false) : findN n p = none := by
  simp only [findN, List.find?_range_eq_none]; intro j hj; simp [hb j hj]
theorem findN_eq {n k : Nat} {p : Nat → Bool} (h : findN n p = some k) : k < n ∧ p k = true ∧ ∀ j, j < k → p j = false := by
  simp only [findN, List.find?_range_eq_some] at h
  exact ⟨by simpa using h.2.1, h.1, fun j hj => by simpa using h.2.2 j hj⟩
theorem findN_no {n : Nat} {p : Nat → Bool} (h : findN n p = none) : ∀ j, j < n → p j = false := by
  simp only [findN, List.find?_range_eq_none] at h
  intro j hj; simpa using h j hj
theorem tab_length {α : Type} (n : Nat) (f : Nat → α) : (tab n f).length = n := by simp [tab]
theorem tab_zero {α : Type} (f : Nat → α) : tab 0 f = [] := rfl
theorem tab_succ {α : Type} (n : Nat) (f : Nat → α) : tab (n + 1) f = tab n f ++ [f n] := by simp [tab, List.range_succ]
theorem take_tab {α : Type} (n : Nat) (f : Nat → α) : (tab n f).take n = tab n f := List.take_of_length_le (by simp [tab])
theorem tab_getD {α : Type} {n k : Nat} (f : Nat → α) (d : α) (h : k < n) : (tab n f).getD k d = f k := by simp [tab, List.getD_eq_getElem?_getD, h]
theorem tab_get {α : Type} {n : Nat} {l : List α} (d : α) (h : l.length = n) : tab n (fun j => l.getD j d) = l := by
  subst h
  refine List.ext_getElem (by simp [tab]) fun i h1 h2 => ?_
  simp [tab, List.getD_eq_getElem?_getD, h2]
theorem tab_congr {α : Type} {n : Nat} {f g : Nat → α} (h : ∀ j, j < n → f j = g j) : tab n f = tab n g := by
  simp only [tab]; exact List.map_congr_left fun j hj => h j (List.mem_range.1 hj)
theorem tab_const {α : Type} (n : Nat) (c : α) : tab n (fun _ => c) = List.replicate n c := by simp only [tab, List.map_const', List.length_range]
theorem tab_set {α : Type} (n k : Nat) (f : Nat → α) (v : α) : (tab n f).set k v = tab n (fun j => if j = k then v else f j) := by
  refine List.ext_getElem (by simp [tab]) fun i h1 h2 => ?_
  simp only [tab, List.getElem_set, List.getElem_map, List.getElem_range]
  by_cases h : k = i
  · subst h; simp
  · rw [if_neg h, if_neg (fun e => h e.symm)]
theorem take_getD {α : Type} {l : List α} {k : Nat} (d : α) (h : k < l.length) : l.take (k + 1) = l.take k ++ [l.getD k d] := by
  rw [List.take_succ_eq_append_getElem h]; simp [List.getD_eq_getElem?_getD, h]
/-- The first k as f has them, the others as g has them. -/
def mix {α : Type} (n k : Nat) (f g : Nat → α) : List α := tab n fun j => if j < k then f j else g j
theorem mix_length {α : Type} (n k : Nat) (f g : Nat → α) : (mix n k f g).length = n := tab_length ..
theorem mix_zero {α : Type} (n : Nat) (f g : Nat → α) : mix n 0 f g = tab n g := tab_congr fun j _ => by simp
theorem mix_all {α : Type} (n : Nat) (f g : Nat → α) : mix n n f g = tab n f := tab_congr fun j hj => by simp [hj]
theorem mix_full {α : Type} {n k : Nat} (h : n ≤ k) (f g : Nat → α) : mix n k f g = tab n f := tab_congr fun j hj => by simp [Nat.lt_of_lt_of_le hj h]
theorem mix_nil {α : Type} {n k : Nat} (h : n = 0) (f g : Nat → α) : mix n k f g = [] := by subst h; rfl
theorem mix_succ {α : Type} (n k : Nat) (f g : Nat → α) : (mix n k f g).set k (f k) = mix n (k + 1) f g := by
  simp only [mix]
  rw [tab_set]
  refine tab_congr fun j _ => ?_
  by_cases h : j = k
  · subst h; simp
  · by_cases h2 : j < k
    · simp [h, h2, Nat.lt_succ_of_lt h2]
    · have : ¬ j < k + 1 := by omega
      simp [h, h2, this]
theorem mix_getD {α : Type} {n k j : Nat} (f g : Nat → α) (d : α) (h : j < n) : (mix n k f g).getD j d = if j < k then f j else g j := tab_getD _ _ h
theorem one_col {α : Type} (c v : α) : List.take 1 ((List.replicate 1 c).set 0 v) = [v] := rfl
theorem blt01 : Nat.blt 0 1 = true := rfl
theorem take_take_self {α : Type} (l : List α) (k : Nat) : (l.take k).take k = l.take k := by rw [List.take_take, Nat.min_self]
theorem getD_set {α : Type} (l : List α) (i j : Nat) (a d : α) : (l.set i a).getD j d = if i = j ∧ j < l.length then a else l.getD j d := by
  simp only [List.getD_eq_getElem?_getD, List.getElem?_set]
  by_cases h : i = j
  · subst h
    by_cases h2 : i < l.length <;> simp [h2]
  · simp [h]
theorem wrap_small {k : Nat} (h : k < 4611686018427387904) : IntKind.i64.wrap ((k : Int) + 1) = ((k + 1 : Nat) : Int) := by
  rw [IntWalk.i64_in _ (by omega)]; rfl

abbrev iv (n : Int) : AV := .val (.int .i64 n)
abbrev bv (b : Bool) : AV := .val (.bool b)
end Go.Vs

namespace Go.Vs
open Go Go.RowKit Go.WideShapes Go.ChangeShapes
set_option linter.unusedSimpArgs false
set_option linter.unusedVariables false

/-! ### the arguments of a law, under names -/
def CellArg (B : Nat) (s : Sh) (n : Nat) (v : AV) (H : AHeap) : Prop :=
  match s with
  | .int k => ∃ z, v = .val (.int k z) ∧ (Lit.int k z).wf = true ∧ H = []
  | .bool => ∃ b, v = .val (.bool b) ∧ H = []
  | .str => ∃ x : ByteArray, v = .val (.string x) ∧ x.size ≤ B ∧ H = []
  | .row e l => ∃ hd cols, v = .sl hd.nl n l.length 0 hd.len hd.cap ∧ H = [some (.arr false e hd.cap hd.len cols)] ∧ HdOk B hd ∧ ColsSh B l hd.len cols
def CellsArg (B : Nat) : List Sh → Nat → List AV → AHeap → Prop
  | [], _, vs, H => vs = [] ∧ H = []
  | s :: r, n, vs, H => ∃ v H1 vs' H2, vs = v :: vs' ∧ H = H1 ++ H2 ∧ CellArg B s n v H1 ∧ CellsArg B r (n + H1.length) vs' H2

structure PSh where
  agg : Bool
  l : List Sh
def oneV (p : PSh) (vs : List AV) : AV := match p.agg, vs with | true, vs => .agg vs | false, [v] => v | false, _ => .val undef
def ArgsSh (B : Nat) : List PSh → Nat → List AV → AHeap → Prop
  | [], _, as, H => as = [] ∧ H = []
  | p :: r, n, as, H => ∃ vs H1 as' H2, CellsArg B p.l n vs H1 ∧ as = oneV p vs :: as' ∧ H = H1 ++ H2 ∧ ArgsSh B r (n + H1.length) as' H2

def psh (P : Program) (t : TypeId) : Option PSh :=
  match cellSh P 8 t with
  | some l =>
    match P.underlying t with
    | some (.struct _) => some ⟨true, l⟩
    | some (.int _) => some ⟨false, l⟩
    | some .bool => some ⟨false, l⟩
    | some .string => some ⟨false, l⟩
    | some (.slice _) => some ⟨false, l⟩
    | _ => none
  | none => none
def pshs (P : Program) : List TypeId → Option (List PSh)
  | [] => some []
  | t :: r => match psh P t, pshs P r with | some p, some l => some (p :: l) | _, _ => none

theorem value_cells {P : Program} {w : World} {r : Reach} {base : Nat} {t : TypeId} {v : Value} (h : Value.okWide P w r base t v) {p : PSh} (hp : psh P t = some p) : (p.agg = true ∧ ∃ cs, v = .agg cs) ∨ (p.agg = false ∧ v.cells = #[v]) := by
  unfold psh at hp
  split at hp
  rotate_left
  · cases hp
  rename_i l hl
  unfold Value.okWide Cell.okWide at h
  split at hp
  · rename_i fs hu
    cases hp
    rw [hu] at h
    obtain ⟨cs, rfl, _⟩ := h
    exact .inl ⟨rfl, cs, rfl⟩
  all_goals first
    | (cases hp; done)
    | (rename_i hu
       cases hp
       rw [hu] at h
       right
       refine ⟨rfl, ?_⟩
       cases v <;> first | rfl | (simp [Cell.ok, hu] at h))

structure ArgSim (W : World) (H : AHeap) (β : Pl) : Prop where
  sim : Sim ⟨fun _ => False, iceOf W⟩ W β H W
  sc : AHeap.sc H.length H = true
  ice : β.ice = iceOf W

theorem sc_append {n : Nat} : ∀ {H K : AHeap}, AHeap.sc n (H ++ K) = (AHeap.sc n H && AHeap.sc n K)
  | [], K => by simp [AHeap.sc]
  | none :: r, K => by simp only [List.cons_append, AHeap.sc]; exact sc_append
  | some ao :: r, K => by simp only [List.cons_append, AHeap.sc, sc_append (H := r), Bool.and_assoc]

theorem sc_grow {n m : Nat} (h : n ≤ m) : ∀ {H : AHeap}, AHeap.sc n H = true → AHeap.sc m H = true
  | [], _ => rfl
  | none :: r, hs => by simp only [AHeap.sc] at *; exact sc_grow h hs
  | some ao :: r, hs => by simp only [AHeap.sc, Bool.and_eq_true] at *; exact ⟨AO.sc_more h hs.1, sc_grow h hs.2⟩

theorem cell_arg {B : Nat} {W : World} {H : AHeap} {β : Pl} (h : ArgSim W H β) {s : Sh} {v : Value} (hv : CellOk B (iceOf W) s v) :
    ∃ av H1 β', CellArg B s H.length av H1 ∧ v = av.conc β' ∧ ArgSim W (H ++ H1) β' ∧ Pl.Ext H.length β β' ∧ av.sc (H ++ H1).length = true := by
  obtain ⟨c, hc, hh⟩ := hv
  cases s with
  | int k =>
    simp only [ColSh] at hc
    obtain ⟨l, rfl, hl, hw⟩ := hc
    obtain ⟨z, rfl⟩ := one_of hl
    cases hh
    exact ⟨.val (.int k z), [], β, ⟨z, rfl, hw z (by simp), rfl⟩, rfl, by simpa using h, Pl.Ext.refl, rfl⟩
  | bool =>
    simp only [ColSh] at hc
    obtain ⟨l, rfl, hl⟩ := hc
    obtain ⟨z, rfl⟩ := one_of hl
    cases hh
    exact ⟨.val (.bool z), [], β, ⟨z, rfl, rfl⟩, rfl, by simpa using h, Pl.Ext.refl, rfl⟩
  | str =>
    simp only [ColSh] at hc
    obtain ⟨l, rfl, hl, hw⟩ := hc
    obtain ⟨z, rfl⟩ := one_of hl
    cases hh
    exact ⟨.val (.string z), [], β, ⟨z, rfl, hw z (by simp), rfl⟩, rfl, by simpa using h, Pl.Ext.refl, rfl⟩
  | row e l =>
    simp only [ColSh] at hc
    obtain ⟨hd, cols, rfl, hok⟩ := hc
    cases hh with
    | far _ _ _ _ _ _ _ hwl hf =>
    have key : ∃ pl : Pt, v = (AV.sl (hd 0).nl H.length l.length 0 (hd 0).len (hd 0).cap).conc (β.put H.length pl) ∧ Sim ⟨fun _ => False, iceOf W⟩ W (β.put H.length pl) (H ++ [some (.arr false e (hd 0).cap (hd 0).len (cols 0))]) W := by
      generalize hd 0 = h0 at hf ⊢
      generalize cols 0 = c0 at hf hwl ⊢
      cases hf with
      | none _ _ =>
        exact ⟨⟨0, 0, none⟩, rfl, h.sim.name h.sc (.arr false e 0 0 c0) rfl (Nat.le_refl _) _ (fun hl => absurd hl (by simp [AO.live]))⟩
      | dead _ _ a =>
        refine ⟨⟨a.block, a.off, a.spot⟩, ?_, h.sim.name h.sc (.arr false e 0 0 c0) rfl (Nat.le_refl _) _ (fun hl => absurd hl (by simp [AO.live]))⟩
        simp only [AV.conc, cond_false, Pl.put_new, Nat.zero_mul, Nat.add_zero]
      | row _ T' len cap _ b off c fz f hice hcap hlen hcc hhh =>
        refine ⟨⟨b, off, none⟩, ?_, h.sim.name h.sc (.arr false e cap len c0) rfl hlen _ (fun hl => ⟨rfl, rfl, _, by rw [h.ice]; exact hice, c, fz, T', rfl, (fun hr => nomatch hr), hcap, fun i hi j col hj => ⟨f i j, hcc i hi j (List.getElem?_eq_some_iff.1 hj).1, ?_⟩⟩)⟩
        · simp only [AV.conc, cond_false, Pl.put_new, Nat.zero_mul, Nat.add_zero]
        · rw [h.ice]; exact hhh i hi j col hj
    obtain ⟨pl, hv, hs⟩ := key
    refine ⟨_, _, β.put H.length pl, ⟨hd 0, cols 0, rfl, rfl, (hok 0).1, (hok 0).2⟩, hv, ⟨hs, ?_, h.ice⟩, Pl.put_ext, ?_⟩
    · rw [sc_append, sc_grow (by simp) h.sc]; rfl
    · simp [AV.sc]

theorem concs_ext {β β' : Pl} {n : Nat} (h : Pl.Ext n β β') {vs : List AV} (hs : AV.scs n vs = true) : AV.concs β' vs = AV.concs β vs := AV.concs_same h.old vs hs

theorem cells_arg {B : Nat} {W : World} : ∀ (l : List Sh) {H : AHeap} {β : Pl} {cs : List Value}, ArgSim W H β → cs.length = l.length → (∀ (j : Nat) (v : Value) (s : Sh), cs[j]? = some v → l[j]? = some s → CellOk B (iceOf W) s v) →
    ∃ avs H1 β', CellsArg B l H.length avs H1 ∧ cs = AV.concs β' avs ∧ ArgSim W (H ++ H1) β' ∧ Pl.Ext H.length β β' ∧ AV.scs (H ++ H1).length avs = true ∧ avs.length = l.length
  | [], H, β, cs, h, hl, _ => by
    obtain rfl := List.length_eq_zero_iff.1 hl
    exact ⟨[], [], β, ⟨rfl, rfl⟩, rfl, by simpa using h, Pl.Ext.refl, rfl, rfl⟩
  | s :: r, H, β, cs, h, hl, hc => by
    cases cs with
    | nil => simp at hl
    | cons v cs =>
      obtain ⟨av, H1, β1, q1, q2, q3, q4, q5⟩ := cell_arg h (hc 0 v s rfl rfl)
      obtain ⟨avs, H2, β2, r1, r2, r3, r4, r5, r6⟩ := cells_arg r (H := H ++ H1) (cs := cs) q3 (by simpa using hl) (fun j v s hv hs => hc (j + 1) v s (by simpa using hv) (by simpa using hs))
      refine ⟨av :: avs, H1 ++ H2, β2, ⟨av, H1, avs, H2, rfl, rfl, q1, by simpa using r1⟩, ?_, by simpa using r3, q4.trans r4 (by simp), ?_, by simp [r6]⟩
      · simp only [AV.concs]
        rw [AV.conc_same r4.old av q5, ← q2, ← r2]
      · simp only [AV.scs, Bool.and_eq_true]
        rw [List.append_assoc] at r5
        exact ⟨AV.sc_more (by simp) av q5, r5⟩

section
variable {H : Type} {enc : TypeId × Value → H} {P : Program} {W : World} (U : Bulk H)

theorem args_arg {B : Nat} : ∀ (ts : List TypeId) {ps : List PSh} {K : AHeap} {β : Pl} {vs : List Value} {ds : List (DataW H)} {mp : List MemPlace}, pshs P ts = some ps → ArgSim W K β →
    DataW.TrodAll enc P W 0 (fun _ => true) true ts vs ds mp → (∀ (j : Nat) (t : TypeId) (v : Value), ts[j]? = some t → vs[j]? = some v → ∃ base, Value.okWide P W .any base t v) → U.all ds ≤ B →
    ∃ as K1 β', ArgsSh B ps K.length as K1 ∧ vs = AV.concs β' as ∧ ArgSim W (K ++ K1) β' ∧ Pl.Ext K.length β β' ∧ AV.scs (K ++ K1).length as = true
  | [], ps, K, β, vs, ds, mp, hp, h, ht, _, _ => by
    cases hp
    obtain ⟨rfl, _⟩ := trodAll_nil ht
    exact ⟨[], [], β, ⟨rfl, rfl⟩, rfl, by simpa using h, Pl.Ext.refl, rfl⟩
  | t :: ts, ps, K, β, vs, ds, mp, hp, h, ht, hv, hB => by
    simp only [pshs] at hp
    split at hp
    rotate_left
    · cases hp
    rename_i p l hp1 hp2
    cases hp
    obtain ⟨v, vs', d, ds', m1, m2, rfl, rfl, rfl, h1, h2⟩ := trodAll_cons ht
    rw [U.cons] at hB
    obtain ⟨base, hv0⟩ := hv 0 t v rfl rfl
    obtain ⟨fuel, hf⟩ := h1
    have hpl : cellSh P 8 t = some p.l := by
      unfold psh at hp1
      split at hp1
      · rename_i l' hl'
        split at hp1 <;> first | (cases hp1; done) | (cases hp1; exact hl')
      · cases hp1
    obtain ⟨c1, c2⟩ := trod_cells U (B := B) 8 fuel t v.cells.toList (d, m1) p.l hf hpl (by simp only; omega)
    obtain ⟨avs, K1, β1, q1, q2, q3, q4, q5, q6⟩ := cells_arg p.l h c1 c2
    obtain ⟨as, K2, β2, r1, r2, r3, r4, r5⟩ := args_arg (B := B) ts (K := K ++ K1) hp2 q3 h2 (fun j t v hj hv' => hv (j + 1) t v (by simpa using hj) (by simpa using hv')) (by omega)
    have hone : v = (oneV p avs).conc β1 ∧ (oneV p avs).sc (K ++ K1).length = true := by
      rcases value_cells hv0 hp1 with ⟨ha, cs, rfl⟩ | ⟨ha, hcs⟩
      · refine ⟨?_, by simp only [oneV, ha]; exact q5⟩
        simp only [oneV, ha, AV.conc]
        rw [← q2]; rfl
      · rw [hcs] at q2
        have hlen : avs.length = 1 := by
          have := congrArg List.length q2
          simp only [concs_map, List.length_map] at this
          simpa using this.symm
        obtain ⟨a, rfl⟩ := one_of hlen
        simp only [AV.concs] at q2
        have e : v = a.conc β1 := by simpa using q2
        refine ⟨?_, ?_⟩
        · simp only [oneV, ha]; exact e
        · simp only [oneV, ha]; simp only [AV.scs, Bool.and_true] at q5; exact q5
    refine ⟨oneV p avs :: as, K1 ++ K2, β2, ⟨avs, K1, as, K2, q1, rfl, rfl, by simpa using r1⟩, ?_, by simpa using r3, q4.trans r4 (by simp), ?_⟩
    · simp only [AV.concs]
      rw [AV.conc_same r4.old _ hone.2, ← hone.1, ← r2]
    · simp only [AV.scs, Bool.and_eq_true]
      rw [List.append_assoc] at r5
      exact ⟨AV.sc_more (by simp) _ hone.2, r5⟩
end

/-- What a law is asked: it is true. -/
def LawOk (P : Program) (fn : Func) (B : Nat) : Prop :=
  ∀ ps, pshs P fn.params.toList = some ps → ∀ args H, ArgsSh B ps 0 args H → ∃ Γ L, CtsOk P Γ ∧ FnV P Γ L fn args H (fun v _ => v = bv true)

theorem argSim0 (W : World) : ArgSim W [] ⟨fun _ => ⟨0, 0, none⟩, iceOf W⟩ :=
  ⟨⟨rfl, rfl, rfl, Nat.le_refl _, fun _ _ _ => rfl, fun _ _ h => h, fun _ _ h => .inl h, fun i ao h => by simp at h, fun i ao h => by simp at h, fun i ao h => by simp at h, fun i ao h => by simp at h, fun i ao h => by simp at h, fun i ao h => by simp at h, fun i j ai aj h => by simp at h⟩, rfl, rfl⟩

theorem Sim.below {W w : World} {β : Pl} {H : AHeap} {ice : Nat → Obj → Prop} (h : Sim ⟨fun _ => False, ice⟩ W β H w) : Below W.heap.size W w :=
  ⟨h.os, h.tape, h.output, h.size, fun k hk => h.block k hk (fun h => h)⟩

theorem sameAt_of_below {W w : World} (h : Below W.heap.size W w) {p : MemPlace} (hp : p.block < W.heap.size) : W.sameAt w p := by
  cases p with
  | cell b off => exact World.cell?_of_block (h.block b hp)
  | map b => exact h.block b hp

section
variable {H : Type} {enc : TypeId × Value → H} {P : Program}

theorem trod_len {w : World} {base : Nat} {sp : Nat → Bool} {held : Bool} : ∀ {ts : List TypeId} {vs : List Value} {ds : List (DataW H)} {mp : List MemPlace}, DataW.TrodAll enc P w base sp held ts vs ds mp → ds.length = ts.length
  | [], _, _, _, h => by obtain ⟨_, rfl, _⟩ := trodAll_nil h; rfl
  | t :: ts, _, _, _, h => by
    obtain ⟨v, vs', d, ds', p, q, rfl, rfl, rfl, h1, h2⟩ := trodAll_cons h
    simp [trod_len h2]

theorem trodAll_carry {w w' : World} {base : Nat} {sp : Nat → Bool} {held : Bool} : ∀ {ts : List TypeId} {vs : List Value} {ds : List (DataW H)} {mp : List MemPlace}, DataW.TrodAll enc P w base sp held ts vs ds mp → (∀ p ∈ mp, w.sameAt w' p) → DataW.TrodAll enc P w' base sp held ts vs ds mp
  | [], [], [], _, h, _ => h
  | _ :: _, _ :: _, _ :: _, _, ⟨p, q, ⟨n, h1⟩, h2, e⟩, hs => ⟨p, q, ⟨n, DataW.trod_carry n _ _ _ h1 (fun x hx => hs x (by rw [e]; exact List.mem_append_left _ hx))⟩, trodAll_carry h2 (fun x hx => hs x (by rw [e]; exact List.mem_append_right _ hx)), e⟩

/-- Behind the call all is as it was, but for what lies behind all that was. -/
theorem post_below {f : Func} {s : ChangeSpec} {apart fresh handsOn again : Bool} {W W' : World} {args : Array Value} {v : Value} {ds gs : List (DataW H)} {before pa pv : List MemPlace}
    (hW : DataW.Whole enc P f.params.toList s.vars apart W args.toList ds gs before)
    (hres : ∀ (b : Nat) (sp : Nat → Bool) (hd : Bool), DataW.TrodAll enc P W' b sp hd f.resultTypes.toList (v.resultList f.resultTypes.size) (s.fn H (ds ++ gs)).results [])
    (hargs : ∀ sp : Nat → Bool, (∀ p ∈ before, sp p.block = true) → DataW.TrodAll enc P W' 0 sp true f.params.toList args.toList (s.fn H (ds ++ gs)).args pa)
    (hvars : ∀ sp : Nat → Bool, (∀ p ∈ before, sp p.block = true) → DataW.TrodVars enc P W' sp s.vars (s.fn H (ds ++ gs)).vars pv)
    (hps : before = pa ++ pv) (hb : Below W.heap.size W W')
    (hok : ∀ (j : Nat) (t : TypeId) (r : Value), f.resultTypes[j]? = some t → (v.resultList f.resultTypes.size)[j]? = some r → Value.okWide P W' .any 0 t r) :
    s.post enc P f apart fresh handsOn again W args v W' := by
  have hlt : ∀ p ∈ before, p.block < W.heap.size := fun p hp => hW.lt p hp
  have hold : ∀ p ∈ before, (fun b => decide (b < W.heap.size)) p.block = true := fun p hp => by simpa using hlt p hp
  refine ⟨ds, gs, before, [], pa, pv, hW, hres _ _ _, hargs _ hold, hvars _ hold, World.keptBut_mono (fun p hp => ⟨hp, ?_⟩) (hb.frame (· ∈ before)), fun _ => ?_⟩
  · rw [hps, List.mem_append] at hp
    exact Or.inr hp
  · obtain ⟨_, _, _, _, _, hz, hn⟩ := hW
    refine ⟨hok, _, _, ([] ++ pa) ++ pv, ⟨[] ++ pa, pv, trodAll_append (hargs _ (fun _ _ => rfl)) (hres _ _ _), hvars _ (fun _ _ => rfl), rfl, ?_, ?_⟩, ?_⟩
    · intro b off hp
      have hin : MemPlace.cell b off ∈ before := by rw [hps]; simpa using hp
      rw [hb.frozen (hlt _ hin)]
      exact hz b off hin
    · intro ha
      have := hn ha
      rw [hps] at this
      simpa using this
    · intro p hp _
      rw [hps]
      simpa using hp

theorem law_contract (U : Bulk H) (hm : P.follows .mixedOrders = true) {f : FuncId} {fn : Func} (hf : P.funcs[f]? = some fn) {B : Nat} (hlaw : LawOk P fn B) {ps : List PSh} (hps : pshs P fn.params.toList = some ps)
    (hl : laidOutB P = true) (hmr : mapsRowed P = true) (hfull : ((List.range P.types.size).all fun t => match P.underlying t with | some (.slice e) => decide (0 < P.cellsOf e) | _ => true) = true) (hpar : fn.params.toList.all (fun t => decide (t < P.types.size)) = true)
    {tb : TypeId} (hres : fn.resultTypes = #[tb]) (htb : P.underlying tb = some .bool) {s : ChangeSpec} (hv : s.vars = []) (hs : ∀ ds : List (DataW H), ds.length = fn.params.toList.length → s.fn H ds = { results := [.lit (.bool true)], args := ds })
    {fresh handsOn again : Bool} {W : World} {base : Nat} {args : Array Value} {ds gs : List (DataW H)} {before : List MemPlace}
    (hval : ∀ (j : Nat) t v, fn.params[j]? = some t → args[j]? = some v → Value.okWide P W .any base t v)
    (hW : DataW.Whole enc P fn.params.toList s.vars false W args.toList ds gs before) (hk : U.all (ds ++ gs) ≤ B) :
    Calls P f args W fun e W' => ∃ v, e = .returned v ∧ s.post enc P fn false fresh handsOn again W args v W' := by
  have hW' := hW
  obtain ⟨p, q, hA, hV, rfl, hfz, hnd⟩ := hW
  rw [hv] at hV
  obtain ⟨rfl, rfl⟩ := trodVars_none hV
  simp only [List.append_nil] at hk
  have hlen := trod_len hA
  obtain ⟨as, K, β, q1, q2, q3, _, q5⟩ := args_arg U (B := B) fn.params.toList hps (argSim0 W) hA (fun j t v hj hv' => ⟨base, hval j t v (by rw [← Array.getElem?_toList]; exact hj) (by rw [← Array.getElem?_toList]; exact hv')⟩) hk
  simp only [List.nil_append, List.length_nil] at q1 q3 q5
  obtain ⟨Γ, L, hΓ, hvc⟩ := hlaw ps hps as K q1
  have hargs : args = (AV.concs β as).toArray := by rw [← q2, Array.toArray_toList]
  have hcall := fnVC_sound hΓ (H := K) (D := fun N _ ops K' s => drawV P Γ N K.length ops K' s) (fun N id ops K' s h F w0 β0 a w hat => drawV_ok hΓ hm id ops K' s _ h F w0 β0 a w hat) hf hvc.out q3.sim
  rw [← hargs] at hcall
  refine hcall.mono fun e w' ⟨v, H', β', hvv, he, hs', _, _⟩ => ?_
  subst hvv
  have hb := hs'.below
  refine ⟨.bool true, he, ?_⟩
  have hsd := hs ds hlen
  have hin : ∀ x ∈ p, x.block < W.heap.size := fun x hx => hW'.lt x (by simpa using hx)
  refine post_below (pa := p) (pv := []) hW' (fun b sp hd => ?_) (fun sp hsp => ?_) (fun sp _ => ?_) rfl hb ?_
  · rw [List.append_nil, hsd, hres]
    exact trodAll_cons_mk (shut_bool htb _) trodAll_mk0
  · rw [List.append_nil, hsd]
    refine trodAll_carry (DataW.TrodAll.respare (kids_rows hl hmr) (fun t e ht hu => slices_full_of P hfull t e ht hu) (fun t ht => by simpa using List.all_eq_true.1 hpar t ht) hA (fun x hx => hsp x (by simpa using hx))) (fun x hx => sameAt_of_below hb (hin x hx))
  · rw [List.append_nil, hsd, hv]; rfl
  · exact ok_one hres rfl (okWide_bool_mk htb _)
end
end Go.Vs

namespace Go.Vs
open Go Go.RowKit
set_option linter.unusedSimpArgs false
set_option linter.unusedVariables false

/-! ### slices of numbers -/
structure SS where
  nl : Bool
  rw : Bool
  off : Nat
  n : Nat
  cap : Nat
  room : Nat
  m : Nat
  l : List Int
abbrev ssO (T : Nat) (k : IntKind) (s : SS) : AO := .arr s.rw T s.room s.m [.int k s.l]
abbrev ssV (s : SS) (b : Nat) : AV := .sl s.nl b 1 s.off s.n s.cap
/-- What it holds. -/
def SS.val (s : SS) : List Int := (s.l.drop s.off).take s.n
/-- B: how long it may be; lim: below it stands each number. -/
structure SSOk (B : Nat) (lim : Int) (s : SS) : Prop where
  m : s.l.length = s.m
  off : s.off + s.n ≤ s.m
  n : s.n ≤ B
  cap : s.n ≤ s.cap
  room : s.off + s.cap ≤ s.room
  nil : s.nl = true → s.n = 0
  at_ : ∀ i, i < s.n → 0 ≤ s.l.getD (s.off + i) 0 ∧ s.l.getD (s.off + i) 0 < lim

/-- Bytes, or words, that lie from the region's start on, made anew: cr tells its capacity, and its room. -/
abbrev ssN (nl : Bool) (cr : Nat × Nat) (l : List Int) : SS := ⟨nl, true, 0, l.length, cr.1, cr.2, l.length, l⟩

theorem SS.val_len {B : Nat} {lim : Int} {s : SS} (h : SSOk B lim s) : s.val.length = s.n := by
  have := h.off; have := h.m
  simp only [SS.val, List.length_take, List.length_drop]; omega
theorem SS.val_getD {s : SS} {i : Nat} (hi : i < s.n) : s.val.getD i 0 = s.l.getD (s.off + i) 0 := by
  simp only [SS.val, List.getD_eq_getElem?_getD, List.getElem?_take, hi, if_true, List.getElem?_drop]
theorem SS.val_in {B : Nat} {lim : Int} {s : SS} (h : SSOk B lim s) : ∀ v ∈ s.val, 0 ≤ v ∧ v < lim := by
  intro v hv
  obtain ⟨i, hi, rfl⟩ := List.mem_iff_getElem.1 hv
  have hl := SS.val_len h
  have := h.at_ i (by omega)
  have e : s.val[i] = s.val.getD i 0 := by simp [List.getD_eq_getElem?_getD, hi]
  rw [e, SS.val_getD (by omega)]; exact this
theorem SSOk.nl0 {B : Nat} {lim : Int} {s : SS} (h : SSOk B lim s) : 0 < s.n → s.nl = false := fun hn => by
  cases hb : s.nl with
  | false => rfl
  | true => have := h.nil hb; omega
theorem SS.val_new {nl : Bool} {cr : Nat × Nat} {l : List Int} : (ssN nl cr l).val = l := by simp [SS.val]

/-- Of a region's number its slice. -/
def fndS (T : Nat) (k : IntKind) (v : AV) (H : AHeap) : Option (SS × Nat) :=
  match v with
  | .sl nl b 1 off n cap =>
    match H[b]? with
    | some (some (.arr rw T' room m [.int k' l])) => if Nat.beq T' T && decide (k' = k) then some (⟨nl, rw, off, n, cap, room, m, l⟩, b) else none
    | _ => none
  | _ => none
theorem fndS_found {T : Nat} {k : IntKind} {v : AV} {H : AHeap} {s : SS} {b : Nat} (h : fndS T k v H = some (s, b)) : v = ssV s b ∧ H[b]? = some (some (ssO T k s)) := by
  unfold fndS at h
  split at h
  rotate_left
  · cases h
  rename_i nl b' off n cap
  split at h
  rotate_left
  · cases h
  rename_i rw T' room m k' l hH
  split at h
  rotate_left
  · cases h
  rename_i hc
  simp only [Bool.and_eq_true, decide_eq_true_eq] at hc
  obtain ⟨h1, rfl⟩ := hc
  have := Nat.eq_of_beq_eq_true h1
  subst this
  cases h
  exact ⟨rfl, hH⟩
/-- A slice of one's own: it lies from its region's start on, and nothing behind it. -/
structure OB where
  nl : Bool
  n : Nat
  cap : Nat
  room : Nat
  m : Nat
  l : List Int
abbrev obO (T : Nat) (k : IntKind) (o : OB) : AO := .arr true T o.room o.m [.int k o.l]
abbrev obV (o : OB) (b : Nat) : AV := .sl o.nl b 1 0 o.n o.cap
structure OBOk (B : Nat) (o : OB) : Prop where
  l : o.l.length = o.n
  m : o.m = o.n
  n : o.n ≤ B
  cap : o.n ≤ o.cap
  room : o.cap ≤ o.room
  nil : o.nl = true → o.cap = 0
def fndO (T : Nat) (k : IntKind) (v : AV) (H : AHeap) : Option (OB × Nat) :=
  match v with
  | .sl nl b 1 0 n cap =>
    match H[b]? with
    | some (some (.arr true T' room m [.int k' l])) => if Nat.beq T' T && decide (k' = k) then some (⟨nl, n, cap, room, m, l⟩, b) else none
    | _ => none
  | _ => none
theorem fndO_found {T : Nat} {k : IntKind} {v : AV} {H : AHeap} {s : OB} {b : Nat} (h : fndO T k v H = some (s, b)) : v = obV s b ∧ H[b]? = some (some (obO T k s)) := by
  unfold fndO at h
  split at h
  rotate_left
  · cases h
  rename_i nl b' n cap
  split at h
  rotate_left
  · cases h
  rename_i T' room m k' l hH
  split at h
  rotate_left
  · cases h
  rename_i hc
  simp only [Bool.and_eq_true, decide_eq_true_eq] at hc
  obtain ⟨h1, rfl⟩ := hc
  have := Nat.eq_of_beq_eq_true h1
  subst this
  cases h
  exact ⟨rfl, hH⟩
/-- What came out: its capacity, and its room. -/
def pkS (v : AV) (H : AHeap) : Option ((Nat × Nat) × Nat) :=
  match v with
  | .val (.slice none 0 0) => some ((0, 0), H.length)
  | .sl _ b _ _ _ cap => match (H[b]? : Option (Option AO)) with | some (some (.arr _ _ room _ _)) => some ((cap, room), b) | _ => none
  | _ => none

def SS.get (s : SS) (j : Nat) : Int := s.l.getD (s.off + j) 0
/-- The same of n, as what is beyond. -/
def pkO (n : Nat) (v : AV) (H : AHeap) : Option ((Nat × Nat) × Nat) := match pkS v H with | some ((c, r), b) => some ((c - n, r - c), b) | none => none

theorem wrap_u8 (n : Int) : IntKind.u8.wrap n = n % 256 := by simp [IntKind.wrap, IntKind.bits, IntKind.signed]
theorem wrap_u16 (n : Int) : IntKind.u16.wrap n = n % 65536 := by simp [IntKind.wrap, IntKind.bits, IntKind.signed]
theorem nlb {b : Bool} {k m : Nat} (h : b = true → k = 0 → m = 0) : (b && Nat.beq k 0) = false ∨ m = 0 := by
  cases b with
  | false => exact .inl rfl
  | true =>
    cases k with
    | zero => exact .inr (h rfl rfl)
    | succ k => exact .inl rfl
theorem hi_u8 (n : Int) (k : IntKind) (hk : 8 ≤ k.bits) : IntKind.u8.wrap (n.fdiv (2 ^ min (Int.toNat 8) k.bits)) = n / 256 % 256 := by
  rw [show min (Int.toNat 8) k.bits = 8 from Nat.min_eq_left hk, wrap_u8, Int.fdiv_eq_ediv_of_nonneg _ (by decide)]; rfl
/-- Words, as bytes: the high one first. -/
def wN (f : Nat → Int) : Nat → List Int
  | 0 => []
  | k + 1 => wN f k ++ [f k / 256 % 256, f k % 256]
theorem wN_length (f : Nat → Int) (k : Nat) : (wN f k).length = 2 * k := by
  induction k with
  | zero => rfl
  | succ k ih => simp [wN, ih]; omega
theorem words_step {l : List Int} {f : Nat → Int} {n k : Nat} {a b : Int} (h : l.length = n) (ha : a = f k / 256 % 256) (hb : b = f k % 256) :
    List.take (n + 2 * k) (l ++ wN f k) ++ List.take 2 (((List.replicate 2 0).set 0 a).set 1 b) = l ++ wN f (k + 1) := by
  rw [List.take_of_length_le (by simp [wN_length, h]), ha, hb]
  simp [wN]
theorem words_step0 {f : Nat → Int} {k : Nat} {a b : Int} (ha : a = f k / 256 % 256) (hb : b = f k % 256) :
    List.take (2 * k) (wN f k) ++ List.take 2 (((List.replicate 2 0).set 0 a).set 1 b) = wN f (k + 1) := by
  have := words_step (l := []) (n := 0) rfl ha hb
  simpa using this
theorem tm8 (k : Nat) : (((k : Int).tmod 8 == 0) = (k % 8 == 0)) := by
  have : (k : Int).tmod 8 = ((k % 8 : Nat) : Int) := by rw [Int.tmod_eq_emod_of_nonneg (by omega)]; omega
  rw [this]
  cases h : k % 8 == 0 with
  | true => simp at h; simp [h]
  | false => simp at h; simpa using by omega
theorem td8 {k : Nat} (h : k < 4611686018427387904) : IntKind.i64.wrap ((k : Int).tdiv 8) = ((k / 8 : Nat) : Int) := by
  have : (k : Int).tdiv 8 = ((k / 8 : Nat) : Int) := by rw [Int.tdiv_eq_ediv_of_nonneg (by omega)]; omega
  rw [this, IntWalk.i64_in _ (by omega)]
/-- One bit more of a byte. -/
def bor (a : Int) (k : Nat) : Int := IntKind.u8.wrap ↑(BitVec.ofInt IntKind.u8.bits a ||| BitVec.ofInt IntKind.u8.bits (IntKind.u8.wrap (1 * 2 ^ min ((k : Int).tmod 8).toNat IntKind.u8.bits))).toNat
/-- One bit of a byte. -/
def ubit (a : Int) (k : Nat) : Int := IntKind.u16.wrap (IntKind.u8.wrap ↑(BitVec.ofInt IntKind.u8.bits (a.fdiv (2 ^ min ((k : Int).tmod 8).toNat IntKind.u8.bits)) &&& BitVec.ofInt IntKind.u8.bits 1).toNat)
theorem obOk_of {B n c r : Nat} {l : List Int} (h : l.length = n) (hn : n ≤ B) : OBOk B ⟨false, n, n + c, n + c + r, n, l⟩ :=
  ⟨h, rfl, hn, Nat.le_add_right .., Nat.le_add_right .., fun h => (by cases h)⟩
theorem obOk_at {B n : Nat} {l : List Int} (h : l.length = n) (hn : n ≤ B) : OBOk B ⟨false, n, n, n, n, l⟩ :=
  ⟨h, rfl, hn, Nat.le_refl _, Nat.le_refl _, fun h => (by cases h)⟩
theorem ssOk1 {B : Nat} {lim v : Int} (hB : 1 ≤ B) (h : 0 ≤ v ∧ v < lim) : SSOk B lim ⟨false, true, 0, 1, 1, 1, 1, (List.replicate 1 0).set 0 v⟩ :=
  ⟨rfl, Nat.le_refl _, hB, Nat.le_refl _, Nat.le_refl _, fun h => (by cases h), fun i hi => by
    obtain rfl : i = 0 := by simpa using hi
    exact h⟩
theorem ssOk2 {B : Nat} {lim v u : Int} (hB : 2 ≤ B) (h : 0 ≤ v ∧ v < lim) (h2 : 0 ≤ u ∧ u < lim) : SSOk B lim ⟨false, true, 0, 2, 2, 2, 2, ((List.replicate 2 0).set 0 v).set 1 u⟩ :=
  ⟨rfl, Nat.le_refl _, hB, Nat.le_refl _, Nat.le_refl _, fun h => (by cases h), fun i hi => by
    match i, hi with
    | 0, _ => exact h
    | 1, _ => exact h2⟩
/-- One word, as bytes. -/
def w1 (n : Int) : List Int := [n / 256 % 256, n % 256]
theorem w1_of (v : Int) : wN (SS.get ⟨false, true, 0, 1, 1, 1, 1, (List.replicate 1 0).set 0 v⟩) 1 = w1 v := rfl
theorem w2_of (v u : Int) : wN (SS.get ⟨false, true, 0, 2, 2, 2, 2, ((List.replicate 2 0).set 0 v).set 1 u⟩) 2 = w1 v ++ w1 u := rfl
theorem w1_length (n : Int) : (w1 n).length = 2 := rfl
theorem one_set (v : Int) : (List.replicate 1 (0 : Int)).set 0 v = [v] := rfl
/-- Two contracts of one function, for what it is called with. -/
def Ct.or (a b : Ct) : Ct := fun args H => match a args H with | some t => some t | none => b args H
theorem CtOk.or {P : Program} {f : FuncId} {a b : Ct} (ha : CtOk P f a) (hb : CtOk P f b) : CtOk P f (a.or b) := by
  intro args H t h
  unfold Ct.or at h
  split at h
  · rename_i t' h'; cases h; exact ha args H _ h'
  · exact hb args H t h
end Go.Vs

namespace Go.Vs
open Go Go.RowKit
set_option linter.unusedSimpArgs false
set_option linter.unusedVariables false

/-! ### nil slices as slices of a region without room -/
mutual
def AV.nils (n : Nat) : AV → Nat × AV
  | .val (.slice none 0 0) => (n + 1, .sl true n 1 0 0 0)
  | .agg cs => match AV.nilsL n cs with | (m, l) => (m, .agg l)
  | v => (n, v)
def AV.nilsL (n : Nat) : List AV → Nat × List AV
  | [] => (n, [])
  | v :: vs => match AV.nils n v with | (m, u) => match AV.nilsL m vs with | (k, us) => (k, u :: us)
end

mutual
theorem AV.nils_conc (β : Pl) : ∀ (v : AV) (n : Nat), (AV.nils n v).2.conc β = v.conc β
  | .val v, n => by
    rw [AV.nils.eq_def]; dsimp only
    split
    · rename_i h; injection h with h; subst h; rfl
    · rename_i h; cases h
    · rfl
  | .agg cs, n => by
    rw [AV.nils.eq_def]; dsimp only
    have := AV.nilsL_conc β cs n
    simp only [AV.conc, this]
  | .ptr .., n => by rw [AV.nils.eq_def]
  | .pel .., n => by rw [AV.nils.eq_def]
  | .sl .., n => by rw [AV.nils.eq_def]
  | .mp .., n => by rw [AV.nils.eq_def]
  | .ch .., n => by rw [AV.nils.eq_def]
  | .fn .., n => by rw [AV.nils.eq_def]
  | .ifc .., n => by rw [AV.nils.eq_def]
  | .tup .., n => by rw [AV.nils.eq_def]
theorem AV.nilsL_conc (β : Pl) : ∀ (vs : List AV) (n : Nat), AV.concs β (AV.nilsL n vs).2 = AV.concs β vs
  | [], n => by rw [AV.nilsL.eq_def]
  | v :: vs, n => by
    rw [AV.nilsL.eq_def]; dsimp only
    simp only [AV.concs, AV.nils_conc β v n, AV.nilsL_conc β vs _]
end

def nilR (n : Nat) (D : List AO) (r : Res) : Res := ⟨r.val, r.wr.filter (fun p => Nat.blt p.1 n), D ++ r.new⟩
def deadRows (T : Nat) (k : IntKind) : AO := .arr true T 0 0 [.int k []]
/-- A contract, for nil slices too. -/
def nilCt (T : Nat) (k : IntKind) (c : Ct) : Ct := fun args H =>
  match AV.nilsL H.length args with
  | (m, l) => match m - H.length with
    | 0 => c args H
    | d + 1 => (c l (H ++ List.replicate (d + 1) (some (deadRows T k)))).map fun t => t.mapR (nilR H.length (List.replicate (d + 1) (deadRows T k)))

theorem wrAt_below {n id : Nat} (h : id < n) : ∀ l : List (Nat × Option AO), wrAt (l.filter (fun p => Nat.blt p.1 n)) id = wrAt l id
  | [] => rfl
  | (i, a) :: l => by
    have ih := wrAt_below h l
    cases hb : Nat.blt i n with
    | true => simp only [List.filter, hb, wrAt, ih]
    | false =>
      simp only [List.filter, hb, wrAt, ih]
      have : Nat.beq i id = false := by
        cases he : Nat.beq i id with
        | false => rfl
        | true =>
          have := Nat.eq_of_beq_eq_true he
          subst this
          have : Nat.blt i n = true := by rw [Nat.blt_eq]; exact h
          rw [this] at hb; cases hb
      rw [this]
      split <;> simp_all
theorem wrAt_above {n id : Nat} (h : n ≤ id) : ∀ l : List (Nat × Option AO), wrAt (l.filter (fun p => Nat.blt p.1 n)) id = none
  | [] => rfl
  | (i, a) :: l => by
    have ih := wrAt_above h l
    cases hb : Nat.blt i n with
    | true =>
      simp only [List.filter, hb, wrAt, ih]
      have : Nat.beq i id = false := by
        cases he : Nat.beq i id with
        | false => rfl
        | true =>
          have := Nat.eq_of_beq_eq_true he
          rw [Nat.blt_eq] at hb; omega
      rw [this]
    | false => simp only [List.filter, hb, ih]

theorem rep_get {α : Type} {n i : Nat} {a b : α} (h : (List.replicate n a)[i]? = some b) : b = a := by
  rw [List.getElem?_replicate] at h
  split at h
  · exact (Option.some.inj h).symm
  · cases h

theorem nilCt_ok {P : Program} {f : FuncId} {T : Nat} {k : IntKind} {c : Ct} (hc : CtOk P f c) : CtOk P f (nilCt T k c) := by
  intro args H t ht β F w0 w hs hsc hsafe
  unfold nilCt at ht
  generalize hn : AV.nilsL H.length args = ml at ht
  obtain ⟨m, l⟩ := ml
  dsimp only at ht
  cases hd : m - H.length with
  | zero =>
    rw [hd] at ht
    exact hc args H t ht β F w0 w hs hsc hsafe
  | succ d =>
    rw [hd] at ht
    simp only [Option.map_eq_some_iff] at ht
    obtain ⟨t', ht', rfl⟩ := ht
    have hdead : (deadRows T k).deadB = true := rfl
    have hs' : Sim F w0 β (H ++ List.replicate (d + 1) (some (deadRows T k))) w := hs.dropDead fun i ao hi => by
      rcases Nat.lt_or_ge i H.length with hl | hl
      · rw [List.getElem?_append_left hl] at hi; exact .inr hi
      · rw [List.getElem?_append_right hl] at hi
        have := rep_get hi
        simp only [Option.some.injEq] at this
        subst this; exact .inl hdead
    have hlen : (H ++ List.replicate (d + 1) (some (deadRows T k))).length = H.length + (d + 1) := by simp
    have hsc' : AHeap.sc (H ++ List.replicate (d + 1) (some (deadRows T k))).length (H ++ List.replicate (d + 1) (some (deadRows T k))) = true := by
      rw [hlen]
      have h1 : ∀ (K : AHeap), AHeap.sc H.length K = true → AHeap.sc (H.length + (d + 1)) (K ++ List.replicate (d + 1) (some (deadRows T k))) = true := by
        intro K
        induction K with
        | nil =>
          intro _
          generalize d + 1 = q
          have : ∀ q n, AHeap.sc n (List.replicate q (some (deadRows T k))) = true := by
            intro q
            induction q with
            | zero => intro n; rfl
            | succ q ih => intro n; simp only [List.replicate_succ, AHeap.sc, ih, Bool.and_true]; rfl
          exact this _ _
        | cons x K ih =>
          intro h
          cases x with
          | none => exact ih h
          | some ao =>
            simp only [AHeap.sc, Bool.and_eq_true] at h
            simp only [List.cons_append, AHeap.sc, Bool.and_eq_true]
            exact ⟨AO.sc_more (by omega) h.1, ih h.2⟩
      exact h1 H hsc
    have hargs : AV.concs β args = AV.concs β l := by
      have := AV.nilsL_conc β args H.length
      rw [hn] at this; exact this.symm
    rw [hargs]
    refine (hc l _ t' ht' β F w0 w hs' hsc' (OutT.mapR_wp hsafe)).mono fun e w' ⟨r, β', hcan, he, hsim, hext, hsame⟩ => ?_
    refine ⟨_, β', OutT.mapR_can hcan, he, ?_, hext.mono (by rw [hlen]; omega), fun h => by simp [nilR, List.replicate_succ] at h⟩
    refine hsim.dropDead fun i ao hi => ?_
    rw [apply_get] at hi
    rw [apply_get]
    simp only [nilR, List.length_append, List.length_replicate] at hi ⊢
    rcases Nat.lt_or_ge i H.length with hl | hl
    · right
      rw [if_neg (by omega)] at hi
      rw [if_neg (by omega)]
      rw [writes_get] at hi ⊢
      rw [wrAt_below hl] at hi
      cases hw : wrAt r.wr i with
      | none => rw [hw] at hi; simp only at hi ⊢; rw [List.getElem?_append_left hl]; exact hi
      | some a => rw [hw] at hi; simp only [List.length_append] at hi ⊢; rw [if_pos hl] at hi; rw [if_pos (by omega)]; exact hi
    · rw [if_pos hl] at hi
      split at hi
      rotate_left
      · cases hi
      have hi := Option.some.inj hi
      rcases Nat.lt_or_ge (i - H.length) (d + 1) with h2 | h2
      · rw [List.getElem?_append_left (by simpa using h2)] at hi
        exact .inl (by rw [rep_get hi]; exact hdead)
      · right
        rw [List.getElem?_append_right (by simpa using h2)] at hi
        rw [if_pos (by omega), if_pos (by omega)]
        simp only [List.length_replicate] at hi
        rw [show i - (H.length + (d + 1)) = i - H.length - (d + 1) by omega, hi]
/-- As it stands, or for nil slices. -/
def Ct.nil (T : Nat) (k : IntKind) (c : Ct) : Ct := c.or (nilCt T k c)
theorem CtOk.nil {P : Program} {f : FuncId} {c : Ct} (T : Nat) (k : IntKind) (h : CtOk P f c) : CtOk P f (c.nil T k) := h.or (nilCt_ok h)
end Go.Vs

namespace Go.Vs
open Go Go.RowKit
set_option linter.unusedSimpArgs false
set_option linter.unusedVariables false

/-! ### strings of bytes are alike if these are -/
theorem bytes_map_inj {a b : List Int} (ha : ∀ v ∈ a, 0 ≤ v ∧ v < 256) (hb : ∀ v ∈ b, 0 ≤ v ∧ v < 256) (h : (a.map fun n => UInt8.ofNat n.toNat) = b.map fun n => UInt8.ofNat n.toNat) : a = b := by
  induction a generalizing b with
  | nil => cases b with | nil => rfl | cons x b => cases h
  | cons x a ih =>
    cases b with
    | nil => cases h
    | cons y b =>
      simp only [List.map_cons, List.cons.injEq] at h
      obtain ⟨h1, h2⟩ := h
      have hx := ha x (List.mem_cons_self ..)
      have hy := hb y (List.mem_cons_self ..)
      have e : x.toNat = y.toNat := by
        have := congrArg UInt8.toNat h1
        rw [UInt8.toNat_ofNat_of_lt' (by show x.toNat < 256; omega), UInt8.toNat_ofNat_of_lt' (by show y.toNat < 256; omega)] at this
        exact this
      have e2 : x = y := by omega
      rw [e2, ih (fun v hv => ha v (List.mem_cons_of_mem _ hv)) (fun v hv => hb v (List.mem_cons_of_mem _ hv)) h2]
theorem strOfNums_inj {a b : List Int} (ha : ∀ v ∈ a, 0 ≤ v ∧ v < 256) (hb : ∀ v ∈ b, 0 ≤ v ∧ v < 256) : ((strOfNums a).toList == (strOfNums b).toList) = decide (a = b) := by
  by_cases h : a = b
  · subst h; simp
  · rw [decide_eq_false h, beq_eq_false_iff_ne]
    intro hl
    apply h
    have h2 : (strOfNums a).data.toList = (strOfNums b).data.toList := by
      rw [ByteArray.toList_eq, ByteArray.toList_eq] at hl; exact hl
    exact bytes_map_inj ha hb h2
end Go.Vs
