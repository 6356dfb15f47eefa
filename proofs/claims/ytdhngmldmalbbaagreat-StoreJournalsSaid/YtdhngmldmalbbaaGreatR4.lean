/-
  A part of a proof: StoreJournals answers true for all codes, bytes and numbers, without conditions.
-/
import Derived.Test.YtdhngmldmalbbaaGreatR3
section
set_option linter.all false
namespace Go.Proofs.YtdhngmldmalbbaaGreat
open Go.Lift Go.RowKit Go.Store
set_option linter.unusedSimpArgs false
set_option linter.unusedVariables false

def v1 (x : Int) : List LV := [V x]
def pr2 (p : Int × Int) : List LV := [V p.1, V p.2]
abbrev P20 : Int × Int := (0, 0)
def kpF (row : List Int) (q : Int) : Nat → Nat → Nat
  | 0, k => k
  | m + 1, k => bif decide (k < row.length) && decide (row.getD k 0 < q) then kpF row q m (k + 1) else k
def kp (row : List Int) (q : Int) : Nat := kpF row q row.length 0
/-- ascending numbers with one more. -/
def insN (row : List Int) (q : Int) : List Int := bif decide (kp row q < row.length) && decide (row.getD (kp row q) 0 = q) then row else row.take (kp row q) ++ q :: row.drop (kp row q)
def upd (rows : List (List Int)) (p : Int × Int) : List (List Int) := rows.set p.1.toNat (insN (rows.getD p.1.toNat []) p.2)
def prs (c : C3) : List (Int × Int) := [(c.1, c.2.1), (c.1, c.2.2), (c.2.1, c.2.2), (c.2.1, c.1), (c.2.2, c.1), (c.2.2, c.2.1)]
def ups (rows : List (List Int)) (ps : List (Int × Int)) : Nat → List (List Int)
  | 0 => rows
  | j + 1 => upd (ups rows ps j) (ps.getD j P20)
def arn (N : Nat) (C : List C3) : Nat → List (List Int)
  | 0 => List.replicate N []
  | i + 1 => ups (arn N C i) (prs (C.getD i C30)) 6
theorem kpF_le {row : List Int} {q : Int} : ∀ {m k : Nat}, k ≤ row.length → kpF row q m k ≤ row.length
  | 0, k, h => h
  | m + 1, k, h => by
    simp only [kpF]
    cases hc : (decide (k < row.length) && decide (row.getD k 0 < q))
    · exact h
    · simp only [Bool.and_eq_true, decide_eq_true_eq] at hc
      exact kpF_le hc.1
theorem kpF_done {row : List Int} {q : Int} {m k : Nat} (h : (decide (k < row.length) && decide (row.getD k 0 < q)) = false) : kpF row q m k = k := by
  cases m with
  | zero => rfl
  | succ m => simp only [kpF, h, cond_false]
theorem kp_le {row : List Int} {q : Int} : kp row q ≤ row.length := kpF_le (Nat.zero_le _)
theorem insN_len {row : List Int} {q : Int} : (insN row q).length ≤ row.length + 1 := by
  have := kp_le (row := row) (q := q)
  unfold insN
  cases decide (kp row q < row.length) && decide (row.getD (kp row q) 0 = q)
  · simp; omega
  · simp
theorem upd_same {rows : List (List Int)} {p : Int × Int} (h : insN (rows.getD p.1.toNat []) p.2 = rows.getD p.1.toNat []) (hl : p.1.toNat < rows.length) : upd rows p = rows := by
  rw [upd, h, List.getD_eq_getElem?_getD, List.getElem?_eq_getElem hl]
  exact List.set_getElem_self hl
theorem upd_len {rows : List (List Int)} {p : Int × Int} : (upd rows p).length = rows.length := by simp [upd]
theorem ups_len {rows : List (List Int)} {ps : List (Int × Int)} {j : Nat} : (ups rows ps j).length = rows.length := by
  induction j with
  | zero => rfl
  | succ j ih => rw [ups, upd_len, ih]
theorem arn_len {N : Nat} {C : List C3} {i : Nat} : (arn N C i).length = N := by
  induction i with
  | zero => simp [arn]
  | succ i ih => rw [arn, ups_len, ih]
/-- the rows' lengths are bounded. -/
def bnd (rows : List (List Int)) (b : Nat) : Prop := ∀ r ∈ rows, r.length ≤ b
theorem bnd_getD {rows : List (List Int)} {b k : Nat} (h : bnd rows b) : (rows.getD k []).length ≤ b := by
  rw [List.getD_eq_getElem?_getD]
  cases hr : rows[k]? with
  | none => simp
  | some r => exact h r (List.mem_of_getElem? hr)
theorem upd_bnd {rows : List (List Int)} {b : Nat} {p : Int × Int} (h : bnd rows b) : bnd (upd rows p) (b + 1) := fun r hr => by
  rcases List.mem_or_eq_of_mem_set hr with h1 | h1
  · have := h r h1; omega
  · rw [h1]
    have := insN_len (row := rows.getD p.1.toNat []) (q := p.2)
    have := bnd_getD (k := p.1.toNat) h
    omega
theorem ups_bnd {rows : List (List Int)} {ps : List (Int × Int)} {b j : Nat} (h : bnd rows b) : bnd (ups rows ps j) (b + j) := by
  induction j with
  | zero => exact h
  | succ j ih => exact upd_bnd ih
theorem arn_bnd {N : Nat} {C : List C3} {i : Nat} : bnd (arn N C i) (6 * i) := by
  induction i with
  | zero => intro r hr; rw [(List.mem_replicate.1 hr).2]; simp
  | succ i ih => exact ups_bnd ih

/-- frozen rows. -/
def FRs (es : List (List LV)) (rows : List (List Int)) : Prop := es.length = rows.length ∧ ∀ (i : Nat) (r : List Int), rows[i]? = some r → ∃ fl, es[i]? = some [LV.sl fl (r.map v1)]
theorem FRs_set {es : List (List LV)} {rows : List (List Int)} {k : Nat} {fl : Bool} {r : List Int} (h : FRs es rows) : FRs (es.set k [LV.sl fl (r.map v1)]) (rows.set k r) := by
  refine ⟨by simp [h.1], fun i r' hr => ?_⟩
  by_cases e : k = i
  · subst e
    have hlt : k < rows.length := by have := (List.getElem?_eq_some_iff.1 hr).1; simpa using this
    rw [List.getElem?_set_self hlt] at hr
    cases hr
    exact ⟨fl, by rw [List.getElem?_set_self (by rw [h.1]; exact hlt)]⟩
  · rw [List.getElem?_set_ne e] at hr ⊢
    exact h.2 i r' hr
theorem v1_getD {row : List Int} {k : Nat} (h : k < row.length) : (row.map v1).getD k [] = v1 (row.getD k 0) := by
  rw [List.getD_eq_getElem?_getD, List.getD_eq_getElem?_getD, List.getElem?_map, List.getElem?_eq_getElem h]; rfl
theorem pr2_getD {l : List (Int × Int)} {k : Nat} (h : k < l.length) : (l.map pr2).getD k [] = pr2 (l.getD k P20) := by
  rw [List.getD_eq_getElem?_getD, List.getD_eq_getElem?_getD, List.getElem?_map, List.getElem?_eq_getElem h]; rfl
theorem prs_len {c : C3} : (prs c).length = 6 := rfl
theorem frzK_v1 {keep : Nat → Bool} {S : LS} {d : Nat} {r : List Int} : (r.map v1).map (fun e => e.map (frzK keep S d)) = r.map v1 := by
  rw [List.map_map]
  refine List.map_congr_left fun x _ => ?_
  cases d <;> rfl
theorem frzK_FRs {keep : Nat → Bool} {S : LS} {d : Nat} {es : List (List LV)} {rows : List (List Int)} (h : FRs es rows) : es.map (fun e => e.map (frzK keep S d)) = es := by
  refine (List.map_congr_left (g := _root_.id) fun e he => ?_).trans (List.map_id _)
  obtain ⟨i, hi⟩ := List.getElem?_of_mem he
  have hlt : i < rows.length := by rw [← h.1]; exact (List.getElem?_eq_some_iff.1 hi).1
  obtain ⟨fl, h2⟩ := h.2 i _ (List.getElem?_eq_getElem hlt)
  rw [hi] at h2; cases h2
  cases d <;> rfl
theorem frz_FRs {n : Nat} {S : LS} {d : Nat} {es : List (List LV)} {rows : List (List Int)} (h : FRs es rows) : es.map (fun e => e.map (frz S n d)) = es := by
  refine (List.map_congr_left (g := _root_.id) fun e he => ?_).trans (List.map_id _)
  obtain ⟨i, hi⟩ := List.getElem?_of_mem he
  have hlt : i < rows.length := by rw [← h.1]; exact (List.getElem?_eq_some_iff.1 hi).1
  obtain ⟨fl, h2⟩ := h.2 i _ (List.getElem?_eq_getElem hlt)
  rw [hi] at h2; cases h2
  cases d <;> rfl
theorem v1_lt {n : Nat} {r : List Int} : ltLL n (r.map v1) = true := by
  induction r with
  | nil => rfl
  | cons x r ih => simp only [List.map_cons, ltLL, v1, ltL, LV.lt, Bool.and_self, Bool.true_and] at ih ⊢; exact ih
theorem FRs_lt {n : Nat} {es : List (List LV)} {rows : List (List Int)} (h : FRs es rows) : ltLL n es = true :=
  lt_int fun e he => by
    obtain ⟨i, hi⟩ := List.getElem?_of_mem he
    have hlt : i < rows.length := by rw [← h.1]; exact (List.getElem?_eq_some_iff.1 hi).1
    obtain ⟨fl, h2⟩ := h.2 i _ (List.getElem?_eq_getElem hlt)
    rw [hi] at h2; cases h2
    simp only [ltL, LV.lt, v1_lt, Bool.and_self]
/-- a row of rows that was written: the new row is known from now on. -/
theorem Lwp_frzRow {Nt : Nat} {cd : Code} {Q : Exit → Env → LS → Prop} {env : Env} {S T : LS} {es : List (List LV)} {rows : List (List Int)} {k2 pi : Nat} {r : List Int} (hk2 : 0 < k2) (h0 : T[0]? = some (some (1, es.set pi [LV.ref (S.length + k2) 0 r.length])))
    (hk : T[k2]? = some (some (1, r.map v1))) (hfr : FRs es rows) (ts : List Nat) (us : List LV) (hl : allLt Nt ts = true) (hus : slotsOf env ts = us) (hfz : us.map (frzK (fun j => j != S.length + k2) (S ++ T) 1) = us)
    (h : Lwp Tryz.prog Nt cd Q (envZ ts us) (S ++ (T.set k2 none).set 0 (some (1, es.set pi [LV.sl false (r.map v1)])))) : Lwp Tryz.prog Nt cd Q env (S ++ T) := by
  have hT0 := lt_of_get h0
  refine Lwp_freezeB (fun j => j != S.length + k2) 1 (S ++ (T.set k2 none).set 0 (some (1, es.set pi [LV.sl false (r.map v1)]))) (by simp) (fun id b hb => ?_) ts hl (by rw [hus, hfz]; exact h)
  by_cases hl : id < S.length
  · rw [List.getElem?_append_left hl] at hb
    exact ⟨by simp; omega, b, by rw [List.getElem?_append_left hl]; exact hb, .inl rfl⟩
  · rw [List.getElem?_append_right (by omega)] at hb
    obtain ⟨m, rfl⟩ : ∃ m, id = S.length + m := ⟨id - S.length, by omega⟩
    rw [Nat.add_sub_cancel_left] at hb
    by_cases hm0 : m = 0
    · subst hm0
      rw [List.getElem?_set_self (by simpa using hT0)] at hb
      cases hb
      refine ⟨by simp; omega, _, by rw [get_app]; exact h0, .inr ?_⟩
      simp only [frzKB, Prod.mk.injEq, true_and]
      rw [List.map_set, frzK_FRs hfr]
      congr 1
      simp only [List.map_cons, List.map_nil, frzK, bne_self_eq_false, cond_false]
      rw [get_app, hk]
      simp only [Nat.zero_add, List.length_map, Nat.le_refl, if_true, List.drop_zero]
      rw [List.take_of_length_le (by simp)]
      simp
    · rw [List.getElem?_set_ne (Ne.symm hm0)] at hb
      by_cases hmk : m = k2
      · subst hmk
        rw [List.getElem?_set_self (lt_of_get hk)] at hb
        cases hb
      · rw [List.getElem?_set_ne (Ne.symm hmk)] at hb
        exact ⟨by simp; omega, b, by rw [get_app]; exact hb, .inl rfl⟩
def inR (N : Nat) (c : C3) : Bool := decide (0 ≤ c.1) && decide (c.1 < N) && decide (0 ≤ c.2.1) && decide (c.2.1 < N) && decide (0 ≤ c.2.2) && decide (c.2.2 < N)

set_option maxHeartbeats 400000 in
theorem Around_ok (n h N : Nat) (h1 : 1 ≤ n) (h8 : n ≤ 8) (hh : h * n = 840) (hN : N = 10 * n * n + 2) (hR : (cls (nds n h 20) n h 20).all (inR N) = true) : Pc 74 [V n] (fun r => ∃ full es, r = .sl full es ∧ FRs es (arn N (cls (nds n h 20) n h 20) (cls (nds n h 20) n h 20).length)) := by
  refine Pc_intro 3 Tryz.func74 rfl (by kernel_rfl) rfl fun S RR hRR => ?_
  obtain ⟨C, hC⟩ : ∃ C, C = cls (nds n h 20) n h 20 := ⟨_, rfl⟩
  have hCok := Cells_ok n h h1 h8 hh
  have hCl : C.length ≤ 2560 := by
    have a3 := cls_len (l := nds n h 20) (n := n) (h := h) (f := 20)
    have a5 : 20 * (n * (2 * n)) ≤ 20 * (8 * (2 * 8)) := Nat.mul_le_mul (by omega) (Nat.mul_le_mul (by omega) (by omega))
    rw [hC]; omega
  rw [← hC] at hR hRR hCok
  have hnn : n * n ≤ 64 := Nat.mul_le_mul h8 h8
  have hN2 : N ≤ 700 := by rw [hN, Nat.mul_assoc]; omega
  have hcn : 10 * (n : Int) * (n : Int) + 2 = (N : Int) := by rw [hN]; simp
  refine Lwp_seq fun KK0 hKK0 => ?_
  refine LregionG [none] (by kernel_rfl) (by kernel_rfl) ?_
  simp -dsimp only [go_sem, ↓reduceIte]
  repeat with_reducible refine And.intro (by first | omega | decide) ?_
  refine hKK0 _ _ ?_
  try clear hKK0 KK0
  refine Lwp_seq fun KK1 hKK1 => ?_
  refine LregionG [none, none, none, none, none, none, none] (by kernel_rfl) (by kernel_rfl) ?_
  simp -dsimp only [go_sem, ↓reduceIte]
  refine (hCok).k' ?_
  rintro _ ⟨full, rfl⟩
  simp -dsimp only [go_sem, ↓reduceIte]
  refine hKK1 _ _ ?_
  try clear hKK1 KK1
  refine Lwp_seq fun KK2 hKK2 => ?_
  refine LregionG [none, none, none, none] (by kernel_rfl) (by kernel_rfl) ?_
  simp -dsimp only [go_sem, ↓reduceIte, hcn]
  refine (Count_ok (n : Int) (by omega) (by omega)).k' ?_
  rintro _ rfl
  simp -dsimp only [go_sem, ↓reduceIte, hcn]
  refine ⟨⟨1, 24, _, ⟨rfl, rfl, rfl⟩, Nat.le_refl _, by simp only [LIM]; omega⟩, ?_⟩
  refine hKK2 _ _ ?_
  try clear hKK2 KK2
  refine Lwp_seq fun KK3 hKK3 => ?_
  refine Lwp_seq fun KK4 hKK4 => ?_
  refine LregionG [none, none, none] (by kernel_rfl) (by kernel_rfl) ?_
  simp -dsimp only [go_sem, ↓reduceIte]
  repeat with_reducible refine And.intro (by first | omega | decide) ?_
  refine hKK4 _ _ ?_
  try clear hKK4 KK4
  refine Lwp_block ?_
  refine Lwp_loopK [5, 20, 21, 22] (fun m us S' => ∃ (T : LS) (es : List (List LV)) (i : Nat), S' = S ++ T ∧ us = [.ref S.length 0 N, .sl full (C.map cl3), V C.length, V i] ∧ T[0]? = some (some (1, es)) ∧ FRs es (arn N C i) ∧ i ≤ C.length ∧ m = C.length - i) C.length rfl (⟨[some (1, List.replicate N [.sl true []])], _, 0, rfl, by simp only [go_sem, ↓reduceIte, Int.natCast_zero], rfl, ⟨by simp [arn], fun i r hr => ⟨true, by
      simp only [arn, List.getElem?_replicate] at hr ⊢
      split at hr
      · rename_i hlt; cases hr; rw [if_pos hlt]; rfl
      · cases hr⟩⟩, by omega, by omega⟩) ?_
  rintro m us S2 ⟨T, es, i, rfl, rfl, hT0, hfr, hi, hm⟩ II hII
  refine Lwp_seq fun KK5 hKK5 => ?_
  refine LregionG [none] (by kernel_rfl) (by kernel_rfl) ?_
  simp -dsimp only [go_sem, ↓reduceIte]
  repeat with_reducible refine And.intro (by first | omega | decide) ?_
  refine hKK5 _ _ ?_
  try clear hKK5 KK5
  refine Lwp_seq fun KK6 hKK6 => ?_
  refine Lwp_cond (by simp only [go_sem, ↓reduceIte]; rfl) (fun ht => ?_) (fun hf => ?_)
  · skip
    have hi : i < C.length := by simpa using ht
    have hg3 := cl3_getD hi
    obtain ⟨c, hc⟩ : ∃ c, c = C.getD i C30 := ⟨_, rfl⟩
    rw [← hc] at hg3
    have hcR : inR N c = true := List.all_eq_true.1 hR c (by rw [hc, List.getD_eq_getElem?_getD, List.getElem?_eq_getElem hi]; exact List.getElem_mem hi)
    simp only [inR, Bool.and_eq_true, decide_eq_true_eq] at hcR
    have hTl := lt_of_get hT0
    refine Lwp_skip ?_
    try simp -dsimp only [go_sem, ↓reduceIte]
    refine hKK6 _ _ ?_
    try clear hKK6 KK6
    refine Lwp_seq fun KK7 hKK7 => ?_
    refine Lwp_block ?_
    refine Lwp_seq fun KK8 hKK8 => ?_
    refine LregionG [none, none, none, none] (by kernel_rfl) (by kernel_rfl) ?_
    simp -dsimp only [go_sem, ↓reduceIte, hg3, cl3, List.length_map]
    repeat with_reducible refine And.intro (by first | omega | decide) ?_
    refine hKK8 _ _ ?_
    try clear hKK8 KK8
    refine Lwp_seq fun KK9 hKK9 => ?_
    refine LregionG [none, none, none, none, none, none, none, none, none, none, none, none, none, none, none, none, none, none, none, none, none, none, none, none, none, none, none, none, none, none, none, none, none] (by kernel_rfl) (by kernel_rfl) ?_
    simp -dsimp only [go_sem, ↓reduceIte]
    repeat with_reducible refine And.intro (by first | omega | decide) ?_
    refine hKK9 _ _ ?_
    try clear hKK9 KK9
    refine Lwp_block ?_
    refine Lwp_loopK [5, 20, 21, 22, 56, 57, 58] (fun m us S' => ∃ (T : LS) (es : List (List LV)) (j : Nat), S' = S ++ T ∧ us = [.ref S.length 0 N, .sl full (C.map cl3), V C.length, V i, .sl true ((prs c).map pr2), V 6, V j] ∧ T[0]? = some (some (1, es)) ∧ FRs es (ups (arn N C i) (prs c) j) ∧ j ≤ 6 ∧ m = 6 - j) 6 rfl (⟨_, es, 0, rfl, by simp only [go_sem, ↓reduceIte, prs, pr2, Int.natCast_zero]; rfl, (List.getElem?_append_left (by omega)).trans hT0, hfr, by omega, by omega⟩) ?_
    rintro m1 us S2 ⟨T, es, j, rfl, rfl, hT0, hfr, hj, hm1⟩ II1 hII1
    refine Lwp_seq fun KK10 hKK10 => ?_
    refine LregionG [none] (by kernel_rfl) (by kernel_rfl) ?_
    simp -dsimp only [go_sem, ↓reduceIte]
    repeat with_reducible refine And.intro (by first | omega | decide) ?_
    refine hKK10 _ _ ?_
    try clear hKK10 KK10
    refine Lwp_seq fun KK11 hKK11 => ?_
    refine Lwp_cond (by simp only [go_sem, ↓reduceIte]; rfl) (fun ht => ?_) (fun hf => ?_)
    · skip
      have hj : j < 6 := by simp only [decide_eq_true_eq] at ht; omega
      have hjp : j < (prs c).length := hj
      have hgp := pr2_getD hjp
      obtain ⟨p, hp⟩ : ∃ p, p = (prs c).getD j P20 := ⟨_, rfl⟩
      rw [← hp] at hgp
      have hpm : p ∈ prs c := by rw [hp, List.getD_eq_getElem?_getD, List.getElem?_eq_getElem hjp]; exact List.getElem_mem hjp
      obtain ⟨⟨⟨⟨⟨c1, c2⟩, c3⟩, c4⟩, c5⟩, c6⟩ := hcR
      have hpR : 0 ≤ p.1 ∧ p.1 < N := by
        simp only [prs, List.mem_cons, List.not_mem_nil, or_false] at hpm
        rcases hpm with rfl | rfl | rfl | rfl | rfl | rfl <;> (dsimp only; omega)
      obtain ⟨rows, hrows⟩ : ∃ rows, rows = ups (arn N C i) (prs c) j := ⟨_, rfl⟩
      have hnx : ups (arn N C i) (prs c) (j + 1) = upd rows p := by rw [hrows, hp]; rfl
      rw [← hrows] at hfr
      have hrl : rows.length = N := by rw [hrows, ups_len, arn_len]
      obtain ⟨row, hrow⟩ : ∃ row, row = rows.getD p.1.toNat [] := ⟨_, rfl⟩
      have hrowl : row.length ≤ 16000 := by
        have h1 : bnd rows (6 * i + j) := by rw [hrows]; exact ups_bnd arn_bnd
        have hi2 : i ≤ 2560 := by omega
        have := bnd_getD (k := p.1.toNat) h1
        rw [hrow]; omega
      have hpl : p.1.toNat < rows.length := by rw [hrl]; omega
      obtain ⟨fl, he⟩ := hfr.2 p.1.toNat row (by rw [hrow, List.getD_eq_getElem?_getD, List.getElem?_eq_getElem hpl]; rfl)
      have heg : es.getD p.1.toNat [] = [LV.sl fl (row.map v1)] := by rw [List.getD_eq_getElem?_getD, he]; rfl
      have hel : es.length = N := by rw [hfr.1, hrl]
      have hTl := lt_of_get hT0
      have hne : (S.length + T.length = S.length) = False := eq_false (by omega)
      have hT0x : (T ++ [some (2, [pr2 p])])[0]? = some (some (1, es)) := (List.getElem?_append_left hTl).trans hT0
      have hTn : (T ++ [some (2, [pr2 p])])[T.length]? = some (some (2, [pr2 p])) := by simp
      refine Lwp_skip ?_
      try simp -dsimp only [go_sem, ↓reduceIte]
      refine hKK11 _ _ ?_
      try clear hKK11 KK11
      refine Lwp_seqJ [5, 20, 21, 22, 56, 57, 58] (fun us S' => us = [.ref S.length 0 N, .sl full (C.map cl3), V C.length, V i, .sl true ((prs c).map pr2), V 6, V j] ∧ ∃ T', S' = S ++ T' ∧ ((∃ es', T'[0]? = some (some (1, es')) ∧ FRs es' (upd rows p)) ∨ (∃ k2 : Nat, 0 < k2 ∧ T'[0]? = some (some (1, es.set p.1.toNat [LV.ref (S.length + k2) 0 (insN row p.2).length])) ∧ T'[k2]? = some (some (1, (insN row p.2).map v1))))) rfl (fun KK12 hKK12 => ?_) ?_
      · skip
        refine Lwp_block ?_
        refine Lwp_seq fun KK13 hKK13 => ?_
        refine LregionG [none, none, none, none] (by kernel_rfl) (by kernel_rfl) ?_
        simp -dsimp only [go_sem, ↓reduceIte, hgp, pr2, List.length_map, prs_len]
        repeat with_reducible refine And.intro (by first | omega | decide) ?_
        refine hKK13 _ _ ?_
        try clear hKK13 KK13
        refine Lwp_seq fun KK14 hKK14 => ?_
        refine LregionG [none] (by kernel_rfl) (by kernel_rfl) ?_
        simp -dsimp only [go_sem, ↓reduceIte]
        repeat with_reducible refine And.intro (by first | omega | decide) ?_
        refine hKK14 _ _ ?_
        try clear hKK14 KK14
        refine Lwp_seq fun KK15 hKK15 => ?_
        refine Lwp_block ?_
        refine Lwp_loopK [5, 20, 21, 22, 56, 57, 58, 9, 10] (fun m us S' => ∃ (k : Nat), S' = S ++ (T ++ [some (2, [pr2 p])]) ∧ us = [.ref S.length 0 N, .sl full (C.map cl3), V C.length, V i, .sl true ((prs c).map pr2), V 6, V j, .ptr (S.length + T.length) 0 0, V k] ∧ k ≤ row.length ∧ kpF row p.2 (row.length - k) k = kp row p.2 ∧ m = row.length - k) row.length rfl (⟨0, rfl, by simp only [go_sem, ↓reduceIte, Int.natCast_zero], Nat.zero_le _, rfl, rfl⟩) ?_
        rintro m2 us S2 ⟨k, rfl, rfl, hk, hkp, hm2⟩ II2 hII2
        refine Lwp_seq fun KK16 hKK16 => ?_
        refine Lwp_seqJ [5, 20, 21, 22, 56, 57, 58, 9, 10, 82] (fun us S' => us = [.ref S.length 0 N, .sl full (C.map cl3), V C.length, V i, .sl true ((prs c).map pr2), V 6, V j, .ptr (S.length + T.length) 0 0, V k, .bool (decide (k < row.length) && decide (row.getD k 0 < p.2))] ∧ S' = S ++ (T ++ [some (2, [pr2 p])])) rfl (fun KK17 hKK17 => ?_) ?_
        · skip
          refine LdrawE [0,1,2,3,4,5,6,7,8,9,10,11,12,13,14,15,16,17,18,19,20] [(S.length, (1, es)), (S.length + T.length, (2, [pr2 p]))] none (by kernel_rfl) (by kernel_rfl) (by kernel_rfl) (by kernel_rfl) (by simp only [Watch.holds, List.mem_cons, List.not_mem_nil, or_false, forall_eq_or_imp, forall_eq]; exact ⟨by rw [get_app0]; exact hT0x, by rw [get_app]; exact hTn⟩) ?_
          simp -dsimp only [go_sem, ↓reduceIte, List.mem_cons, forall_eq_or_imp, and_assoc, Nat.zero_add, Nat.add_zero, Nat.mul_one, Nat.zero_mul, if_false, if_true, hne, he, heg, hel, pr2, List.length_map]
          refine ⟨by decide, hpR.1, hpR.2, by omega, ?_⟩
          by_cases q1 : k < row.length
          rotate_left
          · have hJ : (decide (k < row.length) && decide (row.getD k 0 < p.2)) = false := by simp [q1]
            simp -dsimp only [go_sem, ↓reduceIte, q1, List.mem_cons, forall_eq_or_imp, and_assoc, Nat.zero_add, Nat.add_zero, Nat.mul_one, Nat.zero_mul, if_false, if_true, hne, he, heg, hel, pr2, List.length_map]
            refine hKK17 _ _ ⟨by rw [hJ], rfl⟩
          have hg := v1_getD q1
          have hJ : (decide (k < row.length) && decide (row.getD k 0 < p.2)) = decide (row.getD k 0 < p.2) := by simp [q1]
          simp -dsimp only [go_sem, ↓reduceIte, q1, hg, v1, List.mem_cons, forall_eq_or_imp, and_assoc, Nat.zero_add, Nat.add_zero, Nat.mul_one, Nat.zero_mul, if_false, if_true, hne, he, heg, hel, pr2, List.length_map]
          repeat with_reducible refine And.intro (by first | omega | decide | assumption) ?_
          refine hKK17 _ _ ⟨by rw [hJ], rfl⟩
        · rintro us SJ ⟨rfl, rfl⟩
          refine Lwp_cond (by simp only [go_sem, ↓reduceIte]; rfl) (fun ht => ?_) (fun hf => ?_)
          · skip
            refine Lwp_skip ?_
            try simp -dsimp only [go_sem, ↓reduceIte]
            refine hKK16 _ _ ?_
            try clear hKK16 KK16
            refine Lwp_block ?_
            have wk : IntKind.i64.wrap ((k : Int) + 1) = ((k + 1 : Nat) : Int) := w64 (by omega) (by omega)
            refine LregionG [none, none, none] (by kernel_rfl) (by kernel_rfl) ?_
            simp -dsimp only [go_sem, ↓reduceIte, wk]
            repeat with_reducible refine And.intro (by first | omega | decide) ?_
            have ht2 := ht
            simp only [Bool.and_eq_true, decide_eq_true_eq] at ht2
            have e1 : row.length - k = (row.length - (k + 1)) + 1 := by omega
            rw [e1] at hkp
            simp only [kpF, ht, cond_true] at hkp
            exact hII2 (row.length - (k + 1)) _ _ (by omega) ⟨k + 1, rfl, rfl, by omega, hkp, rfl⟩
          · skip
            have hkk : kp row p.2 = k := by rw [← hkp, kpF_done hf]
            have hvh : ∀ e ∈ (row.map v1).head?, e.length = 1 := by cases row <;> simp [v1]
            have hvd : ∀ f ∈ (row.drop k).map v1, f.length = 1 := fun f hf => by
              obtain ⟨x, _, rfl⟩ := List.mem_map.1 hf; rfl
            have hdk : List.take (row.length - k) (List.drop k (row.map v1)) = (row.drop k).map v1 := by
              rw [List.map_drop]; exact List.take_of_length_le (by simp)
            have htk : List.take k (row.map v1) = (row.take k).map v1 := by rw [List.map_take]
            have htl : (row.take k).length = k := by rw [List.length_take]; omega
            have htk2 : List.take k ((row.take k).map v1) = (row.take k).map v1 := List.take_of_length_le (by simp; omega)
            have hful : List.take (1 + (row.drop k).length) ([V p.2] :: (row.drop k).map v1) = [V p.2] :: (row.drop k).map v1 := List.take_of_length_le (by simp; omega)
            have hv3 : ∀ f ∈ [V p.2] :: (row.drop k).map v1, f.length = 1 := fun f hf => by
              rcases List.mem_cons.1 hf with rfl | hf
              · rfl
              · exact hvd f hf
            have hT0g : ∀ L : LS, (T ++ L)[0]? = some (some (1, es)) := fun L => (List.getElem?_append_left hTl).trans hT0
            have hvh2 : ∀ e ∈ ((row.take k).map v1).head?, e.length = 1 := by cases row.take k <;> simp [v1]
            have hvt : ∀ f ∈ (row.take k).map v1, f.length = 1 := fun f hf => by
              obtain ⟨x, _, rfl⟩ := List.mem_map.1 hf; rfl
            refine Lwp_exit ?_
            simp -dsimp only [go_sem, ↓reduceIte]
            refine hKK15 _ _ ?_
            try clear hKK15 KK15
            refine Lwp_seq fun KK18 hKK18 => ?_
            refine Lwp_seqJ [5, 20, 21, 22, 56, 57, 58, 9, 10, 105] (fun us S' => us = [.ref S.length 0 N, .sl full (C.map cl3), V C.length, V i, .sl true ((prs c).map pr2), V 6, V j, .ptr (S.length + T.length) 0 0, V k, .bool (decide (k < row.length) && decide (row.getD k 0 = p.2))] ∧ S' = S ++ (T ++ [some (2, [pr2 p])])) rfl (fun KK19 hKK19 => ?_) ?_
            · skip
              refine LdrawE [0,1,2,3,4,5,6,7,8,9,10,11,12,13,14,15,16,17,18,19,20] [(S.length, (1, es)), (S.length + T.length, (2, [pr2 p]))] none (by kernel_rfl) (by kernel_rfl) (by kernel_rfl) (by kernel_rfl) (by simp only [Watch.holds, List.mem_cons, List.not_mem_nil, or_false, forall_eq_or_imp, forall_eq]; exact ⟨by rw [get_app0]; exact hT0x, by rw [get_app]; exact hTn⟩) ?_
              simp -dsimp only [go_sem, ↓reduceIte, List.mem_cons, forall_eq_or_imp, and_assoc, Nat.zero_add, Nat.add_zero, Nat.mul_one, Nat.zero_mul, if_false, if_true, hne, he, heg, hel, pr2, List.length_map]
              refine ⟨by decide, hpR.1, hpR.2, by omega, ?_⟩
              by_cases q1 : k < row.length
              rotate_left
              · have hJ : (decide (k < row.length) && decide (row.getD k 0 = p.2)) = false := by simp [q1]
                simp -dsimp only [go_sem, ↓reduceIte, q1, List.mem_cons, forall_eq_or_imp, and_assoc, Nat.zero_add, Nat.add_zero, Nat.mul_one, Nat.zero_mul, if_false, if_true, hne, he, heg, hel, pr2, List.length_map]
                refine hKK19 _ _ ⟨by rw [hJ], rfl⟩
              have hg := v1_getD q1
              have hJ : (decide (k < row.length) && decide (row.getD k 0 = p.2)) = decide (row.getD k 0 = p.2) := by simp [q1]
              simp -dsimp only [go_sem, ↓reduceIte, q1, hg, v1, List.mem_cons, forall_eq_or_imp, and_assoc, Nat.zero_add, Nat.add_zero, Nat.mul_one, Nat.zero_mul, if_false, if_true, hne, he, heg, hel, pr2, List.length_map]
              repeat with_reducible refine And.intro (by first | omega | decide | assumption) ?_
              refine hKK19 _ _ ⟨by rw [hJ], rfl⟩
            · rintro us SJ ⟨rfl, rfl⟩
              refine Lwp_cond (by simp only [go_sem, ↓reduceIte]; rfl) (fun ht => ?_) (fun hf => ?_)
              · skip
                have hin : insN row p.2 = row := by simp only [insN, hkk, ht, cond_true]
                refine Lwp_exit ?_
                simp -dsimp only [go_sem, ↓reduceIte]
                try simp -dsimp only [go_sem, ↓reduceIte]
                refine hKK12 _ _ ?_
                first
                | exact ⟨rfl, _, rfl, .inl ⟨es, hT0x, by rw [upd_same (by rw [← hrow]; exact hin) hpl]; exact hfr⟩⟩
                | (refine ⟨rfl, _, rfl, .inr ⟨T.length + 2, by omega, ?_, ?_⟩⟩
                   · rw [List.getElem?_set_self (by simp), hil]
                   · rw [List.getElem?_set_ne (by omega), List.getElem?_append_right (by omega), hin, Nat.add_sub_cancel_left]; simp [v1])
                | (refine ⟨rfl, _, rfl, .inr ⟨T.length + 1, by omega, ?_, ?_⟩⟩
                   · rw [List.getElem?_set_self (by simp), hil, List.drop_eq_nil_of_le (by omega)]; rfl
                   · rw [List.getElem?_set_ne (by omega), List.getElem?_append_right (by omega), hin, Nat.add_sub_cancel_left, List.drop_eq_nil_of_le (by omega)]; simp [v1])
              · skip
                have hin : insN row p.2 = row.take k ++ p.2 :: row.drop k := by simp only [insN, hkk, hf, cond_false]
                have hil : (insN row p.2).length = k + ((row.drop k).length + 1) := by rw [hin, List.length_append, htl, List.length_cons]
                refine Lwp_skip ?_
                try simp -dsimp only [go_sem, ↓reduceIte]
                refine hKK18 _ _ ?_
                try clear hKK18 KK18
                refine Lwp_seq fun KK20 hKK20 => ?_
                refine LdrawE [0,1,2,3,4,5,6,7,8,9,10,11] [(S.length, (1, es)), (S.length + T.length, (2, [pr2 p]))] none (by kernel_rfl) (by kernel_rfl) (by kernel_rfl) (by kernel_rfl) (by simp only [Watch.holds, List.mem_cons, List.not_mem_nil, or_false, forall_eq_or_imp, forall_eq]; exact ⟨by rw [get_app0]; exact hT0x, by rw [get_app]; exact hTn⟩) ?_
                simp -dsimp only [go_sem, ↓reduceIte, List.mem_cons, forall_eq_or_imp, and_assoc, Nat.zero_add, Nat.add_zero, Nat.mul_one, Nat.zero_mul, if_false, if_true, hne, he, heg, hel, pr2, List.length_map, hdk, hT0g]
                repeat with_reducible refine And.intro (by first | omega | decide | assumption) ?_
                by_cases hkr : k < row.length
                · skip
                  refine exe_append_of ?_
                  simp -dsimp only [go_sem, ↓reduceIte, List.mem_cons, forall_eq_or_imp, and_assoc, Nat.zero_add, Nat.add_zero, Nat.mul_one, Nat.zero_mul, if_false, if_true, hne, he, heg, hel, pr2, List.length_map, hdk, hT0g]
                  have hT0y : (T ++ [some (2, [[V p.1, V p.2]]), some (1, [V p.2] :: (row.drop k).map v1)])[0]? = some (some (1, es)) := (List.getElem?_append_left hTl).trans hT0
                  refine ⟨hvd, .inr (by simp; omega), by simp only [List.length_drop, LIM]; omega, ?_⟩
                  refine hKK20 _ _ ?_
                  try clear hKK20 KK20
                  refine LdrawE [0,1,2,3,4,5,6,7,8,9,11,10,12,13,14] [(S.length, (1, es)), (S.length + T.length, (2, [pr2 p])), (S.length + (T.length + 1), (1, [V p.2] :: (row.drop k).map v1))] (some 14) (by kernel_rfl) (by kernel_rfl) (by kernel_rfl) (by kernel_rfl) (by simp only [Watch.holds, List.mem_cons, List.not_mem_nil, or_false, forall_eq_or_imp, forall_eq]; simp only [get_app0, get_app]; first | exact ⟨hT0y, by simp [pr2], by simp⟩ | exact ⟨hT0y, by simp [pr2]⟩) ?_
                  simp -dsimp only [go_sem, ↓reduceIte, List.mem_cons, forall_eq_or_imp, and_assoc, Nat.zero_add, Nat.add_zero, Nat.mul_one, Nat.zero_mul, if_false, if_true, hne, he, heg, hel, pr2, List.length_map, hdk, htk, htl, htk2, hful, Nat.sub_zero, hT0g]
                  repeat with_reducible refine And.intro (by first | omega | decide | assumption) ?_
                  refine exe_append_of ?_
                  simp -dsimp only [go_sem, ↓reduceIte, go_sem, List.mem_cons, forall_eq_or_imp, and_assoc, Nat.zero_add, Nat.add_zero, Nat.mul_one, Nat.zero_mul, if_false, if_true, hne, he, heg, hel, pr2, List.length_map, hdk, htk, htl, htk2, hful, Nat.sub_zero, hT0g]
                  repeat with_reducible refine And.intro (by first | omega | decide | assumption | exact .inr (by simp) | (simp only [List.length_cons, List.length_map, List.length_drop, List.length_take, LIM]; omega)) ?_
                  try simp -dsimp only [go_sem, ↓reduceIte]
                  refine hKK12 _ _ ?_
                  first
                  | exact ⟨rfl, _, rfl, .inl ⟨es, hT0x, by rw [upd_same (by rw [← hrow]; exact hin) hpl]; exact hfr⟩⟩
                  | (refine ⟨rfl, _, rfl, .inr ⟨T.length + 2, by omega, ?_, ?_⟩⟩
                     · rw [List.getElem?_set_self (by simp), hil]
                     · rw [List.getElem?_set_ne (by omega), List.getElem?_append_right (by omega), hin, Nat.add_sub_cancel_left]; simp [v1])
                  | (refine ⟨rfl, _, rfl, .inr ⟨T.length + 1, by omega, ?_, ?_⟩⟩
                     · rw [List.getElem?_set_self (by simp), hil, List.drop_eq_nil_of_le (by omega)]; rfl
                     · rw [List.getElem?_set_ne (by omega), List.getElem?_append_right (by omega), hin, Nat.add_sub_cancel_left, List.drop_eq_nil_of_le (by omega)]; simp [v1])
                · skip
                  refine exe_append_nil (full := true) (elems := [[V p.2]]) (by simp only [go_sem, ↓reduceIte]) (by simp only [go_sem]; rfl) (by simp only [go_sem]; first | exact ⟨rfl, rfl⟩ | exact ⟨rfl, rfl, rfl⟩ | rfl) (by simp only [go_sem]) (by simp only [go_sem, ↓reduceIte]) (by simp only [go_sem, ↓reduceIte]; rw [List.drop_eq_nil_of_le (by omega)]; rfl) ?_
                  simp -dsimp only [go_sem, ↓reduceIte, List.mem_cons, forall_eq_or_imp, and_assoc, Nat.zero_add, Nat.add_zero, Nat.mul_one, Nat.zero_mul, if_false, if_true, hne, he, heg, hel, pr2, List.length_map, hdk, hT0g]
                  have hT0y : (T ++ [some (2, [[V p.1, V p.2]])])[0]? = some (some (1, es)) := (List.getElem?_append_left hTl).trans hT0
                  refine hKK20 _ _ ?_
                  try clear hKK20 KK20
                  refine LdrawE [0,1,2,3,4,5,6,7,8,9,11,10,12,13,14] [(S.length, (1, es)), (S.length + T.length, (2, [pr2 p]))] (some 14) (by kernel_rfl) (by kernel_rfl) (by kernel_rfl) (by kernel_rfl) (by simp only [Watch.holds, List.mem_cons, List.not_mem_nil, or_false, forall_eq_or_imp, forall_eq]; simp only [get_app0, get_app]; first | exact ⟨hT0y, by simp [pr2], by simp⟩ | exact ⟨hT0y, by simp [pr2]⟩) ?_
                  simp -dsimp only [go_sem, ↓reduceIte, List.mem_cons, forall_eq_or_imp, and_assoc, Nat.zero_add, Nat.add_zero, Nat.mul_one, Nat.zero_mul, if_false, if_true, hne, he, heg, hel, pr2, List.length_map, hdk, htk, htl, htk2, hful, Nat.sub_zero, hT0g]
                  repeat with_reducible refine And.intro (by first | omega | decide | assumption) ?_
                  refine exe_append_of ?_
                  simp -dsimp only [go_sem, ↓reduceIte, go_sem, List.mem_cons, forall_eq_or_imp, and_assoc, Nat.zero_add, Nat.add_zero, Nat.mul_one, Nat.zero_mul, if_false, if_true, hne, he, heg, hel, pr2, List.length_map, hdk, htk, htl, htk2, hful, Nat.sub_zero, hT0g]
                  repeat with_reducible refine And.intro (by first | omega | decide | assumption | exact .inr (by simp) | (simp only [List.length_cons, List.length_map, List.length_drop, List.length_take, LIM]; omega)) ?_
                  try simp -dsimp only [go_sem, ↓reduceIte]
                  refine hKK12 _ _ ?_
                  first
                  | exact ⟨rfl, _, rfl, .inl ⟨es, hT0x, by rw [upd_same (by rw [← hrow]; exact hin) hpl]; exact hfr⟩⟩
                  | (refine ⟨rfl, _, rfl, .inr ⟨T.length + 2, by omega, ?_, ?_⟩⟩
                     · rw [List.getElem?_set_self (by simp), hil]
                     · rw [List.getElem?_set_ne (by omega), List.getElem?_append_right (by omega), hin, Nat.add_sub_cancel_left]; simp [v1])
                  | (refine ⟨rfl, _, rfl, .inr ⟨T.length + 1, by omega, ?_, ?_⟩⟩
                     · rw [List.getElem?_set_self (by simp), hil, List.drop_eq_nil_of_le (by omega)]; rfl
                     · rw [List.getElem?_set_ne (by omega), List.getElem?_append_right (by omega), hin, Nat.add_sub_cancel_left, List.drop_eq_nil_of_le (by omega)]; simp [v1])
      · rintro us SJ ⟨rfl, T1, rfl, hcase⟩
        have hup : upd rows p = rows.set p.1.toNat (insN row p.2) := by rw [upd, hrow]
        rcases hcase with ⟨es1, hT1, hfr1⟩ | ⟨k2, hk2, hT01, hTk⟩
        · skip
          have wj : IntKind.i64.wrap ((j : Int) + 1) = ((j + 1 : Nat) : Int) := w64 (by omega) (by omega)
          refine LregionG [none, none] (by kernel_rfl) (by kernel_rfl) ?_
          simp -dsimp only [go_sem, ↓reduceIte, wj]
          repeat with_reducible refine And.intro (by first | omega | decide) ?_
          exact hII1 (m1 - 1) _ _ (by omega) ⟨_, _, j + 1, rfl, rfl, hT1, by rw [hnx]; exact hfr1, by omega, by omega⟩
        · skip
          have hT10 := lt_of_get hT01
          have hkeep : (S.length != S.length + k2) = true := by simp; omega
          refine Lwp_frzRow hk2 hT01 hTk hfr [5, 20, 21, 22, 56, 57, 58] [.ref S.length 0 N, .sl full (C.map cl3), V C.length, V i, .sl true ((prs c).map pr2), V 6, V j] rfl (by simp only [go_sem, ↓reduceIte]) (by simp only [List.map_cons, List.map_nil, frzK, hkeep, cond_true]) ?_
          have hfr1 := FRs_set (fl := false) (r := insN row p.2) (k := p.1.toNat) hfr
          rw [← hup] at hfr1
          have hT1 : ((T1.set k2 none).set 0 (some (1, es.set p.1.toNat [LV.sl false ((insN row p.2).map v1)])))[0]? = some (some (1, es.set p.1.toNat [LV.sl false ((insN row p.2).map v1)])) := List.getElem?_set_self (by simpa using hT10)
          have wj : IntKind.i64.wrap ((j : Int) + 1) = ((j + 1 : Nat) : Int) := w64 (by omega) (by omega)
          refine LregionG [none, none] (by kernel_rfl) (by kernel_rfl) ?_
          simp -dsimp only [go_sem, ↓reduceIte, wj]
          repeat with_reducible refine And.intro (by first | omega | decide) ?_
          exact hII1 (m1 - 1) _ _ (by omega) ⟨_, _, j + 1, rfl, rfl, hT1, by rw [hnx]; exact hfr1, by omega, by omega⟩
    · skip
      obtain rfl : j = 6 := by simp only [decide_eq_false_iff_not] at hf; omega
      refine Lwp_exit ?_
      simp -dsimp only [go_sem, ↓reduceIte]
      refine hKK7 _ _ ?_
      try clear hKK7 KK7
      have wi : IntKind.i64.wrap ((i : Int) + 1) = ((i + 1 : Nat) : Int) := w64 (by omega) (by omega)
      refine LregionG [none, none] (by kernel_rfl) (by kernel_rfl) ?_
      simp -dsimp only [go_sem, ↓reduceIte, wi]
      repeat with_reducible refine And.intro (by first | omega | decide) ?_
      exact hII (m - 1) _ _ (by omega) ⟨_, _, i + 1, rfl, rfl, hT0, by rw [arn, ← hc]; exact hfr, by omega, by omega⟩
  · skip
    obtain rfl : i = C.length := Nat.le_antisymm hi (Nat.le_of_not_lt (by simpa using hf))
    refine Lwp_exit ?_
    simp -dsimp only [go_sem, ↓reduceIte]
    refine hKK3 _ _ ?_
    try clear hKK3 KK3
    refine Lwp_seq fun KK21 hKK21 => ?_
    refine LregionG [none, none] (by kernel_rfl) (by kernel_rfl) ?_
    simp -dsimp only [go_sem, ↓reduceIte]
    repeat with_reducible refine And.intro (by first | omega | decide) ?_
    refine hKK21 _ _ ?_
    try clear hKK21 KK21
    refine Lwp_ret ?_
    simp only [LThen, LBlock, LPost, Tryz.results74]
    simp -dsimp only [go_sem, ↓reduceIte]
    have hes : es.take N = es := List.take_of_length_le (by rw [hfr.1, arn_len]; exact Nat.le_refl _)
    have hel : N ≤ es.length := by rw [hfr.1, arn_len]; exact Nat.le_refl _
    have hz : frz (S ++ T) S.length 3 (.ref S.length 0 N) = .sl false es := by
      rw [frz_ref]
      simp only [Nat.lt_irrefl, if_false]
      rw [get_app0, hT0]
      simp only [Nat.zero_add, hel, if_true, List.drop_zero, hes]
      rw [frz_FRs hfr]
    refine ret_app (by rw [hz]; exact FRs_lt hfr) ?_
    rw [hz]
    exact hRR _ ⟨false, es, rfl, hfr⟩


/-- the numbers in the first rows. -/
def rsum (rows : List (List Int)) : Nat → Nat
  | 0 => 0
  | a + 1 => rsum rows a + (rows.getD a []).length
theorem rsum_le {rows : List (List Int)} {b : Nat} (h : bnd rows b) : ∀ {a : Nat}, rsum rows a ≤ b * a
  | 0 => Nat.zero_le _
  | a + 1 => by
    have h1 := rsum_le h (a := a)
    have h2 := bnd_getD (k := a) h
    rw [rsum, Nat.mul_succ]; omega
theorem lt_mem {z : Nat} : ∀ {es : List (List LV)}, ltLL z es = true → ∀ e ∈ es, ltL z e = true
  | [], _, e, he => by simp at he
  | x :: es, h, e, he => by
    simp only [ltLL, Bool.and_eq_true] at h
    rcases List.mem_cons.1 he with rfl | he
    · exact h.1
    · exact lt_mem h.2 e he

set_option maxHeartbeats 400000 in
theorem Edges_ok (n h N : Nat) (h1 : 1 ≤ n) (h8 : n ≤ 8) (hh : h * n = 840) (hN : N = 10 * n * n + 2) (hR : (cls (nds n h 20) n h 20).all (inR N) = true) : Pc 48 [V n] (fun r => ∃ full es, r = .tup [.sl full es, V 0] ∧ es.length ≤ rsum (arn N (cls (nds n h 20) n h 20) (cls (nds n h 20) n h 20).length) N ∧ ∀ z : Nat, ltLL z es = true) := by
  refine Pc_intro 2 Tryz.func48 rfl (by kernel_rfl) rfl fun S RR hRR => ?_
  have hA := Around_ok n h N h1 h8 hh hN hR
  obtain ⟨C, hC⟩ : ∃ C, C = cls (nds n h 20) n h 20 := ⟨_, rfl⟩
  have hCl : C.length ≤ 2560 := by
    have a3 := cls_len (l := nds n h 20) (n := n) (h := h) (f := 20)
    have a5 : 20 * (n * (2 * n)) ≤ 20 * (8 * (2 * 8)) := Nat.mul_le_mul (by omega) (Nat.mul_le_mul (by omega) (by omega))
    rw [hC]; omega
  rw [← hC] at hR hA hRR
  have hnn : n * n ≤ 64 := Nat.mul_le_mul h8 h8
  have hN2 : N ≤ 700 := by rw [hN, Nat.mul_assoc]; omega
  have hcn : 10 * (n : Int) * (n : Int) + 2 = (N : Int) := by rw [hN]; simp
  have hNz : decide ((N : Int) = 0) = false := decide_eq_false (by omega)
  refine Lwp_seq fun KK0 hKK0 => ?_
  refine LregionG [none, none] (by kernel_rfl) (by kernel_rfl) ?_
  simp -dsimp only [go_sem, ↓reduceIte]
  repeat with_reducible refine And.intro (by first | omega | decide) ?_
  refine hKK0 _ _ ?_
  try clear hKK0 KK0
  refine Lwp_seq fun KK1 hKK1 => ?_
  refine Lwp_seq fun KK2 hKK2 => ?_
  refine LregionG [none, none, none] (by kernel_rfl) (by kernel_rfl) ?_
  simp -dsimp only [go_sem, ↓reduceIte]
  refine (Count_ok (n : Int) (by omega) (by omega)).k' ?_
  rintro _ rfl
  simp -dsimp only [go_sem, ↓reduceIte, hcn, hNz]
  refine hKK2 _ _ ?_
  try clear hKK2 KK2
  refine Lwp_cond (by simp only [go_sem, ↓reduceIte]; rfl) (fun ht => ?_) (fun hf => ?_)
  · skip
    cases ht
  · skip
    refine Lwp_skip ?_
    try simp -dsimp only [go_sem, ↓reduceIte]
    refine hKK1 _ _ ?_
    try clear hKK1 KK1
    refine Lwp_seq fun KK3 hKK3 => ?_
    refine LregionG [none] (by kernel_rfl) (by kernel_rfl) ?_
    simp -dsimp only [go_sem, ↓reduceIte]
    repeat with_reducible refine And.intro (by first | omega | decide) ?_
    refine hKK3 _ _ ?_
    try clear hKK3 KK3
    refine Lwp_seq fun KK4 hKK4 => ?_
    refine LregionG [none, none, none] (by kernel_rfl) (by kernel_rfl) ?_
    simp -dsimp only [go_sem, ↓reduceIte]
    refine (hA).k' ?_
    rintro _ ⟨full, es, rfl, hfr⟩
    obtain ⟨rows, hrows⟩ : ∃ rows, rows = arn N C C.length := ⟨_, rfl⟩
    rw [← hrows] at hfr
    have hrl : rows.length = N := by rw [hrows, arn_len]
    have hbd : bnd rows (6 * C.length) := by rw [hrows]; exact arn_bnd
    simp -dsimp only [go_sem, ↓reduceIte]
    refine hKK4 _ _ ?_
    try clear hKK4 KK4
    refine Lwp_seq fun KK5 hKK5 => ?_
    refine Lwp_seq fun KK6 hKK6 => ?_
    refine LregionG [none] (by kernel_rfl) (by kernel_rfl) ?_
    simp -dsimp only [go_sem, ↓reduceIte]
    repeat with_reducible refine And.intro (by first | omega | decide) ?_
    refine hKK6 _ _ ?_
    try clear hKK6 KK6
    refine Lwp_block ?_
    refine Lwp_loopK [4, 5, 6] (fun m us S' => ∃ (T : LS) (u : LV) (es2 : List (List LV)) (a : Nat), S' = S ++ T ∧ us = [u, .sl full es, V a] ∧ RowT S.length T 0 u 2 es2 ∧ (∀ z : Nat, ltLL z es2 = true) ∧ es2.length ≤ rsum rows a ∧ a ≤ rows.length ∧ m = rows.length - a) rows.length rfl (⟨[], _, [], 0, by simp, by simp only [go_sem, ↓reduceIte, Int.natCast_zero], RowT.nil, fun _ => rfl, by simp, by omega, by omega⟩) ?_
    rintro m us S2 ⟨T, u, es2, a, rfl, rfl, hrow, hlt, hlen, ha, hm⟩ II hII
    refine Lwp_seq fun KK7 hKK7 => ?_
    refine Lwp_seq fun KK8 hKK8 => ?_
    refine LregionG [none, none, none, none] (by kernel_rfl) (by kernel_rfl) ?_
    simp -dsimp only [go_sem, ↓reduceIte]
    repeat with_reducible refine And.intro (by first | omega | decide) ?_
    refine hKK8 _ _ ?_
    try clear hKK8 KK8
    refine Lwp_cond (by simp only [go_sem, ↓reduceIte]; rfl) (fun ht => ?_) (fun hf => ?_)
    · skip
      have ha : a < rows.length := by rw [← hfr.1]; simpa using ht
      obtain ⟨fl, he⟩ := hfr.2 a _ (List.getElem?_eq_getElem ha)
      obtain ⟨row, hrw⟩ : ∃ row, row = rows[a] := ⟨_, rfl⟩
      rw [← hrw] at he
      have hrl2 : row.length ≤ 15360 := by have := hbd row (by rw [hrw]; exact List.getElem_mem ha); omega
      have heg : es.getD a [] = [LV.sl fl (row.map v1)] := by rw [List.getD_eq_getElem?_getD, he]; rfl
      have hal : a < es.length := by rw [hfr.1]; exact ha
      have hsum : rsum rows (a + 1) = rsum rows a + row.length := by rw [rsum, List.getD_eq_getElem?_getD, List.getElem?_eq_getElem ha, hrw]; rfl
      have hsb : rsum rows a ≤ 11000000 := by
        have a1 := rsum_le hbd (a := a)
        have a2 : 6 * C.length * a ≤ 15360 * 700 := Nat.mul_le_mul (by omega) (by omega)
        omega
      refine Lwp_skip ?_
      try simp -dsimp only [go_sem, ↓reduceIte]
      refine hKK7 _ _ ?_
      try clear hKK7 KK7
      refine Lwp_seq fun KK9 hKK9 => ?_
      refine Lwp_block ?_
      refine Lwp_seq fun KK10 hKK10 => ?_
      refine LregionG [none, none, none, none, none, none] (by kernel_rfl) (by kernel_rfl) ?_
      simp -dsimp only [go_sem, ↓reduceIte, heg, List.length_map]
      repeat with_reducible refine And.intro (by first | omega | decide) ?_
      refine hKK10 _ _ ?_
      try clear hKK10 KK10
      refine Lwp_block ?_
      refine Lwp_loopK [4, 5, 6, 23, 24, 25] (fun m us S' => ∃ (T : LS) (u : LV) (es2 : List (List LV)) (j : Nat), S' = S ++ T ∧ us = [u, .sl full es, V a, .sl fl (row.map v1), V row.length, V j] ∧ RowT S.length T 0 u 2 es2 ∧ (∀ z : Nat, ltLL z es2 = true) ∧ es2.length ≤ rsum rows a + j ∧ j ≤ row.length ∧ m = row.length - j) row.length rfl (⟨T, u, es2, 0, rfl, by simp only [go_sem, ↓reduceIte, Int.natCast_zero], hrow, hlt, by omega, by omega, by omega⟩) ?_
      rintro m1 us S2 ⟨T, u, es2, j, rfl, rfl, hrow, hlt, hlen, hj, hm1⟩ II1 hII1
      refine Lwp_seq fun KK11 hKK11 => ?_
      refine LregionG [none] (by kernel_rfl) (by kernel_rfl) ?_
      simp -dsimp only [go_sem, ↓reduceIte]
      repeat with_reducible refine And.intro (by first | omega | decide) ?_
      refine hKK11 _ _ ?_
      try clear hKK11 KK11
      refine Lwp_seq fun KK12 hKK12 => ?_
      refine Lwp_cond (by simp only [go_sem, ↓reduceIte]; rfl) (fun ht => ?_) (fun hf => ?_)
      · skip
        have hj : j < row.length := by simpa using ht
        have hbig : es2.length ≤ 12000000 := by omega
        have hg := v1_getD hj
        have hrow2 := hrow
        refine Lwp_skip ?_
        try simp -dsimp only [go_sem, ↓reduceIte]
        refine hKK12 _ _ ?_
        try clear hKK12 KK12
        refine Lwp_seq fun KK13 hKK13 => ?_
        refine Lwp_block ?_
        refine Lwp_seq fun KK14 hKK14 => ?_
        refine LregionG [none, none, none] (by kernel_rfl) (by kernel_rfl) ?_
        simp -dsimp only [go_sem, ↓reduceIte, hg, v1, List.length_map]
        repeat with_reducible refine And.intro (by first | omega | decide) ?_
        refine hKK14 _ _ ?_
        try clear hKK14 KK14
        refine Lwp_seq fun KK15 hKK15 => ?_
        refine LregionG [none, none, none] (by kernel_rfl) (by kernel_rfl) ?_
        simp -dsimp only [go_sem, ↓reduceIte]
        repeat with_reducible refine And.intro (by first | omega | decide) ?_
        refine hKK15 _ _ ?_
        try clear hKK15 KK15
        refine Lwp_cond (by simp only [go_sem, ↓reduceIte]; rfl) (fun ht => ?_) (fun hf => ?_)
        · skip
          refine LregionG [none, none, none, none, none, none, none] (by kernel_rfl) (by kernel_rfl) ?_
          simp -dsimp only [go_sem, ↓reduceIte]
          refine append_own (by simp) hrow2 rfl (by simp only [go_sem]; rfl) (by simp only [go_sem]; first | exact ⟨rfl, rfl⟩ | exact ⟨rfl, rfl, rfl⟩ | rfl) (by simp only [go_sem]) (by simp only [go_sem, ↓reduceIte]) (by simp only [go_sem, ↓reduceIte]; rfl) (by simp) (.inr (by simp)) (by simp only [LIM, List.length_cons, List.length_nil]; omega) (Nat.zero_le _) fun T' hT' hrow' hpre' => ?_
          clear hrow2
          simp -dsimp only [go_sem, ↓reduceIte]
          refine hKK13 _ _ ?_
          try clear hKK13 KK13
          have wj : IntKind.i64.wrap ((j : Int) + 1) = ((j + 1 : Nat) : Int) := w64 (by omega) (by omega)
          refine LregionG [none, none] (by kernel_rfl) (by kernel_rfl) ?_
          simp -dsimp only [go_sem, ↓reduceIte, wj]
          repeat with_reducible refine And.intro (by first | omega | decide) ?_
          first
          | exact hII1 (m1 - 1) _ _ (by omega) ⟨_, _, es2, j + 1, rfl, rfl, hrow, hlt, by omega, by omega, by omega⟩
          | (refine hII1 (m1 - 1) _ _ (by omega) ⟨_, _, _, j + 1, rfl, rfl, hrow', ?_, by simp; omega, by omega, by omega⟩
             exact fun z => lt_int fun e he => by
               rcases List.mem_append.1 he with he | he
               · exact lt_mem (hlt z) e he
               · simp at he; subst he; rfl)
        · skip
          refine Lwp_skip ?_
          try simp -dsimp only [go_sem, ↓reduceIte]
          refine hKK13 _ _ ?_
          try clear hKK13 KK13
          have wj : IntKind.i64.wrap ((j : Int) + 1) = ((j + 1 : Nat) : Int) := w64 (by omega) (by omega)
          refine LregionG [none, none] (by kernel_rfl) (by kernel_rfl) ?_
          simp -dsimp only [go_sem, ↓reduceIte, wj]
          repeat with_reducible refine And.intro (by first | omega | decide) ?_
          first
          | exact hII1 (m1 - 1) _ _ (by omega) ⟨_, _, es2, j + 1, rfl, rfl, hrow, hlt, by omega, by omega, by omega⟩
          | (refine hII1 (m1 - 1) _ _ (by omega) ⟨_, _, _, j + 1, rfl, rfl, hrow', ?_, by simp; omega, by omega, by omega⟩
             exact fun z => lt_int fun e he => by
               rcases List.mem_append.1 he with he | he
               · exact lt_mem (hlt z) e he
               · simp at he; subst he; rfl)
      · skip
        obtain rfl : j = row.length := Nat.le_antisymm hj (Nat.le_of_not_lt (by simpa using hf))
        refine Lwp_exit ?_
        simp -dsimp only [go_sem, ↓reduceIte]
        refine hKK9 _ _ ?_
        try clear hKK9 KK9
        have wa : IntKind.i64.wrap ((a : Int) + 1) = ((a + 1 : Nat) : Int) := w64 (by omega) (by omega)
        refine LregionG [none, none, none] (by kernel_rfl) (by kernel_rfl) ?_
        simp -dsimp only [go_sem, ↓reduceIte, wa]
        repeat with_reducible refine And.intro (by first | omega | decide) ?_
        exact hII (m - 1) _ _ (by omega) ⟨_, _, es2, a + 1, rfl, rfl, hrow, hlt, by omega, by omega, by omega⟩
    · skip
      obtain rfl : a = rows.length := Nat.le_antisymm ha (by rw [← hfr.1]; exact Nat.le_of_not_lt (by simpa using hf))
      rw [hrl] at hlen
      refine Lwp_exit ?_
      simp -dsimp only [go_sem, ↓reduceIte]
      refine hKK5 _ _ ?_
      try clear hKK5 KK5
      refine Lwp_seq fun KK16 hKK16 => ?_
      refine LregionG [none, none, none] (by kernel_rfl) (by kernel_rfl) ?_
      simp -dsimp only [go_sem, ↓reduceIte]
      repeat with_reducible refine And.intro (by first | omega | decide) ?_
      refine hKK16 _ _ ?_
      try clear hKK16 KK16
      refine Lwp_ret ?_
      simp only [LThen, LBlock, LPost, Tryz.results48]
      simp -dsimp only [go_sem, ↓reduceIte]
      obtain ⟨full2, hz⟩ := hrow.frz1 (A := S) rfl
      refine ret_app (by simp only [go_sem, ↓reduceIte, hz, LV.lt, ltL, hlt, Bool.and_self]) ?_
      simp only [go_sem, ↓reduceIte, hz]
      exact hRR _ ⟨full2, es2, rfl, by rw [← hrows]; exact hlen, hlt⟩


theorem cls1_ok : (cls (nds 1 840 20) 1 840 20).all (inR 12) = true := by kernel_rfl
theorem rsum1_le : rsum (arn 12 (cls (nds 1 840 20) 1 840 20) (cls (nds 1 840 20) 1 840 20).length) 12 ≤ 60 := by decide +kernel
theorem Edges1_ : Pc 48 [V ((1 : Nat) : Int)] (fun r => ∃ full es, r = .tup [.sl full es, V 0] ∧ es.length ≤ rsum (arn 12 (cls (nds 1 840 20) 1 840 20) (cls (nds 1 840 20) 1 840 20).length) 12 ∧ ∀ z : Nat, ltLL z es = true) :=
  Edges_ok 1 840 12 (by omega) (by omega) (by omega) (by omega) cls1_ok
theorem Edges1 : Pc 48 [V 1] (fun r => ∃ full es, r = .tup [.sl full es, V 0] ∧ es.length ≤ 60 ∧ ∀ z : Nat, ltLL z es = true) := fun S =>
  (Edges1_ S).mono fun r S' h => by
    obtain ⟨⟨full, es, h1, h2, h3⟩, h4⟩ := h
    exact ⟨⟨full, es, h1, Nat.le_trans h2 rsum1_le, h3⟩, h4⟩

end Go.Proofs.YtdhngmldmalbbaaGreat
end
section
set_option linter.all false
namespace Go.Proofs.YtdhngmldmalbbaaGreat
open Go.Lift Go.RowKit Go.Store
set_option linter.unusedSimpArgs false
set_option linter.unusedVariables false

theorem sI_getD {ev : List (List LV)} (h : ∀ e ∈ ev, ok sI e) {i : Nat} (hi : i < ev.length) : ∃ w, ev.getD i [] = [V w] ∧ isI w := by
  have hm := h _ (List.getElem_mem hi)
  rw [List.getD_eq_getElem?_getD, List.getElem?_eq_getElem hi, Option.getD_some]
  revert hm
  generalize ev[i] = e
  intro hm
  match e, hm with
  | [.int k w], hm => simp only [sI, ok] at hm; obtain ⟨rfl, h1, h2, _⟩ := hm; exact ⟨w, rfl, h1, h2⟩

set_option maxHeartbeats 400000 in
theorem StateC : Cds 32 [V 1] (fun r => ∃ (f1 f2 : Bool) (e1 e2 : List (List LV)), r = .agg [V 1, .sl f1 e1, .sl f2 e2] ∧ e1.length ≤ 12 ∧ e2.length ≤ 60 ∧ (∀ e ∈ e1, ok sI e) ∧ ∀ e ∈ e2, ok sI e) := by
  refine Cds_intro 2 Tryz.func32 rfl (by kernel_rfl) rfl fun S p fl xs a RR hx hp hRR => ?_
  refine Lwp_seq fun KK0 hKK0 => ?_
  refine LregionG [none] (by kernel_rfl) (by kernel_rfl) ?_
  simp -dsimp only [go_sem, ↓reduceIte]
  repeat with_reducible refine And.intro (by first | omega | decide) ?_
  refine hKK0 _ _ ?_
  try clear hKK0 KK0
  refine Lwp_seq fun KK1 hKK1 => ?_
  refine LregionG [none, none, none, none, none, none, none] (by kernel_rfl) (by kernel_rfl) ?_
  simp -dsimp only [go_sem, ↓reduceIte]
  refine Edges1.k' ?_
  rintro _ ⟨full, es, rfl, hes, -⟩
  simp -dsimp only [go_sem, ↓reduceIte]
  refine hKK1 _ _ ?_
  try clear hKK1 KK1
  refine Lwp_seq fun KK2 hKK2 => ?_
  refine LregionG [none, none, none, none, none, none, none, none, none, none, none, none, none] (by kernel_rfl) (by kernel_rfl) ?_
  simp -dsimp only [go_sem, ↓reduceIte]
  refine ((NextC 4 (by omega)).at_ hx hp).k ?_
  rintro _ _ ⟨a, rfl, v, rfl, hv0, hv1, hv2, -⟩
  simp -dsimp only [go_sem, ↓reduceIte]
  obtain ⟨y, hy, hy2⟩ := tbl (Q := fun x => 0 ≤ x ∧ x ≤ 1000000000) (w := v) [0, 30, 5000, 1000000] hv0 (by simpa using hv2 (by omega)) (by simp)
  simp only [List.map_cons, List.map_nil] at hy
  simp only [hy, go_sem, ↓reduceIte]
  refine ⟨⟨by omega, by have := hv2 (by omega); simpa using this⟩, ?_⟩
  refine ((VectorC es.length y ⟨by omega, by omega⟩ hy2).at_ hx hp).k ?_
  rintro _ _ ⟨a, rfl, f2, e2, rfl, he2, ho2⟩
  simp -dsimp only [go_sem, ↓reduceIte]
  refine hKK2 _ _ ?_
  try clear hKK2 KK2
  refine Lwp_seq fun KK3 hKK3 => ?_
  refine LdrawE [0,1,5,6,2,3,4,7,8,9,10,11] [] none (by kernel_rfl) (by kernel_rfl) (by kernel_rfl) (by kernel_rfl) (by simp [Watch.holds]) ?_
  simp -dsimp only [go_sem, ↓reduceIte]
  refine ((NextC 4 (by omega)).at_ hx hp).k ?_
  rintro _ _ ⟨a, rfl, v2, rfl, hv20, hv21, hv22, -⟩
  simp -dsimp only [go_sem, ↓reduceIte]
  obtain ⟨y2, hy2, hy22⟩ := tbl (Q := fun x => 0 ≤ x ∧ x ≤ 1000000000) (w := v2) [0, 40, 100000, 2500000] hv20 (by simpa using hv22 (by omega)) (by simp)
  simp only [List.map_cons, List.map_nil] at hy2
  simp only [hy2, go_sem, ↓reduceIte]
  refine ⟨⟨by omega, by have := hv22 (by omega); simpa using this⟩, ?_⟩
  refine ((NextC 3 (by omega)).at_ hx hp).k ?_
  rintro _ _ ⟨a, rfl, v3, rfl, hv30, hv31, hv32, -⟩
  simp -dsimp only [go_sem, ↓reduceIte]
  obtain ⟨y3, hy3, hy32⟩ := tbl (Q := fun x => 0 ≤ x ∧ x ≤ 1000000000) (w := v3) [0, 30, 90000] hv30 (by simpa using hv32 (by omega)) (by simp)
  simp only [List.map_cons, List.map_nil] at hy3
  simp only [hy3, go_sem, ↓reduceIte]
  refine ⟨⟨by omega, by have := hv32 (by omega); simpa using this⟩, ?_⟩
  refine hKK3 _ _ ?_
  try clear hKK3 KK3
  refine Lwp_seq fun KK4 hKK4 => ?_
  refine Lwp_seq fun KK5 hKK5 => ?_
  refine LregionG [none, none, none, none, none, none, none] (by kernel_rfl) (by kernel_rfl) ?_
  simp -dsimp only [go_sem, ↓reduceIte]
  refine (Nodes22_ok).k ?_
  rintro _ _ ⟨rfl, rfl⟩
  simp -dsimp only [go_sem, ↓reduceIte]
  refine ((VectorC 12 y3 (by omega) hy32).at_ hx hp).k ?_
  rintro _ _ ⟨a, rfl, fv, ev, rfl, hev, hov⟩
  simp -dsimp only [go_sem, ↓reduceIte]
  refine hKK5 _ _ ?_
  try clear hKK5 KK5
  refine Lwp_block ?_
  refine Lwp_loopK [0, 4, 7, 8, 42, 43, 44] (fun m us S' => ∃ (a : Nat) (T : LS) (u : LV) (es : List (List LV)) (i : Nat), S' = S.set p (some (cb fl xs a)) ++ T ∧ us = [.ptr p 0 0, .ptr S.length 0 0, .ptr (S.length + 1) 0 0, V y2, .sl fv ev, V 12, V i] ∧ 2 ≤ T.length ∧
      T[0]? = some (some (3, [[V 0, .sl true [], .sl true []]])) ∧ T[1]? = some (some (3, [[V 1, u, .sl f2 e2]])) ∧ RowT S.length T 2 u 1 es ∧ (∀ e ∈ es, ok sI e) ∧ es.length = i ∧ i ≤ 12 ∧ m = 12 - i) 12 rfl (⟨a, _, _, [], 0, rfl, by simp only [go_sem, ↓reduceIte, hev, Int.natCast_zero], by simp, rfl, rfl, RowT.nil, by simp, rfl, by omega, by omega⟩) ?_
  rintro mm us S2 ⟨a, T, u, es2, i, rfl, rfl, hT, hT0, hT1, hrow, hok, hlen, hi, hm⟩ II hII
  refine Lwp_seq fun KK6 hKK6 => ?_
  refine LregionG [none] (by kernel_rfl) (by kernel_rfl) ?_
  simp -dsimp only [go_sem, ↓reduceIte, hT1]
  repeat with_reducible refine And.intro (by first | omega | decide) ?_
  refine hKK6 _ _ ?_
  try clear hKK6 KK6
  refine Lwp_seq fun KK7 hKK7 => ?_
  refine Lwp_cond (by simp only [go_sem, ↓reduceIte, hT1]; rfl) (fun ht => ?_) (fun hf => ?_)
  · skip
    have hi12 : i < ev.length := by
      simp only [decide_eq_true_eq] at ht
      omega
    refine Lwp_skip ?_
    try simp -dsimp only [go_sem, ↓reduceIte, hT1]
    refine hKK7 _ _ ?_
    try clear hKK7 KK7
    refine Lwp_seq fun KK8 hKK8 => ?_
    refine Lwp_block ?_
    refine Lwp_seq fun KK9 hKK9 => ?_
    obtain ⟨w, hw, hwI⟩ := sI_getD hov hi12
    refine LregionG [none, none, none] (by kernel_rfl) (by kernel_rfl) ?_
    simp -dsimp only [go_sem, ↓reduceIte, hT1, hw]
    repeat with_reducible refine And.intro (by first | omega | decide) ?_
    refine hKK9 _ _ ?_
    try clear hKK9 KK9
    refine LdrawE [0,1,2,3,4,5,6,7,8,9] [(S.length + 1, (3, [[V 1, u, .sl f2 e2]]))] (some 9) (by kernel_rfl) (by kernel_rfl) (by kernel_rfl) (by kernel_rfl) (by simp only [Watch.holds, List.mem_singleton, forall_eq]; rw [get_setapp]; exact hT1) ?_
    simp -dsimp only [go_sem, ↓reduceIte, hT1, hT1]
    refine (Clip_ok _ 0 16777216).k ?_
    rintro _ _ ⟨rfl, rfl⟩
    simp -dsimp only [go_sem, ↓reduceIte, hT1]
    refine append_own (by simp) hrow rfl (by simp only [go_sem]; rfl) (by simp only [go_sem]; first | exact ⟨rfl, rfl⟩ | exact ⟨rfl, rfl, rfl⟩ | rfl) (by simp only [go_sem]) (by simp only [go_sem, ↓reduceIte]) (by simp only [go_sem, ↓reduceIte]; rfl) (by simp) (.inr (by simp)) (by simp only [LIM, List.length_cons, List.length_nil]; omega) (hT) fun T' hT' hrow' hpre' => ?_
    clear hrow
    have hT1' := (hpre' 1 (by omega)).trans hT1
    have hT0' := (hpre' 0 (by omega)).trans hT0
    have hi1 : IntKind.i64.wrap ((i : Int) + 1) = ((i + 1 : Nat) : Int) := w64 (by omega) (by omega)
    simp -dsimp only [go_sem, ↓reduceIte, hT1, hT1']
    refine hKK8 _ _ ?_
    try clear hKK8 KK8
    refine LregionG [none, none] (by kernel_rfl) (by kernel_rfl) ?_
    simp -dsimp only [go_sem, ↓reduceIte, hT1, hi1]
    repeat with_reducible refine And.intro (by first | omega | decide) ?_
    refine hII (mm - 1) _ _ (by omega) ⟨a, _, _, es2 ++ [_], i + 1, rfl, rfl, by simp; omega, ?_, ?_, hrow'.mono (Nat.le_refl _) (fun k hk hl => List.getElem?_set_ne (by omega)), ?_, by simp; omega, by omega, by omega⟩
    · rw [List.getElem?_set_ne (by omega)]; exact hT0'
    · rw [List.getElem?_set_self (by omega)]
      simp
    · intro e1 he
      rcases List.mem_append.1 he with he | he
      · exact hok e1 he
      · simp at he; subst he; exact ⟨rfl, by omega, by omega, trivial⟩
  · skip
    obtain rfl : i = 12 := by
      simp only [decide_eq_false_iff_not] at hf
      omega
    refine Lwp_exit ?_
    simp -dsimp only [go_sem, ↓reduceIte, hT1]
    refine hKK4 _ _ ?_
    try clear hKK4 KK4
    refine Lwp_seq fun KK10 hKK10 => ?_
    have hs0 : ∀ v, (T.set 0 v)[0]? = some v := fun v => List.getElem?_set_self (by omega)
    refine LregionG [none, none] (by kernel_rfl) (by kernel_rfl) ?_
    simp -dsimp only [go_sem, ↓reduceIte, hT1, hT0, hs0]
    repeat with_reducible refine And.intro (by first | omega | decide) ?_
    refine hKK10 _ _ ?_
    try clear hKK10 KK10
    refine Lwp_ret ?_
    simp only [LThen, LBlock, LPost, Tryz.results32]
    simp -dsimp only [go_sem, ↓reduceIte, hT1, hT0, hs0]
    have hz := (hrow.mono (T' := T.set 0 (some (3, [[V 1, u, .sl f2 e2]]))) (Nat.le_refl _) (fun k hk hl => List.getElem?_set_ne (by omega))).frz1 (A := S.set p (some (cb fl xs a))) (by simp)
    obtain ⟨full, hz⟩ := hz
    refine ret_codes hp (by simp only [go_sem, ↓reduceIte, hz, ltL, LV.lt, lt_int fun e he => ok_lt (hok e he), lt_int fun e he => ok_lt (ho2 e he), Bool.and_self]) ?_
    simp only [go_sem, ↓reduceIte, hz]
    exact hRR _ _ ⟨full, f2, es2, e2, rfl, by omega, by omega, hok, ho2⟩

end Go.Proofs.YtdhngmldmalbbaaGreat
end
section
set_option linter.all false
namespace Go.Proofs.YtdhngmldmalbbaaGreat
open Go.Lift Go.RowKit Go.Store
set_option linter.unusedSimpArgs false
set_option linter.unusedVariables false

theorem map_set_erase {f : LV → LV} : ∀ {cells : List LV} {j : Nat} {u : LV}, (∀ x ∈ cells.eraseIdx j, f x = x) → cells[j]? = some u → cells.map f = cells.set j (f u)
  | [], j, u, _, h => by simp at h
  | c :: cells, 0, u, hf, h => by
    simp at h; subst h
    simp only [List.eraseIdx_cons_zero] at hf
    rw [List.map_cons, List.set_cons_zero, List.map_congr_left (g := _root_.id) (fun x hx => hf x hx), List.map_id]
  | c :: cells, j + 1, u, hf, h => by
    simp only [List.eraseIdx_cons_succ, List.mem_cons, forall_eq_or_imp] at hf
    rw [List.map_cons, List.set_cons_succ, hf.1, map_set_erase hf.2 (by simpa using h)]

theorem RowT_ext {n m sz : Nat} {T T' : LS} {u : LV} {es : List (List LV)} (h : RowT n T m u sz es) (hT : ∀ k, k < T.length → T'[k]? = T[k]?) : RowT n T' m u sz es := by
  refine ⟨h.1, ?_⟩
  rcases h.2 with h | ⟨k, h1, h2, h3⟩
  · exact .inl h
  · exact .inr ⟨k, h1, h2, by rw [hT k (lt_of_get h3)]; exact h3⟩

/-- a row in a cell of the call's own block 1 is known from now on. -/
theorem Lwp_frzCell {N : Nat} {c : Code} {Q : Exit → Env → LS → Prop} {env : Env} {A T : LS} {n sz sz' : Nat} {cells : List LV} {es : List (List LV)} (j : Nat) (u : LV) (ts : List Nat) (us : List LV) (hA : A.length = n) (h1 : T[1]? = some (some (sz, [cells]))) (hj : cells[j]? = some u) (hr : RowT n T 2 u sz' es)
    (hf : ∀ (keep : Nat → Bool) (S' : LS), ∀ x ∈ cells.eraseIdx j, frzK keep S' 1 x = x) (hl : allLt N ts = true) (hus : slotsOf env ts = us) (hfz : ∀ k, 2 ≤ k → us.map (frzK (fun i => i != n + k) (A ++ T) 1) = us)
    (h : ∀ (full : Bool) (T2 : LS), T2.length = T.length → T2[0]? = T[0]? → T2[1]? = some (some (sz, [cells.set j (.sl full es)])) → Lwp Tryz.prog N c Q (envZ ts us) (A ++ T2)) : Lwp Tryz.prog N c Q env (A ++ T) := by
  subst hA
  rcases hr.2 with hu | ⟨k, hk, hu, hT⟩
  · refine Lwp_keep ts hl ?_
    rw [hus]
    refine h true T rfl rfl ?_
    rw [h1, ← hu]
    congr 4
    obtain ⟨hlt, he⟩ := List.getElem?_eq_some_iff.1 hj
    rw [← he]; exact (List.set_getElem_self hlt).symm
  · have hkl := lt_of_get hT
    have h1l := lt_of_get h1
    let keep : Nat → Bool := fun i => i != A.length + k
    have hcell : cells.map (frzK keep (A ++ T) 1) = cells.set j (.sl false es) := by
      rw [map_set_erase (hf _ _) hj, hu]
      congr 1
      simp only [frzK, keep, bne_self_eq_false, cond_false]
      rw [get_app, hT]
      simp only [Nat.zero_add, Nat.le_refl, if_true, List.drop_zero, List.take_length]
      simp
    refine Lwp_freezeB keep 1 (A ++ (T.set k none).set 1 (some (sz, [cells.set j (.sl false es)]))) (by simp) (fun id b hb => ?_) ts hl ?_
    · by_cases hl : id < A.length
      · rw [List.getElem?_append_left hl] at hb
        exact ⟨by simp [keep]; omega, b, by rw [List.getElem?_append_left hl]; exact hb, .inl rfl⟩
      · rw [List.getElem?_append_right (by omega)] at hb
        obtain ⟨m, rfl⟩ : ∃ m, id = A.length + m := ⟨id - A.length, by omega⟩
        rw [Nat.add_sub_cancel_left] at hb
        by_cases hm : m = 1
        · subst hm
          rw [List.getElem?_set_self (by simpa using h1l)] at hb
          cases hb
          refine ⟨by simp [keep]; omega, _, by rw [get_app]; exact h1, .inr ?_⟩
          simp only [frzKB, List.map_cons, List.map_nil, hcell]
        · rw [List.getElem?_set_ne (Ne.symm hm)] at hb
          by_cases hmk : m = k
          · subst hmk
            rw [List.getElem?_set_self hkl] at hb
            cases hb
          · rw [List.getElem?_set_ne (Ne.symm hmk)] at hb
            exact ⟨by simp [keep]; omega, b, by rw [get_app]; exact hb, .inl rfl⟩
    · rw [hus, hfz k hk]
      exact h false _ (by simp) (by rw [List.getElem?_set_ne (by omega), List.getElem?_set_ne (by omega)]) (List.getElem?_set_self (by simpa using h1l))

/-- a row in a slot is known from now on. -/
theorem Lwp_frzSlot {N : Nat} {c : Code} {Q : Exit → Env → LS → Prop} {env : Env} {A T : LS} {n m sz : Nat} {es : List (List LV)} (t : Nat) (u : LV) (ht : Nat.blt t N = true) (hA : A.length = n) (hu : env t = some u) (hr : RowT n T m u sz es)
    (h : ∀ (full : Bool) (T2 : LS), T2.length = T.length → (∀ k, k < m → T2[k]? = T[k]?) → Lwp Tryz.prog N c Q (env.put t (.sl full es)) (A ++ T2)) : Lwp Tryz.prog N c Q env (A ++ T) := by
  subst hA
  rcases hr.2 with he | ⟨k, hk, he, hT⟩
  · have := h true T rfl (fun _ _ => rfl)
    have e : env.put t (.sl true es) = env := by
      funext x
      simp only [Env.put]
      split
      · rename_i e; rw [e, hu, he]
      · rfl
    rwa [e] at this
  · subst he
    refine Lwp_freeze t (A.length + k) ht _ hu ?_
    have hkl := lt_of_get hT
    have hz : frzK (fun j => j != A.length + k) (A ++ T) 1 (.ref (A.length + k) 0 es.length) = .sl false es := by
      simp only [frzK, bne_self_eq_false, cond_false]
      rw [get_app, hT]
      simp only [Nat.zero_add, Nat.le_refl, if_true, List.drop_zero, List.take_length]
      simp
    rw [hz, set_app]
    exact h false _ (by simp) (fun i hi => List.getElem?_set_ne (by omega))


def cntOk (x : List LV) : Prop := ∃ (s : ByteArray) (t r : Int), x = [.str s, V t, V r] ∧ s.size ≤ 5
/-- what is known of a cycle that was made. -/
def CycOk (us : List LV) : Prop := ∃ (nm tm ct rd hi lo an ra fq : Int) (fr fc fl' b1 b2 b3 g1 g2 : Bool) (er ec el v1s v2s v3s d1 d2 : List (List LV)),
  us = [V nm, V tm, V ct, .sl fr er, .sl b1 v1s, .sl b2 v2s, .sl b3 v3s, V hi, .int .u64 lo, V an, V ra, V rd, V fq, .sl g1 d1, .sl g2 d2, .sl fc ec, .sl fl' el] ∧
  isI fq ∧ isI nm ∧ isI tm ∧ isI ct ∧ isI rd ∧ isI hi ∧ (0 ≤ lo ∧ lo ≤ 18446744073709551615) ∧ isI an ∧ isI ra ∧
  (er.length ≤ 2 ∧ ∀ e ∈ er, RepOk e) ∧ (v1s.length ≤ 4 ∧ ∀ e ∈ v1s, ok sI e) ∧ (v2s.length ≤ 4 ∧ ∀ e ∈ v2s, ok sI e) ∧ (v3s.length ≤ 4 ∧ ∀ e ∈ v3s, ok sI e) ∧
  (d1.length ≤ 12 ∧ ∀ e ∈ d1, ok sI e) ∧ (d2.length ≤ 60 ∧ ∀ e ∈ d2, ok sI e) ∧
  (ec.length ≤ 2 ∧ ∀ e ∈ ec, ∃ f l, e = [LV.sl f l] ∧ l.length ≤ 2 ∧ ∀ x ∈ l, ok sCnt x ∧ cntOk x) ∧ (el.length ≤ 2 ∧ ∀ e ∈ el, ∃ s : ByteArray, e = [LV.str s] ∧ s.size ≤ 5)


theorem RepOk_ok {us : List LV} (h : RepOk us) : ok sRep us := by
  obtain ⟨k, s, t, f, x, y, z, fl, es, rfl, hk, hs, ht, hf, hx, hy, hz, hl, he⟩ := h
  refine ⟨rfl, hk.1, hk.2, by omega, rfl, ht.1, ht.2, rfl, hf.1, hf.2, rfl, hx.1, hx.2, rfl, hy.1, hy.2, rfl, hz.1, hz.2, by omega, he, trivial⟩
theorem CycOk_ok {us : List LV} (h : CycOk us) : ok sCyc us := by
  obtain ⟨nm, tm, ct, rd, hi, lo, an, ra, fq, fr, fc, fl', b1, b2, b3, g1, g2, er, ec, el, v1s, v2s, v3s, d1, d2, rfl, h0, h1, h2, h3, h4, h5, h6, h7, h8, ⟨h9, h10⟩, ⟨h11, h12⟩, ⟨h13, h14⟩, ⟨h15, h16⟩, ⟨h17, h18⟩, ⟨h19, h20⟩, ⟨h21, h22⟩, ⟨h23, h24⟩⟩ := h
  refine ⟨rfl, h1.1, h1.2, rfl, h2.1, h2.2, rfl, h3.1, h3.2, by omega, fun e he => RepOk_ok (h10 e he), by omega, h12, by omega, h14, by omega, h16, rfl, h5.1, h5.2, rfl, h6.1, h6.2, rfl, h7.1, h7.2, rfl, h8.1, h8.2, rfl, h4.1, h4.2,
    rfl, h0.1, h0.2, by omega, h18, by omega, h20, by omega, fun e he => ?_, by omega, fun e he => ?_, trivial⟩
  · obtain ⟨f, l, rfl, hl, hx⟩ := h22 e he
    exact ⟨by omega, fun x hxl => (hx x hxl).1, trivial⟩
  · obtain ⟨s, rfl, hs⟩ := h24 e he
    exact ⟨by omega, trivial⟩

set_option maxHeartbeats 400000 in
theorem MadeC : Cds 23 [] (fun r => ∃ us, r = .agg us ∧ CycOk us) := by
  refine Cds_intro 2 Tryz.func23 rfl (by kernel_rfl) rfl fun S p fl xs a RR hx hp hRR => ?_
  refine Lwp_seq fun KK0 hKK0 => ?_
  refine LregionG [none] (by kernel_rfl) (by kernel_rfl) ?_
  simp -dsimp only [go_sem, ↓reduceIte]
  repeat with_reducible refine And.intro (by first | omega | decide) ?_
  refine hKK0 _ _ ?_
  try clear hKK0 KK0
  refine Lwp_seq fun KK1 hKK1 => ?_
  refine LregionG [none, none, none, none, none, none, none, none, none, none, none] (by kernel_rfl) (by kernel_rfl) ?_
  simp -dsimp only [go_sem, ↓reduceIte]
  refine ((NextC 9 (by omega)).at_ hx hp).k ?_
  rintro _ _ ⟨a, rfl, nm, rfl, hnm0, hnm1, hnm2, -⟩
  simp -dsimp only [go_sem, ↓reduceIte]
  refine (IntC.at_ hx hp).k ?_
  rintro _ _ ⟨a, rfl, tm, rfl, itm⟩
  simp -dsimp only [go_sem, ↓reduceIte]
  refine (IntC.at_ hx hp).k ?_
  rintro _ _ ⟨a, rfl, ct, rfl, ict⟩
  simp -dsimp only [go_sem, ↓reduceIte]
  refine (StateC.at_ hx hp).k ?_
  rintro _ _ ⟨a, rfl, g1, g2, d1, d2, rfl, ld1, ld2, hd1, hd2⟩
  simp -dsimp only [go_sem, ↓reduceIte]
  refine hKK1 _ _ ?_
  try clear hKK1 KK1
  refine Lwp_seq fun KK2 hKK2 => ?_
  refine Lwp_seq fun KK3 hKK3 => ?_
  refine LregionG [none, none, none] (by kernel_rfl) (by kernel_rfl) ?_
  simp -dsimp only [go_sem, ↓reduceIte]
  refine ((NextC 3 (by omega)).at_ hx hp).k ?_
  rintro _ _ ⟨a, rfl, n, rfl, hn0, hn1, hn2, -⟩
  simp -dsimp only [go_sem, ↓reduceIte]
  refine hKK3 _ _ ?_
  try clear hKK3 KK3
  refine Lwp_block ?_
  refine Lwp_loopK [0, 2, 3, 4] (fun m us S' => ∃ (a : Nat) (T : LS) (u : LV) (es : List (List LV)) (i : Int), S' = S.set p (some (cb fl xs a)) ++ T ∧ us = [.ptr p 0 0, .ptr S.length 0 0, .ptr (S.length + 1) 0 0, V i] ∧ 2 ≤ T.length ∧ T[0]? = some (some (17, [[V 0, V 0, V 0, .sl true [], .sl true [], .sl true [], .sl true [], V 0, .int .u64 0, V 0, V 0, V 0, V 0, .sl true [], .sl true [], .sl true [], .sl true []]])) ∧ T[1]? = some (some (17, [[V nm, V tm, V ct, u, .sl true [], .sl true [], .sl true [], V 0, .int .u64 0, V 0, V 0, V 0, V 1, .sl g1 d1, .sl g2 d2, .sl true [], .sl true []]])) ∧ RowT S.length T 2 u 8 es ∧ (∀ e ∈ es, RepOk e) ∧ (es.length : Int) + i ≤ 2 ∧ 0 ≤ i ∧ (m : Int) = i) n.toNat rfl (⟨a, _, _, [], n, rfl, by simp only [go_sem, ↓reduceIte], by simp, rfl, rfl, RowT.nil, by simp, by have := hn2 (by omega); simp; omega, hn0, by omega⟩) ?_
  rintro m us S2 ⟨a, T, u, es, i, rfl, rfl, hT, hT0, hT1, hrow, hok, hlen, hi0, hm⟩ II hII
  refine Lwp_seq fun KK4 hKK4 => ?_
  refine Lwp_seq fun KK5 hKK5 => ?_
  refine LregionG [none, none] (by kernel_rfl) (by kernel_rfl) ?_
  simp -dsimp only [go_sem, ↓reduceIte, hT1]
  repeat with_reducible refine And.intro (by first | omega | decide) ?_
  refine hKK5 _ _ ?_
  try clear hKK5 KK5
  refine Lwp_cond (by simp only [go_sem, ↓reduceIte, hT1]; rfl) (fun ht => ?_) (fun hf => ?_)
  · skip
    refine Lwp_skip ?_
    try simp -dsimp only [go_sem, ↓reduceIte, hT1]
    refine hKK4 _ _ ?_
    try clear hKK4 KK4
    refine Lwp_seq fun KK6 hKK6 => ?_
    refine Lwp_block ?_
    refine LdrawE [0,1,2,3,4,5,6,7] [(S.length + 1, (17, [[V nm, V tm, V ct, u, .sl true [], .sl true [], .sl true [], V 0, .int .u64 0, V 0, V 0, V 0, V 1, .sl g1 d1, .sl g2 d2, .sl true [], .sl true []]]))] (some 7) (by kernel_rfl) (by kernel_rfl) (by kernel_rfl) (by kernel_rfl) (by simp only [Watch.holds, List.mem_singleton, forall_eq]; rw [get_setapp]; exact hT1) ?_
    simp -dsimp only [go_sem, ↓reduceIte, hT1, hT1]
    refine (ReportC.at_ hx hp).k ?_
    rintro _ _ ⟨a, rfl, _, rfl, k0, s0, t0, f0, x0, y0, z0, fl0, es0, rfl, ik, is, it, jf, jx, jy, jz, hl0, ho0⟩
    simp -dsimp only [go_sem, ↓reduceIte, hT1]
    refine append_own (by simp) hrow rfl (by simp only [go_sem]; rfl) (by simp only [go_sem]; first | exact ⟨rfl, rfl⟩ | exact ⟨rfl, rfl, rfl⟩ | rfl) (by simp only [go_sem]) (by simp only [go_sem, ↓reduceIte]) (by simp only [go_sem, ↓reduceIte]; rfl) (by simp) (.inr (by simp)) (by simp only [LIM, List.length_cons, List.length_nil]; omega) (hT) fun T' hT' hrow' hpre' => ?_
    clear hrow
    have hT1' := (hpre' 1 (by omega)).trans hT1
    have hT0' := (hpre' 0 (by omega)).trans hT0
    have hi1 : IntKind.i64.wrap (i - 1) = i - 1 := w64 (by omega) (by omega)
    simp -dsimp only [go_sem, ↓reduceIte, hT1, hT1']
    refine hKK6 _ _ ?_
    try clear hKK6 KK6
    refine LregionG [none, none, none] (by kernel_rfl) (by kernel_rfl) ?_
    simp -dsimp only [go_sem, ↓reduceIte, hT1, hi1]
    repeat with_reducible refine And.intro (by first | omega | decide) ?_
    have ht2 : 0 < i := by simpa using ht
    refine hII (m - 1) _ _ (by omega) ⟨a, _, _, es ++ [_], i - 1, rfl, rfl, by simp; omega, ?_, ?_, hrow'.mono (Nat.le_refl _) (fun k hk hl => List.getElem?_set_ne (by omega)), ?_, by simp; omega, by omega, by omega⟩
    · rw [List.getElem?_set_ne (by omega)]; exact hT0'
    · rw [List.getElem?_set_self (by omega)]
      simp
    · intro e1 he
      rcases List.mem_append.1 he with he | he
      · exact hok e1 he
      · simp at he; subst he; exact ⟨k0, s0, t0, f0, x0, y0, z0, fl0, es0, rfl, ik, is, it, jf, jx, jy, jz, hl0, ho0⟩
  · skip
    refine Lwp_exit ?_
    simp -dsimp only [go_sem, ↓reduceIte, hT1]
    refine hKK2 _ _ ?_
    try clear hKK2 KK2
    refine Lwp_seq fun KK7 hKK7 => ?_
    obtain ⟨er, her⟩ : ∃ er, er = es := ⟨_, rfl⟩
    rw [← her] at hrow hok hlen
    have hler : er.length ≤ 2 := by omega
    have hoke := hok
    refine Lwp_frzCell 3 u [0, 2, 3] [.ptr p 0 0, .ptr S.length 0 0, .ptr (S.length + 1) 0 0] (by simp) hT1 rfl hrow (by intro keep S'; simp [frzK]) rfl (by simp only [go_sem, ↓reduceIte]) (by intro k hk; simp [frzK]) fun fr T2 hT2 hT20 hT21 => ?_
    rw [hT0] at hT20
    simp only [go_sem, ↓reduceIte] at hT21
    rw [← hT2] at hT
    clear hrow
    replace hT0 := hT20
    replace hT1 := hT21
    clear hT2 hT20 hT21
    refine LregionG [none, none, none, none, none, none, none, none, none, none, none, none, none, none, none, none, none] (by kernel_rfl) (by kernel_rfl) ?_
    simp -dsimp only [go_sem, ↓reduceIte, hT1]
    refine ((NextC 5 (by omega)).at_ hx hp).k ?_
    rintro _ _ ⟨a, rfl, n1, rfl, hn10, hn11, hn12, -⟩
    simp -dsimp only [go_sem, ↓reduceIte, hT1]
    refine ((VectorC n1 100 (by omega) (by omega)).at_ hx hp).k ?_
    rintro _ _ ⟨a, rfl, b1, v1s, rfl, lv1, hv1⟩
    simp -dsimp only [go_sem, ↓reduceIte, hT1]
    refine ((NextC 5 (by omega)).at_ hx hp).k ?_
    rintro _ _ ⟨a, rfl, n2, rfl, hn20, hn21, hn22, -⟩
    simp -dsimp only [go_sem, ↓reduceIte, hT1]
    refine ((VectorC n2 100 (by omega) (by omega)).at_ hx hp).k ?_
    rintro _ _ ⟨a, rfl, b2, v2s, rfl, lv2, hv2⟩
    simp -dsimp only [go_sem, ↓reduceIte, hT1]
    refine ((NextC 5 (by omega)).at_ hx hp).k ?_
    rintro _ _ ⟨a, rfl, n3, rfl, hn30, hn31, hn32, -⟩
    simp -dsimp only [go_sem, ↓reduceIte, hT1]
    refine ((VectorC n3 100 (by omega) (by omega)).at_ hx hp).k ?_
    rintro _ _ ⟨a, rfl, b3, v3s, rfl, lv3, hv3⟩
    simp -dsimp only [go_sem, ↓reduceIte, hT1]
    refine ((NextC 9 (by omega)).at_ hx hp).k ?_
    rintro _ _ ⟨a, rfl, rd, rfl, hrd0, hrd1, hrd2, -⟩
    simp -dsimp only [go_sem, ↓reduceIte, hT1]
    generalize hT4 : List.set T2 1 (some (17, [[V nm, V tm, V ct, .sl fr er, .sl b1 v1s, .sl b2 v2s, .sl b3 v3s, V 0, .int .u64 0, V 0, V 0, V rd, V 1, .sl g1 d1, .sl g2 d2, .sl true [], .sl true []]])) = T4
    have hT4l : T4.length = T2.length := by rw [← hT4]; simp
    replace hT0 := (show T4[0]? = T2[0]? by rw [← hT4, List.getElem?_set_ne (by omega)]).trans hT0
    replace hT1 : T4[1]? = some (some (17, [[V nm, V tm, V ct, .sl fr er, .sl b1 v1s, .sl b2 v2s, .sl b3 v3s, V 0, .int .u64 0, V 0, V 0, V rd, V 1, .sl g1 d1, .sl g2 d2, .sl true [], .sl true []]])) := by rw [← hT4]; exact List.getElem?_set_self (by omega)
    rw [← hT4l] at hT
    clear hT4 hT4l
    refine hKK7 _ _ ?_
    try clear hKK7 KK7
    refine Lwp_seq fun KK8 hKK8 => ?_
    refine LregionG [none, none, none, none, none, none, none, none, none, none, none, none, none, none] (by kernel_rfl) (by kernel_rfl) ?_
    simp -dsimp only [go_sem, ↓reduceIte, hT1]
    refine (IntC.at_ hx hp).k ?_
    rintro _ _ ⟨a, rfl, hi, rfl, ihi⟩
    simp -dsimp only [go_sem, ↓reduceIte, hT1]
    refine (IntC.at_ hx hp).k ?_
    rintro _ _ ⟨a, rfl, lo0, rfl, ilo⟩
    simp -dsimp only [go_sem, ↓reduceIte, hT1]
    obtain ⟨lo, hlo⟩ : ∃ lo, lo = IntKind.u64.wrap lo0 := ⟨_, rfl⟩
    have ilo2 : 0 ≤ lo ∧ lo ≤ 18446744073709551615 := by rw [hlo, wu64m]; omega
    simp only [← hlo]
    refine (IntC.at_ hx hp).k ?_
    rintro _ _ ⟨a, rfl, an, rfl, ian⟩
    simp -dsimp only [go_sem, ↓reduceIte, hT1]
    refine (IntC.at_ hx hp).k ?_
    rintro _ _ ⟨a, rfl, ra, rfl, ira⟩
    simp -dsimp only [go_sem, ↓reduceIte, hT1]
    generalize hT4 : List.set T4 1 (some (17, [[V nm, V tm, V ct, .sl fr er, .sl b1 v1s, .sl b2 v2s, .sl b3 v3s, V hi, .int .u64 lo, V an, V ra, V rd, V 1, .sl g1 d1, .sl g2 d2, .sl true [], .sl true []]])) = T5
    have hT4l : T5.length = T4.length := by rw [← hT4]; simp
    replace hT0 := (show T5[0]? = T4[0]? by rw [← hT4, List.getElem?_set_ne (by omega)]).trans hT0
    replace hT1 : T5[1]? = some (some (17, [[V nm, V tm, V ct, .sl fr er, .sl b1 v1s, .sl b2 v2s, .sl b3 v3s, V hi, .int .u64 lo, V an, V ra, V rd, V 1, .sl g1 d1, .sl g2 d2, .sl true [], .sl true []]])) := by rw [← hT4]; exact List.getElem?_set_self (by omega)
    rw [← hT4l] at hT
    clear hT4 hT4l
    refine hKK8 _ _ ?_
    try clear hKK8 KK8
    refine Lwp_seq fun KK9 hKK9 => ?_
    refine Lwp_seq fun KK10 hKK10 => ?_
    refine LregionG [none, none, none] (by kernel_rfl) (by kernel_rfl) ?_
    simp -dsimp only [go_sem, ↓reduceIte, hT1]
    refine ((NextC 3 (by omega)).at_ hx hp).k ?_
    rintro _ _ ⟨a, rfl, nc, rfl, hnc0, hnc1, hnc2, -⟩
    simp -dsimp only [go_sem, ↓reduceIte, hT1]
    refine hKK10 _ _ ?_
    try clear hKK10 KK10
    refine Lwp_block ?_
    refine Lwp_loopK [0, 2, 3, 5] (fun m1 us S' => ∃ (a : Nat) (T : LS) (u : LV) (es : List (List LV)) (i : Int), S' = S.set p (some (cb fl xs a)) ++ T ∧ us = [.ptr p 0 0, .ptr S.length 0 0, .ptr (S.length + 1) 0 0, V i] ∧ 2 ≤ T.length ∧ T[0]? = some (some (17, [[V 0, V 0, V 0, .sl true [], .sl true [], .sl true [], .sl true [], V 0, .int .u64 0, V 0, V 0, V 0, V 0, .sl true [], .sl true [], .sl true [], .sl true []]])) ∧ T[1]? = some (some (17, [[V nm, V tm, V ct, .sl fr er, .sl b1 v1s, .sl b2 v2s, .sl b3 v3s, V hi, .int .u64 lo, V an, V ra, V rd, V 1, .sl g1 d1, .sl g2 d2, u, .sl true []]])) ∧ RowT S.length T 2 u 1 es ∧ (∀ e ∈ es, ∃ f l, e = [LV.sl f l] ∧ l.length ≤ 2 ∧ ∀ x ∈ l, ok sCnt x ∧ cntOk x) ∧ (es.length : Int) + i ≤ 2 ∧ 0 ≤ i ∧ (m1 : Int) = i) nc.toNat rfl (⟨a, _, _, [], nc, rfl, by simp only [go_sem, ↓reduceIte], hT, hT0, hT1, RowT.nil, by simp, by have := hnc2 (by omega); simp; omega, hnc0, by omega⟩) ?_
    rintro m1 us S2 ⟨a, T, u, es, i, rfl, rfl, hT, hT0, hT1, hrow, hok, hlen, hi0, hm⟩ II1 hII1
    refine Lwp_seq fun KK11 hKK11 => ?_
    refine Lwp_seq fun KK12 hKK12 => ?_
    refine LregionG [none, none] (by kernel_rfl) (by kernel_rfl) ?_
    simp -dsimp only [go_sem, ↓reduceIte, hT1]
    repeat with_reducible refine And.intro (by first | omega | decide) ?_
    refine hKK12 _ _ ?_
    try clear hKK12 KK12
    refine Lwp_cond (by simp only [go_sem, ↓reduceIte, hT1]; rfl) (fun ht => ?_) (fun hf => ?_)
    · skip
      refine Lwp_skip ?_
      try simp -dsimp only [go_sem, ↓reduceIte, hT1]
      refine hKK11 _ _ ?_
      try clear hKK11 KK11
      refine Lwp_seq fun KK13 hKK13 => ?_
      refine Lwp_block ?_
      refine Lwp_seq fun KK14 hKK14 => ?_
      refine LregionG [none] (by kernel_rfl) (by kernel_rfl) ?_
      simp -dsimp only [go_sem, ↓reduceIte, hT1]
      repeat with_reducible refine And.intro (by first | omega | decide) ?_
      refine hKK14 _ _ ?_
      try clear hKK14 KK14
      refine Lwp_seq fun KK15 hKK15 => ?_
      refine Lwp_seq fun KK16 hKK16 => ?_
      refine LregionG [none, none, none] (by kernel_rfl) (by kernel_rfl) ?_
      simp -dsimp only [go_sem, ↓reduceIte, hT1]
      refine ((NextC 3 (by omega)).at_ hx hp).k ?_
      rintro _ _ ⟨a, rfl, n2c, rfl, hn2c0, hn2c1, hn2c2, -⟩
      simp -dsimp only [go_sem, ↓reduceIte, hT1]
      refine hKK16 _ _ ?_
      try clear hKK16 KK16
      refine Lwp_block ?_
      refine Lwp_loopK [0, 2, 3, 5, 6, 7] (fun m2 us S' => ∃ (a : Nat) (TT : LS) (u : LV) (es : List (List LV)) (i2 : Int), S' = S.set p (some (cb fl xs a)) ++ TT ∧ us = [.ptr p 0 0, .ptr S.length 0 0, .ptr (S.length + 1) 0 0, V i, u, V i2] ∧ T.length ≤ TT.length ∧ (∀ k, k < T.length → TT[k]? = T[k]?) ∧ RowT S.length TT T.length u 3 es ∧ (∀ e ∈ es, ok sCnt e ∧ cntOk e) ∧ (es.length : Int) + i2 ≤ 2 ∧ 0 ≤ i2 ∧ (m2 : Int) = i2) n2c.toNat rfl (⟨a, T, _, [], n2c, rfl, by simp only [go_sem, ↓reduceIte], Nat.le_refl _, fun _ _ => rfl, RowT.nil, by simp, by have := hn2c2 (by omega); simp; omega, hn2c0, by omega⟩) ?_
      rintro m2 us S2 ⟨a, TT, u2, es2, i2, rfl, rfl, hTT, hTe, hrow2, hok2, hlen2, hi02, hm2⟩ II2 hII2
      refine Lwp_seq fun KK17 hKK17 => ?_
      refine Lwp_seq fun KK18 hKK18 => ?_
      refine LregionG [none, none] (by kernel_rfl) (by kernel_rfl) ?_
      simp -dsimp only [go_sem, ↓reduceIte, hT1]
      repeat with_reducible refine And.intro (by first | omega | decide) ?_
      refine hKK18 _ _ ?_
      try clear hKK18 KK18
      refine Lwp_cond (by simp only [go_sem, ↓reduceIte, hT1]; rfl) (fun ht => ?_) (fun hf => ?_)
      · skip
        refine Lwp_skip ?_
        try simp -dsimp only [go_sem, ↓reduceIte, hT1]
        refine hKK17 _ _ ?_
        try clear hKK17 KK17
        refine Lwp_seq fun KK19 hKK19 => ?_
        refine Lwp_block ?_
        refine LregionG [none, none, none, none, none, none, none, none, none, none, none] (by kernel_rfl) (by kernel_rfl) ?_
        simp -dsimp only [go_sem, ↓reduceIte, hT1]
        refine (NameC.at_ hx hp).k ?_
        rintro _ _ ⟨a, rfl, s, rfl, is⟩
        simp -dsimp only [go_sem, ↓reduceIte, hT1]
        refine ((NextC 9 (by omega)).at_ hx hp).k ?_
        rintro _ _ ⟨a, rfl, tt, rfl, htt0, htt1, htt2, -⟩
        simp -dsimp only [go_sem, ↓reduceIte, hT1]
        refine (IntC.at_ hx hp).k ?_
        rintro _ _ ⟨a, rfl, rj, rfl, irj⟩
        simp -dsimp only [go_sem, ↓reduceIte, hT1]
        refine append_own (by simp) hrow2 rfl (by simp only [go_sem]; rfl) (by simp only [go_sem]; first | exact ⟨rfl, rfl⟩ | exact ⟨rfl, rfl, rfl⟩ | rfl) (by simp only [go_sem]) (by simp only [go_sem, ↓reduceIte]) (by simp only [go_sem, ↓reduceIte]; rfl) (by simp) (.inr (by simp)) (by simp only [LIM, List.length_cons, List.length_nil]; omega) (hTT) fun T' hT' hrow' hpre' => ?_
        clear hrow2
        have hi2 : IntKind.i64.wrap (i2 - 1) = i2 - 1 := w64 (by omega) (by omega)
        simp -dsimp only [go_sem, ↓reduceIte, hT1]
        refine hKK19 _ _ ?_
        try clear hKK19 KK19
        refine LregionG [none, none, none] (by kernel_rfl) (by kernel_rfl) ?_
        simp -dsimp only [go_sem, ↓reduceIte, hT1, hi2]
        repeat with_reducible refine And.intro (by first | omega | decide) ?_
        have ht2 : 0 < i2 := by simpa using ht
        refine hII2 (m2 - 1) _ _ (by omega) ⟨a, T', _, es2 ++ [_], i2 - 1, rfl, rfl, by omega, fun k hk => (hpre' k hk).trans (hTe k hk), hrow', ?_, by simp; omega, by omega, by omega⟩
        intro e1 he
        rcases List.mem_append.1 he with he | he
        · exact hok2 e1 he
        · simp at he; subst he
          exact ⟨⟨by omega, rfl, by omega, by omega, rfl, irj.1, irj.2, trivial⟩, s, tt, rj, rfl, is⟩
      · skip
        refine Lwp_exit ?_
        simp -dsimp only [go_sem, ↓reduceIte, hT1]
        refine hKK15 _ _ ?_
        try clear hKK15 KK15
        refine Lwp_frzSlot (A := S.set p (some (cb fl xs a))) 6 u2 rfl (by simp) rfl hrow2 fun fcc T6 hT6 hT6e => ?_
        have hT1b := (hT6e 1 (by omega)).trans ((hTe 1 (by omega)).trans hT1)
        have hT0b := (hT6e 0 (by omega)).trans ((hTe 0 (by omega)).trans hT0)
        have hrowb := RowT_ext hrow (fun k hk => (hT6e k hk).trans (hTe k hk))
        have hT6l : 2 ≤ T6.length := by omega
        have hes2 : es2.length ≤ 2 := by omega
        clear hrow2 hTe hT6e
        refine LregionG [none, none, none, none, none, none, none, none, none] (by kernel_rfl) (by kernel_rfl) ?_
        simp -dsimp only [go_sem, ↓reduceIte, hT1, hT1b]
        refine append_own (by simp) hrowb rfl (by simp only [go_sem]; rfl) (by simp only [go_sem]; first | exact ⟨rfl, rfl⟩ | exact ⟨rfl, rfl, rfl⟩ | rfl) (by simp only [go_sem]) (by simp only [go_sem, ↓reduceIte]) (by simp only [go_sem, ↓reduceIte]; rfl) (by simp) (.inr (by simp)) (by simp only [LIM, List.length_cons, List.length_nil]; omega) (hT6l) fun T' hT' hrow' hpre' => ?_
        clear hrowb
        have hT1' := (hpre' 1 (by omega)).trans hT1b
        have hT0' := (hpre' 0 (by omega)).trans hT0b
        have hi1 : IntKind.i64.wrap (i - 1) = i - 1 := w64 (by omega) (by omega)
        simp -dsimp only [go_sem, ↓reduceIte, hT1, hT1b, hT1']
        refine hKK13 _ _ ?_
        try clear hKK13 KK13
        refine LregionG [none, none, none] (by kernel_rfl) (by kernel_rfl) ?_
        simp -dsimp only [go_sem, ↓reduceIte, hT1, hT1b, hi1]
        repeat with_reducible refine And.intro (by first | omega | decide) ?_
        have ht2 : 0 < i := by simpa using ht
        refine hII1 (m1 - 1) _ _ (by omega) ⟨a, _, _, es ++ [_], i - 1, rfl, rfl, by simp; omega, ?_, ?_, hrow'.mono (Nat.le_refl _) (fun k hk hl => List.getElem?_set_ne (by omega)), ?_, by simp; omega, by omega, by omega⟩
        · rw [List.getElem?_set_ne (by omega)]; exact hT0'
        · rw [List.getElem?_set_self (by omega)]
          simp
        · intro e1 he
          rcases List.mem_append.1 he with he | he
          · exact hok e1 he
          · simp at he; subst he; exact ⟨fcc, es2, rfl, hes2, hok2⟩
    · skip
      refine Lwp_exit ?_
      simp -dsimp only [go_sem, ↓reduceIte, hT1]
      refine hKK9 _ _ ?_
      try clear hKK9 KK9
      refine Lwp_seq fun KK20 hKK20 => ?_
      refine Lwp_seq fun KK21 hKK21 => ?_
      obtain ⟨ec, hec⟩ : ∃ ec, ec = es := ⟨_, rfl⟩
      rw [← hec] at hrow hok hlen
      have hlec : ec.length ≤ 2 := by omega
      refine Lwp_frzCell 15 u [0, 2, 3] [.ptr p 0 0, .ptr S.length 0 0, .ptr (S.length + 1) 0 0] (by simp) hT1 rfl hrow (by intro keep S'; simp [frzK]) rfl (by simp only [go_sem, ↓reduceIte]) (by intro k hk; simp [frzK]) fun fc T2 hT2 hT20 hT21 => ?_
      rw [hT0] at hT20
      simp only [go_sem, ↓reduceIte] at hT21
      rw [← hT2] at hT
      clear hrow
      replace hT0 := hT20
      replace hT1 := hT21
      clear hT2 hT20 hT21
      have hokc := hok
      refine LregionG [none, none, none] (by kernel_rfl) (by kernel_rfl) ?_
      simp -dsimp only [go_sem, ↓reduceIte, hT1]
      refine ((NextC 3 (by omega)).at_ hx hp).k ?_
      rintro _ _ ⟨a, rfl, nl, rfl, hnl0, hnl1, hnl2, -⟩
      simp -dsimp only [go_sem, ↓reduceIte, hT1]
      refine hKK21 _ _ ?_
      try clear hKK21 KK21
      refine Lwp_block ?_
      refine Lwp_loopK [0, 2, 3, 8] (fun m3 us S' => ∃ (a : Nat) (T : LS) (u : LV) (es : List (List LV)) (i : Int), S' = S.set p (some (cb fl xs a)) ++ T ∧ us = [.ptr p 0 0, .ptr S.length 0 0, .ptr (S.length + 1) 0 0, V i] ∧ 2 ≤ T.length ∧ T[0]? = some (some (17, [[V 0, V 0, V 0, .sl true [], .sl true [], .sl true [], .sl true [], V 0, .int .u64 0, V 0, V 0, V 0, V 0, .sl true [], .sl true [], .sl true [], .sl true []]])) ∧ T[1]? = some (some (17, [[V nm, V tm, V ct, .sl fr er, .sl b1 v1s, .sl b2 v2s, .sl b3 v3s, V hi, .int .u64 lo, V an, V ra, V rd, V 1, .sl g1 d1, .sl g2 d2, .sl fc ec, u]])) ∧ RowT S.length T 2 u 1 es ∧ (∀ e ∈ es, ∃ s : ByteArray, e = [LV.str s] ∧ s.size ≤ 5) ∧ (es.length : Int) + i ≤ 2 ∧ 0 ≤ i ∧ (m3 : Int) = i) nl.toNat rfl (⟨a, _, _, [], nl, rfl, by simp only [go_sem, ↓reduceIte], hT, hT0, hT1, RowT.nil, by simp, by have := hnl2 (by omega); simp; omega, hnl0, by omega⟩) ?_
      rintro m3 us S2 ⟨a, T, u, es, i, rfl, rfl, hT, hT0, hT1, hrow, hok, hlen, hi0, hm⟩ II3 hII3
      refine Lwp_seq fun KK22 hKK22 => ?_
      refine Lwp_seq fun KK23 hKK23 => ?_
      refine LregionG [none, none] (by kernel_rfl) (by kernel_rfl) ?_
      simp -dsimp only [go_sem, ↓reduceIte, hT1]
      repeat with_reducible refine And.intro (by first | omega | decide) ?_
      refine hKK23 _ _ ?_
      try clear hKK23 KK23
      refine Lwp_cond (by simp only [go_sem, ↓reduceIte, hT1]; rfl) (fun ht => ?_) (fun hf => ?_)
      · skip
        refine Lwp_skip ?_
        try simp -dsimp only [go_sem, ↓reduceIte, hT1]
        refine hKK22 _ _ ?_
        try clear hKK22 KK22
        refine Lwp_seq fun KK24 hKK24 => ?_
        refine Lwp_block ?_
        refine LdrawE [0,1,2,3,4,5,6,7,8,9] [(S.length + 1, (17, [[V nm, V tm, V ct, .sl fr er, .sl b1 v1s, .sl b2 v2s, .sl b3 v3s, V hi, .int .u64 lo, V an, V ra, V rd, V 1, .sl g1 d1, .sl g2 d2, .sl fc ec, u]]))] (some 9) (by kernel_rfl) (by kernel_rfl) (by kernel_rfl) (by kernel_rfl) (by simp only [Watch.holds, List.mem_singleton, forall_eq]; rw [get_setapp]; exact hT1) ?_
        simp -dsimp only [go_sem, ↓reduceIte, hT1, hT1]
        refine (NameC.at_ hx hp).k ?_
        rintro _ _ ⟨a, rfl, s, rfl, is⟩
        simp -dsimp only [go_sem, ↓reduceIte, hT1]
        refine append_own (by simp) hrow rfl (by simp only [go_sem]; rfl) (by simp only [go_sem]; first | exact ⟨rfl, rfl⟩ | exact ⟨rfl, rfl, rfl⟩ | rfl) (by simp only [go_sem]) (by simp only [go_sem, ↓reduceIte]) (by simp only [go_sem, ↓reduceIte]; rfl) (by simp) (.inr (by simp)) (by simp only [LIM, List.length_cons, List.length_nil]; omega) (hT) fun T' hT' hrow' hpre' => ?_
        clear hrow
        have hT1' := (hpre' 1 (by omega)).trans hT1
        have hT0' := (hpre' 0 (by omega)).trans hT0
        have hi1 : IntKind.i64.wrap (i - 1) = i - 1 := w64 (by omega) (by omega)
        simp -dsimp only [go_sem, ↓reduceIte, hT1, hT1']
        refine hKK24 _ _ ?_
        try clear hKK24 KK24
        refine LregionG [none, none, none] (by kernel_rfl) (by kernel_rfl) ?_
        simp -dsimp only [go_sem, ↓reduceIte, hT1, hi1]
        repeat with_reducible refine And.intro (by first | omega | decide) ?_
        have ht2 : 0 < i := by simpa using ht
        refine hII3 (m3 - 1) _ _ (by omega) ⟨a, _, _, es ++ [_], i - 1, rfl, rfl, by simp; omega, ?_, ?_, hrow'.mono (Nat.le_refl _) (fun k hk hl => List.getElem?_set_ne (by omega)), ?_, by simp; omega, by omega, by omega⟩
        · rw [List.getElem?_set_ne (by omega)]; exact hT0'
        · rw [List.getElem?_set_self (by omega)]
          simp
        · intro e1 he
          rcases List.mem_append.1 he with he | he
          · exact hok e1 he
          · simp at he; subst he; exact ⟨s, rfl, is⟩
      · skip
        refine Lwp_exit ?_
        simp -dsimp only [go_sem, ↓reduceIte, hT1]
        refine hKK20 _ _ ?_
        try clear hKK20 KK20
        refine Lwp_seq fun KK25 hKK25 => ?_
        have hs0 : ∀ v, (T.set 0 v)[0]? = some v := fun v => List.getElem?_set_self (by omega)
        refine LregionG [none, none] (by kernel_rfl) (by kernel_rfl) ?_
        simp -dsimp only [go_sem, ↓reduceIte, hT1, hT0, hs0]
        repeat with_reducible refine And.intro (by first | omega | decide) ?_
        refine hKK25 _ _ ?_
        try clear hKK25 KK25
        refine Lwp_ret ?_
        simp only [LThen, LBlock, LPost, Tryz.results23]
        simp -dsimp only [go_sem, ↓reduceIte, hT1, hT0, hs0]
        have hz := (hrow.mono (T' := T.set 0 (some (17, [[V nm, V tm, V ct, .sl fr er, .sl b1 v1s, .sl b2 v2s, .sl b3 v3s, V hi, .int .u64 lo, V an, V ra, V rd, V 1, .sl g1 d1, .sl g2 d2, .sl fc ec, u]]))) (Nat.le_refl _) (fun k hk hl => List.getElem?_set_ne (by omega))).frz1 (A := S.set p (some (cb fl xs a))) (by simp)
        obtain ⟨full, hz⟩ := hz
        have hC : CycOk [V nm, V tm, V ct, .sl fr er, .sl b1 v1s, .sl b2 v2s, .sl b3 v3s, V hi, .int .u64 lo, V an, V ra, V rd, V 1, .sl g1 d1, .sl g2 d2, .sl fc ec, .sl full es] := ⟨nm, tm, ct, rd, hi, lo, an, ra, 1, fr, fc, full, b1, b2, b3, g1, g2, er, ec, es, v1s, v2s, v3s, d1, d2, rfl, ⟨by omega, by omega⟩, ⟨by omega, by omega⟩, itm, ict, ⟨by omega, by omega⟩, ihi, ilo2, ian, ira, ⟨hler, hoke⟩,
          ⟨by have := hn12 (by omega); omega, hv1⟩, ⟨by have := hn22 (by omega); omega, hv2⟩, ⟨by have := hn32 (by omega); omega, hv3⟩, ⟨ld1, hd1⟩, ⟨ld2, hd2⟩, ⟨hlec, hokc⟩, ⟨by omega, hok⟩⟩
        refine ret_codes hp (by simp only [go_sem, ↓reduceIte, hz]; exact ok_lt (CycOk_ok hC)) ?_
        simp only [go_sem, ↓reduceIte, hz]
        exact hRR _ _ ⟨_, rfl, hC⟩

end Go.Proofs.YtdhngmldmalbbaaGreat
end
section
set_option linter.all false
namespace Go.Proofs.YtdhngmldmalbbaaGreat
open Go.Lift Go.RowKit Go.Store
set_option linter.unusedSimpArgs false
set_option linter.unusedVariables false

def sLog : Sch := .int (.int (sItem.app (.int (.str (sPer.app sCyc)))))
def PerOk (pe : List LV) : Prop := ∃ (fr : Int) (cl : Bool) (f x y z : Int) (fl : Bool) (es : List (List LV)), pe = [V fr, .bool cl, V f, V x, V y, V z, .sl fl es] ∧ isI fr ∧ isI f ∧ isI x ∧ isI y ∧ isI z ∧ es.length ≤ 2 ∧ ∀ e ∈ es, ok sRd e
def ItOk (it : List LV) : Prop := ∃ (rep : List LV) (c a : Int), it = rep ++ [V c, V a] ∧ RepOk rep ∧ isI c ∧ isI a
/-- what is known of an entry that was made. -/
def EntOk (us : List LV) : Prop := ∃ (k now st : Int) (nm : ByteArray) (it pe cy : List LV), us = [V k, V now] ++ it ++ [V st, .str nm] ++ pe ++ cy ∧ (1 ≤ k ∧ k ≤ 4) ∧ isI now ∧ isI st ∧ nm.size ≤ 5 ∧ ItOk it ∧ PerOk pe ∧ CycOk cy

theorem app_ok : ∀ {s t : Sch} {us vs : List LV}, ok s us → ok t vs → ok (s.app t) (us ++ vs)
  | .nil, t, [], vs, _, h => h
  | .int r, t, .int k v :: us, vs, h, h' => by simp only [ok] at h; exact ⟨h.1, h.2.1, h.2.2.1, app_ok h.2.2.2 h'⟩
  | .word r, t, .int k v :: us, vs, h, h' => by simp only [ok] at h; exact ⟨h.1, h.2.1, h.2.2.1, app_ok h.2.2.2 h'⟩
  | .bool r, t, .bool b :: us, vs, h, h' => by simp only [ok] at h; exact app_ok (s := r) h h'
  | .str r, t, .str b :: us, vs, h, h' => by simp only [ok] at h; exact ⟨h.1, app_ok h.2 h'⟩
  | .sl e r, t, .sl f es :: us, vs, h, h' => by simp only [ok] at h; exact ⟨h.1, h.2.1, app_ok h.2.2 h'⟩

theorem ok_frzK {keep : Nat → Bool} {S : LS} {d : Nat} : ∀ {s : Sch} {us : List LV}, ok s us → us.map (frzK keep S d) = us
  | .nil, [], _ => rfl
  | .int r, .int k v :: us, h => by simp only [ok] at h; rw [List.map_cons, ok_frzK h.2.2.2]; cases d <;> rfl
  | .word r, .int k v :: us, h => by simp only [ok] at h; rw [List.map_cons, ok_frzK h.2.2.2]; cases d <;> rfl
  | .bool r, .bool b :: us, h => by simp only [ok] at h; rw [List.map_cons, ok_frzK h]; cases d <;> rfl
  | .str r, .str b :: us, h => by simp only [ok] at h; rw [List.map_cons, ok_frzK h.2]; cases d <;> rfl
  | .sl e r, .sl f es :: us, h => by simp only [ok] at h; rw [List.map_cons, ok_frzK h.2.2]; cases d <;> rfl

theorem PerOk_ok {pe : List LV} (h : PerOk pe) : ok sPer pe := by
  obtain ⟨fr, cl, f, x, y, z, fl, es, rfl, h1, h2, h3, h4, h5, h6, h7⟩ := h
  exact ⟨rfl, h1.1, h1.2, rfl, h2.1, h2.2, rfl, h3.1, h3.2, rfl, h4.1, h4.2, rfl, h5.1, h5.2, by omega, h7, trivial⟩
theorem ItOk_ok {it : List LV} (h : ItOk it) : ok sItem it := by
  obtain ⟨rep, c, a, rfl, h1, h2, h3⟩ := h
  exact app_ok (RepOk_ok h1) ⟨rfl, h2.1, h2.2, rfl, h3.1, h3.2, trivial⟩
theorem EntOk_ok {us : List LV} (h : EntOk us) : ok sLog us := by
  obtain ⟨k, now, st, nm, it, pe, cy, rfl, h1, h2, h3, h4, h5, h6, h7⟩ := h
  have e : [V k, V now] ++ it ++ [V st, .str nm] ++ pe ++ cy = V k :: V now :: (it ++ (V st :: .str nm :: (pe ++ cy))) := by simp
  rw [e]
  exact ⟨rfl, by omega, by omega, rfl, h2.1, h2.2, app_ok (ItOk_ok h5) ⟨rfl, h3.1, h3.2, by omega, app_ok (PerOk_ok h6) (CycOk_ok h7)⟩⟩
def zRep : List LV := [V 0, .str ⟨#[]⟩, V 0, V 0, V 0, V 0, V 0, .sl true []]
theorem I0 : isI 0 := ⟨by omega, by omega⟩
theorem zRep_ok : RepOk zRep := ⟨0, _, 0, 0, 0, 0, 0, true, [], rfl, I0, by decide, I0, I0, I0, I0, I0, by simp, by simp⟩
theorem zIt_ok : ItOk (zRep ++ [V 0, V 0]) := ⟨_, 0, 0, rfl, zRep_ok, I0, I0⟩
def zPer : List LV := [V 0, .bool false, V 0, V 0, V 0, V 0, .sl true []]
theorem zPer_ok : PerOk zPer := ⟨0, false, 0, 0, 0, 0, true, [], rfl, I0, I0, I0, I0, I0, by simp, by simp⟩
def zCyc : List LV := [V 0, V 0, V 0, .sl true [], .sl true [], .sl true [], .sl true [], V 0, .int .u64 0, V 0, V 0, V 0, V 0, .sl true [], .sl true [], .sl true [], .sl true []]
theorem zCyc_ok : CycOk zCyc := ⟨0, 0, 0, 0, 0, 0, 0, 0, 0, true, true, true, true, true, true, true, true, [], [], [], [], [], [], [], [], rfl, I0, I0, I0, I0, I0, I0, ⟨by omega, by omega⟩, I0, I0, by simp, by simp, by simp, by simp, by simp, by simp, by simp, by simp⟩
theorem RepOk_len {us : List LV} (h : RepOk us) : us.length = 8 := by
  obtain ⟨k, s, t, f, x, y, z, fl, es, rfl, _⟩ := h; rfl
theorem ItOk_len {us : List LV} (h : ItOk us) : us.length = 10 := by
  obtain ⟨rep, c, a, rfl, h1, _⟩ := h; simp [RepOk_len h1]
theorem CycOk_len {us : List LV} (h : CycOk us) : us.length = 17 := by
  obtain ⟨nm, tm, ct, rd, hi, lo, an, ra, fq, fr, fc, fl', b1, b2, b3, g1, g2, er, ec, el, v1s, v2s, v3s, d1, d2, rfl, _⟩ := h; rfl


def preL (k now : Int) (it : List LV) (st : Int) (nm : ByteArray) (fr : Int) (cl : Bool) (f x y z : Int) : List LV := [V k, V now] ++ it ++ [V st, .str nm, V fr, .bool cl, V f, V x, V y, V z]
def EntP (k now : Int) (it : List LV) (st : Int) (nm : ByteArray) (fr : Int) (f x y z : Int) (es : List (List LV)) (cy : List LV) : Prop :=
  (1 ≤ k ∧ k ≤ 4) ∧ isI now ∧ ItOk it ∧ isI st ∧ nm.size ≤ 5 ∧ isI fr ∧ isI f ∧ isI x ∧ isI y ∧ isI z ∧ es.length ≤ 2 ∧ (∀ e ∈ es, ok sRd e) ∧ CycOk cy
theorem EntP_ok {k now : Int} {it : List LV} {st : Int} {nm : ByteArray} {fr : Int} {cl : Bool} {f x y z : Int} {es : List (List LV)} {cy : List LV} (h : EntP k now it st nm fr f x y z es cy) (full : Bool) : EntOk (preL k now it st nm fr cl f x y z ++ .sl full es :: cy) := by
  obtain ⟨h1, h2, h3, h4, h5, h6, h7, h8, h9, h10, h11, h12, h13⟩ := h
  exact ⟨k, now, st, nm, it, [V fr, .bool cl, V f, V x, V y, V z, .sl full es], cy, by simp [preL], h1, h2, h4, h5, h3, ⟨fr, cl, f, x, y, z, full, es, rfl, h6, h7, h8, h9, h10, h11, h12⟩, h13⟩
theorem preL_ok {k now : Int} {it : List LV} {st : Int} {nm : ByteArray} {fr : Int} {cl : Bool} {f x y z : Int} {es : List (List LV)} {cy : List LV} (h : EntP k now it st nm fr f x y z es cy) : ok (.int (.int (sItem.app (.int (.str (.int (.bool sPlace))))))) (preL k now it st nm fr cl f x y z) := by
  obtain ⟨h1, h2, h3, h4, h5, h6, h7, h8, h9, h10, h11, h12, h13⟩ := h
  have e : preL k now it st nm fr cl f x y z = V k :: V now :: (it ++ [V st, .str nm, V fr, .bool cl, V f, V x, V y, V z]) := by simp [preL]
  rw [e]
  exact ⟨rfl, by omega, by omega, rfl, h2.1, h2.2, app_ok (ItOk_ok h3) ⟨rfl, h4.1, h4.2, by omega, rfl, h6.1, h6.2, rfl, h7.1, h7.2, rfl, h8.1, h8.2, rfl, h9.1, h9.2, rfl, h10.1, h10.2, trivial⟩⟩
theorem EntP_len {k now : Int} {it : List LV} {st : Int} {nm : ByteArray} {fr : Int} {cl : Bool} {f x y z : Int} {u : LV} {es : List (List LV)} {cy : List LV} (h : EntP k now it st nm fr f x y z es cy) : (preL k now it st nm fr cl f x y z).length = 20 ∧ (preL k now it st nm fr cl f x y z ++ u :: cy).length = 38 := by
  have h1 := ItOk_len h.2.2.1
  have h2 := CycOk_len h.2.2.2.2.2.2.2.2.2.2.2.2
  exact ⟨by simp [preL, h1], by simp [preL, h1, h2]⟩

/-- a row in a cell of the call's own block 1 is known from now on. -/
theorem Lwp_frzCell2 {N : Nat} {c : Code} {Q : Exit → Env → LS → Prop} {env : Env} {A T : LS} {n sz sz' : Nat} {pre post : List LV} {es : List (List LV)} {sp st : Sch} (u : LV) (ts : List Nat) (us : List LV) (hA : A.length = n) (h1 : T[1]? = some (some (sz, [pre ++ u :: post]))) (hr : RowT n T 2 u sz' es)
    (hpre : ok sp pre) (hpost : ok st post) (hl : allLt N ts = true) (hus : slotsOf env ts = us) (hfz : ∀ k, 2 ≤ k → us.map (frzK (fun i => i != n + k) (A ++ T) 1) = us)
    (h : ∀ (full : Bool) (T2 : LS), T2.length = T.length → T2[0]? = T[0]? → T2[1]? = some (some (sz, [pre ++ .sl full es :: post])) → Lwp Tryz.prog N c Q (envZ ts us) (A ++ T2)) : Lwp Tryz.prog N c Q env (A ++ T) := by
  refine Lwp_frzCell pre.length u ts us hA h1 (by simp) hr (fun keep S' x hx => ?_) hl hus hfz fun full T2 g1 g2 g3 => h full T2 g1 g2 (by simpa using g3)
  have e : (pre ++ u :: post).eraseIdx pre.length = pre ++ post := by
    rw [List.eraseIdx_append_of_length_le (Nat.le_refl _)]; simp
  rw [e] at hx
  rcases List.mem_append.1 hx with hx | hx
  · obtain ⟨i, hi, rfl⟩ := List.getElem_of_mem hx
    have := ok_frzK (keep := keep) (S := S') (d := 1) hpre
    have h2 : (pre.map (frzK keep S' 1))[i]'(by simpa using hi) = pre[i] := by simp only [this]
    simpa using h2
  · obtain ⟨i, hi, rfl⟩ := List.getElem_of_mem hx
    have := ok_frzK (keep := keep) (S := S') (d := 1) hpost
    have h2 : (post.map (frzK keep S' 1))[i]'(by simpa using hi) = post[i] := by simp only [this]
    simpa using h2
def zLog : List LV := [V 0, V 0] ++ (zRep ++ [V 0, V 0]) ++ [V 0, .str ⟨#[]⟩] ++ zPer ++ zCyc

set_option maxHeartbeats 400000 in
theorem EntryC : Cds 7 [] (fun r => ∃ us, r = .agg us ∧ EntOk us) := by
  refine Cds_intro 2 Tryz.func7 rfl (by kernel_rfl) rfl fun S p fl xs a RR hx hp hRR => ?_
  refine Lwp_seq fun KK0 hKK0 => ?_
  refine LregionG [none] (by kernel_rfl) (by kernel_rfl) ?_
  simp -dsimp only [go_sem, ↓reduceIte]
  repeat with_reducible refine And.intro (by first | omega | decide) ?_
  refine hKK0 _ _ ?_
  try clear hKK0 KK0
  refine Lwp_seq fun KK1 hKK1 => ?_
  refine LregionG [none, none, none, none, none, none] (by kernel_rfl) (by kernel_rfl) ?_
  simp -dsimp only [go_sem, ↓reduceIte]
  refine ((NextC 4 (by omega)).at_ hx hp).k ?_
  rintro _ _ ⟨a, rfl, v, rfl, hv0, hv1, hv2, -⟩
  have wv : IntKind.i64.wrap (1 + v) = 1 + v := w64 (by omega) (by have := hv2 (by omega); omega)
  simp -dsimp only [go_sem, ↓reduceIte, wv]
  refine hKK1 _ _ ?_
  try clear hKK1 KK1
  refine Lwp_seqJ [0, 2, 3] (fun us S' => us = [.ptr p 0 0, .ptr S.length 0 0, .ptr (S.length + 1) 0 0] ∧ ∃ (a : Nat) (T : LS) (k now : Int) (it : List LV) (st : Int) (nm : ByteArray) (fr : Int) (cl : Bool) (f x y z : Int) (u : LV) (es : List (List LV)) (cy : List LV), S' = S.set p (some (cb fl xs a)) ++ T ∧ 2 ≤ T.length ∧ T[0]? = some (some (38, [zLog])) ∧ T[1]? = some (some (38, [preL k now it st nm fr cl f x y z ++ u :: cy])) ∧ RowT S.length T 2 u 2 es ∧ EntP k now it st nm fr f x y z es cy) rfl (fun KK2 hKK2 => ?_) ?_
  · skip
    refine Lwp_seq fun KK3 hKK3 => ?_
    refine LregionG [none, none] (by kernel_rfl) (by kernel_rfl) ?_
    simp -dsimp only [go_sem, ↓reduceIte]
    repeat with_reducible refine And.intro (by first | omega | decide) ?_
    refine hKK3 _ _ ?_
    try clear hKK3 KK3
    refine Lwp_block ?_
    refine Lwp_seq fun KK4 hKK4 => ?_
    refine LregionG [none, none] (by kernel_rfl) (by kernel_rfl) ?_
    simp -dsimp only [go_sem, ↓reduceIte]
    repeat with_reducible refine And.intro (by first | omega | decide) ?_
    refine hKK4 _ _ ?_
    try clear hKK4 KK4
    refine Lwp_cond (by simp only [go_sem, ↓reduceIte]; rfl) (fun ht => ?_) (fun hf => ?_)
    · skip
      refine LregionG [none, none, none, none] (by kernel_rfl) (by kernel_rfl) ?_
      simp -dsimp only [go_sem, ↓reduceIte]
      refine (IntC.at_ hx hp).k ?_
      rintro _ _ ⟨a, rfl, w, rfl, iw⟩
      simp -dsimp only [go_sem, ↓reduceIte]
      try simp -dsimp only [go_sem, ↓reduceIte]
      refine hKK2 _ _ ?_
      first
      | exact ⟨rfl, a, _, 1 + v, w, zRep ++ [V 0, V 0], 0, ⟨#[]⟩, 0, false, 0, 0, 0, 0, .sl true [], [], zCyc, rfl, by simp, rfl, rfl, RowT.nil, ⟨by omega, by have := hv2 (by omega); omega⟩, iw, zIt_ok, I0, by decide, I0, I0, I0, I0, I0, by simp, by simp, zCyc_ok⟩
      | exact ⟨rfl, a, _, 1 + v, 0, [V k0, .str s0, V t0, V f0, V x0, V y0, V z0, .sl fl0 es0] ++ [V co, V ar], 0, ⟨#[]⟩, 0, false, 0, 0, 0, 0, .sl true [], [], zCyc, rfl, by simp, rfl, rfl, RowT.nil, ⟨by omega, by have := hv2 (by omega); omega⟩, I0, ⟨_, co, ar, rfl, ⟨k0, s0, t0, f0, x0, y0, z0, fl0, es0, rfl, ik, is, it, jf, jx, jy, jz, hl0, ho0⟩, ⟨by omega, by omega⟩, iar⟩, I0, by decide, I0, I0, I0, I0, I0, by simp, by simp, zCyc_ok⟩
      | exact ⟨rfl, a, _, 1 + v, 0, zRep ++ [V 0, V 0], st, nm, fr, cl, f, x, y, z, u, es, zCyc, rfl, hT, hT0, hT1, hrow, ⟨by omega, by have := hv2 (by omega); omega⟩, I0, zIt_ok, ⟨by omega, by omega⟩, inm, ifr, jf, jx, jy, jz, by omega, hok, zCyc_ok⟩
      | exact ⟨rfl, a, _, 1 + v, 0, zRep ++ [V 0, V 0], 0, ⟨#[]⟩, 0, false, 0, 0, 0, 0, .sl true [], [], cy, rfl, by simp, rfl, rfl, RowT.nil, ⟨by omega, by have := hv2 (by omega); omega⟩, I0, zIt_ok, I0, by decide, I0, I0, I0, I0, I0, by simp, by simp, hcy⟩
    · skip
      refine Lwp_seq fun KK5 hKK5 => ?_
      refine LregionG [none, none] (by kernel_rfl) (by kernel_rfl) ?_
      simp -dsimp only [go_sem, ↓reduceIte]
      repeat with_reducible refine And.intro (by first | omega | decide) ?_
      refine hKK5 _ _ ?_
      try clear hKK5 KK5
      refine Lwp_cond (by simp only [go_sem, ↓reduceIte]; rfl) (fun ht => ?_) (fun hf => ?_)
      · skip
        refine LregionG [none, none, none, none, none, none, none, none, none] (by kernel_rfl) (by kernel_rfl) ?_
        simp -dsimp only [go_sem, ↓reduceIte]
        refine (ReportC.at_ hx hp).k ?_
        rintro _ _ ⟨a, rfl, _, rfl, k0, s0, t0, f0, x0, y0, z0, fl0, es0, rfl, ik, is, it, jf, jx, jy, jz, hl0, ho0⟩
        simp -dsimp only [go_sem, ↓reduceIte]
        refine ((NextC 27 (by omega)).at_ hx hp).k ?_
        rintro _ _ ⟨a, rfl, co, rfl, hco0, hco1, hco2, -⟩
        simp -dsimp only [go_sem, ↓reduceIte]
        refine (IntC.at_ hx hp).k ?_
        rintro _ _ ⟨a, rfl, ar, rfl, iar⟩
        simp -dsimp only [go_sem, ↓reduceIte]
        try simp -dsimp only [go_sem, ↓reduceIte]
        refine hKK2 _ _ ?_
        first
        | exact ⟨rfl, a, _, 1 + v, w, zRep ++ [V 0, V 0], 0, ⟨#[]⟩, 0, false, 0, 0, 0, 0, .sl true [], [], zCyc, rfl, by simp, rfl, rfl, RowT.nil, ⟨by omega, by have := hv2 (by omega); omega⟩, iw, zIt_ok, I0, by decide, I0, I0, I0, I0, I0, by simp, by simp, zCyc_ok⟩
        | exact ⟨rfl, a, _, 1 + v, 0, [V k0, .str s0, V t0, V f0, V x0, V y0, V z0, .sl fl0 es0] ++ [V co, V ar], 0, ⟨#[]⟩, 0, false, 0, 0, 0, 0, .sl true [], [], zCyc, rfl, by simp, rfl, rfl, RowT.nil, ⟨by omega, by have := hv2 (by omega); omega⟩, I0, ⟨_, co, ar, rfl, ⟨k0, s0, t0, f0, x0, y0, z0, fl0, es0, rfl, ik, is, it, jf, jx, jy, jz, hl0, ho0⟩, ⟨by omega, by omega⟩, iar⟩, I0, by decide, I0, I0, I0, I0, I0, by simp, by simp, zCyc_ok⟩
        | exact ⟨rfl, a, _, 1 + v, 0, zRep ++ [V 0, V 0], st, nm, fr, cl, f, x, y, z, u, es, zCyc, rfl, hT, hT0, hT1, hrow, ⟨by omega, by have := hv2 (by omega); omega⟩, I0, zIt_ok, ⟨by omega, by omega⟩, inm, ifr, jf, jx, jy, jz, by omega, hok, zCyc_ok⟩
        | exact ⟨rfl, a, _, 1 + v, 0, zRep ++ [V 0, V 0], 0, ⟨#[]⟩, 0, false, 0, 0, 0, 0, .sl true [], [], cy, rfl, by simp, rfl, rfl, RowT.nil, ⟨by omega, by have := hv2 (by omega); omega⟩, I0, zIt_ok, I0, by decide, I0, I0, I0, I0, I0, by simp, by simp, hcy⟩
      · skip
        refine Lwp_seq fun KK6 hKK6 => ?_
        refine LregionG [none, none] (by kernel_rfl) (by kernel_rfl) ?_
        simp -dsimp only [go_sem, ↓reduceIte]
        repeat with_reducible refine And.intro (by first | omega | decide) ?_
        refine hKK6 _ _ ?_
        try clear hKK6 KK6
        refine Lwp_cond (by simp only [go_sem, ↓reduceIte]; rfl) (fun ht => ?_) (fun hf => ?_)
        · skip
          refine Lwp_seq fun KK7 hKK7 => ?_
          refine LregionG [none, none, none, none, none, none, none, none] (by kernel_rfl) (by kernel_rfl) ?_
          simp -dsimp only [go_sem, ↓reduceIte]
          refine ((NextC 4 (by omega)).at_ hx hp).k ?_
          rintro _ _ ⟨a, rfl, st, rfl, hst0, hst1, hst2, -⟩
          simp -dsimp only [go_sem, ↓reduceIte]
          refine (NameC.at_ hx hp).k ?_
          rintro _ _ ⟨a, rfl, nm, rfl, inm⟩
          simp -dsimp only [go_sem, ↓reduceIte]
          refine hKK7 _ _ ?_
          try clear hKK7 KK7
          refine Lwp_seq fun KK8 hKK8 => ?_
          refine LregionG [none, none, none, none, none, none, none, none, none, none] (by kernel_rfl) (by kernel_rfl) ?_
          simp -dsimp only [go_sem, ↓reduceIte]
          refine (IntC.at_ hx hp).k ?_
          rintro _ _ ⟨a, rfl, fr, rfl, ifr⟩
          simp -dsimp only [go_sem, ↓reduceIte]
          refine ((NextC 2 (by omega)).at_ hx hp).k ?_
          rintro _ _ ⟨a, rfl, cl0, rfl, hcl00, hcl01, hcl02, -⟩
          simp -dsimp only [go_sem, ↓reduceIte]
          obtain ⟨cl, hcl⟩ : ∃ cl, cl = decide (cl0 = 1) := ⟨_, rfl⟩
          simp only [← hcl]
          refine (PlaceC.at_ hx hp).k ?_
          rintro _ _ ⟨a, rfl, f, x, y, z, rfl, jf, jx, jy, jz⟩
          simp -dsimp only [go_sem, ↓reduceIte]
          refine hKK8 _ _ ?_
          try clear hKK8 KK8
          refine Lwp_seq fun KK9 hKK9 => ?_
          refine LregionG [none, none, none] (by kernel_rfl) (by kernel_rfl) ?_
          simp -dsimp only [go_sem, ↓reduceIte]
          refine ((NextC 3 (by omega)).at_ hx hp).k ?_
          rintro _ _ ⟨a, rfl, n, rfl, hn0, hn1, hn2, -⟩
          simp -dsimp only [go_sem, ↓reduceIte]
          refine hKK9 _ _ ?_
          try clear hKK9 KK9
          refine Lwp_block ?_
          refine Lwp_loopK [0, 2, 3, 4] (fun m us S' => ∃ (a : Nat) (T : LS) (u : LV) (es : List (List LV)) (i : Int), S' = S.set p (some (cb fl xs a)) ++ T ∧ us = [.ptr p 0 0, .ptr S.length 0 0, .ptr (S.length + 1) 0 0, V i] ∧ 2 ≤ T.length ∧ T[0]? = some (some (38, [zLog])) ∧ T[1]? = some (some (38, [[V (1 + v), V 0, V 0, .str ⟨#[]⟩, V 0, V 0, V 0, V 0, V 0, .sl true [], V 0, V 0, V st, .str nm, V fr, .bool cl, V f, V x, V y, V z, u, V 0, V 0, V 0, .sl true [], .sl true [], .sl true [], .sl true [], V 0, .int .u64 0, V 0, V 0, V 0, V 0, .sl true [], .sl true [], .sl true [], .sl true []]])) ∧ RowT S.length T 2 u 2 es ∧ (∀ e ∈ es, ok sRd e) ∧ (es.length : Int) + i ≤ 2 ∧ 0 ≤ i ∧ (m : Int) = i) n.toNat rfl (⟨a, _, _, [], n, rfl, by simp only [go_sem, ↓reduceIte], by simp, rfl, rfl, RowT.nil, by simp, by have := hn2 (by omega); simp; omega, hn0, by omega⟩) ?_
          rintro m us S2 ⟨a, T, u, es, i, rfl, rfl, hT, hT0, hT1, hrow, hok, hlen, hi0, hm⟩ II hII
          refine Lwp_seq fun KK10 hKK10 => ?_
          refine Lwp_seq fun KK11 hKK11 => ?_
          refine LregionG [none, none] (by kernel_rfl) (by kernel_rfl) ?_
          simp -dsimp only [go_sem, ↓reduceIte, hT1]
          repeat with_reducible refine And.intro (by first | omega | decide) ?_
          refine hKK11 _ _ ?_
          try clear hKK11 KK11
          refine Lwp_cond (by simp only [go_sem, ↓reduceIte, hT1]; rfl) (fun ht => ?_) (fun hf => ?_)
          · skip
            refine Lwp_skip ?_
            try simp -dsimp only [go_sem, ↓reduceIte, hT1]
            refine hKK10 _ _ ?_
            try clear hKK10 KK10
            refine Lwp_seq fun KK12 hKK12 => ?_
            refine Lwp_block ?_
            refine LdrawE [0,1,2,3,5,4,6,7,8,9,10,11,12] [(S.length + 1, (38, [[V (1 + v), V 0, V 0, .str ⟨#[]⟩, V 0, V 0, V 0, V 0, V 0, .sl true [], V 0, V 0, V st, .str nm, V fr, .bool cl, V f, V x, V y, V z, u, V 0, V 0, V 0, .sl true [], .sl true [], .sl true [], .sl true [], V 0, .int .u64 0, V 0, V 0, V 0, V 0, .sl true [], .sl true [], .sl true [], .sl true []]]))] (some 12) (by kernel_rfl) (by kernel_rfl) (by kernel_rfl) (by kernel_rfl) (by simp only [Watch.holds, List.mem_singleton, forall_eq]; rw [get_setapp]; exact hT1) ?_
            simp -dsimp only [go_sem, ↓reduceIte, hT1, hT1]
            refine ((NextC 12 (by omega)).at_ hx hp).k ?_
            rintro _ _ ⟨a, rfl, e, rfl, he0, he1, he2, -⟩
            simp -dsimp only [go_sem, ↓reduceIte, hT1]
            refine (IntC.at_ hx hp).k ?_
            rintro _ _ ⟨a, rfl, w, rfl, iw⟩
            simp -dsimp only [go_sem, ↓reduceIte, hT1]
            refine append_own (by simp) hrow rfl (by simp only [go_sem]; rfl) (by simp only [go_sem]; first | exact ⟨rfl, rfl⟩ | exact ⟨rfl, rfl, rfl⟩ | rfl) (by simp only [go_sem]) (by simp only [go_sem, ↓reduceIte]) (by simp only [go_sem, ↓reduceIte]; rfl) (by simp) (.inr (by simp)) (by simp only [LIM, List.length_cons, List.length_nil]; omega) (hT) fun T' hT' hrow' hpre' => ?_
            clear hrow
            have hT1' := (hpre' 1 (by omega)).trans hT1
            have hT0' := (hpre' 0 (by omega)).trans hT0
            have hi1 : IntKind.i64.wrap (i - 1) = i - 1 := w64 (by omega) (by omega)
            simp -dsimp only [go_sem, ↓reduceIte, hT1, hT1']
            refine hKK12 _ _ ?_
            try clear hKK12 KK12
            refine LregionG [none, none, none] (by kernel_rfl) (by kernel_rfl) ?_
            simp -dsimp only [go_sem, ↓reduceIte, hT1, hi1]
            repeat with_reducible refine And.intro (by first | omega | decide) ?_
            have ht2 : 0 < i := by simpa using ht
            refine hII (m - 1) _ _ (by omega) ⟨a, _, _, es ++ [_], i - 1, rfl, rfl, by simp; omega, ?_, ?_, hrow'.mono (Nat.le_refl _) (fun k hk hl => List.getElem?_set_ne (by omega)), ?_, by simp; omega, by omega, by omega⟩
            · rw [List.getElem?_set_ne (by omega)]; exact hT0'
            · rw [List.getElem?_set_self (by omega)]
              simp
            · intro e1 he
              rcases List.mem_append.1 he with he | he
              · exact hok e1 he
              · simp at he; subst he; exact ⟨rfl, by omega, by omega, rfl, iw.1, iw.2, trivial⟩
          · skip
            refine Lwp_exit ?_
            simp -dsimp only [go_sem, ↓reduceIte, hT1]
            try simp -dsimp only [go_sem, ↓reduceIte, hT1]
            refine hKK2 _ _ ?_
            first
            | exact ⟨rfl, a, _, 1 + v, w, zRep ++ [V 0, V 0], 0, ⟨#[]⟩, 0, false, 0, 0, 0, 0, .sl true [], [], zCyc, rfl, by simp, rfl, rfl, RowT.nil, ⟨by omega, by have := hv2 (by omega); omega⟩, iw, zIt_ok, I0, by decide, I0, I0, I0, I0, I0, by simp, by simp, zCyc_ok⟩
            | exact ⟨rfl, a, _, 1 + v, 0, [V k0, .str s0, V t0, V f0, V x0, V y0, V z0, .sl fl0 es0] ++ [V co, V ar], 0, ⟨#[]⟩, 0, false, 0, 0, 0, 0, .sl true [], [], zCyc, rfl, by simp, rfl, rfl, RowT.nil, ⟨by omega, by have := hv2 (by omega); omega⟩, I0, ⟨_, co, ar, rfl, ⟨k0, s0, t0, f0, x0, y0, z0, fl0, es0, rfl, ik, is, it, jf, jx, jy, jz, hl0, ho0⟩, ⟨by omega, by omega⟩, iar⟩, I0, by decide, I0, I0, I0, I0, I0, by simp, by simp, zCyc_ok⟩
            | exact ⟨rfl, a, _, 1 + v, 0, zRep ++ [V 0, V 0], st, nm, fr, cl, f, x, y, z, u, es, zCyc, rfl, hT, hT0, hT1, hrow, ⟨by omega, by have := hv2 (by omega); omega⟩, I0, zIt_ok, ⟨by omega, by omega⟩, inm, ifr, jf, jx, jy, jz, by omega, hok, zCyc_ok⟩
            | exact ⟨rfl, a, _, 1 + v, 0, zRep ++ [V 0, V 0], 0, ⟨#[]⟩, 0, false, 0, 0, 0, 0, .sl true [], [], cy, rfl, by simp, rfl, rfl, RowT.nil, ⟨by omega, by have := hv2 (by omega); omega⟩, I0, zIt_ok, I0, by decide, I0, I0, I0, I0, I0, by simp, by simp, hcy⟩
        · skip
          refine LregionG [none, none, none, none] (by kernel_rfl) (by kernel_rfl) ?_
          simp -dsimp only [go_sem, ↓reduceIte]
          refine (MadeC.at_ hx hp).k ?_
          rintro _ _ ⟨a, rfl, cy, rfl, hcy⟩
          have hcl := CycOk_len hcy
          have hov : ovr [V 0, V 0, V 0, .sl true [], .sl true [], .sl true [], .sl true [], V 0, .int .u64 0, V 0, V 0, V 0, V 0, .sl true [], .sl true [], .sl true [], .sl true []] 0 cy = cy := ovr_all (by rw [hcl]; rfl)
          have htc : cy.take 17 = cy := List.take_of_length_le (by omega)
          simp -dsimp only [go_sem, ↓reduceIte, hov, hcl, htc, Nat.le_refl]
          try simp -dsimp only [go_sem, ↓reduceIte]
          refine hKK2 _ _ ?_
          first
          | exact ⟨rfl, a, _, 1 + v, w, zRep ++ [V 0, V 0], 0, ⟨#[]⟩, 0, false, 0, 0, 0, 0, .sl true [], [], zCyc, rfl, by simp, rfl, rfl, RowT.nil, ⟨by omega, by have := hv2 (by omega); omega⟩, iw, zIt_ok, I0, by decide, I0, I0, I0, I0, I0, by simp, by simp, zCyc_ok⟩
          | exact ⟨rfl, a, _, 1 + v, 0, [V k0, .str s0, V t0, V f0, V x0, V y0, V z0, .sl fl0 es0] ++ [V co, V ar], 0, ⟨#[]⟩, 0, false, 0, 0, 0, 0, .sl true [], [], zCyc, rfl, by simp, rfl, rfl, RowT.nil, ⟨by omega, by have := hv2 (by omega); omega⟩, I0, ⟨_, co, ar, rfl, ⟨k0, s0, t0, f0, x0, y0, z0, fl0, es0, rfl, ik, is, it, jf, jx, jy, jz, hl0, ho0⟩, ⟨by omega, by omega⟩, iar⟩, I0, by decide, I0, I0, I0, I0, I0, by simp, by simp, zCyc_ok⟩
          | exact ⟨rfl, a, _, 1 + v, 0, zRep ++ [V 0, V 0], st, nm, fr, cl, f, x, y, z, u, es, zCyc, rfl, hT, hT0, hT1, hrow, ⟨by omega, by have := hv2 (by omega); omega⟩, I0, zIt_ok, ⟨by omega, by omega⟩, inm, ifr, jf, jx, jy, jz, by omega, hok, zCyc_ok⟩
          | exact ⟨rfl, a, _, 1 + v, 0, zRep ++ [V 0, V 0], 0, ⟨#[]⟩, 0, false, 0, 0, 0, 0, .sl true [], [], cy, rfl, by simp, rfl, rfl, RowT.nil, ⟨by omega, by have := hv2 (by omega); omega⟩, I0, zIt_ok, I0, by decide, I0, I0, I0, I0, I0, by simp, by simp, hcy⟩
  · rintro us SJ ⟨rfl, a, T, k, now, it, st, nm, fr, cl, f, x, y, z, u, es, cy, rfl, hT, hT0, hT1, hrow, hE⟩
    refine Lwp_frzCell2 u [0, 2, 3] [.ptr p 0 0, .ptr S.length 0 0, .ptr (S.length + 1) 0 0] (by simp) hT1 hrow (preL_ok hE) (CycOk_ok hE.2.2.2.2.2.2.2.2.2.2.2.2) rfl (by simp only [go_sem, ↓reduceIte]) (by intro k hk; simp [frzK]) fun full T2 hT2 hT20 hT21 => ?_
    rw [hT0] at hT20
    rw [← hT2] at hT
    clear hrow hT0 hT1
    have hEO := EntP_ok (cl := cl) hE full
    have hlen := (EntP_len (cl := cl) (u := .sl full es) hE).2
    generalize preL k now it st nm fr cl f x y z ++ .sl full es :: cy = cells at *
    have hs0 : ∀ v, (T2.set 0 v)[0]? = some v := fun v => List.getElem?_set_self (by omega)
    have htk : cells.take 38 = cells := List.take_of_length_le (by omega)
    have hov2 : ovr zLog 0 cells = cells := ovr_all (by rw [hlen]; rfl)
    refine Lwp_seq fun KK13 hKK13 => ?_
    refine LregionG [none, none] (by kernel_rfl) (by kernel_rfl) ?_
    simp -dsimp only [go_sem, ↓reduceIte, hT21, hT20, hs0, htk, hlen, hov2, (rfl : zLog.length = 38), Nat.zero_add, Nat.le_refl]
    repeat with_reducible refine And.intro (by first | omega | decide) ?_
    refine hKK13 _ _ ?_
    try clear hKK13 KK13
    refine Lwp_ret ?_
    simp only [LThen, LBlock, LPost, Tryz.results7]
    simp -dsimp only [go_sem, ↓reduceIte, hT21, hT20, hs0, htk, hlen, hov2, (rfl : zLog.length = 38), Nat.zero_add, Nat.le_refl]
    refine ret_codes hp (by simp only [go_sem, ↓reduceIte, ok_frz (EntOk_ok hEO), LV.lt]; exact ok_lt (EntOk_ok hEO)) ?_
    simp only [go_sem, ↓reduceIte, ok_frz (EntOk_ok hEO)]
    exact hRR _ _ ⟨_, rfl, hEO⟩

end Go.Proofs.YtdhngmldmalbbaaGreat
end
section
set_option linter.all false
namespace Go.Proofs.YtdhngmldmalbbaaGreat
open Go.Lift Go.RowKit Go.Store
set_option linter.unusedSimpArgs false
set_option linter.unusedVariables false

/-- 'u' is a slice of bytes that may be appended to, and holds 'bs'. -/
def Acc (S : LS) (u : LV) (bs : List UInt8) : Prop := RowS S 0 u 1 (bs.map u8c)

/-- 'ys' was appended. -/
def PutR (S : LS) (u : LV) (bs ys : List UInt8) (r : LV) (S' : LS) : Prop :=
  Acc S' r (bs ++ ys) ∧ Keeps S S' (rowIds u) ∧ (∀ id ∈ rowIds r, id ∈ rowIds u ∨ S.length ≤ id) ∧ (rowIds u ≠ [] → rowIds r ≠ [])

def Put (f : FuncId) (args : List LV) (ys : List UInt8) : Prop := ∀ (S : LS) (u : LV) (bs : List UInt8), Acc S u bs → bs.length + ys.length ≤ 1073741824 → LCalls Tryz.prog f (u :: args) S (PutR S u bs ys)

theorem PutR.refl {S : LS} {u : LV} {bs : List UInt8} (h : Acc S u bs) : PutR S u bs [] u S := ⟨by rw [List.append_nil]; exact h, Keeps.refl _ _, fun _ h => .inl h, fun h => h⟩
theorem PutR.trans {S S' S'' : LS} {u r r' : LV} {bs ys zs : List UInt8} (h : PutR S u bs ys r S') (h' : PutR S' r (bs ++ ys) zs r' S'') : PutR S u bs (ys ++ zs) r' S'' := by
  obtain ⟨h1, h2, h3, h4⟩ := h
  obtain ⟨g1, g2, g3, g4⟩ := h'
  refine ⟨by rw [← List.append_assoc]; exact g1, h2.trans g2 (fun j hj hm => hm.elim id fun hm => (h3 j hm).elim id fun hm => by omega), fun id hid => ?_, fun h => g4 (h4 h)⟩
  rcases g3 id hid with hid | hid
  · exact h3 id hid
  · exact .inr (Nat.le_trans h2.1 hid)
theorem PutR.app {S S' : LS} {u r : LV} {bs ys : List UInt8} (h : PutR S u bs ys r S') (T : LS) : PutR S u bs ys r (S' ++ T) := by
  obtain ⟨h1, h2, h3, h4⟩ := h
  refine ⟨RowS.mono h1 (Nat.le_refl _) (fun id hid b hb => ?_), h2.trans (Keeps.app _ T []) (fun j _ h => h.elim id (fun h => absurd h (by simp))), h3, h4⟩
  rw [List.getElem?_append_left (List.getElem?_eq_some_iff.1 hb).1]; exact hb
theorem PutR.cast {S S' : LS} {u r : LV} {bs ys zs : List UInt8} (h : PutR S u bs ys r S') (e : ys = zs) : PutR S u bs zs r S' := e ▸ h

theorem Put_intro {f : FuncId} {args : List LV} {ys : List UInt8} {fn : Func} {c : Code} (hf : Tryz.prog.funcs[f]? = some fn) (hb : fn.body = some c) (hg : goT Tryz.prog f = true) (hn : Nat.ble (args.length + 1) fn.ntmps = true)
    (h : ∀ (S : LS) (u : LV) (bs : List UInt8) (RR : LV → LS → Prop), Acc S u bs → bs.length + ys.length ≤ 1073741824 → (∀ r S', PutR S u bs ys r S' → RR r S') → Lwp Tryz.prog fn.ntmps c (LPost Tryz.prog fn 0 S RR) (argsEnv (u :: args)) S) : Put f args ys := fun S u bs ha hl =>
  LCalls_introK 0 hf hb hg (by simpa using hn) fun RR hRR => h S u bs RR ha hl hRR

theorem Put.kk {f : FuncId} {args : List LV} {zs : List UInt8} (h : Put f args zs) {S S' : LS} {u r : LV} {bs ys : List UInt8} {d : Option Tmp} {K : Env → LS → Prop} {t : Tag K} {env : Env} (hp : PutR S u bs ys r S') (hl : bs.length + (ys.length + zs.length) ≤ 1073741824)
    (hk : ∀ r2 S2, PutR S u bs (ys ++ zs) r2 S2 → K (env.putO d r2) S2) : LCK Tryz.prog f (r :: args) S' d K t env :=
  (h S' r (bs ++ ys) hp.1 (by rw [List.length_append]; omega)).k fun r2 S2 h2 => hk r2 S2 (hp.trans h2)

/-- a variable of the call's own that is written no more. -/
theorem Lwp_boxed {N : Nat} {c : Code} {Q : Exit → Env → LS → Prop} {env : Env} {S S' : LS} {u r : LV} {bs ys : List UInt8} (t n : Nat) (cells : List LV) (ht : Nat.blt t N = true) (hp : PutR S u bs ys r S') (hu : env t = some (.ptr S'.length 0 0))
    (h : ∀ S1, PutR S u bs ys r S1 → Lwp Tryz.prog N c Q (env.put t (.eptr cells 0)) S1) : Lwp Tryz.prog N c Q env (S' ++ [some (n, [cells])]) := by
  refine Lwp_freezeP t S'.length 0 0 n [cells] cells ht hu (by simp) rfl ?_
  rw [set_app0]
  exact h _ (hp.app _)

/-- bytes that are appended. -/
theorem PutR.apd {S S' : LS} {u r : LV} {bs ys zs : List UInt8} {a x : Operand} {sT tx e : TypeId} {zc : List LV} {d : Option Tmp} {K : Env → LS → Prop} {env : Env} (hp : PutR S u bs ys r S') (hu : evalL env a = r) (h1 : elemT Tryz.prog sT = some e) (h2 : layE Tryz.prog e = some (1, 1, zc)) (h3 : srcT Tryz.prog tx = true)
    (h4 : srcC S'.g (evalL env x)) (h5 : srcG S'.g (evalL env x) = some (zs.map u8c)) (hl : bs.length + (ys.length + zs.length) ≤ 140737488355328) (hk : ∀ r2 S2, PutR S u bs (ys ++ zs) r2 S2 → K (env.putO d r2) S2) :
    exeE Tryz.prog d K env S' (.call ⟨.builtin .append, #[a, x], #[sT, tx]⟩) := by
  have h6 : ∀ f ∈ zs.map u8c, f.length = 1 := fun f hf => by
    obtain ⟨y, _, rfl⟩ := List.mem_map.1 hf; rfl
  have h8 : (((bs ++ ys).map u8c).length + (zs.map u8c).length) * 1 ≤ LIM := by simp only [List.length_map, List.length_append, LIM]; omega
  have fin : ∀ S2 r2, RowS S2 S'.length r2 1 ((bs ++ ys).map u8c ++ zs.map u8c) → Keeps S' S2 (rowIds r) → rowIds r2 ≠ [] → K (env.putO d r2) S2 := fun S2 r2 g1 g2 hr => by
    refine hk _ _ (hp.trans ⟨?_, g2, fun id hid => .inr (g1.lo id hid).1, fun _ => hr⟩)
    rw [← List.map_append] at g1
    exact ⟨g1.1, g1.2.imp_right fun ⟨id, q1, q2⟩ => ⟨id, Nat.zero_le _, q2⟩⟩
  rcases hp.1.2 with h | ⟨id, g1, g2, g3⟩
  · by_cases hz : zs = []
    · subst hz
      refine exe_append_nil (hu.trans h) h1 h2 h3 h4 h5 ?_
      rw [← h]; exact hk r S' (by rw [List.append_nil]; exact hp)
    · exact append_row hp.1 hu h1 h2 h3 h4 h5 h6 (.inr (by simpa using hz)) h8 fun S2 q1 q2 q3 => fin _ _ q2 q3 (by simp [rowIds])
  · subst g2
    exact append_ref g3 hp.1.1 hu h1 h2 h3 h4 h5 h6 h8 fun S2 q1 q2 q3 => fin _ _ q2 (by simpa [rowIds] using q3) (by simp [rowIds])


theorem be_split {n : Nat} {v : Nat} : be (n + 1) v = [UInt8.ofNat (v / 256 ^ n)] ++ be n v := rfl

set_option maxHeartbeats 400000 in
theorem Put_ok (v n : Nat) (hv : v < 18446744073709551616) (hn : n ≤ 8) : Put 34 [.int .u64 v, V n] (be n v) := by
  refine Put_intro Tryz.func34 rfl (by kernel_rfl) rfl fun S u bs RR hacc hl hRR => ?_
  refine Lwp_seq fun KK0 hKK0 => ?_
  refine LregionG [none] (by kernel_rfl) (by kernel_rfl) ?_
  simp -dsimp only [go_sem, ↓reduceIte]
  repeat with_reducible refine And.intro (by first | omega | decide) ?_
  refine hKK0 _ _ ?_
  try clear hKK0 KK0
  refine Lwp_seq fun KK1 hKK1 => ?_
  refine Lwp_seq fun KK2 hKK2 => ?_
  have wn : IntKind.i64.wrap ((n : Int) - 1) = (n : Int) - 1 := w64 (by omega) (by omega)
  refine LregionG [none, none, none] (by kernel_rfl) (by kernel_rfl) ?_
  simp -dsimp only [go_sem, ↓reduceIte, wn]
  repeat with_reducible refine And.intro (by first | omega | decide) ?_
  refine hKK2 _ _ ?_
  try clear hKK2 KK2
  refine Lwp_block ?_
  refine Lwp_loopK [0, 1, 7] (fun m us S' => ∃ (k : Nat) (r : LV) (pre : List UInt8), us = [r, .int .u64 v, V ((k : Int) - 1)] ∧ PutR S u bs pre r S' ∧ pre ++ be k v = be n v ∧ k ≤ n ∧ m = k) n rfl (⟨n, u, [], by simp only [go_sem, ↓reduceIte], PutR.refl hacc, rfl, Nat.le_refl _, rfl⟩) ?_
  rintro m us S2 ⟨k, r, pre, rfl, hp, hpre, hk, hm⟩ II hII
  refine Lwp_seq fun KK3 hKK3 => ?_
  refine Lwp_seq fun KK4 hKK4 => ?_
  refine LregionG [none, none] (by kernel_rfl) (by kernel_rfl) ?_
  simp -dsimp only [go_sem, ↓reduceIte]
  repeat with_reducible refine And.intro (by first | omega | decide) ?_
  refine hKK4 _ _ ?_
  try clear hKK4 KK4
  refine Lwp_cond (by simp only [go_sem, ↓reduceIte]; rfl) (fun ht => ?_) (fun hf => ?_)
  · skip
    obtain ⟨j, rfl⟩ : ∃ j, k = j + 1 := ⟨k - 1, by simp only [decide_eq_true_eq] at ht; omega⟩
    rw [be_split, ← List.append_assoc] at hpre
    have hpl := congrArg List.length hpre
    simp only [List.length_append, be_length, List.length_cons, List.length_nil] at hpl
    have e0 : ((j + 1 : Nat) : Int) - 1 = (j : Int) := by omega
    have e1 : IntKind.i64.wrap (8 * (j : Int)) = 8 * (j : Int) := w64 (by omega) (by omega)
    have e2 : IntKind.u64.wrap (8 * (j : Int)) = 8 * (j : Int) := wu64 (by omega) (by omega)
    have e3 : min (8 * (j : Int)).toNat 64 = 8 * j := by omega
    have e4 : Int.fdiv (v : Int) (2 ^ (8 * j)) = ((v / 256 ^ j : Nat) : Int) := by
      have : (2 : Int) ^ (8 * j) = ((256 ^ j : Nat) : Int) := by rw [Int.pow_mul]; norm_cast
      rw [this, Int.fdiv_eq_ediv_of_nonneg _ (Int.natCast_nonneg _)]; rfl
    have e5 : IntKind.u8.wrap ((v / 256 ^ j : Nat) : Int) = ((UInt8.ofNat (v / 256 ^ j)).toNat : Int) := by
      rw [wu8m]; simp
    have e6 : IntKind.i64.wrap ((j : Int) - 1) = (j : Int) - 1 := w64 (by omega) (by omega)
    simp only [e0]
    refine Lwp_skip ?_
    try simp -dsimp only [go_sem, ↓reduceIte]
    refine hKK3 _ _ ?_
    try clear hKK3 KK3
    refine Lwp_seq fun KK5 hKK5 => ?_
    refine Lwp_block ?_
    refine LregionG [none, none, none, none, none, none, none, none, none, none] (by kernel_rfl) (by kernel_rfl) ?_
    simp -dsimp only [go_sem, ↓reduceIte, e1, e2, e3, e4, e5]
    repeat with_reducible refine And.intro (by first | omega | decide | assumption) ?_
    refine PutR.apd (zs := [UInt8.ofNat (v / 256 ^ j)]) hp rfl (by simp only [go_sem]; rfl) (by simp only [go_sem]; first | exact ⟨rfl, rfl⟩ | exact ⟨rfl, rfl, rfl⟩ | rfl) (by simp only [go_sem]) (by simp only [go_sem, ↓reduceIte, e1, e2, e3, e4, e5]) (by first | (simp only [go_sem, ↓reduceIte, e1, e2, e3, e4, e5]; done) | (simp only [go_sem, ↓reduceIte, e1, e2, e3, e4, e5]; rfl)) (by (try clear e1); simp only [List.length_append, List.length_cons, List.length_nil, be_length] at hl ⊢; omega) ?_
    rintro r2 S2 hp2
    simp -dsimp only [go_sem, ↓reduceIte]
    refine hKK5 _ _ ?_
    try clear hKK5 KK5
    refine LregionG [none, none, none] (by kernel_rfl) (by kernel_rfl) ?_
    simp -dsimp only [go_sem, ↓reduceIte, e6]
    repeat with_reducible refine And.intro (by first | omega | decide) ?_
    exact hII j _ _ (by omega) ⟨j, r2, _, rfl, hp2, hpre, by omega, rfl⟩
  · skip
    obtain rfl : k = 0 := by simp only [decide_eq_false_iff_not] at hf; omega
    refine Lwp_exit ?_
    simp -dsimp only [go_sem, ↓reduceIte]
    refine hKK1 _ _ ?_
    try clear hKK1 KK1
    refine Lwp_seq fun KK6 hKK6 => ?_
    refine LregionG [none, none] (by kernel_rfl) (by kernel_rfl) ?_
    simp -dsimp only [go_sem, ↓reduceIte]
    repeat with_reducible refine And.intro (by first | omega | decide) ?_
    refine hKK6 _ _ ?_
    try clear hKK6 KK6
    refine Lwp_ret ?_
    simp only [LThen, LBlock, LPost, Tryz.results34]
    simp -dsimp only [go_sem, ↓reduceIte]
    exact ret_keep (hRR _ _ (hp.cast (by simpa [be] using hpre)))


theorem Put8 (v : Nat) (hv : v < 18446744073709551616) : Put 34 [.int .u64 v, .int .i64 8] (be 8 v) := by
  have h := Put_ok v 8 hv (Nat.le_refl 8)
  rw [show ((8 : Nat) : Int) = 8 from rfl] at h
  exact h
theorem Put4 (v : Nat) (hv : v < 18446744073709551616) : Put 34 [.int .u64 v, .int .i64 4] (be 4 v) := by
  have h := Put_ok v 4 hv (by omega)
  rw [show ((4 : Nat) : Int) = 4 from rfl] at h
  exact h


theorem u64_lt (w : Int) : u64 w < 18446744073709551616 := by unfold u64; omega
theorem u64_wrap (w : Int) : IntKind.u64.wrap w = ((u64 w : Nat) : Int) := by rw [wu64m, u64]; omega
theorem u64_wrapN {n : Nat} (h : n < 18446744073709551616) : IntKind.u64.wrap (n : Int) = ((n : Nat) : Int) := wu64 (by omega) (by omega)
theorem fm_take {α β : Type} {f : List α → List β} {es : List (List α)} {k : Nat} (h : k < es.length) : (es.take (k + 1)).flatMap f = (es.take k).flatMap f ++ f (es.getD k []) := by
  rw [List.take_succ_eq_append_getElem h, List.flatMap_append, List.getD_eq_getElem?_getD, List.getElem?_eq_getElem h]
  simp
theorem fm_le {α β : Type} {f : List α → List β} {es : List (List α)} {k : Nat} : ((es.take k).flatMap f).length ≤ (es.flatMap f).length := by
  have h : es.flatMap f = (es.take k).flatMap f ++ (es.drop k).flatMap f := by rw [← List.flatMap_append, List.take_append_drop]
  rw [h, List.length_append]; omega
theorem fm_next {α β : Type} {f : List α → List β} {es : List (List α)} {k : Nat} (h : k < es.length) : ((es.take k).flatMap f).length + (f (es.getD k [])).length ≤ (es.flatMap f).length := by
  have := fm_le (f := f) (es := es) (k := k + 1)
  rw [fm_take h, List.length_append] at this; exact this
theorem encI (w : Int) : enc sI [V w] = be 8 (u64 w) := by simp [enc, sI]
theorem okI {w : Int} (h : isI w) : ok sI [V w] := ⟨rfl, h.1, h.2, trivial⟩
theorem ok_mem {s : Sch} {es : List (List LV)} (h : ∀ e ∈ es, ok s e) {k : Nat} (hk : k < es.length) : ok s (es.getD k []) := by
  rw [List.getD_eq_getElem?_getD, List.getElem?_eq_getElem hk]; exact h _ (List.getElem_mem hk)
/-! what a value of a schema looks like -/
theorem ok_int {r : Sch} {us : List LV} (h : ok (.int r) us) : ∃ v us', us = V v :: us' ∧ isI v ∧ ok r us' := by
  match us, h with
  | .int k v :: us, h => simp only [ok] at h; obtain ⟨rfl, h1, h2, h3⟩ := h; exact ⟨v, us, rfl, ⟨h1, h2⟩, h3⟩
theorem ok_word {r : Sch} {us : List LV} (h : ok (.word r) us) : ∃ (v : Nat) (us' : List LV), us = .int .u64 v :: us' ∧ v < 18446744073709551616 ∧ ok r us' := by
  match us, h with
  | .int k v :: us, h =>
    simp only [ok] at h
    obtain ⟨rfl, h1, h2, h3⟩ := h
    obtain ⟨n, rfl⟩ := Int.eq_ofNat_of_zero_le h1
    exact ⟨n, us, rfl, by omega, h3⟩
theorem ok_bool {r : Sch} {us : List LV} (h : ok (.bool r) us) : ∃ b us', us = .bool b :: us' ∧ ok r us' := by
  match us, h with
  | .bool b :: us, h => simp only [ok] at h; exact ⟨b, us, rfl, h⟩
theorem ok_str {r : Sch} {us : List LV} (h : ok (.str r) us) : ∃ s us', us = .str s :: us' ∧ s.size < 4294967296 ∧ ok r us' := by
  match us, h with
  | .str b :: us, h => simp only [ok] at h; exact ⟨b, us, rfl, h.1, h.2⟩
theorem ok_sl {e r : Sch} {us : List LV} (h : ok (.sl e r) us) : ∃ f es us', us = .sl f es :: us' ∧ es.length < 4294967296 ∧ (∀ x ∈ es, ok e x) ∧ ok r us' := by
  match us, h with
  | .sl f es :: us, h => simp only [ok] at h; exact ⟨f, es, us, rfl, h.1, h.2.1, h.2.2⟩
theorem ok_nil {us : List LV} (h : ok .nil us) : us = [] := by
  match us, h with
  | [], _ => rfl
theorem app_inv : ∀ {s t : Sch} {us : List LV}, ok (s.app t) us → ∃ u1 u2, us = u1 ++ u2 ∧ ok s u1 ∧ ok t u2
  | .nil, t, us, h => ⟨[], us, rfl, trivial, h⟩
  | .int r, t, us, h => by
    obtain ⟨v, us', rfl, h1, h2⟩ := ok_int h
    obtain ⟨u1, u2, rfl, h3, h4⟩ := app_inv h2
    exact ⟨V v :: u1, u2, rfl, ⟨rfl, h1.1, h1.2, h3⟩, h4⟩
  | .word r, t, us, h => by
    obtain ⟨v, us', rfl, h1, h2⟩ := ok_word h
    obtain ⟨u1, u2, rfl, h3, h4⟩ := app_inv h2
    exact ⟨.int .u64 v :: u1, u2, rfl, ⟨rfl, by omega, by omega, h3⟩, h4⟩
  | .bool r, t, us, h => by
    obtain ⟨v, us', rfl, h2⟩ := ok_bool h
    obtain ⟨u1, u2, rfl, h3, h4⟩ := app_inv h2
    exact ⟨.bool v :: u1, u2, rfl, h3, h4⟩
  | .str r, t, us, h => by
    obtain ⟨v, us', rfl, h1, h2⟩ := ok_str h
    obtain ⟨u1, u2, rfl, h3, h4⟩ := app_inv h2
    exact ⟨.str v :: u1, u2, rfl, ⟨h1, h3⟩, h4⟩
  | .sl e r, t, us, h => by
    obtain ⟨f, es, us', rfl, h1, h0, h2⟩ := ok_sl h
    obtain ⟨u1, u2, rfl, h3, h4⟩ := app_inv h2
    exact ⟨.sl f es :: u1, u2, rfl, ⟨h1, h0, h3⟩, h4⟩

set_option maxHeartbeats 400000 in
theorem PutInts (f : Bool) (es : List (List LV)) (hes : ∀ e ∈ es, ok sI e) (hn : es.length < 4294967296) : Put 38 [.sl f es] (es.flatMap (enc sI)) := by
  refine Put_intro Tryz.func38 rfl (by kernel_rfl) rfl fun S u bs RR hacc hl hRR => ?_
  refine Lwp_seq fun KK0 hKK0 => ?_
  refine LregionG [none] (by kernel_rfl) (by kernel_rfl) ?_
  simp -dsimp only [go_sem, ↓reduceIte]
  repeat with_reducible refine And.intro (by first | omega | decide) ?_
  refine hKK0 _ _ ?_
  try clear hKK0 KK0
  refine Lwp_seq fun KK1 hKK1 => ?_
  refine Lwp_seq fun KK2 hKK2 => ?_
  refine LregionG [none] (by kernel_rfl) (by kernel_rfl) ?_
  simp -dsimp only [go_sem, ↓reduceIte]
  repeat with_reducible refine And.intro (by first | omega | decide) ?_
  refine hKK2 _ _ ?_
  try clear hKK2 KK2
  refine Lwp_block ?_
  refine Lwp_loopK [0, 1, 5] (fun m us S' => ∃ (k : Nat) (r : LV), us = [r, .sl f es, V k] ∧ PutR S u bs ((es.take k).flatMap (enc sI)) r S' ∧ k ≤ es.length ∧ m = es.length - k) es.length rfl (⟨0, u, by simp only [go_sem, ↓reduceIte, Int.natCast_zero], PutR.refl hacc, Nat.zero_le _, rfl⟩) ?_
  rintro m us S2 ⟨k, r, rfl, hp, hk, hm⟩ II hII
  refine Lwp_seq fun KK3 hKK3 => ?_
  refine Lwp_seq fun KK4 hKK4 => ?_
  refine LregionG [none, none, none, none] (by kernel_rfl) (by kernel_rfl) ?_
  simp -dsimp only [go_sem, ↓reduceIte]
  repeat with_reducible refine And.intro (by first | omega | decide) ?_
  refine hKK4 _ _ ?_
  try clear hKK4 KK4
  refine Lwp_cond (by simp only [go_sem, ↓reduceIte]; rfl) (fun ht => ?_) (fun hf => ?_)
  · skip
    have hk : k < es.length := by simpa using ht
    obtain ⟨w, hw, hwI⟩ := sI_getD hes hk
    have hnx := fm_next (f := enc sI) hk
    have htk := fm_take (f := enc sI) hk
    rw [hw, encI] at hnx htk
    rw [be_length] at hnx
    have e1 := u64_wrap w
    have e2 : IntKind.i64.wrap ((k : Int) + 1) = ((k + 1 : Nat) : Int) := w64 (by omega) (by omega)
    refine Lwp_skip ?_
    try simp -dsimp only [go_sem, ↓reduceIte]
    refine hKK3 _ _ ?_
    try clear hKK3 KK3
    refine Lwp_seq fun KK5 hKK5 => ?_
    refine Lwp_block ?_
    refine LregionG [none, none, none, none, none, none, none, none] (by kernel_rfl) (by kernel_rfl) ?_
    simp -dsimp only [go_sem, ↓reduceIte, hw, e1]
    repeat with_reducible refine And.intro (by first | omega | decide | assumption) ?_
    refine Put.kk (Put8 (u64 w) (u64_lt w)) (hp) (by clear e1; rw [be_length]; omega) ?_
    rintro r2 S2 hp2
    rw [← htk] at hp2
    simp -dsimp only [go_sem, ↓reduceIte]
    refine hKK5 _ _ ?_
    try clear hKK5 KK5
    refine LregionG [none, none, none] (by kernel_rfl) (by kernel_rfl) ?_
    simp -dsimp only [go_sem, ↓reduceIte, e2]
    repeat with_reducible refine And.intro (by first | omega | decide) ?_
    exact hII (es.length - (k + 1)) _ _ (by omega) ⟨k + 1, r2, rfl, hp2, hk, rfl⟩
  · skip
    obtain rfl : k = es.length := Nat.le_antisymm hk (Nat.le_of_not_lt (by simpa using hf))
    refine Lwp_exit ?_
    simp -dsimp only [go_sem, ↓reduceIte]
    refine hKK1 _ _ ?_
    try clear hKK1 KK1
    refine Lwp_seq fun KK6 hKK6 => ?_
    refine LregionG [none, none] (by kernel_rfl) (by kernel_rfl) ?_
    simp -dsimp only [go_sem, ↓reduceIte]
    repeat with_reducible refine And.intro (by first | omega | decide) ?_
    refine hKK6 _ _ ?_
    try clear hKK6 KK6
    refine Lwp_ret ?_
    simp only [LThen, LBlock, LPost, Tryz.results38]
    simp -dsimp only [go_sem, ↓reduceIte]
    exact ret_keep (hRR _ _ (hp.cast (by rw [List.take_length])))

set_option maxHeartbeats 400000 in
theorem PutString (s : ByteArray) (hs : s.size < 4294967296) : Put 40 [.str s] (be 4 s.size ++ s.data.toList) := by
  refine Put_intro Tryz.func40 rfl (by kernel_rfl) rfl fun S u bs RR hacc hl hRR => ?_
  refine Lwp_seq fun KK0 hKK0 => ?_
  refine LregionG [none] (by kernel_rfl) (by kernel_rfl) ?_
  simp -dsimp only [go_sem, ↓reduceIte]
  repeat with_reducible refine And.intro (by first | omega | decide) ?_
  refine hKK0 _ _ ?_
  try clear hKK0 KK0
  refine Lwp_seq fun KK1 hKK1 => ?_
  have e1 := u64_wrapN (n := s.size) (by omega)
  have hsl : s.data.toList.length = s.size := by rw [Array.length_toList]; rfl
  refine LregionG [none, none, none, none, none, none, none, none] (by kernel_rfl) (by kernel_rfl) ?_
  simp -dsimp only [go_sem, ↓reduceIte, e1]
  repeat with_reducible refine And.intro (by first | omega | decide | assumption) ?_
  refine Put.kk (Put4 s.size (by clear e1; omega)) (PutR.refl hacc) (by (try clear e1); simp only [List.length_append, List.length_cons, List.length_nil, be_length] at hl ⊢; omega) ?_
  rintro r S1 hp
  simp -dsimp only [go_sem, ↓reduceIte]
  repeat with_reducible refine And.intro (by first | omega | decide | assumption) ?_
  refine PutR.apd (zs := s.data.toList) hp rfl (by simp only [go_sem]; rfl) (by simp only [go_sem]; first | exact ⟨rfl, rfl⟩ | exact ⟨rfl, rfl, rfl⟩ | rfl) (by simp only [go_sem]) (by simp only [go_sem, ↓reduceIte]) (by first | (simp only [go_sem, ↓reduceIte]; done) | (simp only [go_sem, ↓reduceIte]; rfl)) (by (try clear e1); simp only [List.length_append, List.length_cons, List.length_nil, be_length] at hl ⊢; omega) ?_
  rintro r2 S2 hp2
  simp -dsimp only [go_sem, ↓reduceIte]
  refine hKK1 _ _ ?_
  try clear hKK1 KK1
  refine Lwp_ret ?_
  simp only [LThen, LBlock, LPost, Tryz.results40]
  simp -dsimp only [go_sem, ↓reduceIte]
  exact ret_keep (hRR _ _ hp2)

set_option maxHeartbeats 400000 in
theorem PutBool (b : Bool) : Put 41 [.bool b] [if b then 1 else 0] := by
  refine Put_intro Tryz.func41 rfl (by kernel_rfl) rfl fun S u bs RR hacc hl hRR => ?_
  refine Lwp_seq fun KK0 hKK0 => ?_
  refine LregionG [none] (by kernel_rfl) (by kernel_rfl) ?_
  simp -dsimp only [go_sem, ↓reduceIte]
  repeat with_reducible refine And.intro (by first | omega | decide) ?_
  refine hKK0 _ _ ?_
  try clear hKK0 KK0
  refine Lwp_seq fun KK1 hKK1 => ?_
  refine Lwp_seq fun KK2 hKK2 => ?_
  refine LregionG [none] (by kernel_rfl) (by kernel_rfl) ?_
  simp -dsimp only [go_sem, ↓reduceIte]
  repeat with_reducible refine And.intro (by first | omega | decide) ?_
  refine hKK2 _ _ ?_
  try clear hKK2 KK2
  refine Lwp_cond (by simp only [go_sem, ↓reduceIte]; rfl) (fun ht => ?_) (fun hf => ?_)
  · skip
    subst ht
    refine Lwp_seq fun KK3 hKK3 => ?_
    refine LregionG [none, none, none, none] (by kernel_rfl) (by kernel_rfl) ?_
    simp -dsimp only [go_sem, ↓reduceIte]
    repeat with_reducible refine And.intro (by first | omega | decide | assumption) ?_
    refine PutR.apd (zs := [1]) (PutR.refl hacc) rfl (by simp only [go_sem]; rfl) (by simp only [go_sem]; first | exact ⟨rfl, rfl⟩ | exact ⟨rfl, rfl, rfl⟩ | rfl) (by simp only [go_sem]) (by simp only [go_sem, ↓reduceIte]) (by first | (simp only [go_sem, ↓reduceIte]; done) | (simp only [go_sem, ↓reduceIte]; rfl)) (by (try clear e1); simp only [List.length_append, List.length_cons, List.length_nil, be_length] at hl ⊢; omega) ?_
    rintro r2 S2 hp2
    simp -dsimp only [go_sem, ↓reduceIte]
    refine hKK3 _ _ ?_
    try clear hKK3 KK3
    refine Lwp_ret ?_
    simp only [LThen, LBlock, LPost, Tryz.results41]
    simp -dsimp only [go_sem, ↓reduceIte]
    exact ret_keep (hRR _ _ hp2)
  · skip
    subst hf
    refine Lwp_skip ?_
    try simp -dsimp only [go_sem, ↓reduceIte]
    refine hKK1 _ _ ?_
    try clear hKK1 KK1
    refine Lwp_seq fun KK4 hKK4 => ?_
    refine LregionG [none, none, none, none] (by kernel_rfl) (by kernel_rfl) ?_
    simp -dsimp only [go_sem, ↓reduceIte]
    repeat with_reducible refine And.intro (by first | omega | decide | assumption) ?_
    refine PutR.apd (zs := [0]) (PutR.refl hacc) rfl (by simp only [go_sem]; rfl) (by simp only [go_sem]; first | exact ⟨rfl, rfl⟩ | exact ⟨rfl, rfl, rfl⟩ | rfl) (by simp only [go_sem]) (by simp only [go_sem, ↓reduceIte]) (by first | (simp only [go_sem, ↓reduceIte]; done) | (simp only [go_sem, ↓reduceIte]; rfl)) (by (try clear e1); simp only [List.length_append, List.length_cons, List.length_nil, be_length] at hl ⊢; omega) ?_
    rintro r2 S2 hp2
    simp -dsimp only [go_sem, ↓reduceIte]
    refine hKK4 _ _ ?_
    try clear hKK4 KK4
    refine Lwp_ret ?_
    simp only [LThen, LBlock, LPost, Tryz.results41]
    simp -dsimp only [go_sem, ↓reduceIte]
    exact ret_keep (hRR _ _ hp2)

set_option maxHeartbeats 400000 in
theorem PutSlice (f : Bool) (es : List (List LV)) (hes : ∀ e ∈ es, ok sI e) (hn : es.length < 4294967296) : Put 58 [.sl f es] (be 4 es.length ++ es.flatMap (enc sI)) := by
  refine Put_intro Tryz.func58 rfl (by kernel_rfl) rfl fun S u bs RR hacc hl hRR => ?_
  refine Lwp_seq fun KK0 hKK0 => ?_
  refine LregionG [none] (by kernel_rfl) (by kernel_rfl) ?_
  simp -dsimp only [go_sem, ↓reduceIte]
  repeat with_reducible refine And.intro (by first | omega | decide) ?_
  refine hKK0 _ _ ?_
  try clear hKK0 KK0
  refine Lwp_seq fun KK1 hKK1 => ?_
  have e1 := u64_wrapN (n := es.length) (by omega)
  refine LregionG [none, none, none, none, none, none, none, none] (by kernel_rfl) (by kernel_rfl) ?_
  simp -dsimp only [go_sem, ↓reduceIte, e1]
  repeat with_reducible refine And.intro (by first | omega | decide | assumption) ?_
  refine Put.kk (Put4 es.length (by clear e1; omega)) (PutR.refl hacc) (by (try clear e1); simp only [List.length_append, List.length_cons, List.length_nil, be_length] at hl ⊢; omega) ?_
  rintro r S1 hp
  simp -dsimp only [go_sem, ↓reduceIte]
  repeat with_reducible refine And.intro (by first | omega | decide | assumption) ?_
  refine Put.kk (PutInts f es hes hn) (hp) (by (try clear e1); simp only [List.length_append, List.length_cons, List.length_nil, be_length] at hl ⊢; omega) ?_
  rintro r2 S2 hp2
  simp -dsimp only [go_sem, ↓reduceIte]
  refine hKK1 _ _ ?_
  try clear hKK1 KK1
  refine Lwp_ret ?_
  simp only [LThen, LBlock, LPost, Tryz.results58]
  simp -dsimp only [go_sem, ↓reduceIte]
  exact ret_keep (hRR _ _ hp2)

end Go.Proofs.YtdhngmldmalbbaaGreat
end
section
set_option linter.all false
namespace Go.Proofs.YtdhngmldmalbbaaGreat
open Go.Lift Go.RowKit Go.Store
set_option linter.unusedSimpArgs false
set_option linter.unusedVariables false

theorem encInts (l : List Int) : (l.map fun x => [V x]).flatMap (enc sI) = l.flatMap fun x => be 8 (u64 x) := by
  induction l with
  | nil => rfl
  | cons x l ih => rw [List.map_cons, List.flatMap_cons, List.flatMap_cons, ih, encI]
theorem PI1 (a : Int) (ha : isI a) : Put 38 [.sl true [[V a]]] (be 8 (u64 a)) := by
  have h := PutInts true [[V a]] (fun e he => by simp at he; subst he; exact okI ha) (by simp)
  simpa [encI] using h
theorem PI2 (a b : Int) (ha : isI a) (hb : isI b) : Put 38 [.sl true [[V a], [V b]]] (be 8 (u64 a) ++ be 8 (u64 b)) := by
  have h := PutInts true [[V a], [V b]] (fun e he => by simp at he; rcases he with rfl | rfl; exact okI ha; exact okI hb) (by simp)
  simpa [encI] using h
theorem PI3 (a b c : Int) (ha : isI a) (hb : isI b) (hc : isI c) : Put 38 [.sl true [[V a], [V b], [V c]]] (be 8 (u64 a) ++ (be 8 (u64 b) ++ be 8 (u64 c))) := by
  have h := PutInts true [[V a], [V b], [V c]] (fun e he => by simp at he; rcases he with rfl | rfl | rfl; exact okI ha; exact okI hb; exact okI hc) (by simp)
  simpa [encI] using h
theorem PI4 (a b c d : Int) (ha : isI a) (hb : isI b) (hc : isI c) (hd : isI d) : Put 38 [.sl true [[V a], [V b], [V c], [V d]]] (be 8 (u64 a) ++ (be 8 (u64 b) ++ (be 8 (u64 c) ++ be 8 (u64 d)))) := by
  have h := PutInts true [[V a], [V b], [V c], [V d]] (fun e he => by simp at he; rcases he with rfl | rfl | rfl | rfl; exact okI ha; exact okI hb; exact okI hc; exact okI hd) (by simp)
  simpa [encI] using h
theorem encRd (a b : Int) : enc sRd [V a, V b] = be 8 (u64 a) ++ be 8 (u64 b) := by simp [enc, sRd]
theorem okRd {e : List LV} (h : ok sRd e) : ∃ a b, e = [V a, V b] ∧ isI a ∧ isI b := by
  obtain ⟨a, e, rfl, ha, h⟩ := ok_int h
  obtain ⟨b, e, rfl, hb, h⟩ := ok_int h
  rw [ok_nil h]; exact ⟨a, b, rfl, ha, hb⟩

set_option maxHeartbeats 400000 in
theorem PutReadings (f : Bool) (es : List (List LV)) (hes : ∀ e ∈ es, ok sRd e) (hn : es.length < 4294967296) : Put 42 [.sl f es] (be 4 es.length ++ es.flatMap (enc sRd)) := by
  refine Put_intro Tryz.func42 rfl (by kernel_rfl) rfl fun S u bs RR hacc hl hRR => ?_
  refine Lwp_seq fun KK0 hKK0 => ?_
  refine LregionG [none] (by kernel_rfl) (by kernel_rfl) ?_
  simp -dsimp only [go_sem, ↓reduceIte]
  repeat with_reducible refine And.intro (by first | omega | decide) ?_
  refine hKK0 _ _ ?_
  try clear hKK0 KK0
  refine Lwp_seq fun KK1 hKK1 => ?_
  have e1 := u64_wrapN (n := es.length) (by omega)
  refine LregionG [none, none, none, none, none, none] (by kernel_rfl) (by kernel_rfl) ?_
  simp -dsimp only [go_sem, ↓reduceIte, e1]
  repeat with_reducible refine And.intro (by first | omega | decide | assumption) ?_
  refine Put.kk (Put4 es.length (by clear e1; omega)) (PutR.refl hacc) (by (try clear e1); simp only [List.length_append, List.length_cons, List.length_nil, be_length] at hl ⊢; omega) ?_
  rintro r S1 hp
  simp -dsimp only [go_sem, ↓reduceIte]
  refine hKK1 _ _ ?_
  try clear hKK1 KK1
  refine Lwp_seq fun KK2 hKK2 => ?_
  refine Lwp_seq fun KK3 hKK3 => ?_
  refine LregionG [none] (by kernel_rfl) (by kernel_rfl) ?_
  simp -dsimp only [go_sem, ↓reduceIte]
  repeat with_reducible refine And.intro (by first | omega | decide) ?_
  refine hKK3 _ _ ?_
  try clear hKK3 KK3
  refine Lwp_block ?_
  clear e1
  refine Lwp_loopK [0, 1, 5] (fun m us S' => ∃ (k : Nat) (r : LV), us = [r, .sl f es, V k] ∧ PutR S u bs (be 4 es.length ++ (es.take k).flatMap (enc sRd)) r S' ∧ k ≤ es.length ∧ m = es.length - k) es.length rfl (⟨0, r, by simp only [go_sem, ↓reduceIte, Int.natCast_zero], hp.cast (by simp), Nat.zero_le _, rfl⟩) ?_
  rintro m us S2 ⟨k, r, rfl, hp, hk, hm⟩ II hII
  refine Lwp_seq fun KK4 hKK4 => ?_
  refine Lwp_seq fun KK5 hKK5 => ?_
  refine LregionG [none, none, none, none] (by kernel_rfl) (by kernel_rfl) ?_
  simp -dsimp only [go_sem, ↓reduceIte]
  repeat with_reducible refine And.intro (by first | omega | decide) ?_
  refine hKK5 _ _ ?_
  try clear hKK5 KK5
  refine Lwp_cond (by simp only [go_sem, ↓reduceIte]; rfl) (fun ht => ?_) (fun hf => ?_)
  · skip
    have hk : k < es.length := by simpa using ht
    obtain ⟨v1, v2, hw, hv1, hv2⟩ := okRd (ok_mem hes hk)
    have hnx := fm_next (f := enc sRd) hk
    have htk := fm_take (f := enc sRd) hk
    rw [hw, encRd] at hnx htk
    have e2 : IntKind.i64.wrap ((k : Int) + 1) = ((k + 1 : Nat) : Int) := w64 (by omega) (by omega)
    refine Lwp_skip ?_
    try simp -dsimp only [go_sem, ↓reduceIte]
    refine hKK4 _ _ ?_
    try clear hKK4 KK4
    refine Lwp_seq fun KK6 hKK6 => ?_
    refine Lwp_block ?_
    refine LdrawE [0,1,2,3,4,5,6,7,8,9,10,11,12,13] [] none (by kernel_rfl) (by kernel_rfl) (by kernel_rfl) (by kernel_rfl) (by simp [Watch.holds]) ?_
    simp -dsimp only [go_sem, ↓reduceIte, hw]
    repeat with_reducible refine And.intro (by first | omega | decide | assumption) ?_
    refine Put.kk (PI2 v1 v2 hv1 hv2) (hp) (by (try clear e1); simp only [List.length_append, List.length_cons, List.length_nil, be_length] at hl hnx ⊢; omega) ?_
    rintro r2 S2 hp2
    rw [List.append_assoc, ← htk] at hp2
    simp -dsimp only [go_sem, ↓reduceIte]
    refine hKK6 _ _ ?_
    try clear hKK6 KK6
    refine LregionG [none, none, none] (by kernel_rfl) (by kernel_rfl) ?_
    simp -dsimp only [go_sem, ↓reduceIte, e2]
    repeat with_reducible refine And.intro (by first | omega | decide) ?_
    exact hII (es.length - (k + 1)) _ _ (by omega) ⟨k + 1, r2, rfl, hp2, hk, rfl⟩
  · skip
    obtain rfl : k = es.length := Nat.le_antisymm hk (Nat.le_of_not_lt (by simpa using hf))
    refine Lwp_exit ?_
    simp -dsimp only [go_sem, ↓reduceIte]
    refine hKK2 _ _ ?_
    try clear hKK2 KK2
    refine Lwp_seq fun KK7 hKK7 => ?_
    refine LregionG [none, none] (by kernel_rfl) (by kernel_rfl) ?_
    simp -dsimp only [go_sem, ↓reduceIte]
    repeat with_reducible refine And.intro (by first | omega | decide) ?_
    refine hKK7 _ _ ?_
    try clear hKK7 KK7
    refine Lwp_ret ?_
    simp only [LThen, LBlock, LPost, Tryz.results42]
    simp -dsimp only [go_sem, ↓reduceIte]
    exact ret_keep (hRR _ _ (hp.cast (by rw [List.take_length])))

set_option maxHeartbeats 400000 in
theorem PutPlace (f x y z : Int) (hf : isI f) (hx : isI x) (hy : isI y) (hz : isI z) : Put 43 [.agg [V f, V x, V y, V z]] (be 8 (u64 f) ++ (be 8 (u64 x) ++ (be 8 (u64 y) ++ be 8 (u64 z)))) := by
  refine Put_intro Tryz.func43 rfl (by kernel_rfl) rfl fun S u bs RR hacc hl hRR => ?_
  refine Lwp_seq fun KK0 hKK0 => ?_
  refine LregionG [none, none] (by kernel_rfl) (by kernel_rfl) ?_
  simp -dsimp only [go_sem, ↓reduceIte]
  repeat with_reducible refine And.intro (by first | omega | decide) ?_
  refine hKK0 _ _ ?_
  try clear hKK0 KK0
  refine Lwp_seq fun KK1 hKK1 => ?_
  refine Lwp_boxed 3 4 [V f, V x, V y, V z] rfl (PutR.refl hacc) (by simp only [go_sem, ↓reduceIte]) fun S1 hp0 => ?_
  refine LregionG [none, none, none, none, none, none, none, none, none, none, none, none] (by kernel_rfl) (by kernel_rfl) ?_
  simp -dsimp only [go_sem, ↓reduceIte]
  repeat with_reducible refine And.intro (by first | omega | decide | assumption) ?_
  refine Put.kk (PI4 f x y z hf hx hy hz) (hp0) (by (try clear e1); simp only [List.length_append, List.length_cons, List.length_nil, be_length] at hl ⊢; omega) ?_
  rintro r S2 hp
  simp -dsimp only [go_sem, ↓reduceIte]
  refine hKK1 _ _ ?_
  try clear hKK1 KK1
  refine Lwp_ret ?_
  simp only [LThen, LBlock, LPost, Tryz.results43]
  simp -dsimp only [go_sem, ↓reduceIte]
  exact ret_keep (hRR _ _ (hp.cast (by simp)))

set_option maxHeartbeats 400000 in
theorem PutReport (us : List LV) (h : ok sRep us) : Put 39 [.agg us] (enc sRep us) := by
  refine Put_intro Tryz.func39 rfl (by kernel_rfl) rfl fun S u bs RR hacc hl hRR => ?_
  obtain ⟨k, us, rfl, hk, h⟩ := ok_int h
  obtain ⟨s, us, rfl, hs, h⟩ := ok_str h
  obtain ⟨t, us, rfl, htt, h⟩ := ok_int h
  obtain ⟨f, us, rfl, hff, h⟩ := ok_int h
  obtain ⟨x, us, rfl, hx, h⟩ := ok_int h
  obtain ⟨y, us, rfl, hy, h⟩ := ok_int h
  obtain ⟨z, us, rfl, hz, h⟩ := ok_int h
  obtain ⟨fl, es, us, rfl, hn, hes, h⟩ := ok_sl h
  rw [ok_nil h] at hl hRR ⊢
  simp only [enc, sRep, List.length_append, be_length] at hl
  refine Lwp_seq fun KK0 hKK0 => ?_
  refine LregionG [none, none] (by kernel_rfl) (by kernel_rfl) ?_
  simp -dsimp only [go_sem, ↓reduceIte]
  repeat with_reducible refine And.intro (by first | omega | decide) ?_
  refine hKK0 _ _ ?_
  try clear hKK0 KK0
  refine Lwp_seq fun KK1 hKK1 => ?_
  refine Lwp_boxed 3 8 [V k, .str s, V t, V f, V x, V y, V z, .sl fl es] rfl (PutR.refl hacc) (by simp only [go_sem, ↓reduceIte]) fun S1 hp0 => ?_
  refine LdrawE [0,1,2,3,5,6,4,7,8] [] none (by kernel_rfl) (by kernel_rfl) (by kernel_rfl) (by kernel_rfl) (by simp [Watch.holds]) ?_
  simp -dsimp only [go_sem, ↓reduceIte]
  repeat with_reducible refine And.intro (by first | omega | decide | assumption) ?_
  refine Put.kk (PI1 k hk) (hp0) (by (try clear e1); simp only [List.length_append, List.length_cons, List.length_nil, be_length] at hl ⊢; omega) ?_
  rintro r S2 hp
  simp -dsimp only [go_sem, ↓reduceIte]
  repeat with_reducible refine And.intro (by first | omega | decide | assumption) ?_
  refine Put.kk (PutString s hs) (hp) (by (try clear e1); simp only [List.length_append, List.length_cons, List.length_nil, be_length] at hl ⊢; omega) ?_
  rintro r S2 hp
  simp -dsimp only [go_sem, ↓reduceIte]
  refine hKK1 _ _ ?_
  try clear hKK1 KK1
  refine Lwp_seq fun KK2 hKK2 => ?_
  refine LdrawE [0,1,2,3,5,6,8,9,4,7,10,11] [] none (by kernel_rfl) (by kernel_rfl) (by kernel_rfl) (by kernel_rfl) (by simp [Watch.holds]) ?_
  simp -dsimp only [go_sem, ↓reduceIte]
  repeat with_reducible refine And.intro (by first | omega | decide | assumption) ?_
  refine Put.kk (PI1 t htt) (hp) (by (try clear e1); simp only [List.length_append, List.length_cons, List.length_nil, be_length] at hl ⊢; omega) ?_
  rintro r S2 hp
  simp -dsimp only [go_sem, ↓reduceIte]
  repeat with_reducible refine And.intro (by first | omega | decide | assumption) ?_
  refine Put.kk (PutPlace f x y z hff hx hy hz) (hp) (by (try clear e1); simp only [List.length_append, List.length_cons, List.length_nil, be_length] at hl ⊢; omega) ?_
  rintro r S2 hp
  simp -dsimp only [go_sem, ↓reduceIte]
  repeat with_reducible refine And.intro (by first | omega | decide | assumption) ?_
  refine Put.kk (PutReadings fl es hes hn) (hp) (by (try clear e1); simp only [List.length_append, List.length_cons, List.length_nil, be_length] at hl ⊢; omega) ?_
  rintro r S2 hp
  simp -dsimp only [go_sem, ↓reduceIte]
  refine hKK2 _ _ ?_
  try clear hKK2 KK2
  refine Lwp_ret ?_
  simp only [LThen, LBlock, LPost, Tryz.results39]
  simp -dsimp only [go_sem, ↓reduceIte]
  exact ret_keep (hRR _ _ (hp.cast (by simp [enc, sRep])))

set_option maxHeartbeats 400000 in
theorem PutAnalysis (us : List LV) (h : ok sAna us) : Put 57 [.agg us] (enc sAna us) := by
  refine Put_intro Tryz.func57 rfl (by kernel_rfl) rfl fun S u bs RR hacc hl hRR => ?_
  obtain ⟨f1, l1, us, rfl, n1, o1, h⟩ := ok_sl h
  obtain ⟨f2, l2, us, rfl, n2, o2, h⟩ := ok_sl h
  obtain ⟨f3, l3, us, rfl, n3, o3, h⟩ := ok_sl h
  obtain ⟨hi, us, rfl, ihi, h⟩ := ok_int h
  obtain ⟨lo, us, rfl, ilo, h⟩ := ok_word h
  obtain ⟨an, us, rfl, ian, h⟩ := ok_int h
  obtain ⟨ra, us, rfl, ira, h⟩ := ok_int h
  obtain ⟨rd, us, rfl, ird, h⟩ := ok_int h
  rw [ok_nil h] at hl hRR ⊢
  simp only [enc, sAna, List.length_append, be_length, Int.toNat_natCast] at hl
  refine Lwp_seq fun KK0 hKK0 => ?_
  refine LregionG [none, none] (by kernel_rfl) (by kernel_rfl) ?_
  simp -dsimp only [go_sem, ↓reduceIte]
  repeat with_reducible refine And.intro (by first | omega | decide) ?_
  refine hKK0 _ _ ?_
  try clear hKK0 KK0
  refine Lwp_seq fun KK1 hKK1 => ?_
  refine Lwp_boxed 3 8 [.sl f1 l1, .sl f2 l2, .sl f3 l3, V hi, .int .u64 lo, V an, V ra, V rd] rfl (PutR.refl hacc) (by simp only [go_sem, ↓reduceIte]) fun S1 hp0 => ?_
  refine LdrawE [0,1,2,4,5,7,8,3,6,9,10] [] none (by kernel_rfl) (by kernel_rfl) (by kernel_rfl) (by kernel_rfl) (by simp [Watch.holds]) ?_
  simp -dsimp only [go_sem, ↓reduceIte]
  repeat with_reducible refine And.intro (by first | omega | decide | assumption) ?_
  refine Put.kk (PutSlice f1 l1 o1 n1) (hp0) (by (try clear e1); simp only [List.length_append, List.length_cons, List.length_nil, be_length] at hl ⊢; omega) ?_
  rintro r S2 hp
  simp -dsimp only [go_sem, ↓reduceIte]
  repeat with_reducible refine And.intro (by first | omega | decide | assumption) ?_
  refine Put.kk (PutSlice f2 l2 o2 n2) (hp) (by (try clear e1); simp only [List.length_append, List.length_cons, List.length_nil, be_length] at hl ⊢; omega) ?_
  rintro r S2 hp
  simp -dsimp only [go_sem, ↓reduceIte]
  repeat with_reducible refine And.intro (by first | omega | decide | assumption) ?_
  refine Put.kk (PutSlice f3 l3 o3 n3) (hp) (by (try clear e1); simp only [List.length_append, List.length_cons, List.length_nil, be_length] at hl ⊢; omega) ?_
  rintro r S2 hp
  simp -dsimp only [go_sem, ↓reduceIte]
  refine hKK1 _ _ ?_
  try clear hKK1 KK1
  refine Lwp_seq fun KK2 hKK2 => ?_
  refine LdrawE [0,1,2,3,4,5,7,8,9,10,6,11,12] [] none (by kernel_rfl) (by kernel_rfl) (by kernel_rfl) (by kernel_rfl) (by simp [Watch.holds]) ?_
  simp -dsimp only [go_sem, ↓reduceIte]
  repeat with_reducible refine And.intro (by first | omega | decide | assumption) ?_
  refine Put.kk (PI1 hi ihi) (hp) (by (try clear e1); simp only [List.length_append, List.length_cons, List.length_nil, be_length] at hl ⊢; omega) ?_
  rintro r S2 hp
  simp -dsimp only [go_sem, ↓reduceIte]
  repeat with_reducible refine And.intro (by first | omega | decide | assumption) ?_
  refine Put.kk (Put8 lo ilo) (hp) (by (try clear e1); simp only [List.length_append, List.length_cons, List.length_nil, be_length] at hl ⊢; omega) ?_
  rintro r S2 hp
  simp -dsimp only [go_sem, ↓reduceIte]
  refine hKK2 _ _ ?_
  try clear hKK2 KK2
  refine Lwp_seq fun KK3 hKK3 => ?_
  refine LregionG [none, none, none, none, none, none, none, none, none, none, none, none] (by kernel_rfl) (by kernel_rfl) ?_
  simp -dsimp only [go_sem, ↓reduceIte]
  repeat with_reducible refine And.intro (by first | omega | decide | assumption) ?_
  refine Put.kk (PI3 an ra rd ian ira ird) (hp) (by (try clear e1); simp only [List.length_append, List.length_cons, List.length_nil, be_length] at hl ⊢; omega) ?_
  rintro r S2 hp
  simp -dsimp only [go_sem, ↓reduceIte]
  refine hKK3 _ _ ?_
  try clear hKK3 KK3
  refine Lwp_ret ?_
  simp only [LThen, LBlock, LPost, Tryz.results57]
  simp -dsimp only [go_sem, ↓reduceIte]
  exact ret_keep (hRR _ _ (hp.cast (by simp [enc, sAna])))


theorem encCnt (s : ByteArray) (a b : Int) : enc sCnt [.str s, V a, V b] = be 4 s.size ++ (s.data.toList ++ (be 8 (u64 a) ++ be 8 (u64 b))) := by simp [enc, sCnt]
theorem okCnt {e : List LV} (h : ok sCnt e) : ∃ s a b, e = [.str s, V a, V b] ∧ s.size < 4294967296 ∧ isI a ∧ isI b := by
  obtain ⟨s, e, rfl, hs, h⟩ := ok_str h
  obtain ⟨a, e, rfl, ha, h⟩ := ok_int h
  obtain ⟨b, e, rfl, hb, h⟩ := ok_int h
  rw [ok_nil h]; exact ⟨s, a, b, rfl, hs, ha, hb⟩
theorem okSl {t : Sch} {e : List LV} (h : ok (.sl t .nil) e) : ∃ f l, e = [.sl f l] ∧ l.length < 4294967296 ∧ ∀ x ∈ l, ok t x := by
  obtain ⟨f, l, e, rfl, hn, hl, h⟩ := ok_sl h
  rw [ok_nil h]; exact ⟨f, l, rfl, hn, hl⟩
theorem encSl (t : Sch) (f : Bool) (l : List (List LV)) : enc (.sl t .nil) [.sl f l] = be 4 l.length ++ l.flatMap (enc t) := by simp [enc]
theorem okStr {e : List LV} (h : ok sStr e) : ∃ s, e = [.str s] ∧ s.size < 4294967296 := by
  obtain ⟨s, e, rfl, hs, h⟩ := ok_str h
  rw [ok_nil h]; exact ⟨s, rfl, hs⟩
theorem encStr (s : ByteArray) : enc sStr [.str s] = be 4 s.size ++ s.data.toList := by simp [enc, sStr]
theorem enc_str_len (s : ByteArray) : s.data.toList.length = s.size := by rw [Array.length_toList]; rfl

set_option maxHeartbeats 400000 in
theorem PutHistory (us : List LV) (h : ok sHist us) : Put 59 [.agg us] (enc sHist us) := by
  refine Put_intro Tryz.func59 rfl (by kernel_rfl) rfl fun S u bs RR hacc hl hRR => ?_
  obtain ⟨fc, ec, us, rfl, nc, oc, h⟩ := ok_sl h
  obtain ⟨fl, el, us, rfl, nl, ol, h⟩ := ok_sl h
  rw [ok_nil h] at hl hRR ⊢
  simp only [enc, sHist, List.length_append, be_length, List.append_nil] at hl
  refine Lwp_seq fun KK0 hKK0 => ?_
  refine LregionG [none, none] (by kernel_rfl) (by kernel_rfl) ?_
  simp -dsimp only [go_sem, ↓reduceIte]
  repeat with_reducible refine And.intro (by first | omega | decide) ?_
  refine hKK0 _ _ ?_
  try clear hKK0 KK0
  refine Lwp_seq fun KK1 hKK1 => ?_
  refine Lwp_boxed 3 2 [.sl fc ec, .sl fl el] rfl (PutR.refl hacc) (by simp only [go_sem, ↓reduceIte]) fun S1 hp0 => ?_
  have e1 := u64_wrapN (n := ec.length) (by omega)
  refine LregionG [none, none, none, none, none, none, none] (by kernel_rfl) (by kernel_rfl) ?_
  simp -dsimp only [go_sem, ↓reduceIte, e1]
  repeat with_reducible refine And.intro (by first | omega | decide | assumption) ?_
  refine Put.kk (Put4 ec.length (by clear e1; omega)) (hp0) (by (try clear e1); simp only [List.length_append, List.length_cons, List.length_nil, be_length] at hl ⊢; omega) ?_
  rintro r S2 hp
  simp -dsimp only [go_sem, ↓reduceIte]
  refine hKK1 _ _ ?_
  try clear hKK1 KK1
  refine Lwp_seq fun KK2 hKK2 => ?_
  refine Lwp_seq fun KK3 hKK3 => ?_
  refine LregionG [none] (by kernel_rfl) (by kernel_rfl) ?_
  simp -dsimp only [go_sem, ↓reduceIte]
  repeat with_reducible refine And.intro (by first | omega | decide) ?_
  refine hKK3 _ _ ?_
  try clear hKK3 KK3
  refine Lwp_block ?_
  clear e1
  refine Lwp_loopK [0, 3, 5] (fun m us S' => ∃ (k : Nat) (r : LV), us = [r, .eptr [.sl fc ec, .sl fl el] 0, V k] ∧ PutR S u bs (be 4 ec.length ++ (ec.take k).flatMap (enc (.sl sCnt .nil))) r S' ∧ k ≤ ec.length ∧ m = ec.length - k) ec.length rfl (⟨0, r, by simp only [go_sem, ↓reduceIte, Int.natCast_zero], hp.cast (by simp), Nat.zero_le _, rfl⟩) ?_
  rintro m us S2 ⟨k, r, rfl, hp, hk, hm⟩ II hII
  refine Lwp_seq fun KK4 hKK4 => ?_
  refine Lwp_seq fun KK5 hKK5 => ?_
  refine LregionG [none, none, none, none, none] (by kernel_rfl) (by kernel_rfl) ?_
  simp -dsimp only [go_sem, ↓reduceIte]
  repeat with_reducible refine And.intro (by first | omega | decide) ?_
  refine hKK5 _ _ ?_
  try clear hKK5 KK5
  refine Lwp_cond (by simp only [go_sem, ↓reduceIte]; rfl) (fun ht => ?_) (fun hf => ?_)
  · skip
    have hk : k < ec.length := by simpa using ht
    obtain ⟨f, l, hw, hln, hlo⟩ := okSl (ok_mem oc hk)
    have hnx := fm_next (f := enc (.sl sCnt .nil)) hk
    have htk := fm_take (f := enc (.sl sCnt .nil)) hk
    rw [hw, encSl] at hnx htk
    have e2 : IntKind.i64.wrap ((k : Int) + 1) = ((k + 1 : Nat) : Int) := w64 (by omega) (by omega)
    have e3 := u64_wrapN (n := l.length) (by omega)
    refine Lwp_skip ?_
    try simp -dsimp only [go_sem, ↓reduceIte]
    refine hKK4 _ _ ?_
    try clear hKK4 KK4
    refine Lwp_seq fun KK6 hKK6 => ?_
    refine Lwp_block ?_
    refine Lwp_seq fun KK7 hKK7 => ?_
    refine LregionG [none, none, none, none, none, none, none, none, none, none] (by kernel_rfl) (by kernel_rfl) ?_
    simp -dsimp only [go_sem, ↓reduceIte, hw, e3]
    repeat with_reducible refine And.intro (by first | omega | decide | assumption) ?_
    refine Put.kk (Put4 l.length (by clear e3; omega)) (hp) (by (try clear e1); (try clear e3); simp only [List.length_append, be_length] at hl hnx ⊢; omega) ?_
    rintro r S2 hp
    simp -dsimp only [go_sem, ↓reduceIte]
    refine hKK7 _ _ ?_
    try clear hKK7 KK7
    refine Lwp_seq fun KK8 hKK8 => ?_
    refine LregionG [none] (by kernel_rfl) (by kernel_rfl) ?_
    simp -dsimp only [go_sem, ↓reduceIte]
    repeat with_reducible refine And.intro (by first | omega | decide) ?_
    refine hKK8 _ _ ?_
    try clear hKK8 KK8
    refine Lwp_block ?_
    clear e3
    refine Lwp_loopK [0, 3, 5, 6] (fun m us S' => ∃ (j : Nat) (r : LV), us = [r, .eptr [.sl fc ec, .sl fl el] 0, V k, V j] ∧ PutR S u bs (be 4 ec.length ++ ((ec.take k).flatMap (enc (.sl sCnt .nil)) ++ (be 4 l.length ++ (l.take j).flatMap (enc sCnt)))) r S' ∧ j ≤ l.length ∧ m = l.length - j) l.length rfl (⟨0, r, by simp only [go_sem, ↓reduceIte, Int.natCast_zero], hp.cast (by simp), Nat.zero_le _, rfl⟩) ?_
    rintro m1 us S2 ⟨j, r, rfl, hp, hj, hm1⟩ II1 hII1
    refine Lwp_seq fun KK9 hKK9 => ?_
    refine Lwp_seq fun KK10 hKK10 => ?_
    refine LregionG [none, none, none, none, none, none, none, none] (by kernel_rfl) (by kernel_rfl) ?_
    simp -dsimp only [go_sem, ↓reduceIte, hw]
    repeat with_reducible refine And.intro (by first | omega | decide) ?_
    refine hKK10 _ _ ?_
    try clear hKK10 KK10
    refine Lwp_cond (by simp only [go_sem, ↓reduceIte, hw]; rfl) (fun ht => ?_) (fun hf => ?_)
    · skip
      have hj : j < l.length := by simpa using ht
      obtain ⟨s, v1, v2, hw2, hs, hv1, hv2⟩ := okCnt (ok_mem hlo hj)
      have hnx2 := fm_next (f := enc sCnt) hj
      have htk2 := fm_take (f := enc sCnt) hj
      rw [hw2, encCnt] at hnx2 htk2
      have e4 : IntKind.i64.wrap ((j : Int) + 1) = ((j + 1 : Nat) : Int) := w64 (by omega) (by omega)
      refine Lwp_skip ?_
      try simp -dsimp only [go_sem, ↓reduceIte]
      refine hKK9 _ _ ?_
      try clear hKK9 KK9
      refine Lwp_seq fun KK11 hKK11 => ?_
      refine Lwp_block ?_
      refine Lwp_seq fun KK12 hKK12 => ?_
      refine LregionG [none, none, none, none, none, none, none, none, none, none] (by kernel_rfl) (by kernel_rfl) ?_
      simp -dsimp only [go_sem, ↓reduceIte, hw, hw2]
      repeat with_reducible refine And.intro (by first | omega | decide) ?_
      refine hKK12 _ _ ?_
      try clear hKK12 KK12
      refine Lwp_boxed 7 3 [.str s, V v1, V v2] rfl (hp) (by simp only [go_sem, ↓reduceIte]) fun S3 hp => ?_
      refine LdrawE [0,1,2,4,5,6,7,8,3,9,10] [] none (by kernel_rfl) (by kernel_rfl) (by kernel_rfl) (by kernel_rfl) (by simp [Watch.holds]) ?_
      simp -dsimp only [go_sem, ↓reduceIte]
      repeat with_reducible refine And.intro (by first | omega | decide | assumption) ?_
      refine Put.kk (PutString s hs) (hp) (by (try clear e1); (try clear e3); simp only [List.length_append, List.length_cons, List.length_nil, be_length] at hl hnx hnx2 ⊢; omega) ?_
      rintro r S2 hp
      simp -dsimp only [go_sem, ↓reduceIte]
      repeat with_reducible refine And.intro (by first | omega | decide | assumption) ?_
      refine Put.kk (PI2 v1 v2 hv1 hv2) (hp) (by (try clear e1); (try clear e3); simp only [List.length_append, List.length_cons, List.length_nil, be_length] at hl hnx hnx2 ⊢; omega) ?_
      rintro r S2 hp
      simp -dsimp only [go_sem, ↓reduceIte]
      refine hKK11 _ _ ?_
      try clear hKK11 KK11
      refine LregionG [none, none, none] (by kernel_rfl) (by kernel_rfl) ?_
      simp -dsimp only [go_sem, ↓reduceIte, e4]
      repeat with_reducible refine And.intro (by first | omega | decide) ?_
      exact hII1 (l.length - (j + 1)) _ _ (by omega) ⟨j + 1, r, rfl, hp.cast (by rw [htk2]; simp), hj, rfl⟩
    · skip
      obtain rfl : j = l.length := Nat.le_antisymm hj (Nat.le_of_not_lt (by simpa using hf))
      rw [List.take_length] at hp
      refine Lwp_exit ?_
      simp -dsimp only [go_sem, ↓reduceIte]
      refine hKK6 _ _ ?_
      try clear hKK6 KK6
      refine LregionG [none, none, none] (by kernel_rfl) (by kernel_rfl) ?_
      simp -dsimp only [go_sem, ↓reduceIte, e2]
      repeat with_reducible refine And.intro (by first | omega | decide) ?_
      exact hII (ec.length - (k + 1)) _ _ (by omega) ⟨k + 1, r, rfl, hp.cast (by rw [htk]), hk, rfl⟩
  · skip
    obtain rfl : k = ec.length := Nat.le_antisymm hk (Nat.le_of_not_lt (by simpa using hf))
    rw [List.take_length] at hp
    refine Lwp_exit ?_
    simp -dsimp only [go_sem, ↓reduceIte]
    refine hKK2 _ _ ?_
    try clear hKK2 KK2
    refine Lwp_seq fun KK13 hKK13 => ?_
    have e1 := u64_wrapN (n := el.length) (by omega)
    refine LregionG [none, none, none, none, none, none, none] (by kernel_rfl) (by kernel_rfl) ?_
    simp -dsimp only [go_sem, ↓reduceIte, e1]
    repeat with_reducible refine And.intro (by first | omega | decide | assumption) ?_
    refine Put.kk (Put4 el.length (by clear e1; omega)) (hp) (by (try clear e1); simp only [List.length_append, List.length_cons, List.length_nil, be_length] at hl ⊢; omega) ?_
    rintro r S2 hp
    simp -dsimp only [go_sem, ↓reduceIte]
    refine hKK13 _ _ ?_
    try clear hKK13 KK13
    refine Lwp_seq fun KK14 hKK14 => ?_
    refine Lwp_seq fun KK15 hKK15 => ?_
    refine LregionG [none] (by kernel_rfl) (by kernel_rfl) ?_
    simp -dsimp only [go_sem, ↓reduceIte]
    repeat with_reducible refine And.intro (by first | omega | decide) ?_
    refine hKK15 _ _ ?_
    try clear hKK15 KK15
    refine Lwp_block ?_
    clear e1
    refine Lwp_loopK [0, 3, 8] (fun m us S' => ∃ (k : Nat) (r : LV), us = [r, .eptr [.sl fc ec, .sl fl el] 0, V k] ∧ PutR S u bs (be 4 ec.length ++ (ec.flatMap (enc (.sl sCnt .nil)) ++ (be 4 el.length ++ (el.take k).flatMap (enc sStr)))) r S' ∧ k ≤ el.length ∧ m = el.length - k) el.length rfl (⟨0, r, by simp only [go_sem, ↓reduceIte, Int.natCast_zero], hp.cast (by simp), Nat.zero_le _, rfl⟩) ?_
    rintro m2 us S2 ⟨k, r, rfl, hp, hk, hm⟩ II2 hII2
    refine Lwp_seq fun KK16 hKK16 => ?_
    refine Lwp_seq fun KK17 hKK17 => ?_
    refine LregionG [none, none, none, none, none] (by kernel_rfl) (by kernel_rfl) ?_
    simp -dsimp only [go_sem, ↓reduceIte]
    repeat with_reducible refine And.intro (by first | omega | decide) ?_
    refine hKK17 _ _ ?_
    try clear hKK17 KK17
    refine Lwp_cond (by simp only [go_sem, ↓reduceIte]; rfl) (fun ht => ?_) (fun hf => ?_)
    · skip
      have hk : k < el.length := by simpa using ht
      obtain ⟨s, hw, hs⟩ := okStr (ok_mem ol hk)
      have hnx := fm_next (f := enc sStr) hk
      have htk := fm_take (f := enc sStr) hk
      rw [hw, encStr] at hnx htk
      have e2 : IntKind.i64.wrap ((k : Int) + 1) = ((k + 1 : Nat) : Int) := w64 (by omega) (by omega)
      refine Lwp_skip ?_
      try simp -dsimp only [go_sem, ↓reduceIte]
      refine hKK16 _ _ ?_
      try clear hKK16 KK16
      refine Lwp_seq fun KK18 hKK18 => ?_
      refine Lwp_block ?_
      refine LregionG [none, none, none, none, none, none, none, none] (by kernel_rfl) (by kernel_rfl) ?_
      simp -dsimp only [go_sem, ↓reduceIte, hw]
      repeat with_reducible refine And.intro (by first | omega | decide | assumption) ?_
      refine Put.kk (PutString s hs) (hp) (by (try clear e1); simp only [List.length_append, List.length_cons, List.length_nil, be_length] at hl hnx ⊢; omega) ?_
      rintro r S2 hp
      simp -dsimp only [go_sem, ↓reduceIte]
      refine hKK18 _ _ ?_
      try clear hKK18 KK18
      refine LregionG [none, none, none] (by kernel_rfl) (by kernel_rfl) ?_
      simp -dsimp only [go_sem, ↓reduceIte, e2]
      repeat with_reducible refine And.intro (by first | omega | decide) ?_
      exact hII2 (el.length - (k + 1)) _ _ (by omega) ⟨k + 1, r, rfl, hp.cast (by rw [htk]; simp), hk, rfl⟩
    · skip
      obtain rfl : k = el.length := Nat.le_antisymm hk (Nat.le_of_not_lt (by simpa using hf))
      rw [List.take_length] at hp
      refine Lwp_exit ?_
      simp -dsimp only [go_sem, ↓reduceIte]
      refine hKK14 _ _ ?_
      try clear hKK14 KK14
      refine Lwp_seq fun KK19 hKK19 => ?_
      refine LregionG [none, none] (by kernel_rfl) (by kernel_rfl) ?_
      simp -dsimp only [go_sem, ↓reduceIte]
      repeat with_reducible refine And.intro (by first | omega | decide) ?_
      refine hKK19 _ _ ?_
      try clear hKK19 KK19
      refine Lwp_ret ?_
      simp only [LThen, LBlock, LPost, Tryz.results59]
      simp -dsimp only [go_sem, ↓reduceIte]
      exact ret_keep (hRR _ _ (hp.cast (by simp [enc, sHist])))

end Go.Proofs.YtdhngmldmalbbaaGreat
end
section
set_option linter.all false
namespace Go.Proofs.YtdhngmldmalbbaaGreat
open Go.Lift Go.RowKit Go.Store
set_option linter.unusedSimpArgs false
set_option linter.unusedVariables false

theorem app_enc : ∀ {s t : Sch} {us vs : List LV}, ok s us → enc (s.app t) (us ++ vs) = enc s us ++ enc t vs
  | .nil, t, [], vs, _ => by simp [Sch.app, enc]
  | .int r, t, .int k v :: us, vs, h => by simp only [ok] at h; simp only [Sch.app, List.cons_append, enc, app_enc h.2.2.2, List.append_assoc]
  | .word r, t, .int k v :: us, vs, h => by simp only [ok] at h; simp only [Sch.app, List.cons_append, enc, app_enc h.2.2.2, List.append_assoc]
  | .bool r, t, .bool b :: us, vs, h => by simp only [ok] at h; simp only [Sch.app, List.cons_append, enc, app_enc (s := r) h]
  | .str r, t, .str b :: us, vs, h => by simp only [ok] at h; simp only [Sch.app, List.cons_append, enc, app_enc h.2, List.append_assoc]
  | .sl e r, t, .sl f es :: us, vs, h => by simp only [ok] at h; simp only [Sch.app, List.cons_append, enc, app_enc h.2.2, List.append_assoc]
theorem okAna {us : List LV} (h : ok sAna us) : ∃ (f1 f2 f3 : Bool) (l1 l2 l3 : List (List LV)) (hi : Int) (lo : Nat) (an ra rd : Int), us = [.sl f1 l1, .sl f2 l2, .sl f3 l3, V hi, .int .u64 lo, V an, V ra, V rd] := by
  obtain ⟨f1, l1, us, rfl, n1, o1, h⟩ := ok_sl h
  obtain ⟨f2, l2, us, rfl, n2, o2, h⟩ := ok_sl h
  obtain ⟨f3, l3, us, rfl, n3, o3, h⟩ := ok_sl h
  obtain ⟨hi, us, rfl, ihi, h⟩ := ok_int h
  obtain ⟨lo, us, rfl, ilo, h⟩ := ok_word h
  obtain ⟨an, us, rfl, ian, h⟩ := ok_int h
  obtain ⟨ra, us, rfl, ira, h⟩ := ok_int h
  obtain ⟨rd, us, rfl, ird, h⟩ := ok_int h
  rw [ok_nil h]; exact ⟨f1, f2, f3, l1, l2, l3, hi, lo, an, ra, rd, rfl⟩
theorem okHist {us : List LV} (h : ok sHist us) : ∃ (fc fl : Bool) (ec el : List (List LV)), us = [.sl fc ec, .sl fl el] := by
  obtain ⟨fc, ec, us, rfl, nc, oc, h⟩ := ok_sl h
  obtain ⟨fl, el, us, rfl, nl, ol, h⟩ := ok_sl h
  rw [ok_nil h]; exact ⟨fc, fl, ec, el, rfl⟩
theorem okRep {us : List LV} (h : ok sRep us) : ∃ (k : Int) (s : ByteArray) (t f x y z : Int) (fl : Bool) (es : List (List LV)), us = [V k, .str s, V t, V f, V x, V y, V z, .sl fl es] := by
  obtain ⟨k, us, rfl, hk, h⟩ := ok_int h
  obtain ⟨s, us, rfl, hs, h⟩ := ok_str h
  obtain ⟨t, us, rfl, htt, h⟩ := ok_int h
  obtain ⟨f, us, rfl, hff, h⟩ := ok_int h
  obtain ⟨x, us, rfl, hx, h⟩ := ok_int h
  obtain ⟨y, us, rfl, hy, h⟩ := ok_int h
  obtain ⟨z, us, rfl, hz, h⟩ := ok_int h
  obtain ⟨fl, es, us, rfl, hn, hes, h⟩ := ok_sl h
  rw [ok_nil h]; exact ⟨k, s, t, f, x, y, z, fl, es, rfl⟩

set_option maxHeartbeats 400000 in
theorem PutCycle (us : List LV) (h : ok sCyc us) : Put 44 [.agg us] (enc sCyc us) := by
  refine Put_intro Tryz.func44 rfl (by kernel_rfl) rfl fun S u bs RR hacc hl hRR => ?_
  obtain ⟨nm, us, rfl, inm, h⟩ := ok_int h
  obtain ⟨tm, us, rfl, itm, h⟩ := ok_int h
  obtain ⟨ct, us, rfl, ict, h⟩ := ok_int h
  obtain ⟨fr, er, us, rfl, nr, hor, h⟩ := ok_sl h
  obtain ⟨ua, us, rfl, hA, h⟩ := app_inv h
  obtain ⟨fq, us, rfl, ifq, h⟩ := ok_int h
  obtain ⟨g1, d1, us, rfl, n1, o1, h⟩ := ok_sl h
  obtain ⟨g2, d2, us, rfl, n2, o2, hH⟩ := ok_sl h
  obtain ⟨f1, f2, f3, l1, l2, l3, hi, lo, an, ra, rd, rfl⟩ := okAna hA
  obtain ⟨fc, fl, ec, el, rfl⟩ := okHist hH
  have hE : enc sCyc (V nm :: V tm :: V ct :: .sl fr er :: ([.sl f1 l1, .sl f2 l2, .sl f3 l3, V hi, .int .u64 lo, V an, V ra, V rd] ++ V fq :: .sl g1 d1 :: .sl g2 d2 :: [.sl fc ec, .sl fl el])) = (be 8 (u64 nm) ++ (be 8 (u64 tm) ++ be 8 (u64 ct))) ++ ((be 4 er.length ++ er.flatMap (enc sRep)) ++ (enc sAna [.sl f1 l1, .sl f2 l2, .sl f3 l3, V hi, .int .u64 lo, V an, V ra, V rd] ++ (be 8 (u64 fq) ++ ((be 4 d1.length ++ d1.flatMap (enc sI)) ++ ((be 4 d2.length ++ d2.flatMap (enc sI)) ++ enc sHist [.sl fc ec, .sl fl el]))))) := by
    simp only [enc, sCyc, app_enc hA, List.append_assoc]
  rw [hE] at hl hRR
  simp only [List.length_append, be_length] at hl
  simp only [List.cons_append, List.nil_append]
  refine Lwp_seq fun KK0 hKK0 => ?_
  refine LregionG [none, none] (by kernel_rfl) (by kernel_rfl) ?_
  simp -dsimp only [go_sem, ↓reduceIte]
  repeat with_reducible refine And.intro (by first | omega | decide) ?_
  refine hKK0 _ _ ?_
  try clear hKK0 KK0
  refine Lwp_seq fun KK1 hKK1 => ?_
  refine Lwp_boxed 3 17 [V nm, V tm, V ct, .sl fr er, .sl f1 l1, .sl f2 l2, .sl f3 l3, V hi, .int .u64 lo, V an, V ra, V rd, V fq, .sl g1 d1, .sl g2 d2, .sl fc ec, .sl fl el] rfl (PutR.refl hacc) (by simp only [go_sem, ↓reduceIte]) fun S1 hp0 => ?_
  refine LregionG [none, none, none, none, none, none, none, none, none, none] (by kernel_rfl) (by kernel_rfl) ?_
  simp -dsimp only [go_sem, ↓reduceIte]
  repeat with_reducible refine And.intro (by first | omega | decide | assumption) ?_
  refine Put.kk (PI3 nm tm ct inm itm ict) (hp0) (by (try clear e1); simp only [List.length_append, List.length_cons, List.length_nil, be_length] at hl ⊢; omega) ?_
  rintro r S2 hp
  simp -dsimp only [go_sem, ↓reduceIte]
  refine hKK1 _ _ ?_
  try clear hKK1 KK1
  refine Lwp_seq fun KK2 hKK2 => ?_
  have e1 := u64_wrapN (n := er.length) (by omega)
  refine LregionG [none, none, none, none, none, none, none] (by kernel_rfl) (by kernel_rfl) ?_
  simp -dsimp only [go_sem, ↓reduceIte, e1]
  repeat with_reducible refine And.intro (by first | omega | decide | assumption) ?_
  refine Put.kk (Put4 er.length (by clear e1; omega)) (hp) (by (try clear e1); simp only [List.length_append, List.length_cons, List.length_nil, be_length] at hl ⊢; omega) ?_
  rintro r S2 hp
  simp -dsimp only [go_sem, ↓reduceIte]
  refine hKK2 _ _ ?_
  try clear hKK2 KK2
  refine Lwp_seq fun KK3 hKK3 => ?_
  refine Lwp_seq fun KK4 hKK4 => ?_
  refine LregionG [none] (by kernel_rfl) (by kernel_rfl) ?_
  simp -dsimp only [go_sem, ↓reduceIte]
  repeat with_reducible refine And.intro (by first | omega | decide) ?_
  refine hKK4 _ _ ?_
  try clear hKK4 KK4
  refine Lwp_block ?_
  clear e1
  refine Lwp_loopK [0, 3, 5] (fun m us S' => ∃ (k : Nat) (r : LV), us = [r, .eptr [V nm, V tm, V ct, .sl fr er, .sl f1 l1, .sl f2 l2, .sl f3 l3, V hi, .int .u64 lo, V an, V ra, V rd, V fq, .sl g1 d1, .sl g2 d2, .sl fc ec, .sl fl el] 0, V k] ∧ PutR S u bs ((be 8 (u64 nm) ++ (be 8 (u64 tm) ++ be 8 (u64 ct))) ++ (be 4 er.length ++ (er.take k).flatMap (enc sRep))) r S' ∧ k ≤ er.length ∧ m = er.length - k) er.length rfl (⟨0, r, by simp only [go_sem, ↓reduceIte, Int.natCast_zero], hp.cast (by simp), Nat.zero_le _, rfl⟩) ?_
  rintro m us S2 ⟨k, r, rfl, hp, hk, hm⟩ II hII
  refine Lwp_seq fun KK5 hKK5 => ?_
  refine Lwp_seq fun KK6 hKK6 => ?_
  refine LregionG [none, none, none, none, none] (by kernel_rfl) (by kernel_rfl) ?_
  simp -dsimp only [go_sem, ↓reduceIte]
  repeat with_reducible refine And.intro (by first | omega | decide) ?_
  refine hKK6 _ _ ?_
  try clear hKK6 KK6
  refine Lwp_cond (by simp only [go_sem, ↓reduceIte]; rfl) (fun ht => ?_) (fun hf => ?_)
  · skip
    have hk : k < er.length := by simpa using ht
    have hokr := ok_mem hor hk
    obtain ⟨q1, q2, q3, q4, q5, q6, q7, q8, q9, hw⟩ := okRep hokr
    have hnx := fm_next (f := enc sRep) hk
    have htk := fm_take (f := enc sRep) hk
    rw [hw] at hnx htk hokr
    have e2 : IntKind.i64.wrap ((k : Int) + 1) = ((k + 1 : Nat) : Int) := w64 (by omega) (by omega)
    refine Lwp_skip ?_
    try simp -dsimp only [go_sem, ↓reduceIte]
    refine hKK5 _ _ ?_
    try clear hKK5 KK5
    refine Lwp_seq fun KK7 hKK7 => ?_
    refine Lwp_block ?_
    refine LregionG [none, none, none, none, none, none, none, none] (by kernel_rfl) (by kernel_rfl) ?_
    simp -dsimp only [go_sem, ↓reduceIte, hw]
    repeat with_reducible refine And.intro (by first | omega | decide | assumption) ?_
    refine Put.kk (PutReport _ hokr) (hp) (by (try clear e1); simp only [List.length_append, List.length_cons, List.length_nil, be_length] at hl hnx ⊢; omega) ?_
    rintro r S2 hp
    simp -dsimp only [go_sem, ↓reduceIte]
    refine hKK7 _ _ ?_
    try clear hKK7 KK7
    refine LregionG [none, none, none] (by kernel_rfl) (by kernel_rfl) ?_
    simp -dsimp only [go_sem, ↓reduceIte, e2]
    repeat with_reducible refine And.intro (by first | omega | decide) ?_
    exact hII (er.length - (k + 1)) _ _ (by omega) ⟨k + 1, r, rfl, hp.cast (by rw [htk]; simp only [List.append_assoc]), hk, rfl⟩
  · skip
    obtain rfl : k = er.length := Nat.le_antisymm hk (Nat.le_of_not_lt (by simpa using hf))
    rw [List.take_length] at hp
    refine Lwp_exit ?_
    simp -dsimp only [go_sem, ↓reduceIte]
    refine hKK3 _ _ ?_
    try clear hKK3 KK3
    refine Lwp_seq fun KK8 hKK8 => ?_
    refine LregionG [none, none, none, none, none] (by kernel_rfl) (by kernel_rfl) ?_
    simp -dsimp only [go_sem, ↓reduceIte]
    repeat with_reducible refine And.intro (by first | omega | decide | assumption) ?_
    refine Put.kk (PutAnalysis _ hA) (hp) (by (try clear e1); simp only [List.length_append, List.length_cons, List.length_nil, be_length] at hl ⊢; omega) ?_
    rintro r S2 hp
    simp -dsimp only [go_sem, ↓reduceIte]
    refine hKK8 _ _ ?_
    try clear hKK8 KK8
    refine Lwp_seq fun KK9 hKK9 => ?_
    refine LdrawE [0,1,2,3,4,6,7,8,10,11,12,5,9,13,14] [] none (by kernel_rfl) (by kernel_rfl) (by kernel_rfl) (by kernel_rfl) (by simp [Watch.holds]) ?_
    simp -dsimp only [go_sem, ↓reduceIte]
    repeat with_reducible refine And.intro (by first | omega | decide | assumption) ?_
    refine Put.kk (PI1 fq ifq) (hp) (by (try clear e1); simp only [List.length_append, List.length_cons, List.length_nil, be_length] at hl ⊢; omega) ?_
    rintro r S2 hp
    simp -dsimp only [go_sem, ↓reduceIte]
    repeat with_reducible refine And.intro (by first | omega | decide | assumption) ?_
    refine Put.kk (PutSlice g1 d1 o1 n1) (hp) (by (try clear e1); simp only [List.length_append, List.length_cons, List.length_nil, be_length] at hl ⊢; omega) ?_
    rintro r S2 hp
    simp -dsimp only [go_sem, ↓reduceIte]
    repeat with_reducible refine And.intro (by first | omega | decide | assumption) ?_
    refine Put.kk (PutSlice g2 d2 o2 n2) (hp) (by (try clear e1); simp only [List.length_append, List.length_cons, List.length_nil, be_length] at hl ⊢; omega) ?_
    rintro r S2 hp
    simp -dsimp only [go_sem, ↓reduceIte]
    refine hKK9 _ _ ?_
    try clear hKK9 KK9
    refine Lwp_seq fun KK10 hKK10 => ?_
    refine LregionG [none, none, none, none, none] (by kernel_rfl) (by kernel_rfl) ?_
    simp -dsimp only [go_sem, ↓reduceIte]
    repeat with_reducible refine And.intro (by first | omega | decide | assumption) ?_
    refine Put.kk (PutHistory _ hH) (hp) (by (try clear e1); simp only [List.length_append, List.length_cons, List.length_nil, be_length] at hl ⊢; omega) ?_
    rintro r S2 hp
    simp -dsimp only [go_sem, ↓reduceIte]
    refine hKK10 _ _ ?_
    try clear hKK10 KK10
    refine Lwp_ret ?_
    simp only [LThen, LBlock, LPost, Tryz.results44]
    simp -dsimp only [go_sem, ↓reduceIte]
    exact ret_keep (hRR _ _ (hp.cast (by simp only [List.append_assoc])))


def b8 (k : Int) : UInt8 := UInt8.ofNat (k % 256).toNat
theorem u8_wrap (k : Int) : IntKind.u8.wrap k = ((b8 k).toNat : Int) := by
  rw [wu8m, b8]
  have h : (k % 256).toNat < 256 := by omega
  simp only [UInt8.toNat_ofNat']
  omega
def intOf : LV → Int
  | .int _ n => n
  | _ => 0
/-- what is written of an entry: nothing for a kind that does not exist. -/
def bodyE (us : List LV) : Option (List UInt8) :=
  let k := intOf (us.getD 0 .any)
  if k = 1 then some (b8 k :: enc sI (us.drop 1)) else if k = 2 then some (b8 k :: enc sItem (us.drop 2)) else if k = 3 then some (b8 k :: enc (.int (.str sPer)) (us.drop 12)) else if k = 4 then some (b8 k :: enc sCyc (us.drop 21)) else none
theorem enc_nil_app : ∀ {s : Sch} {us vs : List LV}, ok s us → enc s (us ++ vs) = enc s us
  | .nil, [], vs, _ => by cases vs <;> simp [enc]
  | .int r, .int k v :: us, vs, h => by simp only [ok] at h; simp only [List.cons_append, enc, enc_nil_app h.2.2.2]
  | .word r, .int k v :: us, vs, h => by simp only [ok] at h; simp only [List.cons_append, enc, enc_nil_app h.2.2.2]
  | .bool r, .bool b :: us, vs, h => by simp only [ok] at h; simp only [List.cons_append, enc, enc_nil_app (s := r) h]
  | .str r, .str b :: us, vs, h => by simp only [ok] at h; simp only [List.cons_append, enc, enc_nil_app h.2]
  | .sl e r, .sl f es :: us, vs, h => by simp only [ok] at h; simp only [List.cons_append, enc, enc_nil_app h.2.2]
/-- the cells of an entry. -/
abbrev logL (k now : Int) (k0 : Int) (s0 : ByteArray) (t0 f0 x0 y0 z0 : Int) (fl0 : Bool) (es0 : List (List LV)) (co ar st : Int) (nm : ByteArray) (fr : Int) (cl : Bool) (pf px py pz : Int) (fb : Bool) (eb : List (List LV)) (cy : List LV) : List LV :=
  V k :: V now :: V k0 :: .str s0 :: V t0 :: V f0 :: V x0 :: V y0 :: V z0 :: .sl fl0 es0 :: V co :: V ar :: V st :: .str nm :: V fr :: .bool cl :: V pf :: V px :: V py :: V pz :: .sl fb eb :: cy
theorem okCyc_len {us : List LV} (h : ok sCyc us) : us.length = 17 := by
  obtain ⟨nm, us, rfl, inm, h⟩ := ok_int h
  obtain ⟨tm, us, rfl, itm, h⟩ := ok_int h
  obtain ⟨ct, us, rfl, ict, h⟩ := ok_int h
  obtain ⟨fr, er, us, rfl, nr, hor, h⟩ := ok_sl h
  obtain ⟨ua, us, rfl, hA, h⟩ := app_inv h
  obtain ⟨fq, us, rfl, ifq, h⟩ := ok_int h
  obtain ⟨g1, d1, us, rfl, n1, o1, h⟩ := ok_sl h
  obtain ⟨g2, d2, us, rfl, n2, o2, hH⟩ := ok_sl h
  obtain ⟨f1, f2, f3, l1, l2, l3, hi, lo, an, ra, rd, rfl⟩ := okAna hA
  obtain ⟨fc, fl, ec, el, rfl⟩ := okHist hH
  rfl


/-- a slice that the call made, with these bytes. -/
def NewR (S : LS) (ys : List UInt8) (r : LV) (S' : LS) : Prop := PutR S (.sl true []) [] ys r S'
/-- what a call of 'body' gives. -/
def BodyR (us : List LV) (S : LS) (r : LV) (S' : LS) : Prop :=
  match bodyE us with
  | some bs => ∃ u, r = .tup [u, .bool true] ∧ NewR S bs u S'
  | none => r = .tup [.sl true [], .bool false] ∧ Keeps S S' []


theorem okLog {us : List LV} (h : ok sLog us) : ∃ (k now k0 : Int) (s0 : ByteArray) (t0 f0 x0 y0 z0 : Int) (fl0 : Bool) (es0 : List (List LV)) (co ar st : Int) (nm : ByteArray) (fr : Int) (cl : Bool) (pf px py pz : Int) (fb : Bool) (eb : List (List LV)) (cy : List LV),
    us = logL k now k0 s0 t0 f0 x0 y0 z0 fl0 es0 co ar st nm fr cl pf px py pz fb eb cy ∧ isI k ∧ isI now ∧ ok sRep [V k0, .str s0, V t0, V f0, V x0, V y0, V z0, .sl fl0 es0] ∧ isI co ∧ isI ar ∧ isI st ∧ nm.size < 4294967296 ∧ isI fr ∧ isI pf ∧ isI px ∧ isI py ∧ isI pz ∧ (eb.length < 4294967296 ∧ ∀ e ∈ eb, ok sRd e) ∧ ok sCyc cy := by
  obtain ⟨k, us, rfl, hk, h⟩ := ok_int h
  obtain ⟨now, us, rfl, inow, h⟩ := ok_int h
  obtain ⟨it, us, rfl, hI, h⟩ := app_inv h
  obtain ⟨st, us, rfl, ist, h⟩ := ok_int h
  obtain ⟨nm, us, rfl, inm, h⟩ := ok_str h
  obtain ⟨pe, cy, rfl, hP, hC⟩ := app_inv h
  obtain ⟨rep, us, rfl, hRp, h⟩ := app_inv hI
  obtain ⟨co, us, rfl, ico, h⟩ := ok_int h
  obtain ⟨ar, us, rfl, iar, h⟩ := ok_int h
  rw [ok_nil h] at hI ⊢
  obtain ⟨k0, s0, t0, f0, x0, y0, z0, fl0, es0, rfl⟩ := okRep hRp
  obtain ⟨fr, us, rfl, ifr, h⟩ := ok_int hP
  obtain ⟨cl, us, rfl, h⟩ := ok_bool h
  obtain ⟨pf, us, rfl, ipf, h⟩ := ok_int h
  obtain ⟨px, us, rfl, ipx, h⟩ := ok_int h
  obtain ⟨py, us, rfl, ipy, h⟩ := ok_int h
  obtain ⟨pz, us, rfl, ipz, h⟩ := ok_int h
  obtain ⟨fb, eb, us, rfl, nb, ob, h⟩ := ok_sl h
  rw [ok_nil h] at hP ⊢
  clear h
  have hcyl := okCyc_len hC
  simp only [List.cons_append, List.nil_append] at hP hI ⊢
  exact ⟨k, now, k0, s0, t0, f0, x0, y0, z0, fl0, es0, co, ar, st, nm, fr, cl, pf, px, py, pz, fb, eb, cy, rfl, hk, inow, hRp, ico, iar, ist, inm, ifr, ipf, ipx, ipy, ipz, ⟨nb, ob⟩, hC⟩
theorem bodyE_log {k now k0 : Int} {s0 : ByteArray} {t0 f0 x0 y0 z0 : Int} {fl0 : Bool} {es0 : List (List LV)} {co ar st : Int} {nm : ByteArray} {fr : Int} {cl : Bool} {pf px py pz : Int} {fb : Bool} {eb : List (List LV)} {cy : List LV} :
    bodyE (logL k now k0 s0 t0 f0 x0 y0 z0 fl0 es0 co ar st nm fr cl pf px py pz fb eb cy) =
    if k = 1 then some (b8 k :: be 8 (u64 now)) else if k = 2 then some (b8 k :: (enc sRep [V k0, .str s0, V t0, V f0, V x0, V y0, V z0, .sl fl0 es0] ++ (be 8 (u64 co) ++ be 8 (u64 ar)))) else if k = 3 then some (b8 k :: (be 8 (u64 st) ++ (be 4 nm.size ++ (nm.data.toList ++ (be 8 (u64 fr) ++ ((if cl then 1 else 0) :: (be 8 (u64 pf) ++ (be 8 (u64 px) ++ (be 8 (u64 py) ++ (be 8 (u64 pz) ++ (be 4 eb.length ++ eb.flatMap (enc sRd)))))))))))) else if k = 4 then some (b8 k :: enc sCyc cy) else none := by
  simp [bodyE, logL, intOf, enc, sI, sItem, sRep, sPer, Sch.app]

set_option maxHeartbeats 400000 in
theorem Body_ok {S : LS} (us : List LV) (h : ok sLog us) (hl : ∀ bs, bodyE us = some bs → bs.length ≤ 1073741824) : LCalls Tryz.prog 27 [.agg us] S (BodyR us S) := by
  refine LCalls_introK 0 Tryz.func27 rfl (by kernel_rfl) rfl fun RR hRR => ?_
  obtain ⟨k, now, k0, s0, t0, f0, x0, y0, z0, fl0, es0, co, ar, st, nm, fr, cl, pf, px, py, pz, fb, eb, cy, rfl, hk, inow, hRp, ico, iar, ist, inm, ifr, ipf, ipx, ipy, ipz, ⟨nb, ob⟩, hC⟩ := okLog h
  have hcyl := okCyc_len hC
  have e8 := u8_wrap k
  have htc : cy.take 17 = cy := List.take_of_length_le (by omega)
  unfold BodyR at hRR
  rw [bodyE_log] at hl hRR
  refine Lwp_seq fun KK0 hKK0 => ?_
  refine LregionG [none, none, none] (by kernel_rfl) (by kernel_rfl) ?_
  simp -dsimp only [go_sem, ↓reduceIte, hcyl]
  repeat with_reducible refine And.intro (by first | omega | decide) ?_
  refine hKK0 _ _ ?_
  try clear hKK0 KK0
  refine Lwp_seq fun KK1 hKK1 => ?_
  refine Lwp_boxed (u := .sl true []) (bs := []) 1 38 (logL k now k0 s0 t0 f0 x0 y0 z0 fl0 es0 co ar st nm fr cl pf px py pz fb eb cy) rfl (PutR.refl RowS.nil) (by simp only [go_sem, ↓reduceIte]) fun S1 hpz => ?_
  have hp0 : PutR S (.sl true []) [] [b8 k] (.sl true [[.int .u8 (b8 k).toNat]]) S1 := ⟨⟨fun e he => by simp at he; subst he; rfl, .inl rfl⟩, hpz.2.1, fun _ h => absurd h (by simp [rowIds]), fun h => absurd rfl h⟩
  refine LregionG [none, none, none, none, none] (by kernel_rfl) (by kernel_rfl) ?_
  simp -dsimp only [go_sem, ↓reduceIte, e8]
  repeat with_reducible refine And.intro (by first | omega | decide) ?_
  refine hKK1 _ _ ?_
  try clear hKK1 KK1
  refine Lwp_seq fun KK2 hKK2 => ?_
  refine Lwp_seq fun KK3 hKK3 => ?_
  refine LregionG [none, none] (by kernel_rfl) (by kernel_rfl) ?_
  simp -dsimp only [go_sem, ↓reduceIte]
  repeat with_reducible refine And.intro (by first | omega | decide) ?_
  refine hKK3 _ _ ?_
  try clear hKK3 KK3
  refine Lwp_block ?_
  refine Lwp_seq fun KK4 hKK4 => ?_
  refine LregionG [none, none] (by kernel_rfl) (by kernel_rfl) ?_
  simp -dsimp only [go_sem, ↓reduceIte]
  repeat with_reducible refine And.intro (by first | omega | decide) ?_
  refine hKK4 _ _ ?_
  try clear hKK4 KK4
  refine Lwp_cond (by simp only [go_sem, ↓reduceIte]; rfl) (fun ht => ?_) (fun hf => ?_)
  · skip
    have ht1 : k = 1 := by simpa using ht
    simp only [ht1, Int.reduceEq, if_true, if_false, Option.some.injEq, forall_eq'] at hl hRR
    have hl2 := hl
    refine Lwp_seq fun KK5 hKK5 => ?_
    refine LregionG [none, none, none, none, none, none, none] (by kernel_rfl) (by kernel_rfl) ?_
    simp -dsimp only [go_sem, ↓reduceIte]
    repeat with_reducible refine And.intro (by first | omega | decide | assumption) ?_
    refine Put.kk (PI1 now inow) (hp0) (by (try clear e8); (try clear hbE); simp only [List.length_append, List.length_cons, List.length_nil, be_length] at hl2 ⊢; omega) ?_
    rintro r S2 hp
    simp -dsimp only [go_sem, ↓reduceIte]
    refine hKK5 _ _ ?_
    try clear hKK5 KK5
    refine Lwp_ret ?_
    simp only [LThen, LBlock, LPost, Tryz.results27]
    simp -dsimp only [go_sem, ↓reduceIte]
    exact ret_keep (hRR _ _ ⟨_, rfl, hp.cast (by simp [ht1])⟩)
  · skip
    have hf1 : ¬ k = 1 := by simpa using hf
    refine Lwp_seq fun KK6 hKK6 => ?_
    refine LregionG [none, none] (by kernel_rfl) (by kernel_rfl) ?_
    simp -dsimp only [go_sem, ↓reduceIte]
    repeat with_reducible refine And.intro (by first | omega | decide) ?_
    refine hKK6 _ _ ?_
    try clear hKK6 KK6
    refine Lwp_cond (by simp only [go_sem, ↓reduceIte]; rfl) (fun ht => ?_) (fun hf => ?_)
    · skip
      have ht1 : k = 2 := by simpa using ht
      simp only [ht1, Int.reduceEq, if_true, if_false, Option.some.injEq, forall_eq'] at hl hRR
      have hl2 := hl
      refine Lwp_seq fun KK7 hKK7 => ?_
      refine LdrawE [0,1,2,3,5,6,7,8,9,10,11,4,12,13,14] [] none (by kernel_rfl) (by kernel_rfl) (by kernel_rfl) (by kernel_rfl) (by simp [Watch.holds]) ?_
      simp -dsimp only [go_sem, ↓reduceIte]
      repeat with_reducible refine And.intro (by first | omega | decide | assumption) ?_
      refine Put.kk (PutReport _ hRp) (hp0) (by (try clear e8); (try clear hbE); simp only [List.length_append, List.length_cons, List.length_nil, be_length] at hl2 ⊢; omega) ?_
      rintro r S2 hp
      simp -dsimp only [go_sem, ↓reduceIte]
      repeat with_reducible refine And.intro (by first | omega | decide | assumption) ?_
      refine Put.kk (PI2 co ar ico iar) (hp) (by (try clear e8); (try clear hbE); simp only [List.length_append, List.length_cons, List.length_nil, be_length] at hl2 ⊢; omega) ?_
      rintro r S2 hp
      simp -dsimp only [go_sem, ↓reduceIte]
      refine hKK7 _ _ ?_
      try clear hKK7 KK7
      refine Lwp_ret ?_
      simp only [LThen, LBlock, LPost, Tryz.results27]
      simp -dsimp only [go_sem, ↓reduceIte]
      exact ret_keep (hRR _ _ ⟨_, rfl, hp.cast (by simp [ht1])⟩)
    · skip
      have hf2 : ¬ k = 2 := by simpa using hf
      refine Lwp_seq fun KK8 hKK8 => ?_
      refine LregionG [none, none] (by kernel_rfl) (by kernel_rfl) ?_
      simp -dsimp only [go_sem, ↓reduceIte]
      repeat with_reducible refine And.intro (by first | omega | decide) ?_
      refine hKK8 _ _ ?_
      try clear hKK8 KK8
      refine Lwp_cond (by simp only [go_sem, ↓reduceIte]; rfl) (fun ht => ?_) (fun hf => ?_)
      · skip
        have ht1 : k = 3 := by simpa using ht
        simp only [ht1, Int.reduceEq, if_true, if_false, Option.some.injEq, forall_eq'] at hl hRR
        have hl2 := hl
        refine Lwp_seq fun KK9 hKK9 => ?_
        refine LdrawE [0,1,2,3,5,6,4,7,8] [] none (by kernel_rfl) (by kernel_rfl) (by kernel_rfl) (by kernel_rfl) (by simp [Watch.holds]) ?_
        simp -dsimp only [go_sem, ↓reduceIte]
        repeat with_reducible refine And.intro (by first | omega | decide | assumption) ?_
        refine Put.kk (PI1 st ist) (hp0) (by (try clear e8); (try clear hbE); simp only [List.length_append, List.length_cons, List.length_nil, be_length] at hl2 ⊢; omega) ?_
        rintro r S2 hp
        simp -dsimp only [go_sem, ↓reduceIte]
        repeat with_reducible refine And.intro (by first | omega | decide | assumption) ?_
        refine Put.kk (PutString nm inm) (hp) (by (try clear e8); (try clear hbE); simp only [List.length_append, List.length_cons, List.length_nil, be_length] at hl2 ⊢; omega) ?_
        rintro r S2 hp
        simp -dsimp only [go_sem, ↓reduceIte]
        refine hKK9 _ _ ?_
        try clear hKK9 KK9
        refine Lwp_seq fun KK10 hKK10 => ?_
        refine LdrawE [0,1,2,3,4,6,7,8,5,9,10] [] none (by kernel_rfl) (by kernel_rfl) (by kernel_rfl) (by kernel_rfl) (by simp [Watch.holds]) ?_
        simp -dsimp only [go_sem, ↓reduceIte]
        repeat with_reducible refine And.intro (by first | omega | decide | assumption) ?_
        refine Put.kk (PI1 fr ifr) (hp) (by (try clear e8); (try clear hbE); simp only [List.length_append, List.length_cons, List.length_nil, be_length] at hl2 ⊢; omega) ?_
        rintro r S2 hp
        simp -dsimp only [go_sem, ↓reduceIte]
        repeat with_reducible refine And.intro (by first | omega | decide | assumption) ?_
        refine Put.kk (PutBool cl) (hp) (by (try clear e8); (try clear hbE); simp only [List.length_append, List.length_cons, List.length_nil, be_length] at hl2 ⊢; omega) ?_
        rintro r S2 hp
        simp -dsimp only [go_sem, ↓reduceIte]
        refine hKK10 _ _ ?_
        try clear hKK10 KK10
        refine Lwp_seq fun KK11 hKK11 => ?_
        refine LdrawE [0,1,2,3,5,6,7,4,8,9,10] [] none (by kernel_rfl) (by kernel_rfl) (by kernel_rfl) (by kernel_rfl) (by simp [Watch.holds]) ?_
        simp -dsimp only [go_sem, ↓reduceIte]
        repeat with_reducible refine And.intro (by first | omega | decide | assumption) ?_
        refine Put.kk (PutPlace pf px py pz ipf ipx ipy ipz) (hp) (by (try clear e8); (try clear hbE); simp only [List.length_append, List.length_cons, List.length_nil, be_length] at hl2 ⊢; omega) ?_
        rintro r S2 hp
        simp -dsimp only [go_sem, ↓reduceIte]
        repeat with_reducible refine And.intro (by first | omega | decide | assumption) ?_
        refine Put.kk (PutReadings fb eb ob nb) (hp) (by (try clear e8); (try clear hbE); simp only [List.length_append, List.length_cons, List.length_nil, be_length] at hl2 ⊢; omega) ?_
        rintro r S2 hp
        simp -dsimp only [go_sem, ↓reduceIte]
        refine hKK11 _ _ ?_
        try clear hKK11 KK11
        refine Lwp_ret ?_
        simp only [LThen, LBlock, LPost, Tryz.results27]
        simp -dsimp only [go_sem, ↓reduceIte]
        exact ret_keep (hRR _ _ ⟨_, rfl, hp.cast (by simp [ht1])⟩)
      · skip
        have hf3 : ¬ k = 3 := by simpa using hf
        refine Lwp_seq fun KK12 hKK12 => ?_
        refine LregionG [none, none] (by kernel_rfl) (by kernel_rfl) ?_
        simp -dsimp only [go_sem, ↓reduceIte]
        repeat with_reducible refine And.intro (by first | omega | decide) ?_
        refine hKK12 _ _ ?_
        try clear hKK12 KK12
        refine Lwp_cond (by simp only [go_sem, ↓reduceIte]; rfl) (fun ht => ?_) (fun hf => ?_)
        · skip
          have ht1 : k = 4 := by simpa using ht
          simp only [ht1, Int.reduceEq, if_true, if_false, Option.some.injEq, forall_eq'] at hl hRR
          have hl2 := hl
          refine Lwp_seq fun KK13 hKK13 => ?_
          refine LregionG [none, none, none, none, none, none] (by kernel_rfl) (by kernel_rfl) ?_
          simp -dsimp only [go_sem, ↓reduceIte, htc]
          repeat with_reducible refine And.intro (by first | omega | decide | assumption) ?_
          refine Put.kk (PutCycle cy hC) (hp0) (by (try clear e8); (try clear hbE); simp only [List.length_append, List.length_cons, List.length_nil, be_length] at hl2 ⊢; omega) ?_
          rintro r S2 hp
          simp -dsimp only [go_sem, ↓reduceIte]
          refine hKK13 _ _ ?_
          try clear hKK13 KK13
          refine Lwp_ret ?_
          simp only [LThen, LBlock, LPost, Tryz.results27]
          simp -dsimp only [go_sem, ↓reduceIte]
          exact ret_keep (hRR _ _ ⟨_, rfl, hp.cast (by simp [ht1])⟩)
        · skip
          have hf4 : ¬ k = 4 := by simpa using hf
          simp only [hf1, hf2, hf3, hf4, if_false] at hRR
          refine Lwp_skip ?_
          try simp -dsimp only [go_sem, ↓reduceIte]
          refine hKK2 _ _ ?_
          try clear hKK2 KK2
          refine Lwp_seq fun KK14 hKK14 => ?_
          refine LregionG [none, none] (by kernel_rfl) (by kernel_rfl) ?_
          simp -dsimp only [go_sem, ↓reduceIte]
          repeat with_reducible refine And.intro (by first | omega | decide) ?_
          refine hKK14 _ _ ?_
          try clear hKK14 KK14
          refine Lwp_ret ?_
          simp only [LThen, LBlock, LPost, Tryz.results27]
          simp -dsimp only [go_sem, ↓reduceIte]
          exact ret_keep (hRR _ _ ⟨rfl, hpz.2.1⟩)

end Go.Proofs.YtdhngmldmalbbaaGreat
end
section
set_option linter.all false
namespace Go.Proofs.YtdhngmldmalbbaaGreat
open Go.Lift Go.RowKit Go.Store
set_option linter.unusedSimpArgs false
set_option linter.unusedVariables false

def chkN (bs : List UInt8) : Nat := bs.foldl (fun s b => (s * 31 + b.toNat) % 4294967291) 1
theorem chkN_take {bs : List UInt8} {k : Nat} (h : k < bs.length) : chkN (bs.take (k + 1)) = (chkN (bs.take k) * 31 + (bs.getD k 0).toNat) % 4294967291 := by
  unfold chkN
  rw [List.take_succ_eq_append_getElem h, List.foldl_append, List.getD_eq_getElem?_getD, List.getElem?_eq_getElem h]
  rfl
theorem chk_lt : ∀ (bs : List UInt8) (s : Nat), s < 4294967291 → bs.foldl (fun s b => (s * 31 + b.toNat) % 4294967291) s < 4294967291
  | [], s, h => h
  | b :: bs, s, h => chk_lt bs _ (Nat.mod_lt _ (by decide))
theorem chkN_lt (bs : List UInt8) : chkN bs < 4294967291 := chk_lt bs 1 (by decide)
theorem chk_step (s b : Nat) (hs : s < 4294967291) (hb : b < 256) : Int.tmod (IntKind.u64.wrap (IntKind.u64.wrap ((s : Int) * 31) + (b : Int))) 4294967291 = (((s * 31 + b) % 4294967291 : Nat) : Int) := by
  have e1 : IntKind.u64.wrap ((s : Int) * 31) = (s : Int) * 31 := wu64 (by omega) (by omega)
  have e2 : IntKind.u64.wrap ((s : Int) * 31 + (b : Int)) = (s : Int) * 31 + b := wu64 (by omega) (by omega)
  rw [e1, e2, Int.tmod_eq_emod_of_nonneg (by omega)]
  omega
/-- a slice of bytes, known or in the store. -/
def Rd (S : LS) (u : LV) (bs : List UInt8) : Prop := (∃ f, u = .sl f (bs.map u8c)) ∨ ∃ id, u = .ref id 0 bs.length ∧ S[id]? = some (some (1, bs.map u8c))
theorem Acc.rd {S : LS} {u : LV} {bs : List UInt8} (h : Acc S u bs) : Rd S u bs := by
  rcases h.2 with h | ⟨id, g1, g2, g3⟩
  · exact .inl ⟨_, h⟩
  · exact .inr ⟨id, by rw [g2, List.length_map], g3⟩

set_option maxHeartbeats 400000 in
theorem Chk_sl {S : LS} (bs : List UInt8) (hn : bs.length ≤ 1099511627776) (f : Bool) : LCalls Tryz.prog 35 [.sl f (bs.map u8c)] S (fun r S' => r = .int .u64 (chkN bs) ∧ S' = S) := by
  refine LCalls_introK 0 Tryz.func35 rfl (by kernel_rfl) rfl fun RR hRR => ?_
  refine Lwp_seq fun KK0 hKK0 => ?_
  refine LregionG [none] (by kernel_rfl) (by kernel_rfl) ?_
  simp -dsimp only [go_sem, ↓reduceIte]
  repeat with_reducible refine And.intro (by first | omega | decide) ?_
  refine hKK0 _ _ ?_
  try clear hKK0 KK0
  refine Lwp_seq fun KK1 hKK1 => ?_
  refine LregionG [none] (by kernel_rfl) (by kernel_rfl) ?_
  simp -dsimp only [go_sem, ↓reduceIte]
  repeat with_reducible refine And.intro (by first | omega | decide) ?_
  refine hKK1 _ _ ?_
  try clear hKK1 KK1
  refine Lwp_seq fun KK2 hKK2 => ?_
  refine Lwp_seq fun KK3 hKK3 => ?_
  refine LregionG [none] (by kernel_rfl) (by kernel_rfl) ?_
  simp -dsimp only [go_sem, ↓reduceIte]
  repeat with_reducible refine And.intro (by first | omega | decide) ?_
  refine hKK3 _ _ ?_
  try clear hKK3 KK3
  refine Lwp_block ?_
  refine Lwp_loopK [0, 3, 4] (fun m us S' => ∃ k : Nat, us = [.sl f (bs.map u8c), .int .u64 (chkN (bs.take k)), V k] ∧ S' = S ∧ k ≤ bs.length ∧ m = bs.length - k) bs.length rfl (⟨0, by simp only [go_sem, ↓reduceIte, Int.natCast_zero]; rfl, rfl, Nat.zero_le _, rfl⟩) ?_
  rintro m us S2 ⟨k, rfl, rfl, hk, hm⟩ II hII
  refine Lwp_seq fun KK4 hKK4 => ?_
  refine Lwp_seq fun KK5 hKK5 => ?_
  refine LregionG [none, none, none, none] (by kernel_rfl) (by kernel_rfl) ?_
  simp -dsimp only [go_sem, ↓reduceIte]
  repeat with_reducible refine And.intro (by first | omega | decide) ?_
  refine hKK5 _ _ ?_
  try clear hKK5 KK5
  refine Lwp_cond (by simp only [go_sem, ↓reduceIte]; rfl) (fun ht => ?_) (fun hf => ?_)
  · skip
    have hk : k < bs.length := by simpa using ht
    have hb : (bs.getD k 0).toNat < 256 := (bs.getD k 0).toNat_lt
    have e1 := chk_step (chkN (bs.take k)) (bs.getD k 0).toNat (chkN_lt _) hb
    have e0 := u8c_getD hk
    have e5 : (bs.map u8c)[k]? = some [.int .u8 (bs.getD k 0).toNat] := by
      rw [List.getElem?_map, List.getD_eq_getElem?_getD, List.getElem?_eq_getElem hk]; rfl
    rw [← chkN_take hk] at e1
    have e2 : IntKind.i64.wrap ((k : Int) + 1) = ((k + 1 : Nat) : Int) := w64 (by omega) (by omega)
    have e3 : IntKind.u64.wrap (((bs.getD k 0).toNat : Nat) : Int) = (((bs.getD k 0).toNat : Nat) : Int) := wu64 (by omega) (by omega)
    refine Lwp_skip ?_
    try simp -dsimp only [go_sem, ↓reduceIte]
    refine hKK4 _ _ ?_
    try clear hKK4 KK4
    refine Lwp_seq fun KK6 hKK6 => ?_
    refine Lwp_block ?_
    refine LregionG [none, none, none, none, none, none, none, none, none, none] (by kernel_rfl) (by kernel_rfl) ?_
    simp -dsimp only [go_sem, ↓reduceIte, e0, e1, e3]
    repeat with_reducible refine And.intro (by first | omega | decide) ?_
    refine hKK6 _ _ ?_
    try clear hKK6 KK6
    refine LregionG [none, none, none] (by kernel_rfl) (by kernel_rfl) ?_
    simp -dsimp only [go_sem, ↓reduceIte, e2]
    repeat with_reducible refine And.intro (by first | omega | decide) ?_
    exact hII (bs.length - (k + 1)) _ _ (by omega) ⟨k + 1, rfl, rfl, hk, rfl⟩
  · skip
    obtain rfl : k = bs.length := Nat.le_antisymm hk (Nat.le_of_not_lt (by simpa using hf))
    rw [List.take_length]
    refine Lwp_exit ?_
    simp -dsimp only [go_sem, ↓reduceIte]
    refine hKK2 _ _ ?_
    try clear hKK2 KK2
    refine Lwp_seq fun KK7 hKK7 => ?_
    refine LregionG [none, none] (by kernel_rfl) (by kernel_rfl) ?_
    simp -dsimp only [go_sem, ↓reduceIte]
    repeat with_reducible refine And.intro (by first | omega | decide) ?_
    refine hKK7 _ _ ?_
    try clear hKK7 KK7
    refine Lwp_ret ?_
    simp only [LThen, LBlock, LPost, Tryz.results35]
    simp -dsimp only [go_sem, ↓reduceIte]
    refine ret_self (by simp only [go_sem, ↓reduceIte, LV.lt, ltL, ltLL]) ?_
    try simp only [go_sem, ↓reduceIte]
    exact hRR _ _ ⟨rfl, rfl⟩

set_option maxHeartbeats 400000 in
theorem Chk_ref {S : LS} (bs : List UInt8) (hn : bs.length ≤ 1099511627776) (id : Nat) (hid : S[id]? = some (some (1, bs.map u8c))) : LCalls Tryz.prog 35 [.ref id 0 bs.length] S (fun r S' => r = .int .u64 (chkN bs) ∧ S' = S) := by
  refine LCalls_introK 0 Tryz.func35 rfl (by kernel_rfl) rfl fun RR hRR => ?_
  refine Lwp_seq fun KK0 hKK0 => ?_
  refine LregionG [none] (by kernel_rfl) (by kernel_rfl) ?_
  simp -dsimp only [go_sem, ↓reduceIte]
  repeat with_reducible refine And.intro (by first | omega | decide) ?_
  refine hKK0 _ _ ?_
  try clear hKK0 KK0
  refine Lwp_seq fun KK1 hKK1 => ?_
  refine LregionG [none] (by kernel_rfl) (by kernel_rfl) ?_
  simp -dsimp only [go_sem, ↓reduceIte]
  repeat with_reducible refine And.intro (by first | omega | decide) ?_
  refine hKK1 _ _ ?_
  try clear hKK1 KK1
  refine Lwp_seq fun KK2 hKK2 => ?_
  refine Lwp_seq fun KK3 hKK3 => ?_
  refine LregionG [none] (by kernel_rfl) (by kernel_rfl) ?_
  simp -dsimp only [go_sem, ↓reduceIte]
  repeat with_reducible refine And.intro (by first | omega | decide) ?_
  refine hKK3 _ _ ?_
  try clear hKK3 KK3
  refine Lwp_block ?_
  refine Lwp_loopK [0, 3, 4] (fun m us S' => ∃ k : Nat, us = [.ref id 0 bs.length, .int .u64 (chkN (bs.take k)), V k] ∧ S' = S ∧ k ≤ bs.length ∧ m = bs.length - k) bs.length rfl (⟨0, by simp only [go_sem, ↓reduceIte, Int.natCast_zero]; rfl, rfl, Nat.zero_le _, rfl⟩) ?_
  rintro m us S2 ⟨k, rfl, rfl, hk, hm⟩ II hII
  refine Lwp_seq fun KK4 hKK4 => ?_
  refine Lwp_seq fun KK5 hKK5 => ?_
  refine LregionG [none, none, none, none] (by kernel_rfl) (by kernel_rfl) ?_
  simp -dsimp only [go_sem, ↓reduceIte]
  repeat with_reducible refine And.intro (by first | omega | decide) ?_
  refine hKK5 _ _ ?_
  try clear hKK5 KK5
  refine Lwp_cond (by simp only [go_sem, ↓reduceIte]; rfl) (fun ht => ?_) (fun hf => ?_)
  · skip
    have hk : k < bs.length := by simpa using ht
    have hb : (bs.getD k 0).toNat < 256 := (bs.getD k 0).toNat_lt
    have e1 := chk_step (chkN (bs.take k)) (bs.getD k 0).toNat (chkN_lt _) hb
    have e0 := u8c_getD hk
    have e5 : (bs.map u8c)[k]? = some [.int .u8 (bs.getD k 0).toNat] := by
      rw [List.getElem?_map, List.getD_eq_getElem?_getD, List.getElem?_eq_getElem hk]; rfl
    rw [← chkN_take hk] at e1
    have e2 : IntKind.i64.wrap ((k : Int) + 1) = ((k + 1 : Nat) : Int) := w64 (by omega) (by omega)
    have e3 : IntKind.u64.wrap (((bs.getD k 0).toNat : Nat) : Int) = (((bs.getD k 0).toNat : Nat) : Int) := wu64 (by omega) (by omega)
    refine Lwp_skip ?_
    try simp -dsimp only [go_sem, ↓reduceIte]
    refine hKK4 _ _ ?_
    try clear hKK4 KK4
    refine Lwp_seq fun KK6 hKK6 => ?_
    refine Lwp_block ?_
    refine LregionG [none, none, none, none, none, none, none, none, none, none] (by kernel_rfl) (by kernel_rfl) ?_
    simp -dsimp only [go_sem, ↓reduceIte, e0, e1, e3, hid, Option.join_some, Nat.zero_add, e5]
    repeat with_reducible refine And.intro (by first | omega | decide) ?_
    refine hKK6 _ _ ?_
    try clear hKK6 KK6
    refine LregionG [none, none, none] (by kernel_rfl) (by kernel_rfl) ?_
    simp -dsimp only [go_sem, ↓reduceIte, e2]
    repeat with_reducible refine And.intro (by first | omega | decide) ?_
    exact hII (bs.length - (k + 1)) _ _ (by omega) ⟨k + 1, rfl, rfl, hk, rfl⟩
  · skip
    obtain rfl : k = bs.length := Nat.le_antisymm hk (Nat.le_of_not_lt (by simpa using hf))
    rw [List.take_length]
    refine Lwp_exit ?_
    simp -dsimp only [go_sem, ↓reduceIte]
    refine hKK2 _ _ ?_
    try clear hKK2 KK2
    refine Lwp_seq fun KK7 hKK7 => ?_
    refine LregionG [none, none] (by kernel_rfl) (by kernel_rfl) ?_
    simp -dsimp only [go_sem, ↓reduceIte]
    repeat with_reducible refine And.intro (by first | omega | decide) ?_
    refine hKK7 _ _ ?_
    try clear hKK7 KK7
    refine Lwp_ret ?_
    simp only [LThen, LBlock, LPost, Tryz.results35]
    simp -dsimp only [go_sem, ↓reduceIte]
    refine ret_self (by simp only [go_sem, ↓reduceIte, LV.lt, ltL, ltLL]) ?_
    try simp only [go_sem, ↓reduceIte]
    exact hRR _ _ ⟨rfl, rfl⟩


theorem Chk_ok {S : LS} {u : LV} {bs : List UInt8} (h : Rd S u bs) (hn : bs.length ≤ 1099511627776) : LCalls Tryz.prog 35 [u] S (fun r S' => r = .int .u64 (chkN bs) ∧ S' = S) := by
  rcases h with ⟨f, rfl⟩ | ⟨id, rfl, hid⟩
  · exact Chk_sl bs hn f
  · exact Chk_ref bs hn id hid

end Go.Proofs.YtdhngmldmalbbaaGreat
end
section
set_option linter.all false
namespace Go.Proofs.YtdhngmldmalbbaaGreat
open Go.Lift Go.RowKit Go.Store
set_option linter.unusedSimpArgs false
set_option linter.unusedVariables false

theorem okLog_len {us : List LV} (h : ok sLog us) : us.length = 38 := by
  obtain ⟨k, now, k0, s0, t0, f0, x0, y0, z0, fl0, es0, co, ar, st, nm, fr, cl, pf, px, py, pz, fb, eb, cy, rfl, hk, inow, hRp, ico, iar, ist, inm, ifr, ipf, ipx, ipy, ipz, ⟨nb, ob⟩, hC⟩ := okLog h
  simp [logL, okCyc_len hC]
theorem Rd.src {S : LS} {u : LV} {bs : List UInt8} (h : Rd S u bs) : srcC S.g u ∧ srcG S.g u = some (bs.map u8c) := by
  rcases h with ⟨f, rfl⟩ | ⟨id, rfl, hid⟩
  · exact ⟨trivial, rfl⟩
  · have hg : S.g id = some (1, bs.map u8c) := by simp [LS.g, hid]
    have ht : (bs.map u8c).take bs.length = bs.map u8c := List.take_of_length_le (by simp)
    constructor
    · simp [srcC, hg]
    · simp [srcG, hg, ht]
theorem Rd.keep {S S' : LS} {u : LV} {bs : List UInt8} {ids : List Nat} (h : Rd S u bs) (hk : Keeps S S' ids) (hd : ∀ id ∈ rowIds u, id ∉ ids) : Rd S' u bs := by
  rcases h with h | ⟨id, rfl, hid⟩
  · exact .inl h
  · exact .inr ⟨id, rfl, hk.get hid (hd id (by simp [rowIds]))⟩
theorem NewR.after {S S1 S' : LS} {ys : List UInt8} {r : LV} (h : Keeps S S1 []) (h' : NewR S1 ys r S') : NewR S ys r S' :=
  ⟨h'.1, h.trans h'.2.1 (fun _ _ h => h.elim id id), fun id hid => (h'.2.2.1 id hid).elim (fun h => absurd h (by simp [rowIds])) fun hh => .inr (Nat.le_trans h.1 hh), h'.2.2.2⟩
theorem NewR.acc {S S' : LS} {ys : List UInt8} {r : LV} (h : NewR S ys r S') : Acc S' r ys := by
  have := h.1
  rwa [List.nil_append] at this
theorem NewR.nil (S : LS) : NewR S [] (.sl true []) S := PutR.refl RowS.nil

/-- the entry as it is kept. -/
def framed (bs : List UInt8) : List UInt8 := be 4 bs.length ++ bs ++ be 4 (chkN (be 4 bs.length ++ bs))
/-- what a call of 'Encode' gives. -/
def EncR (us : List LV) (S : LS) (r : LV) (S' : LS) : Prop :=
  match bodyE us with
  | some bs => if bs.length + 8 ≤ 1048576 then ∃ u, r = .tup [u, V 0] ∧ NewR S (framed bs) u S' else r = .tup [.sl true [], V 2] ∧ Keeps S S' []
  | none => r = .tup [.sl true [], V 4] ∧ Keeps S S' []


theorem BodyR.cs {us : List LV} {S S' : LS} {r : LV} (h : BodyR us S r S') : (bodyE us = none ∧ r = .tup [.sl true [], .bool false] ∧ Keeps S S' []) ∨ (∃ bs f, bodyE us = some bs ∧ r = .tup [.sl f (bs.map u8c), .bool true] ∧ NewR S bs (.sl f (bs.map u8c)) S') ∨
    ∃ bs id, bodyE us = some bs ∧ r = .tup [.ref id 0 bs.length, .bool true] ∧ S'[id]? = some (some (1, bs.map u8c)) ∧ NewR S bs (.ref id 0 bs.length) S' := by
  unfold BodyR at h
  cases hE : bodyE us with
  | none => rw [hE] at h; exact .inl ⟨rfl, h.1, h.2⟩
  | some bs =>
    rw [hE] at h
    obtain ⟨u, rfl, hN⟩ := h
    rcases hN.acc.rd with ⟨f, rfl⟩ | ⟨id, rfl, hid⟩
    · exact .inr (.inl ⟨bs, f, rfl, rfl, hN⟩)
    · exact .inr (.inr ⟨bs, id, rfl, rfl, hid, hN⟩)

set_option maxHeartbeats 400000 in
theorem Encode_ok {S : LS} (us : List LV) (h : ok sLog us) (hl : ∀ bs, bodyE us = some bs → bs.length ≤ 1073741824) : LCalls Tryz.prog 25 [.agg us] S (EncR us S) := by
  refine LCalls_introK 0 Tryz.func25 rfl (by kernel_rfl) rfl fun RR hRR => ?_
  have hlen := okLog_len h
  have htk : us.take 38 = us := List.take_of_length_le (by omega)
  unfold EncR at hRR
  refine Lwp_seq fun KK0 hKK0 => ?_
  refine LregionG [none, none, none] (by kernel_rfl) (by kernel_rfl) ?_
  simp -dsimp only [go_sem, ↓reduceIte, hlen]
  repeat with_reducible refine And.intro (by first | omega | decide) ?_
  refine hKK0 _ _ ?_
  try clear hKK0 KK0
  refine Lwp_seq fun KK1 hKK1 => ?_
  refine Lwp_boxed (u := .sl true []) (bs := []) 1 38 us rfl (PutR.refl RowS.nil) (by simp only [go_sem, ↓reduceIte]) fun S1 hpz => ?_
  have hK1 : Keeps S S1 [] := hpz.2.1
  refine LregionG [none, none, none, none, none, none, none] (by kernel_rfl) (by kernel_rfl) ?_
  simp -dsimp only [go_sem, ↓reduceIte, hlen, htk]
  refine (Body_ok us h hl).k ?_
  intro r S2 hb
  rcases hb.cs with hb | hb | hb
  · skip
    obtain ⟨hE, rfl, hK2⟩ := hb
    rw [hE] at hRR
    have hK := hK1.trans hK2 (ids'' := []) (fun _ _ h => h.elim id id)
    simp -dsimp only [go_sem, ↓reduceIte]
    refine hKK1 _ _ ?_
    try clear hKK1 KK1
    refine Lwp_seq fun KK2 hKK2 => ?_
    refine Lwp_seq fun KK3 hKK3 => ?_
    refine LregionG [none, none] (by kernel_rfl) (by kernel_rfl) ?_
    simp -dsimp only [go_sem, ↓reduceIte]
    repeat with_reducible refine And.intro (by first | omega | decide) ?_
    refine hKK3 _ _ ?_
    try clear hKK3 KK3
    refine Lwp_cond (by simp only [go_sem, ↓reduceIte]; rfl) (fun ht => ?_) (fun hf => ?_)
    · skip
      
      refine Lwp_seq fun KK4 hKK4 => ?_
      refine LregionG [none, none] (by kernel_rfl) (by kernel_rfl) ?_
      simp -dsimp only [go_sem, ↓reduceIte]
      repeat with_reducible refine And.intro (by first | omega | decide) ?_
      refine hKK4 _ _ ?_
      try clear hKK4 KK4
      refine Lwp_ret ?_
      simp only [LThen, LBlock, LPost, Tryz.results25]
      simp -dsimp only [go_sem, ↓reduceIte]
      exact ret_keep (hRR _ _ ⟨rfl, hK⟩)
    · skip
      cases hf
  · skip
    obtain ⟨bs, f, hE, rfl, hN⟩ := hb
    have hK := hK1.trans hN.2.1 (ids'' := []) (fun _ _ h => h.elim id id)
    have hbl := hl bs hE
    have hrd := hN.acc.rd
    rw [hE] at hRR
    simp only [] at hRR
    have e1 : IntKind.i64.wrap ((bs.length : Int) + 8) = (bs.length : Int) + 8 := w64 (by omega) (by omega)
    have e2 := u64_wrapN (n := bs.length) (by clear e1; omega)
    simp -dsimp only [go_sem, ↓reduceIte]
    refine hKK1 _ _ ?_
    try clear hKK1 KK1
    refine Lwp_seq fun KK5 hKK5 => ?_
    refine Lwp_seq fun KK6 hKK6 => ?_
    refine LregionG [none, none] (by kernel_rfl) (by kernel_rfl) ?_
    simp -dsimp only [go_sem, ↓reduceIte]
    repeat with_reducible refine And.intro (by first | omega | decide) ?_
    refine hKK6 _ _ ?_
    try clear hKK6 KK6
    refine Lwp_cond (by simp only [go_sem, ↓reduceIte]; rfl) (fun ht => ?_) (fun hf => ?_)
    · skip
      cases ht
    · skip
      refine Lwp_skip ?_
      try simp -dsimp only [go_sem, ↓reduceIte]
      refine hKK5 _ _ ?_
      try clear hKK5 KK5
      refine Lwp_seq fun KK7 hKK7 => ?_
      refine Lwp_seq fun KK8 hKK8 => ?_
      refine LregionG [none, none, none, none] (by kernel_rfl) (by kernel_rfl) ?_
      simp -dsimp only [go_sem, ↓reduceIte, e1]
      repeat with_reducible refine And.intro (by first | omega | decide) ?_
      refine hKK8 _ _ ?_
      try clear hKK8 KK8
      refine Lwp_cond (by simp only [go_sem, ↓reduceIte]; rfl) (fun ht => ?_) (fun hf => ?_)
      · skip
        have hgt : ¬ bs.length + 8 ≤ 1048576 := by simp at ht; omega
        simp only [hgt, if_false] at hRR
        refine Lwp_seq fun KK9 hKK9 => ?_
        refine LregionG [none, none] (by kernel_rfl) (by kernel_rfl) ?_
        simp -dsimp only [go_sem, ↓reduceIte]
        repeat with_reducible refine And.intro (by first | omega | decide) ?_
        refine hKK9 _ _ ?_
        try clear hKK9 KK9
        refine Lwp_ret ?_
        simp only [LThen, LBlock, LPost, Tryz.results25]
        simp -dsimp only [go_sem, ↓reduceIte]
        exact ret_keep (hRR _ _ ⟨rfl, hK⟩)
      · skip
        have hle : bs.length + 8 ≤ 1048576 := by simp at hf; omega
        simp only [hle, if_true] at hRR
        refine Lwp_skip ?_
        try simp -dsimp only [go_sem, ↓reduceIte]
        refine hKK7 _ _ ?_
        try clear hKK7 KK7
        refine Lwp_seq fun KK10 hKK10 => ?_
        refine LregionG [none, none, none, none, none, none, none] (by kernel_rfl) (by kernel_rfl) ?_
        simp -dsimp only [go_sem, ↓reduceIte, e2]
        repeat with_reducible refine And.intro (by first | omega | decide | assumption) ?_
        refine Put.kk (Put4 bs.length (by clear e1 e2; omega)) (NewR.nil S2) (by (try clear e1 e2 e3); simp only [List.length_append, List.length_nil, be_length]; omega) ?_
        rintro r S3 hp
        simp -dsimp only [go_sem, ↓reduceIte]
        have hrd3 := hrd.keep hp.2.1 (fun _ _ h => absurd h (by simp [rowIds]))
        repeat with_reducible refine And.intro (by first | omega | decide | assumption) ?_
        refine PutR.apd (zs := bs) hp rfl (by simp only [go_sem]; rfl) (by simp only [go_sem]; first | exact ⟨rfl, rfl⟩ | exact ⟨rfl, rfl, rfl⟩ | rfl) (by simp only [go_sem]) (hrd3.src.1) (hrd3.src.2) (by (try clear e1 e2 e3); simp only [List.length_append, List.length_nil, be_length]; omega) ?_
        rintro r2 S4 hp2
        have e3 := u64_wrapN (n := chkN (be 4 bs.length ++ bs)) (by have := chkN_lt (be 4 bs.length ++ bs); omega)
        have hN4 : NewR S2 (be 4 bs.length ++ bs) r2 S4 := hp2
        simp -dsimp only [go_sem, ↓reduceIte]
        refine hKK10 _ _ ?_
        try clear hKK10 KK10
        refine Lwp_seq fun KK11 hKK11 => ?_
        refine LregionG [none, none, none, none, none, none] (by kernel_rfl) (by kernel_rfl) ?_
        simp -dsimp only [go_sem, ↓reduceIte]
        refine (Chk_ok hN4.acc.rd (by simp only [List.length_append, be_length]; omega)).k ?_
        rintro _ _ ⟨rfl, rfl⟩
        simp -dsimp only [go_sem, ↓reduceIte, e3]
        repeat with_reducible refine And.intro (by first | omega | decide | assumption) ?_
        refine Put.kk (Put4 (chkN (be 4 bs.length ++ bs)) (by have := chkN_lt (be 4 bs.length ++ bs); omega)) hN4 (by (try clear e1 e2 e3); simp only [List.length_append, List.length_nil, be_length]; omega) ?_
        rintro r5 S5 hp5
        simp -dsimp only [go_sem, ↓reduceIte]
        refine hKK11 _ _ ?_
        try clear hKK11 KK11
        refine Lwp_ret ?_
        simp only [LThen, LBlock, LPost, Tryz.results25]
        simp -dsimp only [go_sem, ↓reduceIte]
        exact ret_keep (hRR _ _ ⟨_, rfl, NewR.after hK hp5⟩)
  · skip
    obtain ⟨bs, jd, hE, rfl, hid, hN⟩ := hb
    have hK := hK1.trans hN.2.1 (ids'' := []) (fun _ _ h => h.elim id id)
    have hbl := hl bs hE
    have hrd := hN.acc.rd
    rw [hE] at hRR
    simp only [] at hRR
    have e1 : IntKind.i64.wrap ((bs.length : Int) + 8) = (bs.length : Int) + 8 := w64 (by omega) (by omega)
    have e2 := u64_wrapN (n := bs.length) (by clear e1; omega)
    simp -dsimp only [go_sem, ↓reduceIte]
    refine hKK1 _ _ ?_
    try clear hKK1 KK1
    refine Lwp_seq fun KK12 hKK12 => ?_
    refine Lwp_seq fun KK13 hKK13 => ?_
    refine LregionG [none, none] (by kernel_rfl) (by kernel_rfl) ?_
    simp -dsimp only [go_sem, ↓reduceIte]
    repeat with_reducible refine And.intro (by first | omega | decide) ?_
    refine hKK13 _ _ ?_
    try clear hKK13 KK13
    refine Lwp_cond (by simp only [go_sem, ↓reduceIte]; rfl) (fun ht => ?_) (fun hf => ?_)
    · skip
      cases ht
    · skip
      refine Lwp_skip ?_
      try simp -dsimp only [go_sem, ↓reduceIte]
      refine hKK12 _ _ ?_
      try clear hKK12 KK12
      refine Lwp_seq fun KK14 hKK14 => ?_
      refine Lwp_seq fun KK15 hKK15 => ?_
      refine LregionG [none, none, none, none] (by kernel_rfl) (by kernel_rfl) ?_
      simp -dsimp only [go_sem, ↓reduceIte, e1]
      repeat with_reducible refine And.intro (by first | omega | decide) ?_
      refine hKK15 _ _ ?_
      try clear hKK15 KK15
      refine Lwp_cond (by simp only [go_sem, ↓reduceIte]; rfl) (fun ht => ?_) (fun hf => ?_)
      · skip
        have hgt : ¬ bs.length + 8 ≤ 1048576 := by simp at ht; omega
        simp only [hgt, if_false] at hRR
        refine Lwp_seq fun KK16 hKK16 => ?_
        refine LregionG [none, none] (by kernel_rfl) (by kernel_rfl) ?_
        simp -dsimp only [go_sem, ↓reduceIte]
        repeat with_reducible refine And.intro (by first | omega | decide) ?_
        refine hKK16 _ _ ?_
        try clear hKK16 KK16
        refine Lwp_ret ?_
        simp only [LThen, LBlock, LPost, Tryz.results25]
        simp -dsimp only [go_sem, ↓reduceIte]
        exact ret_keep (hRR _ _ ⟨rfl, hK⟩)
      · skip
        have hle : bs.length + 8 ≤ 1048576 := by simp at hf; omega
        simp only [hle, if_true] at hRR
        refine Lwp_skip ?_
        try simp -dsimp only [go_sem, ↓reduceIte]
        refine hKK14 _ _ ?_
        try clear hKK14 KK14
        refine Lwp_seq fun KK17 hKK17 => ?_
        refine LregionG [none, none, none, none, none, none, none] (by kernel_rfl) (by kernel_rfl) ?_
        simp -dsimp only [go_sem, ↓reduceIte, e2]
        repeat with_reducible refine And.intro (by first | omega | decide | assumption) ?_
        refine Put.kk (Put4 bs.length (by clear e1 e2; omega)) (NewR.nil S2) (by (try clear e1 e2 e3); simp only [List.length_append, List.length_nil, be_length]; omega) ?_
        rintro r S3 hp
        simp -dsimp only [go_sem, ↓reduceIte]
        have hrd3 := hrd.keep hp.2.1 (fun _ _ h => absurd h (by simp [rowIds]))
        repeat with_reducible refine And.intro (by first | omega | decide | assumption) ?_
        refine PutR.apd (zs := bs) hp rfl (by simp only [go_sem]; rfl) (by simp only [go_sem]; first | exact ⟨rfl, rfl⟩ | exact ⟨rfl, rfl, rfl⟩ | rfl) (by simp only [go_sem]) (hrd3.src.1) (hrd3.src.2) (by (try clear e1 e2 e3); simp only [List.length_append, List.length_nil, be_length]; omega) ?_
        rintro r2 S4 hp2
        have e3 := u64_wrapN (n := chkN (be 4 bs.length ++ bs)) (by have := chkN_lt (be 4 bs.length ++ bs); omega)
        have hN4 : NewR S2 (be 4 bs.length ++ bs) r2 S4 := hp2
        simp -dsimp only [go_sem, ↓reduceIte]
        refine hKK17 _ _ ?_
        try clear hKK17 KK17
        refine Lwp_seq fun KK18 hKK18 => ?_
        refine LregionG [none, none, none, none, none, none] (by kernel_rfl) (by kernel_rfl) ?_
        simp -dsimp only [go_sem, ↓reduceIte]
        refine (Chk_ok hN4.acc.rd (by simp only [List.length_append, be_length]; omega)).k ?_
        rintro _ _ ⟨rfl, rfl⟩
        simp -dsimp only [go_sem, ↓reduceIte, e3]
        repeat with_reducible refine And.intro (by first | omega | decide | assumption) ?_
        refine Put.kk (Put4 (chkN (be 4 bs.length ++ bs)) (by have := chkN_lt (be 4 bs.length ++ bs); omega)) hN4 (by (try clear e1 e2 e3); simp only [List.length_append, List.length_nil, be_length]; omega) ?_
        rintro r5 S5 hp5
        simp -dsimp only [go_sem, ↓reduceIte]
        refine hKK18 _ _ ?_
        try clear hKK18 KK18
        refine Lwp_ret ?_
        simp only [LThen, LBlock, LPost, Tryz.results25]
        simp -dsimp only [go_sem, ↓reduceIte]
        exact ret_keep (hRR _ _ ⟨_, rfl, NewR.after hK hp5⟩)

end Go.Proofs.YtdhngmldmalbbaaGreat
end
section
set_option linter.all false
namespace Go.Proofs.YtdhngmldmalbbaaGreat
open Go.Lift Go.RowKit Go.Store
set_option linter.unusedSimpArgs false
set_option linter.unusedVariables false

theorem BodyR.rd {us : List LV} {S S' : LS} {r : LV} (h : BodyR us S r S') : ∃ u b, r = .tup [u, .bool b] ∧ Rd S' u ((bodyE us).getD []) ∧ Keeps S S' [] := by
  rcases h.cs with ⟨hE, rfl, hK⟩ | ⟨bs, f, hE, rfl, hN⟩ | ⟨bs, id, hE, rfl, hid, hN⟩
  · exact ⟨_, _, rfl, by rw [hE]; exact .inl ⟨true, rfl⟩, hK⟩
  · exact ⟨_, _, rfl, by rw [hE]; exact hN.acc.rd, hN.2.1⟩
  · exact ⟨_, _, rfl, by rw [hE]; exact hN.acc.rd, hN.2.1⟩
theorem Lwp_boxed2 {N : Nat} {c : Code} {Q : Exit → Env → LS → Prop} {env : Env} {S : LS} (t1 t2 n : Nat) (us vs : List LV) (h1 : Nat.blt t1 N = true) (h2 : Nat.blt t2 N = true) (hu : env t1 = some (.ptr S.length 0 0)) (hv : env t2 = some (.ptr (S.length + 1) 0 0)) (hne : t2 ≠ t1)
    (h : ∀ S1, Keeps S S1 [] → Lwp Tryz.prog N c Q ((env.put t1 (.eptr us 0)).put t2 (.eptr vs 0)) S1) : Lwp Tryz.prog N c Q env (S ++ [some (n, [us]), some (n, [vs])]) := by
  refine Lwp_freezeP t1 S.length 0 0 n [us] us h1 hu (by simp) rfl ?_
  have e0 : (S ++ [some (n, [us]), some (n, [vs])]).set S.length none = S ++ [none, some (n, [vs])] := by simp
  rw [e0]
  refine Lwp_freezeP t2 (S.length + 1) 0 0 n [vs] vs h2 (by rw [← hv]; simp [Env.put, hne]) (by simp) rfl ?_
  have e1 : (S ++ [none, some (n, [vs])]).set (S.length + 1) none = S ++ [none, none] := by simp
  rw [e1]
  exact h _ (Keeps.app _ _ _)
theorem bytesC_map (bs : List UInt8) : bytesC (some (bs.map u8c)) = True := eq_true ⟨bs, rfl⟩
theorem byteE_map (bs : List UInt8) : (bs.map u8c).map byteE = bs := by
  induction bs with
  | nil => rfl
  | cons b bs ih => simp only [List.map_cons, ih]; congr 1; simp [byteE, u8c]
theorem take_u8c (bs : List UInt8) : (bs.map u8c).take bs.length = bs.map u8c := List.take_of_length_le (by simp)
theorem strOf_inj {a b : List UInt8} : (strOf a = strOf b) = (a = b) := propext ⟨fun h => by simpa [strOf] using h, fun h => by rw [h]⟩
def sameE (us vs : List LV) : Bool := decide (intOf (us.getD 0 .any) = intOf (vs.getD 0 .any)) && decide ((bodyE us).getD [] = (bodyE vs).getD [])
theorem log_kind {us : List LV} (h : ok sLog us) : ∃ us', us = V (intOf (us.getD 0 .any)) :: us' := by
  obtain ⟨v, us', rfl, h1, h2⟩ := ok_int (r := ((.int (sItem.app (.int (.str (sPer.app sCyc)))))) ) h
  exact ⟨us', rfl⟩

set_option maxHeartbeats 400000 in
theorem Same_ok {S : LS} (us vs : List LV) (h : ok sLog us) (hv : ok sLog vs) (hl : ∀ bs, bodyE us = some bs → bs.length ≤ 1073741824) (hlv : ∀ bs, bodyE vs = some bs → bs.length ≤ 1073741824) : LCalls Tryz.prog 14 [.agg us, .agg vs] S (fun r S' => r = .bool (sameE us vs) ∧ Keeps S S' []) := by
  refine LCalls_introK 0 Tryz.func14 rfl (by kernel_rfl) rfl fun RR hRR => ?_
  have hlen := okLog_len h
  have htk : us.take 38 = us := List.take_of_length_le (by omega)
  have hlen2 := okLog_len hv
  have htk2 : vs.take 38 = vs := List.take_of_length_le (by omega)
  obtain ⟨us', hus⟩ := log_kind h
  obtain ⟨vs', hvs⟩ := log_kind hv
  obtain ⟨k, hk⟩ : ∃ k, intOf (us.getD 0 .any) = k := ⟨_, rfl⟩
  obtain ⟨k2, hk2⟩ : ∃ k, intOf (vs.getD 0 .any) = k := ⟨_, rfl⟩
  have g0 : us.getD 0 .any = V k := by rw [hk] at hus; rw [hus]; rfl
  have g1 : vs.getD 0 .any = V k2 := by rw [hk2] at hvs; rw [hvs]; rfl
  clear hus hvs
  unfold sameE at hRR
  rw [hk, hk2] at hRR
  refine Lwp_seq fun KK0 hKK0 => ?_
  refine LregionG [none, none, none] (by kernel_rfl) (by kernel_rfl) ?_
  simp -dsimp only [go_sem, ↓reduceIte, hlen, hlen2]
  repeat with_reducible refine And.intro (by first | omega | decide) ?_
  refine hKK0 _ _ ?_
  try clear hKK0 KK0
  refine Lwp_seq fun KK1 hKK1 => ?_
  refine Lwp_boxed2 2 3 38 us vs rfl rfl (by simp only [go_sem, ↓reduceIte]) (by simp only [go_sem, ↓reduceIte]) (by decide) fun S1 hK1 => ?_
  refine LregionG [none, none, none, none, none, none, none] (by kernel_rfl) (by kernel_rfl) ?_
  simp -dsimp only [go_sem, ↓reduceIte, hlen, htk]
  refine (Body_ok us h hl).k ?_
  intro r S2 hb
  obtain ⟨u, b, rfl, hR, hK2⟩ := hb.rd
  simp -dsimp only [go_sem, ↓reduceIte]
  refine hKK1 _ _ ?_
  try clear hKK1 KK1
  refine Lwp_seq fun KK2 hKK2 => ?_
  refine LregionG [none, none, none, none, none, none, none] (by kernel_rfl) (by kernel_rfl) ?_
  simp -dsimp only [go_sem, ↓reduceIte, hlen2, htk2]
  refine (Body_ok vs hv hlv).k ?_
  intro r S3 hb
  obtain ⟨v, b3, rfl, hR3, hK3⟩ := hb.rd
  have hK := (hK1.trans hK2 (ids'' := []) (fun _ _ h => h.elim id id)).trans hK3 (ids'' := []) (fun _ _ h => h.elim id id)
  have hRu := hR.keep hK3 (fun _ _ h => absurd h (by simp))
  clear hR hK1 hK2 hK3
  simp -dsimp only [go_sem, ↓reduceIte]
  refine hKK2 _ _ ?_
  try clear hKK2 KK2
  refine Lwp_seq fun KK3 hKK3 => ?_
  refine LregionG [none, none, none, none, none, none, some (24, true), some (24, true), some (24, true), some (24, true), some (24, true), none, none] (by kernel_rfl) (by kernel_rfl) ?_
  simp -dsimp only [go_sem, ↓reduceIte, hlen, hlen2, g0, g1]
  by_cases hkk : k = k2
  rcases hRu with ⟨f, rfl⟩ | ⟨i1, rfl, hid⟩ <;> rcases hR3 with ⟨f3, rfl⟩ | ⟨i3, rfl, hid3⟩
  · skip
    simp -dsimp only [go_sem, ↓reduceIte, hkk, bytesC_map, byteE_map, take_u8c, strOf_inj, Nat.zero_add, Nat.le_refl, true_and, and_true]
    
    refine hKK3 _ _ ?_
    try clear hKK3 KK3
    refine Lwp_ret ?_
    simp only [LThen, LBlock, LPost, Tryz.results14]
    simp -dsimp only [go_sem, ↓reduceIte]
    exact ret_keep (hRR _ _ ⟨by simp [hkk], hK⟩)
  · skip
    simp -dsimp only [go_sem, ↓reduceIte, hkk, hid3, Option.join_some, List.drop_zero, bytesC_map, byteE_map, take_u8c, strOf_inj, Nat.zero_add, Nat.le_refl, true_and, and_true]
    
    refine hKK3 _ _ ?_
    try clear hKK3 KK3
    refine Lwp_ret ?_
    simp only [LThen, LBlock, LPost, Tryz.results14]
    simp -dsimp only [go_sem, ↓reduceIte]
    exact ret_keep (hRR _ _ ⟨by simp [hkk], hK⟩)
  · skip
    simp -dsimp only [go_sem, ↓reduceIte, hkk, hid, Option.join_some, List.drop_zero, bytesC_map, byteE_map, take_u8c, strOf_inj, Nat.zero_add, Nat.le_refl, true_and, and_true]
    
    refine hKK3 _ _ ?_
    try clear hKK3 KK3
    refine Lwp_ret ?_
    simp only [LThen, LBlock, LPost, Tryz.results14]
    simp -dsimp only [go_sem, ↓reduceIte]
    exact ret_keep (hRR _ _ ⟨by simp [hkk], hK⟩)
  · skip
    simp -dsimp only [go_sem, ↓reduceIte, hkk, hid, hid3, Option.join_some, List.drop_zero, bytesC_map, byteE_map, take_u8c, strOf_inj, Nat.zero_add, Nat.le_refl, true_and, and_true]
    
    refine hKK3 _ _ ?_
    try clear hKK3 KK3
    refine Lwp_ret ?_
    simp only [LThen, LBlock, LPost, Tryz.results14]
    simp -dsimp only [go_sem, ↓reduceIte]
    exact ret_keep (hRR _ _ ⟨by simp [hkk], hK⟩)
  · skip
    simp -dsimp only [go_sem, ↓reduceIte, hkk, Bool.false_and]
    
    refine hKK3 _ _ ?_
    try clear hKK3 KK3
    refine Lwp_ret ?_
    simp only [LThen, LBlock, LPost, Tryz.results14]
    simp -dsimp only [go_sem, ↓reduceIte]
    exact ret_keep (hRR _ _ ⟨by simp [hkk], hK⟩)

end Go.Proofs.YtdhngmldmalbbaaGreat
end
section
set_option linter.all false
namespace Go.Proofs.YtdhngmldmalbbaaGreat
open Go.Lift Go.RowKit Go.Store
set_option linter.unusedSimpArgs false
set_option linter.unusedVariables false

/-! ### A walker: what the writer and the reader share -/
structure Wk where
  ty : TypeId
  St : Type
  inv : LS → Nat → List Nat → St → Prop
  fits : St → Prop
  int : St → Int → Int × St
  word : St → Nat → Nat × St
  bool : St → Bool → Bool × St
  str : St → ByteArray → ByteArray × St
  count : St → Nat → Nat × St
  fInt : FuncId
  fWord : FuncId
  fBool : FuncId
  fText : FuncId
  fCount : FuncId

def natOf : LV → Nat
  | .int _ n => n.toNat
  | _ => 0
def boolOf : LV → Bool
  | .bool b => b
  | _ => false
def bytesOf : LV → ByteArray
  | .str s => s
  | _ => ByteArray.empty
def elemsOf : LV → List (List LV)
  | .sl _ es => es
  | _ => []

/-- the cells of a zero value. -/
def zs : Sch → List LV
  | .nil => []
  | .int r => .int .i64 0 :: zs r
  | .word r => .int .u64 0 :: zs r
  | .bool r => .bool false :: zs r
  | .str r => .str ⟨#[]⟩ :: zs r
  | .sl _ r => .sl true [] :: zs r
theorem ok_zs : ∀ {s : Sch}, ok s (zs s)
  | .nil => trivial
  | .int r => ⟨rfl, by omega, by omega, ok_zs⟩
  | .word r => ⟨rfl, by omega, by omega, ok_zs⟩
  | .bool r => ok_zs (s := r)
  | .str r => ⟨by decide, ok_zs⟩
  | .sl e r => ⟨by decide, by simp, ok_zs⟩

def walN {σ : Type} (f : List LV → σ → List LV × σ) (z : List LV) : Nat → List (List LV) → σ → List (List LV) × σ
  | 0, _, st => ([], st)
  | n + 1, es, st => ((f (es.headD z) st).1 :: (walN f z n es.tail (f (es.headD z) st).2).1, (walN f z n es.tail (f (es.headD z) st).2).2)

theorem walN_succ {σ : Type} {f : List LV → σ → List LV × σ} {z : List LV} : ∀ {k : Nat} {es : List (List LV)} {st : σ},
    walN f z (k + 1) es st = ((walN f z k es st).1 ++ [(f (es.getD k z) (walN f z k es st).2).1], (f (es.getD k z) (walN f z k es st).2).2)
  | 0, es, st => by cases es <;> rfl
  | k + 1, es, st => by
    have ih := walN_succ (f := f) (z := z) (k := k) (es := es.tail) (st := (f (es.headD z) st).2)
    have e : es.getD (k + 1) z = es.tail.getD k z := by cases es <;> simp
    rw [walN, ih, e]
    rfl

/-- the state after a walk over a value. -/
def wal (W : Wk) : Sch → List LV → W.St → List LV × W.St
  | .int r, u :: us, st => (.int .i64 (W.int st (intOf u)).1 :: (wal W r us (W.int st (intOf u)).2).1, (wal W r us (W.int st (intOf u)).2).2)
  | .word r, u :: us, st => (.int .u64 ((W.word st (natOf u)).1 : Nat) :: (wal W r us (W.word st (natOf u)).2).1, (wal W r us (W.word st (natOf u)).2).2)
  | .bool r, u :: us, st => (.bool (W.bool st (boolOf u)).1 :: (wal W r us (W.bool st (boolOf u)).2).1, (wal W r us (W.bool st (boolOf u)).2).2)
  | .str r, u :: us, st => (.str (W.str st (bytesOf u)).1 :: (wal W r us (W.str st (bytesOf u)).2).1, (wal W r us (W.str st (bytesOf u)).2).2)
  | .sl e r, u :: us, st =>
    (.sl false (walN (wal W e) (zs e) (W.count st (elemsOf u).length).1 (elemsOf u) (W.count st (elemsOf u).length).2).1 ::
      (wal W r us (walN (wal W e) (zs e) (W.count st (elemsOf u).length).1 (elemsOf u) (W.count st (elemsOf u).length).2).2).1,
      (wal W r us (walN (wal W e) (zs e) (W.count st (elemsOf u).length).1 (elemsOf u) (W.count st (elemsOf u).length).2).2).2)
  | .nil, _, st => ([], st)
  | _, [], st => ([], st)

theorem ok_len : ∀ {s : Sch} {us : List LV}, ok s us → us.length = s.n
  | .nil, [], _ => rfl
  | .int r, .int k v :: us, h => by simp only [ok] at h; simp only [List.length_cons, Sch.n, ok_len h.2.2.2]
  | .word r, .int k v :: us, h => by simp only [ok] at h; simp only [List.length_cons, Sch.n, ok_len h.2.2.2]
  | .bool r, .bool b :: us, h => by simp only [ok] at h; simp only [List.length_cons, Sch.n, ok_len h]
  | .str r, .str b :: us, h => by simp only [ok] at h; simp only [List.length_cons, Sch.n, ok_len h.2]
  | .sl e r, .sl f es :: us, h => by simp only [ok] at h; simp only [List.length_cons, Sch.n, ok_len h.2.2]

theorem wal_app {W : Wk} : ∀ {s t : Sch} {us vs : List LV} {st : W.St}, ok s us → wal W (s.app t) (us ++ vs) st = ((wal W s us st).1 ++ (wal W t vs (wal W s us st).2).1, (wal W t vs (wal W s us st).2).2)
  | .nil, t, [], vs, st, _ => rfl
  | .int r, t, .int k v :: us, vs, st, h => by simp only [ok] at h; simp only [Sch.app, List.cons_append, wal, wal_app h.2.2.2]
  | .word r, t, .int k v :: us, vs, st, h => by simp only [ok] at h; simp only [Sch.app, List.cons_append, wal, wal_app h.2.2.2]
  | .bool r, t, .bool b :: us, vs, st, h => by simp only [ok] at h; simp only [Sch.app, List.cons_append, wal, wal_app (s := r) h]
  | .str r, t, .str b :: us, vs, st, h => by simp only [ok] at h; simp only [Sch.app, List.cons_append, wal, wal_app h.2]
  | .sl e r, t, .sl f es :: us, vs, st, h => by simp only [ok] at h; simp only [Sch.app, List.cons_append, wal, wal_app h.2.2]

theorem nz_app : ∀ {s t : Sch} {us vs : List LV}, ok s us → nz (s.app t) (us ++ vs) = nz s us ++ nz t vs
  | .nil, t, [], vs, _ => by simp [Sch.app, nz]
  | .int r, t, .int k v :: us, vs, h => by simp only [ok] at h; simp only [Sch.app, List.cons_append, nz, nz_app h.2.2.2]
  | .word r, t, .int k v :: us, vs, h => by simp only [ok] at h; simp only [Sch.app, List.cons_append, nz, nz_app h.2.2.2]
  | .bool r, t, .bool b :: us, vs, h => by simp only [ok] at h; simp only [Sch.app, List.cons_append, nz, nz_app (s := r) h]
  | .str r, t, .str b :: us, vs, h => by simp only [ok] at h; simp only [Sch.app, List.cons_append, nz, nz_app h.2]
  | .sl e r, t, .sl f es :: us, vs, h => by simp only [ok] at h; simp only [Sch.app, List.cons_append, nz, nz_app h.2.2]

/-- how far a walk has come: 's' was walked. -/
def WP (W : Wk) (S : LS) (w l n : Nat) (pre : List LV) (own : List Nat) (s : Sch) (us : List LV) (st : W.St) (rest : List LV) (S' : LS) : Prop :=
  ok s us ∧ ∃ own' us', W.inv S' w own' (wal W s us st).2 ∧ nz s us' = (wal W s us st).1 ∧ ok s us' ∧ S'[l]? = some (some (n, [pre ++ (us' ++ rest)])) ∧ Keeps S S' (l :: own) ∧ ∀ id ∈ own', id ∈ own ∨ S.length ≤ id

/-- 'g', with these arguments, walks over a value of the schema 's'. -/
def WOk (W : Wk) (A : Nat → Nat → Nat → List LV) (g : FuncId) (s : Sch) : Prop :=
  ∀ (S : LS) (w l n off : Nat) (pre us post : List LV) (own : List Nat) (st : W.St),
    W.inv S w own st → l ∉ own → S[l]? = some (some (n, [pre ++ (us ++ post)])) → pre.length = off → ok s us → W.fits (wal W s us st).2 →
    LCalls Tryz.prog g (A w l off) S (fun _ S' => WP W S w l n pre own s us st post S')

abbrev aP : Nat → Nat → Nat → List LV := fun w l off => [.ptr w 0 0, .ptr l 0 off]
abbrev aI (W : Wk) : Nat → Nat → Nat → List LV := fun w l off => [.iface W.ty (.ptr w 0 0), .ptr l 0 off]
abbrev aF (W : Wk) (h : FuncId) : Nat → Nat → Nat → List LV := fun w l off => [.iface W.ty (.ptr w 0 0), .ptr l 0 off, .func (.func h) [] []]
def ptrs (l off k : Nat) : List (List LV) := (List.range k).map fun j => [LV.ptr l 0 (off + j)]
abbrev aN (W : Wk) (k : Nat) : Nat → Nat → Nat → List LV := fun w l off => [.iface W.ty (.ptr w 0 0), .sl true (ptrs l off k)]

structure WkL (W : Wk) : Prop where
  lt : ∀ {S w own st}, W.inv S w own st → ∀ id ∈ own, id < S.length
  keep : ∀ {S S' w own st ids}, W.inv S w own st → Keeps S S' ids → (∀ id ∈ own, id ∉ ids) → W.inv S' w own st
  iint : ∀ {st v}, W.fits (W.int st v).2 → W.fits st
  iword : ∀ {st v}, W.fits (W.word st v).2 → W.fits st
  ibool : ∀ {st v}, W.fits (W.bool st v).2 → W.fits st
  istr : ∀ {st v}, W.fits (W.str st v).2 → W.fits st
  icount : ∀ {st v}, W.fits (W.count st v).2 → W.fits st
  cnt : ∀ {S w own st m}, W.inv S w own st → m < 4294967296 → (W.count st m).1 < 4294967296
  mInt : methT Tryz.prog W.ty "synoptic/store.int" = some W.fInt
  mWord : methT Tryz.prog W.ty "synoptic/store.word" = some W.fWord
  mBool : methT Tryz.prog W.ty "synoptic/store.bool" = some W.fBool
  mText : methT Tryz.prog W.ty "synoptic/store.text" = some W.fText
  mCount : methT Tryz.prog W.ty "synoptic/store.count" = some W.fCount
  hInt : WOk W aP W.fInt sI
  hWord : WOk W aP W.fWord (.word .nil)
  hBool : WOk W aP W.fBool (.bool .nil)
  hText : WOk W aP W.fText sStr
  hCount : ∀ (S : LS) (w : Nat) (own : List Nat) (st : W.St) (m : Nat), W.inv S w own st → m < 4294967296 → W.fits (W.count st m).2 →
    LCalls Tryz.prog W.fCount [.ptr w 0 0, V m] S (fun r S' => r = V (W.count st m).1 ∧ ∃ own', W.inv S' w own' (W.count st m).2 ∧ Keeps S S' own ∧ ∀ id ∈ own', id ∈ own ∨ S.length ≤ id)

theorem walN_fits {σ : Type} {P : σ → Prop} {f : List LV → σ → List LV × σ} {z : List LV} (h : ∀ x st, P (f x st).2 → P st) : ∀ {n : Nat} {es : List (List LV)} {st : σ}, P (walN f z n es st).2 → P st
  | 0, _, _, hp => hp
  | n + 1, es, st, hp => h _ _ (walN_fits h hp)
theorem wal_fits {W : Wk} (hW : WkL W) : ∀ {s : Sch} {us : List LV} {st : W.St}, W.fits (wal W s us st).2 → W.fits st
  | .nil, _, _, h => by simp only [wal] at h; exact h
  | .int r, [], _, h => h
  | .word r, [], _, h => h
  | .bool r, [], _, h => h
  | .str r, [], _, h => h
  | .sl e r, [], _, h => h
  | .int r, u :: us, st, h => by simp only [wal] at h; exact hW.iint (wal_fits hW h)
  | .word r, u :: us, st, h => by simp only [wal] at h; exact hW.iword (wal_fits hW h)
  | .bool r, u :: us, st, h => by simp only [wal] at h; exact hW.ibool (wal_fits hW h)
  | .str r, u :: us, st, h => by simp only [wal] at h; exact hW.istr (wal_fits hW h)
  | .sl e r, u :: us, st, h => by simp only [wal] at h; exact hW.icount (v := (elemsOf u).length) (walN_fits (P := W.fits) (f := wal W e) (z := zs e) (fun x st hx => wal_fits (s := e) hW hx) (wal_fits (s := r) hW h))
theorem fitsL {W : Wk} (hW : WkL W) {s t : Sch} {us vs : List LV} {st : W.St} (h : ok s us) (hf : W.fits (wal W (s.app t) (us ++ vs) st).2) : W.fits (wal W s us st).2 := by
  rw [wal_app h] at hf; exact wal_fits hW hf
theorem fitsN {W : Wk} (hW : WkL W) {e : Sch} {z : List LV} {n k : Nat} (h : k ≤ n) {es : List (List LV)} {st : W.St} (hf : W.fits (walN (wal W e) z n es st).2) : W.fits (walN (wal W e) z k es st).2 := by
  induction h with
  | refl => exact hf
  | step h ih => rw [walN_succ] at hf; exact ih (wal_fits hW hf)

theorem WP.refl {W : Wk} {S : LS} {w l n : Nat} {pre : List LV} {own : List Nat} {st : W.St} {rest : List LV} (hi : W.inv S w own st) (h : S[l]? = some (some (n, [pre ++ rest]))) : WP W S w l n pre own .nil [] st rest S :=
  ⟨trivial, own, [], hi, rfl, trivial, h, Keeps.refl _ _, fun _ h => .inl h⟩

theorem WOk.at {W : Wk} (hW : WkL W) {A : Nat → Nat → Nat → List LV} {g : FuncId} {t : Sch} (h : WOk W A g t) {S S1 : LS} {w l n off o : Nat} {pre us rest0 us2 rest : List LV} {own : List Nat} {s : Sch} {st : W.St}
    (hp : WP W S w l n pre own s us st rest0 S1) (hl : l ∉ own) (hlS : l < S.length) (hpre : pre.length = off) (ho : o = off + s.n) (hr : rest0 = us2 ++ rest) (h2 : ok t us2) (hf : W.fits (wal W (s.app t) (us ++ us2) st).2) :
    LCalls Tryz.prog g (A w l o) S1 (fun _ S2 => WP W S w l n pre own (s.app t) (us ++ us2) st rest S2) := by
  obtain ⟨h0, own', us', hi, hz, hok, hS1, hK, hown⟩ := hp
  subst hr hpre ho
  have hl' : l ∉ own' := fun hm => (hown l hm).elim hl (fun hh => by omega)
  rw [wal_app h0] at hf
  refine (h S1 w l n (pre.length + s.n) (pre ++ us') us2 rest own' _ hi hl' (by rw [hS1]; simp only [List.append_assoc]) (by rw [List.length_append, ok_len hok]) h2 hf).mono fun r S2 hq => ?_
  obtain ⟨-, own2, us3, gi, gz, gok, gS, gK, gown⟩ := hq
  refine ⟨app_ok h0 h2, own2, us' ++ us3, by rw [wal_app h0]; exact gi, by rw [nz_app hok, wal_app h0, hz, gz], app_ok hok gok, by rw [gS]; simp only [List.append_assoc], hK.trans gK fun j hj hm => ?_, fun id hid => ?_⟩
  · rcases hm with hm | hm
    · exact hm
    · rcases List.mem_cons.1 hm with rfl | hm
      · exact List.mem_cons_self ..
      · rcases hown j hm with hm | hm
        · exact List.mem_cons_of_mem _ hm
        · omega
  · rcases gown id hid with hid | hid
    · exact hown id hid
    · exact .inr (Nat.le_trans hK.1 hid)

theorem WOk.kk {W : Wk} (hW : WkL W) {A : Nat → Nat → Nat → List LV} {g : FuncId} {t : Sch} (h : WOk W A g t) {S S1 : LS} {w l n off o : Nat} {pre us rest0 rest : List LV} (us2 : List LV) {al : List LV} {own : List Nat} {s : Sch} {st : W.St} {d : Option Tmp} {K : Env → LS → Prop} {tg : Tag K} {env : Env}
    (hp : WP W S w l n pre own s us st rest0 S1) (hl : l ∉ own) (hlS : l < S.length) (hpre : pre.length = off) (hA : al = A w l o) (ho : o = off + s.n) (hr : rest0 = us2 ++ rest) (h2 : ok t us2) (hf : W.fits (wal W (s.app t) (us ++ us2) st).2)
    (hk : ∀ r S2, WP W S w l n pre own (s.app t) (us ++ us2) st rest S2 → K (env.putO d r) S2) : LCK Tryz.prog g al S1 d K tg env :=
  hA ▸ (h.at hW hp hl hlS hpre ho hr h2 hf).k hk

theorem WOk_intro {W : Wk} {A : Nat → Nat → Nat → List LV} {g : FuncId} {s : Sch} {fn : Func} {c : Code} (d : Nat) (hfn : Tryz.prog.funcs[g]? = some fn) (hb : fn.body = some c) (hg : goT Tryz.prog g = true) (hn : ∀ w l off, Nat.ble (A w l off).length fn.ntmps = true)
    (h : ∀ (S : LS) (w l n off : Nat) (pre us post : List LV) (own : List Nat) (st : W.St) (RR : LV → LS → Prop), W.inv S w own st → l ∉ own → S[l]? = some (some (n, [pre ++ (us ++ post)])) → pre.length = off → ok s us → W.fits (wal W s us st).2 →
      (∀ r S', WP W S w l n pre own s us st post S' → RR r S') → Lwp Tryz.prog fn.ntmps c (LPost Tryz.prog fn d S RR) (argsEnv (A w l off)) S) : WOk W A g s := fun S w l n off pre us post own st hi hl hS hpre hok hf =>
  LCalls_introK d hfn hb hg (hn w l off) fun RR hRR => h S w l n off pre us post own st RR hi hl hS hpre hok hf hRR

end Go.Proofs.YtdhngmldmalbbaaGreat
end
