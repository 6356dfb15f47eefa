/-
  A part of a proof: StoreJournals answers true for all codes, bytes and numbers, without conditions.
-/
import Derived.Test.YtdhngmldmalbbaaGreatR1
import Derived.KernelRfl
section
set_option linter.all false
/-
  The lifted layer, part 12: what a call gives back: what it made is frozen, and its own blocks are forgotten.
-/
namespace Go.Lift
open Go.RowKit

mutual
def LV.lt (n : Nat) : LV → Bool
  | .ptr id _ _ => decide (id < n)
  | .ref id _ _ => decide (id < n)
  | .eptr cells _ => ltL n cells
  | .sl _ es => ltLL n es
  | .func _ f c => ltL n f && ltL n c
  | .iface _ v => LV.lt n v
  | .agg us => ltL n us
  | .tup us => ltL n us
  | .any | .int _ _ | .bool _ | .anyb | .str _ | .nilp | .nilf | .nili => true
def ltL (n : Nat) : List LV → Bool
  | [] => true
  | u :: us => LV.lt n u && ltL n us
def ltLL (n : Nat) : List (List LV) → Bool
  | [] => true
  | e :: es => ltL n e && ltLL n es
end

theorem ltL_iff {n : Nat} {us : List LV} : ltL n us = true ↔ ∀ u ∈ us, u.lt n = true := by
  induction us with
  | nil => simp [ltL]
  | cons u us ih => simp [ltL, ih]

theorem ltLL_iff {n : Nat} {es : List (List LV)} : ltLL n es = true ↔ ltL n es.flatten = true := by
  induction es with
  | nil => simp [ltLL, ltL]
  | cons e es ih => simp only [ltLL, List.flatten_cons, Bool.and_eq_true, ih]; rw [ltL_iff, ltL_iff, ltL_iff]; simp only [List.mem_append]; constructor
                    · rintro ⟨h1, h2⟩ u (h | h); exact h1 u h; exact h2 u h
                    · intro h; exact ⟨fun u hu => h u (.inl hu), fun u hu => h u (.inr hu)⟩

section
variable {P : Program} {B N : Nat} {w0 w : World} {K : Know} {φ : List Pl} {S : LS}

theorem Rel.lt {v : Value} {u : LV} (h : Rel K φ v u) : u.lt φ.length = true := by
  have len : ∀ {id : Nat} {p : Pl}, φ[id]? = some p → id < φ.length := fun h => (List.getElem?_eq_some_iff.1 h).1
  refine Rel.rec (motive_1 := fun v u _ => u.lt φ.length = true) (motive_2 := fun vs us _ => ltL φ.length us = true) ?_ ?_ ?_ ?_ ?_ ?_ ?_ ?_ ?_ ?_ ?_ ?_ ?_ ?_ ?_ ?_ ?_ ?_ ?_ ?_ h
  · intros; rfl
  · intros; rfl
  · intros; rfl
  · intros; rfl
  · intros; rfl
  · rfl
  · intro id i off p h; simpa [LV.lt] using len h
  · intro b o off cells vs _ _ _ ih; simpa [LV.lt] using ih
  · intros; rfl
  · intro b o cap n full elems vs sz _ _ _ _ _ _ _ ih; simp only [LV.lt]; exact ltLL_iff.2 ih
  · intro b o id off len' cap p h _ _; simpa [LV.lt] using len h
  · intro id off p h; simpa [LV.lt] using len h
  · intro fn first caps f c _ _ ih1 ih2; simp [LV.lt, ih1, ih2]
  · rfl
  · intro t v u _ ih; simpa [LV.lt] using ih
  · rfl
  · intro cs us _ _ ih; simpa [LV.lt] using ih
  · intro cs us _ ih; simpa [LV.lt] using ih
  · rfl
  · intro v u vs us _ _ ih1 ih2; simp [ltL, ih1, ih2]

theorem RelL.lt {vs : List Value} {us : List LV} (h : RelL K φ vs us) : ltL φ.length us = true := by
  induction us generalizing vs with
  | nil => rfl
  | cons u us ih => cases h with | cons h hs => simp [ltL, h.lt, ih hs]

theorem get_take {α : Type} {l : List α} {n i : Nat} {x : α} (hi : i < n) (h : l[i]? = some x) : (l.take n)[i]? = some x := by
  rw [List.getElem?_take_of_lt hi]; exact h

theorem Rel.take {v : Value} {u : LV} {n : Nat} (h : Rel K φ v u) (hl : u.lt n = true) : Rel K (φ.take n) v u := by
  revert hl
  refine Rel.rec (motive_1 := fun v u _ => u.lt n = true → Rel K (φ.take n) v u) (motive_2 := fun vs us _ => ltL n us = true → RelL K (φ.take n) vs us) ?_ ?_ ?_ ?_ ?_ ?_ ?_ ?_ ?_ ?_ ?_ ?_ ?_ ?_ ?_ ?_ ?_ ?_ ?_ ?_ h
  · intro v _; exact .any v
  · intro k n _; exact .int k n
  · intro b _; exact .bool b
  · intro b _; exact .anyb b
  · intro s _; exact .str s
  · intro _; exact .nilp
  · intro id i off p h hl; exact .ptr (get_take (by simpa [LV.lt] using hl) h)
  · intro b o off cells vs hk h1 _ ih hl; exact .eptr hk h1 (ih (by simpa [LV.lt] using hl))
  · intro full _; exact .slnil full
  · intro b o cap m full elems vs sz hk h1 _ hsz hn hc hf ih hl; exact .sl hk h1 (ih (ltLL_iff.1 (by simpa [LV.lt] using hl))) hsz hn hc hf
  · intro b o id off len' cap p h hl' hc hl; exact .ref (get_take (by simpa [LV.lt] using hl) h) hl' hc
  · intro id off p h hl; exact .refnil (get_take (by simpa [LV.lt] using hl) h)
  · intro fn first caps f c _ _ ih1 ih2 hl; simp [LV.lt] at hl; exact .func (ih1 hl.1) (ih2 hl.2)
  · intro _; exact .nilf
  · intro t v u _ ih hl; exact .iface (ih (by simpa [LV.lt] using hl))
  · intro _; exact .nili
  · intro cs us h1 _ ih hl; exact .agg h1 (ih (by simpa [LV.lt] using hl))
  · intro cs us _ ih hl; exact .tup (ih (by simpa [LV.lt] using hl))
  · intro _; exact .nil
  · intro v u vs us _ _ ih1 ih2 hl; simp [ltL] at hl; exact .cons (ih1 hl.1) (ih2 hl.2)

theorem RelL.takeφ {vs : List Value} {us : List LV} {n : Nat} (h : RelL K φ vs us) (hl : ltL n us = true) : RelL K (φ.take n) vs us := by
  induction us generalizing vs with
  | nil => cases h; exact .nil
  | cons u us ih => cases h with | cons h hs => simp [ltL] at hl; exact .cons (h.take hl.1) (ih hs hl.2)

/-- the blocks from 'n' on are forgotten. -/
theorem SimS.drop (h : SimS B w0 K φ S w) {n : Nat} (hl : ∀ (id : Nat) (b : Blk), id < n → S[id]? = some (some b) → ltLL n b.2 = true) : SimS B w0 K (φ.take n) (S.take n) w := by
  have back : ∀ {α : Type} {l : List α} {i : Nat} {x : α}, (l.take n)[i]? = some x → i < n ∧ l[i]? = some x := fun {α l i x} hh => by
    rw [List.getElem?_take] at hh
    split at hh
    · exact ⟨‹_›, hh⟩
    · cases hh
  refine ⟨h.below, h.base, h.know, by simp [h.len], ?_, ?_, ?_, ?_⟩
  · intro id m es p h1 h2; exact h.sz id m es p (back h1).2 (back h2).2
  · intro id m es p h1 h2; exact h.virt id m es p (back h1).2 (back h2).2
  · intro id m es p h1 h2 hv
    obtain ⟨vals, T, vs, g1, g2, g3, g4, g5, g6⟩ := h.blk id m es p (back h1).2 (back h2).2 hv
    exact ⟨vals, T, vs, g1, g2, g3, g4, g5.takeφ (ltLL_iff.1 (hl id _ (back h1).1 (back h1).2)), g6⟩
  · intro i j es fs p q h1 h2 h3 h4; exact h.inj i j es fs p q (back h1).2 (back h2).2 (back h3).2 (back h4).2

/-- every block keeps its cells, or says less of them. -/
theorem SimS.weaken (h : SimS B w0 K φ S w) {S1 : LS} (hlen : S1.length = S.length) (hb : ∀ (id : Nat) (b : Blk), S1[id]? = some (some b) → ∃ b', S[id]? = some (some b') ∧ b.1 = b'.1 ∧ b.2.length = b'.2.length ∧ (∀ sz, (∀ e ∈ b'.2, e.length = sz) → ∀ e ∈ b.2, e.length = sz) ∧
    ∀ vs, RelL K φ vs b'.2.flatten → RelL K φ vs b.2.flatten) : SimS B w0 K φ S1 w := by
  refine ⟨h.below, h.base, h.know, by rw [h.len, hlen], ?_, ?_, ?_, ?_⟩
  · intro id m es p h1 h2
    obtain ⟨b', g1, g2, _⟩ := hb id _ h1
    have := h.sz id b'.1 b'.2 p g1 h2
    simp only at g2
    rw [g2]; exact this
  · intro id m es p h1 h2 hv
    obtain ⟨b', g1, g2, g3, _⟩ := hb id _ h1
    have := h.virt id b'.1 b'.2 p g1 h2 hv
    simp only at g3
    rw [this] at g3
    exact List.eq_nil_of_length_eq_zero (by simpa using g3)
  · intro id m es p h1 h2 hv
    obtain ⟨b', g1, g2, g3, g4, g5⟩ := hb id _ h1
    obtain ⟨vals, T, vs, q1, q2, q3, q4, q5, q6⟩ := h.blk id b'.1 b'.2 p g1 h2 hv
    exact ⟨vals, T, vs, q1, q2, q3, g4 _ q4, g5 _ q5, q6⟩
  · intro i j es fs p q h1 h2 h3 h4 h5 h6 h7
    obtain ⟨b1, g1, _⟩ := hb i _ h1
    obtain ⟨b2, g2, _⟩ := hb j _ h2
    exact h.inj i j b1 b2 p q g1 g2 h3 h4 h5 h6 h7

/-! ### Freezing what is given back -/
def frz (S : LS) (n : Nat) : Nat → LV → LV
  | 0, u => u
  | d + 1, u =>
    match u with
    | .ref id off len => if id < n then .ref id off len else
        match S[id]? with
        | some (some (_, es)) => if off + len ≤ es.length then .sl false (((es.drop off).take len).map fun e => e.map (frz S n d)) else .any
        | _ => .any
    | .agg us => .agg (us.map (frz S n d))
    | .tup us => .tup (us.map (frz S n d))
    | u => u

/-- what is known of the blocks from 'n' on, once they are frozen. -/
def Frozen (K : Know) (φ : List Pl) (S : LS) (n : Nat) : Prop := ∀ (id m : Nat) (es : List (List LV)) (p : Pl), n ≤ id → S[id]? = some (some (m, es)) → φ[id]? = some p →
  ∃ vs : List Value, RelL K φ vs es.flatten ∧ (∀ v ∈ vs, v.oneCell' = true) ∧ (p.virt = false → ∀ e ∈ es, e.length = p.sz) ∧ ∀ j v, vs[j]? = some v → K p.b (p.s + j) = some v

theorem SimS.freezeFrom : ∀ (k : Nat) {K : Know} {S : LS}, SimS B w0 K φ S w → ∀ n, S.length = n + k → ∃ K', K.le K' ∧ SimS B w0 K' φ (S.take n ++ List.replicate k none) w ∧ Frozen K' φ S n
  | 0, K, S, h, n, hn => by
    refine ⟨K, Know.le_refl K, ?_, ?_⟩
    · rw [List.take_of_length_le (by omega)]; simpa using h
    · intro id m es p hle hid _
      have := (List.getElem?_eq_some_iff.1 hid).1
      omega
  | k + 1, K, S, h, n, hn => by
    have hlt : n < S.length := by omega
    have step : ∃ K1, K.le K1 ∧ SimS B w0 K1 φ (S.set n none) w ∧ (∀ (m : Nat) (es : List (List LV)) (p : Pl), S[n]? = some (some (m, es)) → φ[n]? = some p →
        ∃ vs : List Value, RelL K1 φ vs es.flatten ∧ (∀ v ∈ vs, v.oneCell' = true) ∧ (p.virt = false → ∀ e ∈ es, e.length = p.sz) ∧ ∀ j v, vs[j]? = some v → K1 p.b (p.s + j) = some v) := by
      obtain ⟨p, hp⟩ := h.pl (List.getElem?_eq_getElem hlt)
      cases hs : S[n] with
      | none =>
        have hget : S[n]? = some none := by rw [List.getElem?_eq_getElem hlt, hs]
        exact ⟨K, Know.le_refl K, h.kill n, fun m es p hid _ => by rw [hget] at hid; cases hid⟩
      | some b =>
        obtain ⟨m, es⟩ := b
        have hget : S[n]? = some (some (m, es)) := by rw [List.getElem?_eq_getElem hlt, hs]
        have hsz := h.sz _ _ _ _ hget hp
        subst hsz
        obtain ⟨K1, vs, h1, h2, h3, h4, h5, h6⟩ := h.freeze1 hget hp
        refine ⟨K1, h1, h2, fun m es' p' hid hp' => ?_⟩
        rw [hget] at hid; cases hid
        rw [hp] at hp'; cases hp'
        exact ⟨vs, h3, h4, h5, h6⟩
    obtain ⟨K1, hK1, h1, hf1⟩ := step
    obtain ⟨K2, hK2, h2, hf2⟩ := SimS.freezeFrom k h1 (n + 1) (by simp; omega)
    refine ⟨K2, Know.le_trans hK1 hK2, ?_, ?_⟩
    · have e : (S.set n none).take (n + 1) ++ List.replicate k none = S.take n ++ List.replicate (k + 1) none := by
        rw [List.take_succ_eq_append_getElem (by simpa using hlt), List.take_set_of_le (Nat.le_refl n)]
        simp [List.replicate_succ]
      rwa [e] at h2
    · intro id m es p hle hid hp
      by_cases e : id = n
      · subst e
        obtain ⟨vs, g1, g2, g3, g4⟩ := hf1 m es p hid hp
        exact ⟨vs, g1.mono hK2 (List.prefix_refl _), g2, g3, fun j v hj => hK2 _ _ _ (g4 j v hj)⟩
      · exact hf2 id m es p (by omega) (by rw [List.getElem?_set_ne (by omega)]; exact hid) hp

theorem frz_sound {n : Nat} {K' : Know} (hK : K.le K') (hf : Frozen K' φ S n) : ∀ (d : Nat) {v : Value} {u : LV}, Rel K' φ v u → Rel K' φ v (frz S n d u)
  | 0, v, u, h => h
  | d + 1, v, u, h => by
    have mapL : ∀ {vs : List Value} {us : List LV}, RelL K' φ vs us → RelL K' φ vs (us.map (frz S n d)) := by
      intro vs us hh
      induction us generalizing vs with
      | nil => cases hh; exact .nil
      | cons x us ih => cases hh with | cons h1 h2 => exact .cons (frz_sound hK hf d h1) (ih h2)
    cases u <;> simp only [frz]
    case agg us => cases h with | agg h1 h2 => exact .agg h1 (mapL h2)
    case tup us => cases h with | tup h2 => exact .tup (mapL h2)
    case ref id off len =>
      split
      · exact h
      · rename_i hid
        split
        · rename_i m es he
          split
          · rename_i hle
            cases h with
            | refnil hp => simp; exact .slnil _
            | ref hp hl hc =>
              rename_i b o cap p
              obtain ⟨vs, g1, g2, g3, g4⟩ := hf id m es p (by omega) he hp
              have hwl : ((es.drop off).take len).length = len := by rw [List.length_take, List.length_drop]; omega
              by_cases h0 : cap = 0
              · have hl0 : len = 0 := by omega
                subst hl0; subst h0
                exact .sl (vs := []) (sz := 0) (by simp) (by simp) (by simp; exact .nil) (by simp) (by simp) (Nat.le_refl _) (by simp)
              · obtain ⟨hv, rfl, rfl, _⟩ := hc h0
                have hes := g3 hv
                have hfl : (((es.drop off).take len).map fun e => e.map (frz S n d)).flatten = (((es.drop off).take len).flatten).map (frz S n d) := by
                  rw [List.map_flatten]
                refine .sl (vs := (vs.drop (off * p.sz)).take (len * p.sz)) (sz := p.sz) ?_ (fun x hx => g2 x (List.mem_of_mem_drop (List.mem_of_mem_take hx))) ?_ ?_ (by simp; omega) hl (by simp)
                · intro j x hj
                  rw [List.getElem?_take] at hj
                  split at hj
                  · rw [List.getElem?_drop] at hj
                    have := g4 _ _ hj
                    rwa [← Nat.add_assoc] at this
                  · cases hj
                · rw [hfl, flat_take (sz := p.sz) (fun e he => hes e (List.mem_of_mem_drop he)), flat_drop hes]
                  exact mapL ((g1.drop _).take _)
                · intro e he
                  obtain ⟨e', he', rfl⟩ := List.mem_map.1 he
                  rw [List.length_map]
                  exact hes e' (List.mem_of_mem_drop (List.mem_of_mem_take he'))
          · exact .any _
        · exact .any _
    all_goals exact h

/-! ### Calls -/
def resW (P : Program) (env : Env) (S : LS) : List ResultVar → (List LV → Prop) → Prop
  | [], k => k []
  | .tmp t :: rs, k => resW P env S rs fun us => k ((env t).getD .any :: us)
  | .cell a t :: rs, k => ∃ cells off, S.at ((env a).getD .any) = some (cells, off) ∧ ldW P t cells off fun u => resW P env S rs fun us => k (u :: us)

def oneOf : List LV → LV
  | [u] => u
  | us => .tup us

def frzB (S : LS) (n d : Nat) (b : Blk) : Blk := (b.1, b.2.map fun e => e.map (frz S n d))

/-- what is asked where a call ends: 'd': how deep what it made is frozen. -/
def RetDrop (d : Nat) (S : LS) (R : LV → LS → Prop) (S' : LS) (u : LV) : Prop :=
  S.length ≤ S'.length ∧ ∃ S1 : LS, S1.length = S.length ∧
    (∀ (id : Nat) (b : Blk), S1[id]? = some (some b) → (S[id]? = some (some b) ∧ S'[id]? = some (some b)) ∨ ∃ b', S'[id]? = some (some b') ∧ b = frzB S' S.length d b' ∧ ltLL S.length b.2 = true) ∧
    (frz S' S.length d u).lt S.length = true ∧ R (frz S' S.length d u) S1

/-- frozen: the blocks that are not kept. -/
def frzK (keep : Nat → Bool) (S : LS) : Nat → LV → LV
  | 0, u => u
  | d + 1, u =>
    match u with
    | .ref id off len => bif keep id then .ref id off len else
        match S[id]? with
        | some (some (_, es)) => if off + len ≤ es.length then .sl false (((es.drop off).take len).map fun e => e.map (frzK keep S d)) else .any
        | _ => .any
    | .agg us => .agg (us.map (frzK keep S d))
    | .tup us => .tup (us.map (frzK keep S d))
    | u => u

def frzKB (keep : Nat → Bool) (S : LS) (d : Nat) (b : Blk) : Blk := (b.1, b.2.map fun e => e.map (frzK keep S d))

/-- what is asked where a call ends that keeps some of its blocks. -/
def RetKeep (d : Nat) (R : LV → LS → Prop) (S' : LS) (u : LV) : Prop :=
  ∃ keep : Nat → Bool, ∃ S1 : LS, S1.length = S'.length ∧
    (∀ (id : Nat) (b : Blk), S1[id]? = some (some b) → keep id = true ∧ ∃ b', S'[id]? = some (some b') ∧ (b = b' ∨ b = frzKB keep S' d b')) ∧
    R (frzK keep S' d u) S1

def RetOk (d : Nat) (S : LS) (R : LV → LS → Prop) (S' : LS) (u : LV) : Prop := RetDrop d S R S' u ∨ RetKeep d R S' u

def FrozenAt (K : Know) (φ : List Pl) (S : LS) (id : Nat) : Prop := ∀ (m : Nat) (es : List (List LV)) (p : Pl), S[id]? = some (some (m, es)) → φ[id]? = some p →
  ∃ vs : List Value, RelL K φ vs es.flatten ∧ (∀ v ∈ vs, v.oneCell' = true) ∧ (p.virt = false → ∀ e ∈ es, e.length = p.sz) ∧ ∀ j v, vs[j]? = some v → K p.b (p.s + j) = some v

theorem SimS.freezeL : ∀ (ids : List Nat) {K : Know} {S : LS}, SimS B w0 K φ S w → ∃ K', K.le K' ∧ SimS B w0 K' φ (ids.foldl (fun S i => S.set i none) S) w ∧ ∀ i ∈ ids, FrozenAt K' φ S i
  | [], K, S, h => ⟨K, Know.le_refl K, h, by simp⟩
  | i :: ids, K, S, h => by
    have step : ∃ K1, K.le K1 ∧ SimS B w0 K1 φ (S.set i none) w ∧ FrozenAt K1 φ S i := by
      cases hs : S[i]? with
      | none => exact ⟨K, Know.le_refl K, h.kill i, fun m es p hid _ => by rw [hs] at hid; cases hid⟩
      | some o => cases o with
        | none => exact ⟨K, Know.le_refl K, h.kill i, fun m es p hid _ => by rw [hs] at hid; cases hid⟩
        | some b =>
          obtain ⟨m, es⟩ := b
          obtain ⟨p, hp⟩ := h.pl hs
          have hsz := h.sz _ _ _ _ hs hp
          subst hsz
          obtain ⟨K1, vs, h1, h2, h3, h4, h5, h6⟩ := h.freeze1 hs hp
          refine ⟨K1, h1, h2, fun m es' p' hid hp' => ?_⟩
          rw [hs] at hid; cases hid
          rw [hp] at hp'; cases hp'
          exact ⟨vs, h3, h4, h5, h6⟩
    obtain ⟨K1, hK1, h1, hf1⟩ := step
    obtain ⟨K2, hK2, h2, hf2⟩ := SimS.freezeL ids h1
    have up : FrozenAt K2 φ S i := fun m es p hid hp => by
      obtain ⟨vs, g1, g2, g3, g4⟩ := hf1 m es p hid hp
      exact ⟨vs, g1.mono hK2 (List.prefix_refl _), g2, g3, fun j v hj => hK2 _ _ _ (g4 j v hj)⟩
    refine ⟨K2, Know.le_trans hK1 hK2, h2, fun j hj => ?_⟩
    by_cases e : i = j
    · subst e; exact up
    · rcases List.mem_cons.1 hj with hj | hj
      · exact absurd hj.symm e
      · intro m es p hid hp
        exact hf2 j hj m es p (by rw [List.getElem?_set_ne e]; exact hid) hp

theorem foldl_kill (ids : List Nat) : ∀ (S : LS), (ids.foldl (fun S i => S.set i none) S).length = S.length ∧ ∀ j, j ∉ ids → (ids.foldl (fun S i => S.set i none) S)[j]? = S[j]? := by
  induction ids with
  | nil => intro S; exact ⟨rfl, fun _ _ => rfl⟩
  | cons i ids ih =>
    intro S
    refine ⟨by rw [List.foldl_cons, (ih _).1]; simp, fun j hj => ?_⟩
    simp only [List.mem_cons, not_or] at hj
    rw [List.foldl_cons, (ih _).2 j hj.2, List.getElem?_set_ne (Ne.symm hj.1)]

theorem frzK_sound {keep : Nat → Bool} {K' : Know} (hf : ∀ id, keep id = false → FrozenAt K' φ S id) : ∀ (d : Nat) {v : Value} {u : LV}, Rel K' φ v u → Rel K' φ v (frzK keep S d u)
  | 0, v, u, h => h
  | d + 1, v, u, h => by
    have mapL : ∀ {vs : List Value} {us : List LV}, RelL K' φ vs us → RelL K' φ vs (us.map (frzK keep S d)) := by
      intro vs us hh
      induction us generalizing vs with
      | nil => cases hh; exact .nil
      | cons x us ih => cases hh with | cons h1 h2 => exact .cons (frzK_sound hf d h1) (ih h2)
    cases u <;> simp only [frzK]
    case agg us => cases h with | agg h1 h2 => exact .agg h1 (mapL h2)
    case tup us => cases h with | tup h2 => exact .tup (mapL h2)
    case ref id off len =>
      cases hk : keep id with
      | true => simpa using h
      | false =>
        simp only [cond_false]
        split
        · rename_i m es he
          split
          · rename_i hle
            cases h with
            | refnil hp => simp; exact .slnil _
            | ref hp hl hc =>
              rename_i b o cap p
              obtain ⟨vs, g1, g2, g3, g4⟩ := hf id hk m es p he hp
              have hwl : ((es.drop off).take len).length = len := by rw [List.length_take, List.length_drop]; omega
              by_cases h0 : cap = 0
              · have hl0 : len = 0 := by omega
                subst hl0; subst h0
                exact .sl (vs := []) (sz := 0) (by simp) (by simp) (by simp; exact .nil) (by simp) (by simp) (Nat.le_refl _) (by simp)
              · obtain ⟨hv, rfl, rfl, _⟩ := hc h0
                have hes := g3 hv
                have hfl : (((es.drop off).take len).map fun e => e.map (frzK keep S d)).flatten = (((es.drop off).take len).flatten).map (frzK keep S d) := by
                  rw [List.map_flatten]
                refine .sl (vs := (vs.drop (off * p.sz)).take (len * p.sz)) (sz := p.sz) ?_ (fun x hx => g2 x (List.mem_of_mem_drop (List.mem_of_mem_take hx))) ?_ ?_ (by simp; omega) hl (by simp)
                · intro j x hj
                  rw [List.getElem?_take] at hj
                  split at hj
                  · rw [List.getElem?_drop] at hj
                    have := g4 _ _ hj
                    rwa [← Nat.add_assoc] at this
                  · cases hj
                · rw [hfl, flat_take (sz := p.sz) (fun e he => hes e (List.mem_of_mem_drop he)), flat_drop hes]
                  exact mapL ((g1.drop _).take _)
                · intro e he
                  obtain ⟨e', he', rfl⟩ := List.mem_map.1 he
                  rw [List.length_map]
                  exact hes e' (List.mem_of_mem_drop (List.mem_of_mem_take he'))
          · exact .any _
        · exact .any _
    all_goals exact h

theorem RetKeep.sound {d : Nat} {R : LV → LS → Prop} {u : LV} {v : Value} {K0 : Know} {φ0 : List Pl} (hk : RetKeep d R S u) (hS : SimS B w0 K φ S w) (hr : Rel K φ v u) (hK : K0.le K) (hφ : φ0 <+: φ) : Good B w0 K0 φ0 R v w := by
  obtain ⟨keep, S1, hl, hb, hR⟩ := hk
  obtain ⟨K2, k1, k2, k3⟩ := SimS.freezeL ((List.range S.length).filter fun i => !keep i) hS
  have hfz : ∀ id, keep id = false → FrozenAt K2 φ S id := fun id hid m es p he hp =>
    k3 id (by simp [hid]; exact (List.getElem?_eq_some_iff.1 he).1) m es p he hp
  have hfr := frzK_sound hfz d (hr.mono k1 (List.prefix_refl _))
  refine ⟨_, S1, K2, φ, hR, Know.le_trans hK k1, hφ, k2.weaken (by rw [hl, (foldl_kill _ _).1]) (fun id b hid => ?_), hfr⟩
  obtain ⟨hkeep, b', hb', hor⟩ := hb id b hid
  refine ⟨b', by rw [(foldl_kill _ _).2 id (by simp [hkeep])]; exact hb', ?_⟩
  rcases hor with rfl | rfl
  · exact ⟨rfl, rfl, fun _ h => h, fun _ h => h⟩
  · refine ⟨rfl, by simp [frzKB], fun sz hs e he => ?_, fun vs hv => ?_⟩
    · simp only [frzKB, List.mem_map] at he
      obtain ⟨e', he', rfl⟩ := he
      rw [List.length_map]; exact hs e' he'
    · simp only [frzKB]
      rw [← List.map_flatten]
      exact RelL.of_get (by rw [List.length_map]; exact hv.length) fun j v u hj hu => by
        rw [List.getElem?_map] at hu
        simp only [Option.map_eq_some_iff] at hu
        obtain ⟨u', hu', rfl⟩ := hu
        obtain ⟨v', hv', hr'⟩ := hv.get hu'
        rw [hj] at hv'; cases hv'
        exact frzK_sound hfz d hr'

def LPost (P : Program) (fn : Func) (d : Nat) (S : LS) (R : LV → LS → Prop) : Exit → Env → LS → Prop
  | .normal, env, S' | .ret, env, S' => resW P env S' fn.results.toList fun us => RetOk d S R S' (oneOf us)
  | _, _, _ => False

def argsEnv (us : List LV) : Env := fun t => us[t]?

def resF (tmps : Array Value) : ResultVar → Sem Value
  | .tmp t => pure (tmps.getD t undef)
  | .cell x t => do loadVar t (← asAddr (tmps.getD x undef))

theorem results_eq (fn : Func) (tmps : Array Value) : results fn tmps = (do let vs ← fn.results.mapM (resF tmps); pure (if h : vs.size = 1 then vs[0] else .tuple vs)) := by
  unfold results
  congr 2

theorem resW_sound {env : Env} {a : Act} (hS : SimS B w0 K φ S w) (hE : SimE N K φ env a) : ∀ (rs : List ResultVar) (k : List LV → Prop), resW P env S rs k →
    ∃ vs us, (rs.mapM (resF a.tmps)).run P w = .ok vs w ∧ RelL K φ vs us ∧ k us
  | [], k, h => ⟨[], [], rfl, .nil, h⟩
  | .tmp t :: rs, k, h => by
    obtain ⟨vs, us, h1, h2, h3⟩ := resW_sound hS hE rs _ h
    refine ⟨a.tmps.getD t undef :: vs, (env t).getD .any :: us, ?_, .cons ?_ h2, h3⟩
    · simp only [List.mapM_cons, Sem.run_bind, resF, Sem.run_pure, Result.andThen_ok, h1]
    · exact hE.eval (.tmp t)
  | .cell x t :: rs, k, h => by
    obtain ⟨cells, off, g1, g2⟩ := h
    obtain ⟨u, g3, g4⟩ := ldW_spec g2
    obtain ⟨vs, us, h1, h2, h3⟩ := resW_sound hS hE rs _ g4
    obtain ⟨b, o, cs, q1, q2, q3, q4⟩ := hS.at (hE.eval (.tmp x)) g1
    obtain ⟨v, q5, q6⟩ := run_loadVar_lift (P := P) q2 q3 q4 g3
    refine ⟨v :: vs, u :: us, ?_, .cons q6 h2, h3⟩
    have q1' : a.tmps.getD x undef = .pointer (some ⟨b, o + off, none⟩) := q1
    have hasA : (asAddr (a.tmps.getD x undef)).run P w = .ok ⟨b, o + off, none⟩ w := by rw [q1']; rfl
    have hcell : (resF a.tmps (.cell x t)).run P w = .ok v w := by simp only [resF, Sem.run_bind, hasA, Result.andThen_ok, q5]
    simp only [List.mapM_cons, Sem.run_bind, hcell, Result.andThen_ok, h1, Sem.run_pure]

theorem LCalls_intro {f : FuncId} {fn : Func} {c : Code} {us : List LV} {R : LV → LS → Prop} (d : Nat) (hf : P.funcs[f]? = some fn) (hb : fn.body = some c) (hg : goT P f = true) (hn : us.length ≤ fn.ntmps)
    (h : Lwp P fn.ntmps c (LPost P fn d S R) (argsEnv us) S) : LCalls P f us S R := by
  refine ⟨hg, fun B w0 K φ w vs hS hv => ?_⟩
  have hvl := hv.length
  have hE : SimE fn.ntmps K φ (argsEnv us) { tmps := vs.toArray ++ Array.replicate (fn.ntmps - vs.toArray.size) undef, defers := [] } := by
    refine ⟨by simp; omega, rfl, fun t u hu => ?_⟩
    unfold argsEnv at hu
    have ht := (List.getElem?_eq_some_iff.1 hu).1
    obtain ⟨v, hv', hr⟩ := hv.get hu
    refine ⟨by omega, ?_⟩
    have hlt : t < vs.length := by omega
    have e : (vs.toArray ++ Array.replicate (fn.ntmps - vs.toArray.size) undef)[t]? = some v := by
      rw [Array.getElem?_append_left (by simpa using hlt)]; simpa using hv'
    rw [Array.getD_eq_getD_getElem?, e]
    exact hr
  have hw := h B w0 K φ _ w hS hE
  refine calls_of_wp hf hb (wp_mono hw ?_)
  rintro e a' w' ⟨env', S', K', φ', h1, h2, h3, h4, h5⟩
  have fin : resW P env' S' fn.results.toList (fun us => RetOk d S R S' (oneOf us)) → a'.defers = [] ∧ ∃ v, (results fn a'.tmps).run P w' = .ok v w' ∧ ∃ x, Ending.returned v = .returned x ∧ Good B w0 K φ R x w' := by
    intro hres
    obtain ⟨vs', us', g1, g2, g3⟩ := resW_sound h4 h5 _ _ hres
    refine ⟨h5.defers, ?_⟩
    have hres' : (results fn a'.tmps).run P w' = .ok (if h : vs'.toArray.size = 1 then vs'.toArray[0] else .tuple vs'.toArray) w' := by
      rw [results_eq, Array.mapM_eq_mapM_toList]
      simp only [Sem.run_bind, Sem.run_map, g1, Result.andThen_ok, Sem.run_pure]
    have hrel : Rel K' φ' (if h : vs'.toArray.size = 1 then vs'.toArray[0] else .tuple vs'.toArray) (oneOf us') := by
      cases g2 with
      | nil => simp [oneOf]; exact .tup .nil
      | cons x xs => cases xs with
        | nil => simp [oneOf]; exact x
        | cons y ys => simp [oneOf]; exact .tup (.cons x (.cons y ys))
    refine ⟨_, hres', _, rfl, ?_⟩
    rcases g3 with ⟨g3, S1, gl, g4, g5, g6⟩ | g3
    case inr => exact g3.sound h4 hrel h2 h3
    have hlen : S'.length = S.length + (S'.length - S.length) := by omega
    obtain ⟨K2, k1, k2, k3⟩ := SimS.freezeFrom (S'.length - S.length) h4 S.length hlen
    have hfr := frz_sound (K := K2) (Know.le_refl K2) k3 d (hrel.mono k1 (List.prefix_refl _))
    have hφl : φ.length = S.length := hS.len
    have get : ∀ {id : Nat} {b : Blk}, S'[id]? = some (some b) → id < S.length → (S'.take S.length ++ List.replicate (S'.length - S.length) none)[id]? = some (some b) := fun {id b} hh hid => by
      rw [List.getElem?_append_left (by simp; omega), List.getElem?_take_of_lt hid]; exact hh
    have hweak := k2.weaken (S1 := S1 ++ List.replicate (S'.length - S.length) none) (by simp; omega) (fun id b hb => by
      have hid : id < S1.length := by
        rcases Nat.lt_or_ge id S1.length with h | h
        · exact h
        · rw [List.getElem?_append_right h] at hb
          rw [List.getElem?_replicate] at hb
          split at hb <;> cases hb
      rw [List.getElem?_append_left hid] at hb
      rcases g4 id b hb with ⟨_, hh⟩ | ⟨b', hh, rfl, _⟩
      · exact ⟨b, get hh (by omega), rfl, rfl, fun _ h => h, fun _ h => h⟩
      · refine ⟨b', get hh (by omega), rfl, by simp [frzB], fun sz hs e he => ?_, fun vs hv => ?_⟩
        · simp only [frzB, List.mem_map] at he
          obtain ⟨e', he', rfl⟩ := he
          rw [List.length_map]; exact hs e' he'
        · simp only [frzB]
          rw [← List.map_flatten]
          exact RelL.of_get (by rw [List.length_map]; exact hv.length) fun j v u hj hu => by
            rw [List.getElem?_map] at hu
            simp only [Option.map_eq_some_iff] at hu
            obtain ⟨u', hu', rfl⟩ := hu
            obtain ⟨v', hv', hr⟩ := hv.get hu'
            rw [hj] at hv'; cases hv'
            exact frz_sound (K := K2) (Know.le_refl K2) k3 d hr)
    have hdrop := hweak.drop (n := S.length) (fun id b hid hb => by
      rw [List.getElem?_append_left (by omega)] at hb
      rcases g4 id b hb with ⟨hh, _⟩ | ⟨_, _, _, hh⟩
      · obtain ⟨p, hp⟩ := hS.pl hh
        cases hvp : p.virt with
        | true => have := hS.virt id b.1 b.2 p hh hp hvp; rw [this]; rfl
        | false =>
          obtain ⟨_, _, vsb, _, _, _, _, hrb, _⟩ := hS.blk id b.1 b.2 p hh hp hvp
          have := hrb.lt
          rw [hφl] at this
          exact ltLL_iff.2 this
      · exact hh)
    have htake : (S1 ++ List.replicate (S'.length - S.length) none).take S.length = S1 := by
      rw [List.take_append_of_le_length (by omega), List.take_of_length_le (by omega)]
    rw [htake] at hdrop
    have hpre : φ <+: φ'.take S.length := by
      obtain ⟨t, rfl⟩ := h3
      rw [List.take_append_of_le_length (by omega), List.take_of_length_le (by omega)]
      exact List.prefix_refl _
    exact ⟨_, _, K2, φ'.take S.length, g6, Know.le_trans h2 k1, hpre, hdrop, hfr.take g5⟩
  cases e with
  | normal => exact fin h1
  | ret => exact fin h1
  | _ => exact h1.elim

end
end Go.Lift
end
section
set_option linter.all false
/-
  The lifted layer, part 13: one operation in direct style: its condition, its value, its store: for rewriting.
-/
namespace Go.Lift
open Go.RowKit

abbrev Gt := Nat → Option Blk
def LS.g (S : LS) : Gt := fun id => (S[id]?).join

def atG (G : Gt) : LV → Option (List LV × Nat)
  | .ptr id i off => match G id with
    | some (_, es) => match es[i]? with
      | some cells => some (cells, off)
      | none => none
    | none => none
  | .eptr cells off => some (cells, off)
  | _ => none

def ldC (P : Program) (t : TypeId) : Option (List LV × Nat) → Prop
  | some (cells, off) => match rowT P t with
    | some true => match sizeT P t with
      | some n => off + n ≤ cells.length
      | none => False
    | some false => off < cells.length
    | none => False
  | none => False

def ldU (P : Program) (t : TypeId) : Option (List LV × Nat) → LV
  | some (cells, off) => match rowT P t with
    | some true => .agg ((cells.drop off).take ((sizeT P t).getD 0))
    | _ => cells.getD off .any
  | none => .any

def stC (P : Program) (t : TypeId) (G : Gt) : LV → Option (List LV) → Prop
  | .ptr id i off, some us => match G id with
    | some (_, es) => match es[i]? with
      | some cells => sizeT P t = some us.length ∧ off + us.length ≤ cells.length
      | none => False
    | none => False
  | _, _ => False

/-- cells laid over other cells. -/
def ovr : List LV → Nat → List LV → List LV
  | [], _, us => us
  | c :: cs, off + 1, us => c :: ovr cs off us
  | c :: cs, 0, [] => c :: cs
  | _ :: cs, 0, u :: us => u :: ovr cs 0 us

def stS (S : LS) : LV → Option (List LV) → LS
  | .ptr id i off, some us => match S.g id with
    | some (n, es) => S.set id (some (n, es.set i (ovr (es.getD i []) off us)))
    | none => S
  | _, _ => S

def ncC (P : Program) : LV → Prop
  | .ptr _ _ _ | .eptr _ _ | .iface _ _ | .func (.func _) _ _ => True
  | .func (.method name) (.iface t _ :: _) _ => (methT P t name).isSome = true
  | _ => False

def intC (op : BinOp) (b : Int) : Prop :=
  match op with
  | .quo | .rem => b ≠ 0
  | .shl | .shr => 0 ≤ b
  | .andNot => False
  | _ => True

def intU (op : BinOp) (k : IntKind) (a b : Int) : LV :=
  match op with
  | .add => .int k (k.wrap (a + b))
  | .sub => .int k (k.wrap (a - b))
  | .mul => .int k (k.wrap (a * b))
  | .quo => .int k (k.wrap (a.tdiv b))
  | .rem => .int k (a.tmod b)
  | .and => .int k (k.wrap (BitVec.ofInt k.bits a &&& BitVec.ofInt k.bits b).toNat)
  | .or => .int k (k.wrap (BitVec.ofInt k.bits a ||| BitVec.ofInt k.bits b).toNat)
  | .xor => .int k (k.wrap (BitVec.ofInt k.bits a ^^^ BitVec.ofInt k.bits b).toNat)
  | .eql => .bool (decide (a = b))
  | .neq => .bool (decide (a ≠ b))
  | .lss => .bool (decide (a < b))
  | .leq => .bool (decide (a ≤ b))
  | .gtr => .bool (decide (b < a))
  | .geq => .bool (decide (b ≤ a))
  | .shl => .int k (k.wrap (a * 2 ^ min b.toNat k.bits))
  | .shr => .int k (a.fdiv (2 ^ min b.toNat k.bits))
  | _ => .any

def strU (op : BinOp) (a b : ByteArray) : LV :=
  match op with
  | .eql => .bool (decide (a = b))
  | .neq => .bool (decide (a ≠ b))
  | .lss => .bool (Op.bytesLess a.toList b.toList)
  | .gtr => .bool (!(Op.bytesLess a.toList b.toList || decide (a = b)))
  | .leq => .bool (Op.bytesLess a.toList b.toList || decide (a = b))
  | .geq => .bool (!Op.bytesLess a.toList b.toList)
  | .add => .str (a ++ b)
  | _ => .any

def strC (op : BinOp) (a b : ByteArray) : Prop :=
  match op with
  | .add => a.size + b.size ≤ 9223372036854775807
  | .eql | .neq | .lss | .gtr | .leq | .geq => True
  | _ => False

def eqC (op : BinOp) : Prop :=
  match op with
  | .eql | .neq => True
  | _ => False

def eqU (op : BinOp) (b : Bool) : LV :=
  match op with
  | .eql => .bool b
  | _ => .bool (!b)

def isSh (op : BinOp) : Bool :=
  match op with
  | .shl | .shr => true
  | _ => false

def binC (P : Program) (op : BinOp) (t : TypeId) : LV → LV → Prop
  | .int k _, .int k' b => (isSh op || k == k') = true ∧ intC op b
  | .str a, .str b => strC op a b
  | .bool _, .bool _ => eqC op ∧ isBoolT P t = true
  | .nilp, .nilp => eqC op ∧ isPtrT P t = true
  | .ptr _ _ _, .nilp => eqC op ∧ isPtrT P t = true
  | .agg us, .agg vs => eqC op ∧ aggC P t us vs = true
  | _, _ => False

def binU (op : BinOp) : LV → LV → LV
  | .int k a, .int _ b => intU op k a b
  | .str a, .str b => strU op a b
  | .bool a, .bool b => eqU op (a == b)
  | .nilp, .nilp => eqU op true
  | .ptr _ _ _, .nilp => eqU op false
  | .agg us, .agg vs => eqU op (eqL us vs)
  | _, _ => .any

def unC (op : UnOp) : LV → Prop
  | .bool _ => match op with | .not => True | _ => False
  | .int _ _ => match op with | .neg | .xor => True | _ => False
  | _ => False

def unU (op : UnOp) : LV → LV
  | .bool b => .bool (!b)
  | .int k n => match op with
    | .neg => .int k (k.wrap (0 - n))
    | _ => .int k (k.wrap (BitVec.ofInt k.bits (if k.signed then -1 else k.max) ^^^ BitVec.ofInt k.bits n).toNat)
  | _ => .any

/-- the bytes of a slice. -/
def byteE : List LV → UInt8
  | [.int _ n] => UInt8.ofNat n.toNat
  | _ => 0

def srcG (G : Gt) : LV → Option (List (List LV))
  | .sl _ es => some es
  | .ref id off len => match G id with
    | some (_, es) => some ((es.drop off).take len)
    | none => none
  | .str s => some (s.data.toList.map u8c)
  | _ => none

/-- the window of a row lies in it. -/
def srcC (G : Gt) : LV → Prop
  | .ref id off len => match G id with
    | some (_, es) => off + len ≤ es.length
    | none => False
  | .sl _ _ | .str _ => True
  | _ => False

def bytesC (o : Option (List (List LV))) : Prop := ∃ xs : List UInt8, o = some (xs.map u8c)
def bytesU : Option (List (List LV)) → LV
  | some es => .str (strOf (es.map byteE))
  | none => .any

def convC (P : Program) (G : Gt) (src dst : TypeId) : LV → Prop
  | .int _ _ => (intT P dst).isSome = true ∧ (intT P src).isSome = true
  | .str _ => isStrT P src = true ∧ isStrT P dst = true
  | u => (∃ e, elemT P src = some e ∧ intT P e = some .u8) ∧ isStrT P dst = true ∧ srcC G u ∧ bytesC (srcG G u)

def convU (P : Program) (G : Gt) (dst : TypeId) : LV → LV
  | .int _ n => match intT P dst with
    | some k => .int k (k.wrap n)
    | none => .any
  | .str s => .str s
  | u => bytesU (srcG G u)

def loI : Option LV → Int
  | some (.int _ n) => n
  | _ => 0
def hiI (d : Int) : Option LV → Int
  | some (.int _ n) => n
  | _ => d
def bOk : Option LV → Prop
  | none => True
  | some (.int _ _) => True
  | _ => False

def slC (P : Program) (G : Gt) (t : TypeId) (lo hi : Option LV) : LV → Prop
  | .str s => isStrT P t = true ∧ 0 ≤ loI lo ∧ loI lo ≤ hiI s.size hi ∧ hiI s.size hi ≤ (s.size : Int)
  | .sl _ elems => ∃ e n, elemT P t = some e ∧ sizeT P e = some n ∧ 0 ≤ loI lo ∧ loI lo ≤ hiI elems.length hi ∧ hiI elems.length hi ≤ (elems.length : Int) ∧ ∀ e ∈ elems.head?, e.length = n
  | .ref id _ len => ∃ e n, elemT P t = some e ∧ sizeT P e = some n ∧ 0 ≤ loI lo ∧ loI lo ≤ hiI len hi ∧ hiI len hi ≤ (len : Int) ∧ ∃ es, G id = some (n, es)
  | _ => False

def slU (lo hi : Option LV) : LV → LV
  | .str s => .str (s.extract (loI lo).toNat (hiI s.size hi).toNat)
  | .sl full elems => .sl (full && hiI elems.length hi == (elems.length : Int)) ((elems.drop (loI lo).toNat).take ((hiI elems.length hi).toNat - (loI lo).toNat))
  | .ref id off len => .ref id (off + (loI lo).toNat) ((hiI len hi).toNat - (loI lo).toNat)
  | _ => .any

def ixC (P : Program) (G : Gt) (t : TypeId) : LV → LV → Prop
  | .sl _ elems, .int _ i => ∃ e n, kT P t = .sl e ∧ sizeT P e = some n ∧ 0 ≤ i ∧ i < (elems.length : Int) ∧ (elems.getD i.toNat []).length = n
  | .ref id off len, .int _ i => ∃ e n, kT P t = .sl e ∧ sizeT P e = some n ∧ 0 ≤ i ∧ i < (len : Int) ∧ ∃ es, G id = some (n, es) ∧ off + i.toNat < es.length ∧ (es.getD (off + i.toNat) []).length = n
  | .ptr _ _ _, .int _ i => ∃ l e n, kT P t = .arr l e ∧ sizeT P e = some n ∧ 0 ≤ i ∧ i < (l : Int)
  | .eptr _ _, .int _ i => ∃ l e n, kT P t = .arr l e ∧ sizeT P e = some n ∧ 0 ≤ i ∧ i < (l : Int)
  | _, _ => False

def arrSz (P : Program) (t : TypeId) : Nat :=
  match kT P t with
  | .arr _ e => (sizeT P e).getD 0
  | _ => 0

def ixU (P : Program) (t : TypeId) : LV → LV → LV
  | .sl _ elems, .int _ i => .eptr (elems.getD i.toNat []) 0
  | .ref id off _, .int _ i => .ptr id (off + i.toNat) 0
  | .ptr id j off, .int _ i => .ptr id j (off + i.toNat * arrSz P t)
  | .eptr c off, .int _ i => .eptr c (off + i.toNat * arrSz P t)
  | _, _ => .any

def faC : Option Nat → LV → Prop
  | some _, .ptr _ _ _ | some _, .eptr _ _ => True
  | _, _ => False
def faU : Option Nat → LV → LV
  | some n, .ptr id i off => .ptr id i (off + n)
  | some n, .eptr c off => .eptr c (off + n)
  | _, _ => .any

def aggL : LV → Option (List LV)
  | .agg us => some us
  | _ => none

def ixvC (P : Program) (t : TypeId) : LV → LV → Prop
  | .str s, .int _ i => kT P t = .str ∧ 0 ≤ i ∧ i < (s.size : Int)
  | .agg us, .int _ i => ∃ l e n, kT P t = .arr l e ∧ sizeT P e = some n ∧ 0 ≤ i ∧ i < (l : Int) ∧ ldC P e (some (us, i.toNat * n))
  | _, _ => False

def ixvU (P : Program) (t : TypeId) : LV → LV → LV
  | .str s, .int _ i => .int .u8 (s.data.toList.getD i.toNat 0).toNat
  | .agg us, .int _ i => match kT P t with
    | .arr _ e => ldU P e (some (us, i.toNat * (sizeT P e).getD 0))
    | _ => .any
  | _, _ => .any

def tupL : LV → List LV
  | .tup us => us
  | _ => []

def intL : LV → Option Int
  | .int _ n => some n
  | _ => none

def mkC (P : Program) (t : TypeId) : LV → LV → Prop
  | .int _ l, .int _ c => ∃ e n b zc, elemT P t = some e ∧ layE P e = some (n, b, zc) ∧ 0 ≤ l ∧ l ≤ c ∧ c * b ≤ LIM
  | _, _ => False
def mkS (P : Program) (t : TypeId) (S : LS) : LV → LS
  | .int _ c => match elemT P t with
    | some e => match layE P e with
      | some (n, _, zc) => S ++ [some (n, List.replicate c.toNat zc)]
      | none => S
    | none => S
  | _ => S

def apC (P : Program) (G : Gt) (sT tx : TypeId) (d : LV) (fs : Option (List (List LV))) : Prop :=
  match fs with
  | none => False
  | some fs => ∃ e n b zc, elemT P sT = some e ∧ layE P e = some (n, b, zc) ∧ srcT P tx = true ∧ (∀ f ∈ fs, f.length = n) ∧
    match d with
    | .sl true elems => (elems = [] ∨ fs ≠ []) ∧ (∀ f ∈ elems, f.length = n) ∧ (elems.length + fs.length) * b ≤ LIM
    | .ref id off len => ∃ es, G id = some (n, es) ∧ off + len ≤ es.length ∧ (len + fs.length) * b ≤ LIM
    | _ => False
def apU (S : LS) (fs : Option (List (List LV))) : LV → LV
  | .sl _ elems => .ref S.length 0 (elems.length + (fs.getD []).length)
  | .ref _ _ len => .ref S.length 0 (len + (fs.getD []).length)
  | _ => .any
def apN (P : Program) (sT : TypeId) : Nat :=
  match elemT P sT with
  | some e => match layE P e with
    | some (n, _, _) => n
    | none => 0
  | none => 0
def apS (P : Program) (sT : TypeId) (S : LS) (fs : Option (List (List LV))) : LV → LS
  | .sl _ elems => S ++ [some (apN P sT, elems ++ fs.getD [])]
  | .ref id off len => match S.g id with
    | some (_, es) => S.set id none ++ [some (apN P sT, (es.drop off).take len ++ fs.getD [])]
    | none => S
  | _ => S

def cpC (P : Program) (G : Gt) (dT : TypeId) (d : LV) (fs : Option (List (List LV))) : Prop :=
  match fs with
  | none => False
  | some fs => ∃ e n, elemT P dT = some e ∧ sizeT P e = some n ∧ (∀ f ∈ fs, f.length = n) ∧
    match d with
    | .ref id off len => ∃ es, G id = some (n, es) ∧ off + len ≤ es.length
    | _ => False
def cpU (fs : Option (List (List LV))) : LV → LV
  | .ref _ _ len => .int .i64 (min (fs.getD []).length len : Nat)
  | _ => .any
def cpS (S : LS) (fs : Option (List (List LV))) : LV → LS
  | .ref id off len => match S.g id with
    | some (n, es) => S.set id (some (n, es.take off ++ (fs.getD []).take (min (fs.getD []).length len) ++ es.drop (off + min (fs.getD []).length len)))
    | none => S
  | _ => S

def lnC (P : Program) (t : TypeId) : LV → Prop
  | .str _ => kT P t = .str
  | .sl _ _ | .ref _ _ _ => ∃ e, kT P t = .sl e
  | _ => ∃ n e, kT P t = .arr n e
def lnU (P : Program) (t : TypeId) : LV → LV
  | .str s => .int .i64 s.size
  | .sl _ es => .int .i64 es.length
  | .ref _ _ len => .int .i64 len
  | _ => match kT P t with
    | .arr n _ => .int .i64 n
    | _ => .any

def mmC : LV → LV → Prop
  | .int _ _, .int _ _ => True
  | _, _ => False
def mnU : LV → LV → LV
  | .int k a, .int _ b => .int k (if b < a then b else a)
  | _, _ => .any
def mxU : LV → LV → LV
  | .int k a, .int _ b => .int k (if b > a then b else a)
  | _, _ => .any

def tbL : LV → Bool
  | .bool b => b
  | _ => false
def isB : LV → Bool
  | .bool _ => true
  | _ => false

/-- the condition of an operation that is no call of a function. -/
def opC (P : Program) (G : Gt) (op : Op) (ρ : Operand → LV) : Prop :=
  match op with
  | .move _ | .assign _ | .makeFunc _ _ _ => True
  | .pick c _ _ => isB (ρ c) = true
  | .alloc e => (layE P e).isSome = true
  | .box _ x => (ρ x).cells?.isSome = true
  | .load t a => ldC P t (atG G (ρ a))
  | .store t a x => stC P t G (ρ a) (ρ x).cells?
  | .nilCheck x => ncC P (ρ x)
  | .binOp op t x y _ => cond (nilK y) (nilC P op t (ρ x)) (binC P op t (ρ x) (ρ y))
  | .unOp op _ x => unC op (ρ x)
  | .convert src dst x => convC P G src dst (ρ x)
  | .makeInterface t _ => P.concrete t = true
  | .makeSlice t l c => mkC P t (ρ l) (ρ c)
  | .slice t x lo hi mx => mxC (hi.map ρ) (mx.map ρ) (ρ x) ∧ bOk (lo.map ρ) ∧ bOk (hi.map ρ) ∧ slC P G t (lo.map ρ) (hi.map ρ) (cutM (mx.map ρ) (ρ x))
  | .fieldAddr s x f => faC (fldT P s f) (ρ x)
  | .field s x f => (fldTy P s f).isSome = true ∧ (aggL (ρ x)).isSome = true ∧ ldC P ((fldTy P s f).getD (0, 0)).1 (some ((aggL (ρ x)).getD [], ((fldTy P s f).getD (0, 0)).2))
  | .indexAddr t x i => ixC P G t (ρ x) (ρ i)
  | .index t x i => ixvC P t (ρ x) (ρ i)
  | .extract x i => i < (tupL (ρ x)).length
  | .build t parts => knownT P t = true ∧ ((layE P t).bind fun z => fillL (placeT P t) z.2.2 (parts.toList.map fun p => (p.1, ρ p.2))).isSome = true
  | .buildSlice t len parts => ((elemT P t).bind fun e => (layE P e).bind fun z => if len * z.1 ≤ 16777216 then fillE z.1 (List.replicate len z.2.2) (parts.toList.map fun p => (p.1, ρ p.2)) else none).isSome = true
  | .call c =>
    match c.callee, c.argTypes.toList, c.args.toList with
    | .builtin .append, [sT, tx], [d, x] => srcC G (ρ x) ∧ apC P G sT tx (ρ d) (srcG G (ρ x))
    | .builtin .copy, [dT, _], [d, x] => srcC G (ρ x) ∧ cpC P G dT (ρ d) (srcG G (ρ x))
    | .builtin .len, [t], [x] => lnC P t (ρ x)
    | .builtin .min, _, [x, y] => mmC (ρ x) (ρ y)
    | .builtin .max, _, [x, y] => mmC (ρ x) (ρ y)
    | .builtin .min, _, [x, y, z] => mmC (ρ x) (ρ y) ∧ mmC (mnU (ρ x) (ρ y)) (ρ z)
    | .builtin .max, _, [x, y, z] => mmC (ρ x) (ρ y) ∧ mmC (mxU (ρ x) (ρ y)) (ρ z)
    | _, _, _ => False
  | _ => False

/-- its value. -/
def opU (P : Program) (G : Gt) (n : Nat) (op : Op) (ρ : Operand → LV) : LV :=
  match op with
  | .move x | .assign x | .nilCheck x => ρ x
  | .makeFunc fn first caps => .func fn (first.toList.map ρ) (caps.toList.map ρ)
  | .pick c a b => bif tbL (ρ c) then ρ a else ρ b
  | .alloc _ | .box _ _ => .ptr n 0 0
  | .load t a => ldU P t (atG G (ρ a))
  | .store _ _ _ => .any
  | .binOp op _ x y _ => cond (nilK y) (nilU op (ρ x)) (binU op (ρ x) (ρ y))
  | .unOp op _ x => unU op (ρ x)
  | .convert _ dst x => convU P G dst (ρ x)
  | .makeInterface t x => .iface t (ρ x)
  | .makeSlice _ l _ => .ref n 0 ((intL (ρ l)).getD 0).toNat
  | .slice _ x lo hi mx => slU (lo.map ρ) (hi.map ρ) (cutM (mx.map ρ) (ρ x))
  | .fieldAddr s x f => faU (fldT P s f) (ρ x)
  | .field s x f => ldU P ((fldTy P s f).getD (0, 0)).1 (some ((aggL (ρ x)).getD [], ((fldTy P s f).getD (0, 0)).2))
  | .indexAddr t x i => ixU P t (ρ x) (ρ i)
  | .index t x i => ixvU P t (ρ x) (ρ i)
  | .extract x i => (tupL (ρ x)).getD i .any
  | .build t parts => .agg (((layE P t).bind fun z => fillL (placeT P t) z.2.2 (parts.toList.map fun p => (p.1, ρ p.2))).getD [])
  | .buildSlice t len parts => .sl true (((elemT P t).bind fun e => (layE P e).bind fun z => if len * z.1 ≤ 16777216 then fillE z.1 (List.replicate len z.2.2) (parts.toList.map fun p => (p.1, ρ p.2)) else none).getD [])
  | .call c =>
    match c.callee, c.argTypes.toList, c.args.toList with
    | .builtin .append, _, [d, x] => apU' n (srcG G (ρ x)) (ρ d)
    | .builtin .copy, _, [d, x] => cpU (srcG G (ρ x)) (ρ d)
    | .builtin .len, [t], [x] => lnU P t (ρ x)
    | .builtin .min, _, [x, y] => mnU (ρ x) (ρ y)
    | .builtin .max, _, [x, y] => mxU (ρ x) (ρ y)
    | .builtin .min, _, [x, y, z] => mnU (mnU (ρ x) (ρ y)) (ρ z)
    | .builtin .max, _, [x, y, z] => mxU (mxU (ρ x) (ρ y)) (ρ z)
    | _, _, _ => .any
  | _ => .any
where
  apU' (n : Nat) (fs : Option (List (List LV))) : LV → LV
    | .sl _ elems => .ref n 0 (elems.length + (fs.getD []).length)
    | .ref _ _ len => .ref n 0 (len + (fs.getD []).length)
    | _ => .any

/-- the store behind it. -/
def opS (P : Program) (S : LS) (op : Op) (ρ : Operand → LV) : LS :=
  match op with
  | .alloc e => match layE P e with
    | some (_, _, zc) => S ++ [some (zc.length, [zc])]
    | none => S
  | .box _ x => match (ρ x).cells? with
    | some us => S ++ [some (us.length, [us])]
    | none => S
  | .store _ a x => stS S (ρ a) (ρ x).cells?
  | .makeSlice t _ c => mkS P t S (ρ c)
  | .call c =>
    match c.callee, c.argTypes.toList, c.args.toList with
    | .builtin .append, [sT, _], [d, x] => apS P sT S (srcG S.g (ρ x)) (ρ d)
    | .builtin .copy, _, [d, x] => cpS S (srcG S.g (ρ x)) (ρ d)
    | _, _, _ => S
  | _ => S

end Go.Lift
end
section
set_option linter.all false
/-
  The lifted layer, part 14: the direct style is sound.
-/
namespace Go.Lift
open Go.RowKit

def Gt.le (G : Gt) (S : LS) : Prop := ∀ id b, G id = some b → S[id]? = some (some b)

theorem LS.g_le (S : LS) : Gt.le S.g S := fun id b h => by
  unfold LS.g at h
  cases hs : S[id]? with
  | none => rw [hs] at h; cases h
  | some o => rw [hs] at h; cases o with
    | none => cases h
    | some x => cases h; rfl

section
variable {P : Program} {S : LS} {G : Gt}

theorem atG_le (hG : G.le S) {u : LV} {x : List LV × Nat} (h : atG G u = some x) : S.at u = some x := by
  cases u <;> simp only [atG, reduceCtorEq] at h
  · split at h
    · rename_i es he
      have := hG _ _ he
      split at h
      · rename_i c hc; simp only [LS.at, this, hc]; exact h
      · cases h
    · cases h
  · simpa [LS.at] using h

theorem ld_of {t : TypeId} {x : List LV × Nat} {K : LV → Prop} (hc : ldC P t (some x)) (hk : K (ldU P t (some x))) : ldW P t x.1 x.2 K := by
  obtain ⟨cells, off⟩ := x
  simp only [ldC] at hc
  simp only [ldU] at hk
  unfold ldW
  cases hr : rowT P t with
  | none => simp only [hr] at hc
  | some b =>
    cases b with
    | true =>
      simp only [hr] at hc hk ⊢
      cases hn : sizeT P t with
      | none => simp only [hn] at hc
      | some n =>
        simp only [hn, Option.getD_some] at hc hk
        exact ⟨n, rfl, hc, hk⟩
    | false =>
      simp only [hr] at hc hk ⊢
      exact ⟨cells[off], List.getElem?_eq_getElem hc, by simpa [List.getD_eq_getElem?_getD, List.getElem?_eq_getElem hc] using hk⟩

theorem ovr_eq : ∀ (cs : List LV) (off : Nat) (us : List LV), off + us.length ≤ cs.length → ovr cs off us = cs.take off ++ us ++ cs.drop (off + us.length)
  | [], off, us, h => by
    have h1 : off = 0 := by simp at h; omega
    have h2 : us = [] := by cases us with | nil => rfl | cons => simp at h
    subst h1; subst h2; rfl
  | c :: cs, off + 1, us, h => by
    simp only [ovr]
    rw [ovr_eq cs off us (by simp at h; omega), show off + 1 + us.length = off + us.length + 1 by omega]
    simp
  | c :: cs, 0, [], h => by simp [ovr]
  | c :: cs, 0, u :: us, h => by
    simp only [ovr]
    rw [ovr_eq cs 0 us (by simp at h ⊢; omega)]
    simp

theorem bin_of {op : BinOp} {t : TypeId} {a b : LV} {K : LV → Prop} (hc : binC P op t a b) (hk : K (binU op a b)) : lbinW P op t a b K := by
  cases a <;> cases b <;> simp only [binC] at hc <;> simp only [binU] at hk <;> simp only [lbinW]
  case int.int k1 a k2 b =>
    obtain ⟨h1, h2⟩ := hc
    cases op <;> simp only [intC] at h2 <;> simp only [intU] at hk <;> simp only [isSh, Bool.true_or, Bool.false_or, beq_iff_eq] at h1 <;> simp only [intOpW]
    all_goals first
      | exact h2.elim
      | exact ⟨h1, hk⟩
      | exact ⟨h2, hk⟩
      | exact ⟨h1, h2, hk⟩
  case str.str a b => cases op <;> simp only [strC] at hc <;> simp only [strU] at hk <;> simp only <;> first | exact hk | exact ⟨hc, hk⟩
  case bool.bool a b => cases op <;> simp only [eqC, false_and] at hc <;> simp only [eqU] at hk <;> exact ⟨hc.2, hk⟩
  case nilp.nilp => cases op <;> simp only [eqC, false_and] at hc <;> simp only [eqU] at hk <;> exact ⟨hc.2, hk⟩
  case ptr.nilp => cases op <;> simp only [eqC, false_and] at hc <;> simp only [eqU] at hk <;> exact ⟨hc.2, hk⟩
  case agg.agg => cases op <;> simp only [eqC, false_and] at hc <;> simp only [eqU] at hk <;> exact ⟨hc.2, hk⟩

theorem un_of {op : UnOp} {a : LV} {K : LV → Prop} (hc : unC op a) (hk : K (unU op a)) : lunW op a K := by
  cases a <;> simp only [unC] at hc <;> simp only [unU] at hk <;> simp only [lunW] <;> cases op <;> first | exact hc.elim | exact hk

theorem src_of (hG : G.le S) {u : LV} {fs : List (List LV)} (hc : srcC G u) (h : srcG G u = some fs) : srcE S u = some fs := by
  cases u <;> simp only [srcG, reduceCtorEq] at h <;> simp only [srcE]
  case sl => exact h
  case str => exact h
  case ref id off len =>
    split at h
    · rename_i n es he
      simp only [srcC, he] at hc
      simp only [hG _ _ he, if_pos hc]; exact h
    · cases h

theorem map_byteE (xs : List UInt8) : (xs.map u8c).map byteE = xs := by
  induction xs with
  | nil => rfl
  | cons x xs ih => simp only [List.map_cons, ih]; simp [u8c, byteE]

theorem conv_of (hG : G.le S) {src dst : TypeId} {u : LV} {K : LV → Prop} (hc : convC P G src dst u) (hk : K (convU P G dst u)) : lconvW P S src dst u K := by
  have bytes : (∃ e, elemT P src = some e ∧ intT P e = some .u8) ∧ isStrT P dst = true ∧ srcC G u ∧ bytesC (srcG G u) → K (bytesU (srcG G u)) → ∃ e, elemT P src = some e ∧ intT P e = some .u8 ∧ isStrT P dst = true ∧ ∃ xs : List UInt8, srcE S u = some (xs.map u8c) ∧ K (.str (strOf xs)) := by
    rintro ⟨⟨e, he, hi⟩, hd, hsc, xs, hx⟩ hk
    refine ⟨e, he, hi, hd, xs, src_of hG hsc hx, ?_⟩
    rw [hx] at hk
    simp only [bytesU, map_byteE] at hk
    exact hk
  cases u <;> simp only [convC] at hc <;> simp only [convU] at hk <;> simp only [lconvW]
  case int k n =>
    obtain ⟨h1, h2⟩ := hc
    obtain ⟨kd, hd⟩ := Option.isSome_iff_exists.1 h1
    simp only [hd] at hk
    exact ⟨kd, hd, h2, hk⟩
  case str s => exact ⟨hc.1, hc.2, hk⟩
  all_goals exact bytes hc hk

theorem bnd_of {d : Int} {o : Option LV} (h : bOk o) : bnd d o = some (hiI d o) := by
  cases o with
  | none => rfl
  | some u => cases u <;> simp only [bOk] at h; rfl
theorem bnd_lo {o : Option LV} (h : bOk o) : bnd 0 o = some (loI o) := by
  cases o with
  | none => rfl
  | some u => cases u <;> simp only [bOk] at h; rfl

theorem sl_of (hG : G.le S) {t : TypeId} {x : Operand} {lo hi mx : Option Operand} {ρ : Operand → LV} {k : LV → LS → Prop} (hm : mxC (hi.map ρ) (mx.map ρ) (ρ x)) (h1 : bOk (lo.map ρ)) (h2 : bOk (hi.map ρ)) (hc : slC P G t (lo.map ρ) (hi.map ρ) (cutM (mx.map ρ) (ρ x))) (hk : k (slU (lo.map ρ) (hi.map ρ) (cutM (mx.map ρ) (ρ x))) S) :
    lopW P (.slice t x lo hi mx) ρ S k := by
  simp only [lopW]
  refine ⟨hm, ?_⟩
  clear hm
  generalize lo.map ρ = lo' at *
  generalize hi.map ρ = hi' at *
  generalize cutM (mx.map ρ) (ρ x) = u at *
  cases u <;> simp only [slC] at hc <;> simp only [slU] at hk
  case str s => exact ⟨_, _, bnd_lo h1, bnd_of h2, hc.1, hc.2.1, hc.2.2.1, hc.2.2.2, hk⟩
  case sl full elems =>
    obtain ⟨e, n, g1, g2, g3, g4, g5, g6⟩ := hc
    exact ⟨e, n, g1, g2, _, _, _, rfl, bnd_lo h1, bnd_of h2, g3, g4, g5, g6, hk⟩
  case ref id off len =>
    obtain ⟨e, n, g1, g2, g3, g4, g5, es, g6⟩ := hc
    exact ⟨e, n, g1, g2, _, _, _, rfl, bnd_lo h1, bnd_of h2, g3, g4, g5, ⟨es, hG _ _ g6⟩, hk⟩

theorem ix_of (hG : G.le S) {t : TypeId} {x ix : Operand} {ρ : Operand → LV} {k : LV → LS → Prop} (hc : ixC P G t (ρ x) (ρ ix)) (hk : k (ixU P t (ρ x) (ρ ix)) S) : lopW P (.indexAddr t x ix) ρ S k := by
  simp only [lopW]
  cases hi : ρ ix <;> simp only [hi] at hc hk <;> cases hx : ρ x <;> simp only [hx, ixC] at hc <;> simp only [hx, ixU] at hk
  case int.sl kd i full elems =>
    obtain ⟨e, n, g1, g2, g3, g4, g5⟩ := hc
    refine ⟨kd, i, rfl, ?_⟩
    simp only [g1]
    have hlt : i.toNat < elems.length := by omega
    refine ⟨n, g2, g3, elems.getD i.toNat [], ?_, g5, hk⟩
    rw [List.getD_eq_getElem?_getD, List.getElem?_eq_getElem hlt]; rfl
  case int.ref kd i id off len =>
    obtain ⟨e, n, g1, g2, g3, g4, es, g5, g6, g7⟩ := hc
    refine ⟨kd, i, rfl, ?_⟩
    simp only [g1]
    refine ⟨n, g2, g3, g4, es, hG _ _ g5, es.getD (off + i.toNat) [], ?_, g7, hk⟩
    rw [List.getD_eq_getElem?_getD, List.getElem?_eq_getElem g6]; rfl
  case int.ptr kd i id j off =>
    obtain ⟨l, e, n, g1, g2, g3, g4⟩ := hc
    refine ⟨kd, i, rfl, ?_⟩
    simp only [g1]
    refine ⟨n, g2, g3, g4, _, rfl, ?_⟩
    simpa [arrSz, g1, g2] using hk
  case int.eptr kd i c off =>
    obtain ⟨l, e, n, g1, g2, g3, g4⟩ := hc
    refine ⟨kd, i, rfl, ?_⟩
    simp only [g1]
    refine ⟨n, g2, g3, g4, _, rfl, ?_⟩
    simpa [arrSz, g1, g2] using hk

theorem ixv_of {t : TypeId} {x ix : Operand} {ρ : Operand → LV} {k : LV → LS → Prop} (hc : ixvC P t (ρ x) (ρ ix)) (hk : k (ixvU P t (ρ x) (ρ ix)) S) : lopW P (.index t x ix) ρ S k := by
  simp only [lopW]
  cases hi : ρ ix <;> simp only [hi] at hc hk <;> cases hx : ρ x <;> simp only [hx, ixvC] at hc <;> simp only [hx, ixvU] at hk
  case int.str kd i s =>
    obtain ⟨g1, g2, g3⟩ := hc
    refine ⟨kd, i, rfl, g2, ?_⟩
    simp only [g1]
    have hlt : i.toNat < s.data.toList.length := by
      have : s.data.toList.length = s.size := by rw [Array.length_toList]; rfl
      omega
    refine ⟨s, rfl, s.data.toList.getD i.toNat 0, ?_, hk⟩
    rw [List.getD_eq_getElem?_getD, List.getElem?_eq_getElem hlt]; rfl
  case int.agg kd i us =>
    obtain ⟨l, e, n, g1, g2, g3, g4, g5⟩ := hc
    refine ⟨kd, i, rfl, g3, ?_⟩
    simp only [g1, g2] at hk ⊢
    exact ⟨g4, n, us, rfl, rfl, ld_of (x := (us, i.toNat * n)) g5 hk⟩

theorem ap_of (hG : G.le S) {sT tx : TypeId} {d x : LV} {k : LV → LS → Prop} (h1 : srcC G x) (hc : apC P G sT tx d (srcG G x)) (hg : srcG S.g x = srcG G x) (hgd : ∀ id b, G id = some b → S.g id = some b)
    (hk : k (opU.apU' S.length (srcG G x) d) (apS P sT S (srcG S.g x) d)) : appW P S sT tx d x k := by
  cases hs : srcG G x with
  | none => rw [hs] at hc; exact hc.elim
  | some fs =>
    rw [hg, hs] at hk
    rw [hs] at hc
    obtain ⟨e, n, b, zc, g1, g2, g3, g4, g5⟩ := hc
    refine .inl ⟨e, n, b, zc, fs, g1, g2, g3, src_of hG h1 hs, g4, ?_⟩
    cases d <;> try (exact g5)
    case sl full elems =>
      cases full with
      | false => exact g5
      | true =>
        obtain ⟨q1, q2, q3⟩ := g5
        simp only [opU.apU', apS, apN, g1, g2, Option.getD_some] at hk
        exact ⟨q1, q2, q3, hk⟩
    case ref id off len =>
      obtain ⟨es, q1, q2, q3⟩ := g5
      simp only [opU.apU', apS, apN, g1, g2, Option.getD_some, hgd _ _ q1] at hk
      exact ⟨es, hG _ _ q1, q2, q3, hk⟩

/-- AN OPERATION THAT CHANGES NOTHING, in direct style, over known blocks. -/
theorem lopW_ofG (hG : G.le S) {op : Op} {ρ : Operand → LV} {k : LV → LS → Prop} {n : Nat} (hf : floatOp op = true) (hc : opC P G op ρ) (hk : k (opU P G n op ρ) S) : lopW P op ρ S k := by
  cases op <;> simp only [opC] at hc <;> simp only [opU] at hk
  case move x => exact hk
  case assign x => exact hk
  case pick c a b =>
    simp only [lopW]
    cases hx : ρ c <;> simp only [hx, isB, Bool.false_eq_true] at hc
    case bool t => simp only [hx, tbL] at hk; exact ⟨t, rfl, hk⟩
  case load t a =>
    simp only [lopW]
    cases ha : atG G (ρ a) with
    | none => rw [ha] at hc; exact hc.elim
    | some x => rw [ha] at hc hk; exact ⟨x.1, x.2, atG_le hG ha, ld_of hc hk⟩
  case nilCheck x =>
    simp only [lopW]
    cases hx : ρ x <;> simp only [hx] at hc hk ⊢ <;> try (first | exact hk | exact hc.elim)
    case func fn f c =>
      cases fn <;> simp only [ncC] at hc ⊢ <;> try (first | exact hk | exact hc.elim)
      case method name =>
        cases f with
        | nil => exact hc.elim
        | cons a f => cases a <;> first | exact ⟨hc, hk⟩ | exact hc.elim
  case binOp op t x y yt =>
    simp only [lopW]
    cases hn : nilK y with
    | true => simp only [hn, cond_true] at hc hk ⊢; exact ⟨hc, hk⟩
    | false => simp only [hn, cond_false] at hc hk ⊢; exact bin_of (K := fun r => k r S) hc hk
  case unOp op t x => exact un_of (K := fun r => k r S) hc hk
  case convert s d x => exact conv_of (K := fun r => k r S) hG hc hk
  case makeInterface t x => exact ⟨hc, hk⟩
  case makeFunc fn a b => exact hk
  case slice t x lo hi mx => exact sl_of hG hc.1 hc.2.1 hc.2.2.1 hc.2.2.2 hk
  case fieldAddr s x f =>
    simp only [lopW]
    cases hf : fldT P s f with
    | none => rw [hf] at hc; simp [faC] at hc
    | some n =>
      rw [hf] at hc hk
      refine ⟨n, rfl, ?_⟩
      cases hx : ρ x <;> simp only [hx, faC] at hc <;> simp only [hx, faU] at hk <;> exact ⟨_, rfl, hk⟩
  case field s x f =>
    simp only [lopW]
    obtain ⟨h1, h2, h3⟩ := hc
    obtain ⟨⟨t, off⟩, h1⟩ := Option.isSome_iff_exists.1 h1
    obtain ⟨us, h2⟩ := Option.isSome_iff_exists.1 h2
    simp only [h1, h2, Option.getD_some] at h3 hk
    refine ⟨t, off, h1, us, ?_, ld_of h3 hk⟩
    cases hx : ρ x <;> simp [hx, aggL] at h2
    rw [h2]
  case indexAddr t x ix => exact ix_of hG hc hk
  case index t x ix => exact ixv_of hc hk
  case extract x i =>
    simp only [lopW]
    cases hx : ρ x <;> simp [hx, tupL] at hc
    case tup us =>
      simp only [hx, tupL] at hk
      refine ⟨us, rfl, us.getD i .any, ?_, hk⟩
      rw [List.getD_eq_getElem?_getD, List.getElem?_eq_getElem hc]; rfl
  case build t ps =>
    obtain ⟨h1, h2⟩ := hc
    obtain ⟨us, h2⟩ := Option.isSome_iff_exists.1 h2
    simp only [h2, Option.getD_some] at hk
    simp only [Option.bind_eq_some_iff] at h2
    obtain ⟨⟨n, b, zc⟩, g1, g2⟩ := h2
    exact ⟨n, b, zc, us, g1, h1, g2, hk⟩
  case buildSlice t len ps =>
    obtain ⟨es, h2⟩ := Option.isSome_iff_exists.1 hc
    simp only [h2, Option.getD_some] at hk
    simp only [Option.bind_eq_some_iff] at h2
    obtain ⟨e, g0, ⟨n, b, zc⟩, g1, g2⟩ := h2
    split at g2
    · rename_i hle
      exact ⟨e, n, b, zc, es, g0, g1, by simpa using hle, g2, hk⟩
    · cases g2
  case call c =>
    obtain ⟨callee, args, argTypes⟩ := c
    simp only [lopW]
    cases callee with
    | value f => simp only at hc
    | invoke r m => simp only at hc
    | builtin b =>
      simp only at hc hk ⊢
      generalize argTypes.toList = ats at *
      generalize args.toList = as at *
      split at hc
      · rename_i he; cases he; simp [floatOp, pureOp, readOp] at hf
      · rename_i he; cases he; simp [floatOp, pureOp, readOp] at hf
      · rename_i t x he; cases he
        simp only
        unfold lenW
        cases hx : ρ x <;> simp only [hx, lnC] at hc <;> simp only [hx, lnU] at hk
        case str s => simp only [hc]; exact ⟨s, rfl, hk⟩
        case sl full es => obtain ⟨e, he⟩ := hc; simp only [he]; exact ⟨_, rfl, hk⟩
        case ref id off len => obtain ⟨e, he⟩ := hc; simp only [he]; exact ⟨_, rfl, hk⟩
        all_goals (obtain ⟨n, e, he⟩ := hc; simp only [he] at hk ⊢; exact hk)
      · rename_i x y he; cases he
        cases hx : ρ x <;> simp only [hx, mmC] at hc <;> cases hy : ρ y <;> simp only [hy] at hc
        case int.int k a k' b => simp only [hx, hy, mnU] at hk; exact ⟨k, a, k', b, hx, hy, hk⟩
      · rename_i x y he; cases he
        cases hx : ρ x <;> simp only [hx, mmC] at hc <;> cases hy : ρ y <;> simp only [hy] at hc
        case int.int k a k' b => simp only [hx, hy, mxU] at hk; exact ⟨k, a, k', b, hx, hy, hk⟩
      · rename_i x y z he; cases he
        cases hx : ρ x <;> simp only [hx, mmC, false_and] at hc <;> cases hy : ρ y <;> simp only [hy, false_and] at hc <;> simp only [hx, hy, mnU, true_and] at hc <;> cases hz : ρ z <;> simp only [hz] at hc
        case int.int.int k a k' b k'' c => simp only [hx, hy, hz, mnU] at hk; exact ⟨k, a, k', b, k'', c, hx, hy, hz, hk⟩
      · rename_i x y z he; cases he
        cases hx : ρ x <;> simp only [hx, mmC, false_and] at hc <;> cases hy : ρ y <;> simp only [hy, false_and] at hc <;> simp only [hx, hy, mxU, true_and] at hc <;> cases hz : ρ z <;> simp only [hz] at hc
        case int.int.int k a k' b k'' c => simp only [hx, hy, hz, mxU] at hk; exact ⟨k, a, k', b, k'', c, hx, hy, hz, hk⟩
      · exact hc.elim
  all_goals simp [floatOp, pureOp, readOp] at hf

/-- ONE OPERATION (no call of a function), in direct style. -/
theorem lopW_of {op : Op} {ρ : Operand → LV} {k : LV → LS → Prop} (hc : opC P S.g op ρ) (hk : k (opU P S.g S.length op ρ) (opS P S op ρ)) : lopW P op ρ S k := by
  have hG := S.g_le
  by_cases hf : floatOp op = true
  · refine lopW_ofG hG hf hc (n := S.length) ?_
    have : opS P S op ρ = S := by
      cases op <;> simp only [opS] <;> try (simp [floatOp, pureOp, readOp] at hf; done)
      case call c =>
        obtain ⟨callee, args, argTypes⟩ := c
        cases callee with
        | value f => rfl
        | invoke r m => rfl
        | builtin b => cases b <;> first | rfl | (simp [floatOp, pureOp, readOp] at hf; done)
    rwa [this] at hk
  · cases op <;> simp only [opC] at hc <;> simp only [opU, opS] at hk <;> try (exact absurd rfl hf)
    case alloc e =>
      obtain ⟨⟨n, b, zc⟩, he⟩ := Option.isSome_iff_exists.1 hc
      simp only [he] at hk
      exact ⟨n, b, zc, he, hk⟩
    case box e x =>
      obtain ⟨us, he⟩ := Option.isSome_iff_exists.1 hc
      simp only [he] at hk
      exact ⟨us, he, hk⟩
    case store t a x =>
      simp only [lopW]
      cases ha : ρ a <;> simp only [ha] at hc hk <;> try (exact hc.elim)
      case ptr id i off =>
        cases hu : (ρ x).cells? with
        | none => rw [hu] at hc; exact hc.elim
        | some us =>
          rw [hu] at hc hk
          simp only [stC] at hc
          simp only [stS] at hk
          split at hc
          · rename_i n es he
            split at hc
            · rename_i cells hcells
              simp only [he] at hk
              refine ⟨id, i, off, rfl, n, es, hG _ _ he, cells, hcells, us, rfl, hc.1, hc.2, ?_⟩
              rw [← ovr_eq cells off us hc.2]
              have : es.getD i [] = cells := by rw [List.getD_eq_getElem?_getD, hcells]; rfl
              rwa [this] at hk
            · exact hc.elim
          · exact hc.elim
    case makeSlice t l c =>
      simp only [lopW]
      cases hl : ρ l <;> simp only [hl, mkC] at hc <;> cases hcc : ρ c <;> simp only [hcc] at hc
      case int.int kl l' kc c' =>
        obtain ⟨e, n, b, zc, g1, g2, g3, g4, g5⟩ := hc
        simp only [hl, hcc, mkS, g1, g2, intL, Option.getD_some] at hk
        exact ⟨kl, l', kc, c', rfl, rfl, e, n, b, zc, g1, g2, g3, g4, g5, hk⟩
    case call c =>
      obtain ⟨callee, args, argTypes⟩ := c
      simp only [lopW]
      cases callee with
      | value f => simp only at hc
      | invoke r m => simp only at hc
      | builtin b =>
        simp only at hc hk ⊢
        generalize argTypes.toList = ats at *
        generalize args.toList = as at *
        split at hc
        · rename_i he; cases he
          exact ap_of hG hc.1 hc.2 rfl (fun _ _ h => h) hk
        · rename_i dT _ d x he; cases he
          obtain ⟨h1, h2⟩ := hc
          cases hs : srcG S.g (ρ x) with
          | none => rw [hs] at h2; exact h2.elim
          | some fs =>
            rw [hs] at h2
            obtain ⟨e, n, g1, g2, g3, g4⟩ := h2
            cases hd : ρ d <;> simp only [hd] at g4
            case ref id off len =>
              obtain ⟨es, g5, g6⟩ := g4
              simp only [hs, hd, cpU, cpS, g5, Option.getD_some] at hk
              exact ⟨id, off, len, hd, e, n, g1, g2, es, hG _ _ g5, g6, fs, src_of hG h1 hs, g3, hk⟩
        · rename_i he; cases he; simp [floatOp, pureOp] at hf
        · rename_i he; cases he; simp [floatOp, pureOp] at hf
        · rename_i he; cases he; simp [floatOp, pureOp] at hf
        · rename_i he; cases he; simp [floatOp, pureOp] at hf
        · rename_i he; cases he; simp [floatOp, pureOp] at hf
        · exact hc.elim
    all_goals exact hc.elim

end
end Go.Lift
end
section
set_option linter.all false
/-
  The lifted layer, part 15: regions and code in direct style, and what a walk rewrites by.
-/
namespace Go.Lift
open Go.RowKit

/-- an operation that is no call of a function. -/
def genE (P : Program) (d : Option Tmp) (K : Env → LS → Prop) (env : Env) (S : LS) (op : Op) : Prop :=
  opC P S.g op (evalL env) ∧ K (env.putO d (opU P S.g S.length op (evalL env))) (opS P S op (evalL env))

/-- it holds what it names: so that rewriting leaves that as it is. -/
inductive Tag (K : Env → LS → Prop) : Type where
  | mk

/-- a call, and what follows it, not unfolded. -/
def LCK (P : Program) (f : FuncId) (us : List LV) (S : LS) (d : Option Tmp) (K : Env → LS → Prop) (_t : Tag K) (env : Env) : Prop := LCalls P f us S fun u S' => K (env.putO d u) S'

theorem LCalls.k {P : Program} {f : FuncId} {us : List LV} {S : LS} {R : LV → LS → Prop} {d : Option Tmp} {K : Env → LS → Prop} {t : Tag K} {env : Env} (h : LCalls P f us S R) (hk : ∀ r S', R r S' → K (env.putO d r) S') : LCK P f us S d K t env := h.mono hk

def calE (P : Program) (d : Option Tmp) (K : Env → LS → Prop) (env : Env) (S : LS) (us : List LV) : LV → Prop
  | .func (.func g) first caps => LCK P g (first ++ us ++ caps) S d K .mk env
  | _ => False

def invE (P : Program) (d : Option Tmp) (K : Env → LS → Prop) (env : Env) (S : LS) (us : List LV) (name : String) : LV → Prop
  | .iface t v => ∃ g, methT P t name = some g ∧ LCK P g (v :: us) S d K .mk env
  | _ => False

/-- append of nothing to a slice that is known. -/
def apNil (P : Program) (d : Option Tmp) (K : Env → LS → Prop) (env : Env) (S : LS) (as : Array Operand) (ts : Array TypeId) : Prop :=
  ∃ a x sT tx, as = #[a, x] ∧ ts = #[sT, tx] ∧ appW0 P S sT tx (evalL env a) (evalL env x) fun u S' => K (env.putO d u) S'

def exeE (P : Program) (d : Option Tmp) (K : Env → LS → Prop) (env : Env) (S : LS) (op : Op) : Prop :=
  match op with
  | .call ⟨.value f, args, _⟩ => calE P d K env S (args.toList.map (evalL env)) (evalL env f)
  | .call ⟨.invoke r m, args, _⟩ => invE P d K env S (args.toList.map (evalL env)) m (evalL env r)
  | .call ⟨.builtin .append, args, ts⟩ => genE P d K env S (.call ⟨.builtin .append, args, ts⟩) ∨ apNil P d K env S args ts
  | op => genE P d K env S op

/-- it holds two sentences: so that rewriting leaves them as they are. -/
inductive Tag2 (A B : Prop) : Type where
  | mk

/-- a guard. -/
def grd (b : Option Bool) (want : Bool) (A B : Prop) (_t : Tag2 A B) : Prop := ∃ v, b = some v ∧ (v = want → A) ∧ (v ≠ want → B)
section
variable {A B : Prop} {t : Tag2 A B}
theorem grd_tt : grd (some true) true A B t = A := by simp [grd]
theorem grd_ff : grd (some false) false A B t = A := by simp [grd]
theorem grd_tf : grd (some true) false A B t = B := by simp [grd]
theorem grd_ft : grd (some false) true A B t = B := by simp [grd]
theorem grd_t {v : Bool} (ha : v = true → A) (hb : v = false → B) : grd (some v) true A B t := ⟨v, rfl, ha, fun h => hb (by simpa using h)⟩
theorem grd_f {v : Bool} (ha : v = false → A) (hb : v = true → B) : grd (some v) false A B t := ⟨v, rfl, ha, fun h => hb (by simpa using h)⟩
end

def stE (P : Program) (ops : Array Oper) (o : Oper) (K : Env → LS → Prop) (env : Env) (S : LS) : Prop :=
  match o.guard with
  | none => exeE P o.dst K env S o.op
  | some (j, w) => grd (gv ops env j w) w (exeE P o.dst K env S o.op) (K (env.putO o.dst (.tup [])) S) .mk

def rwE (P : Program) (ops : Array Oper) (K : Env → LS → Prop) : List Oper → Env → LS → Prop
  | [], env, S => K env S
  | o :: rest, env, S => stE P ops o (rwE P ops K rest) env S

section
variable {P : Program} {N : Nat} {S : LS} {ops : Array Oper} {env : Env} {L L' : Watch}

theorem exeE_lop {d : Option Tmp} {K : Env → LS → Prop} {op : Op} (h : exeE P d K env S op) : lopW P op (evalL env) S fun u S' => K (env.putO d u) S' := by
  unfold exeE at h
  split at h
  · rename_i f args ats
    simp only [lopW]
    cases hf : evalL env f <;> simp only [hf, calE] at h
    case func fn a b => cases fn <;> simp only [calE] at h; exact h
  · rename_i r m args ats
    simp only [lopW]
    cases hf : evalL env r <;> simp only [hf, invE] at h
    case iface t v => exact h
  · rename_i args ts
    rcases h with h | ⟨a, x, sT, tx, rfl, rfl, h⟩
    · exact lopW_of h.1 h.2
    · simp only [lopW]; exact .inr h
  · exact lopW_of h.1 h.2

theorem stE_step {o : Oper} {K : Env → LS → Prop} (h : stE P ops o K env S) : stepW P ops o K env S := by
  unfold stE at h
  unfold stepW
  cases hg : o.guard with
  | none => simp only [hg] at h ⊢; exact exeE_lop h
  | some gw =>
    obtain ⟨j, w⟩ := gw
    simp only [hg] at h ⊢
    obtain ⟨b, hb, h1, h2⟩ := h
    exact ⟨b, hb, fun e => exeE_lop (h1 e), h2⟩

theorem rwE_rwp {K : Env → LS → Prop} : ∀ {l : List Oper} {env : Env} {S : LS}, rwE P ops K l env S → rwp P ops K l env S
  | [], _, _, h => h
  | o :: l, env, S, h => by
    simp only [rwE] at h
    simp only [rwp]
    exact stepW_mono (fun env' S' hh => rwE_rwp hh) (stE_step h)

theorem LregionE {id : Nat} {ops : List Oper} {Q : Exit → Env → LS → Prop} (hd : dstsOk N ops.toArray = true) (h : rwE P ops.toArray (fun env S => Q .normal env S) ops env S) : Lwp P N (.region id ops.toArray false) Q env S :=
  Lwp_region hd (by simpa using rwE_rwp h)

/-! ### A drawn region -/
def andL (L : Watch) (K : Env → LS → Prop) (env : Env) (S : LS) : Prop := L.holds S ∧ K env S

def genL (P : Program) (L : Watch) (d : Option Tmp) (K : Env → LS → Prop) (env : Env) (S : LS) (op : Op) : Prop :=
  opC P (lookL L) op (evalL env) ∧ K (env.putO d (opU P (lookL L) 0 op (evalL env))) S

def deE (P : Program) (L L' : Watch) (d : Option Tmp) (K : Env → LS → Prop) (env : Env) (S : LS) (op : Op) : Prop :=
  bif floatOp op then genL P L d K env S op else exeE P d (andL L' K) env S op

@[congr] theorem cond_congrP {b b' : Bool} {A B : Prop} (h : b = b') : cond b A B = cond b' A B := by rw [h]

def dtE (P : Program) (ops : Array Oper) (L L' : Watch) (o : Oper) (K : Env → LS → Prop) (env : Env) (S : LS) : Prop :=
  match o.guard with
  | none => deE P L L' o.dst K env S o.op
  | some (j, w) => grd (gv ops env j w) w (deE P L L' o.dst K env S o.op) (K (env.putO o.dst (.tup [])) S) .mk

/-- the blocks that are still looked at behind the operation 'i'. -/
def wat (ex : Option Nat) (i : Nat) (is : List Nat) (L : Watch) : Watch := bif ex == some i && is.isEmpty then [] else L

def dwE (P : Program) (ops : Array Oper) (L : Watch) (ex : Option Nat) (K : Env → LS → Prop) : List Nat → Env → LS → Prop
  | [], env, S => K env S
  | i :: is, env, S => match ops[i]? with
    | some o => dtE P ops L (wat ex i is L) o (dwE P ops L ex K is) env S
    | none => False

def depsOf (ops : Array Oper) (k : Nat) : List Nat :=
  match ops[k]? with
  | some o => (o.after.toList.filter fun e => Region.binds .any e).map (·.on)
  | none => []

def marks (ops : Array Oper) : List Nat → List Nat → List Nat
  | [], M => M
  | k :: ks, M => marks ops ks (bif M.contains k then M ++ depsOf ops k else M)

def exOk (ops : Array Oper) : Option Nat → Bool
  | none => true
  | some j => let M := marks ops (List.range j).reverse (depsOf ops j)
    (List.range ops.size).all fun i => i == j || M.contains i

theorem deps_fol {j k : Nat} (h : k = j ∨ Fol ops j k) : ∀ i ∈ depsOf ops k, Fol ops j i := by
  intro i hi listed oj hc hj hall
  unfold depsOf at hi
  cases ho : ops[k]? with
  | none => rw [ho] at hi; simp at hi
  | some o =>
    rw [ho] at hi
    simp only [List.mem_map, List.mem_filter] at hi
    obtain ⟨e, ⟨he, hb⟩, rfl⟩ := hi
    rcases h with rfl | h
    · rw [hj] at ho; cases ho
      exact hall e (by simpa using he) hb
    · exact hc k o ho (h listed oj hc hj hall) e (by simpa using he) hb

theorem marks_fol {j : Nat} : ∀ {ks M : List Nat}, (∀ i ∈ M, Fol ops j i) → ∀ i ∈ marks ops ks M, Fol ops j i
  | [], _, h => h
  | k :: ks, M, h => by
    simp only [marks]
    refine marks_fol (fun i hi => ?_)
    cases hk : M.contains k with
    | false => rw [hk] at hi; exact h i hi
    | true =>
      rw [hk] at hi
      rcases List.mem_append.1 hi with hi | hi
      · exact h i hi
      · exact deps_fol (.inr (h k (by simpa using hk))) i hi

theorem exOk_spec {ops : Array Oper} {ex : Option Nat} (h : exOk ops ex = true) {i : Nat} (hi : i < ops.size) (j : Nat) (he : ex = some j) (hne : j ≠ i) : Fol ops j i := by
  subst he
  simp only [exOk, List.all_eq_true, List.mem_range] at h
  have := h i hi
  simp only [Bool.or_eq_true, beq_iff_eq] at this
  rcases this with h | h
  · exact absurd h.symm hne
  · exact marks_fol (deps_fol (.inl rfl)) i (by simpa using h)

theorem lookL_le (hL : L.holds S) : Gt.le (lookL L) S := fun _ _ h => lookL_spec hL h

theorem dwE_sound {KL : Env → LS → Prop} {ex : Option Nat} (hx : exOk ops ex = true) : ∀ (l : List Nat) (listed : Array Bool) (env : Env) (S : LS), schedGo ops l listed = true → Closed ops listed → (l ≠ [] → L.holds S) → dwE P ops L ex KL l env S → LAny P ops L.holds ex KL l.length listed env S
  | [], listed, env, S, hs, _, hC, h => LAny_done (by simpa [schedGo] using hs) h 0
  | i :: is, listed, env, S, hs, hcl, hC0, h => by
    have hC := hC0 (by simp)
    simp only [schedGo, Bool.and_eq_true] at hs
    obtain ⟨hs1, hs2⟩ := hs
    simp only [dwE] at h
    cases ho : ops[i]? with
    | none => simp [ho] at h
    | some o =>
      simp only [ho] at h hs1
      have hlt : i < ops.size := by
        rcases Nat.lt_or_ge i ops.size with h | h
        · exact h
        · rw [Array.getElem?_eq_none h] at ho; cases ho
      by_cases hf : floatOp o.op = true
      · rw [if_pos hf, Bool.and_eq_true] at hs1
        have float : ∀ u, YL P ops L.holds o u env → dwE P ops L ex KL is (env.putO o.dst u) S → LAny P ops L.holds ex KL (is.length + 1) listed env S := fun u hy hd =>
          LAny_first ho (exOk_spec hx hlt) is.length listed env S (Region.free_spec ho hs1.1) hcl (by simpa using hs1.2) hy hC (dwE_sound hx is _ _ S hs2 (hcl.set (by simpa using hs1.2)) (fun _ => hC) hd)
        unfold dtE at h
        cases hg : o.guard with
        | none =>
          simp only [hg, deE, hf, cond_true] at h
          exact float _ (fun S' K' hC' hK => by unfold stepW; simp only [hg]; exact lopW_ofG (lookL_le hC') hf h.1 hK) h.2
        | some gw =>
          obtain ⟨j, w⟩ := gw
          simp only [hg, deE] at h
          obtain ⟨b, hb, h1, h2⟩ := h
          simp only [hf, cond_true] at h1
          by_cases hbw : b = w
          · exact float _ (fun S' K' hC' hK => by unfold stepW; simp only [hg]; exact ⟨b, hb, fun e => lopW_ofG (lookL_le hC') hf (h1 e).1 hK, fun hne => absurd hbw hne⟩) (h1 hbw).2
          · exact float (.tup []) (fun S' K' hC' hK => by unfold stepW; simp only [hg]; exact ⟨b, hb, fun e => absurd e hbw, fun _ => hK⟩) (h2 hbw)
      · rw [if_neg hf, beq_iff_eq] at hs1
        have hf' : floatOp o.op = false := by simpa using hf
        refine ⟨fun h0 => absurd (hs1.symm.trans h0) (by simp), fun j hj => ?_⟩
        rw [hs1] at hj
        simp at hj
        subst hj
        unfold stepAt
        simp only [ho]
        have hw : ∀ {S' : LS}, (wat ex j is L).holds S' → (ex = some j ∧ is = []) ∨ L.holds S' := fun {S'} h => by
          unfold wat at h
          by_cases hc : (ex == some j && is.isEmpty) = true
          · rw [Bool.and_eq_true, beq_iff_eq] at hc; exact .inl ⟨hc.1, by simpa using hc.2⟩
          · rw [Bool.not_eq_true] at hc; rw [hc] at h; exact .inr h
        have hw0 : (wat ex j is L).holds S := by
          unfold wat
          cases (ex == some j && is.isEmpty)
          · exact hC
          · intro p hp; simp at hp
        have hst : stepW P ops o (andL (wat ex j is L) (dwE P ops L ex KL is)) env S := by
          unfold dtE at h
          unfold stepW
          cases hg : o.guard with
          | none => simp only [hg, deE, hf', cond_false] at h ⊢; exact exeE_lop h
          | some gw =>
            obtain ⟨j, w⟩ := gw
            simp only [hg, deE] at h ⊢
            obtain ⟨b, hb, h1, h2⟩ := h
            simp only [hf', cond_false] at h1
            exact ⟨b, hb, fun e => exeE_lop (h1 e), fun e => ⟨hw0, h2 e⟩⟩
        exact stepW_mono (fun env' S' ⟨hC', hd⟩ => ⟨(hw hC').elim (fun h => .inl h.1) .inr, dwE_sound hx is _ env' S' hs2 (hcl.set (by rw [hs1]; simp)) (fun hne => (hw hC').elim (fun h => absurd h.2 hne) id) hd⟩) hst

theorem LdrawE {id : Nat} {ops : List Oper} {Q : Exit → Env → LS → Prop} (sched : List Nat) (L : Watch) (ex : Option Nat) (hx : exOk ops.toArray ex = true) (hm : P.follows .mixedOrders = true) (hd : dstsOk N ops.toArray = true) (hs : schedOk ops.toArray sched = true) (hL : L.holds S)
    (h : dwE P ops.toArray L ex (fun env S => Q .normal env S) sched env S) : Lwp P N (.region id ops.toArray true) Q env S := by
  intro B w0 K φ a w hS hE
  simp only [schedOk, Bool.and_eq_true, beq_iff_eq] at hs
  have h1 := dwE_sound hx sched _ env S hs.2 (fun k ok hk hl => by simp [Array.getElem?_replicate] at hl; split at hl <;> cases hl) (fun _ => hL) h
  rw [hs.1] at h1
  exact wp_region_any hm (LAny_sound hd _ _ _ _ _ _ _ _ hS.drawn hE h1)

/-! ### The rewriting set -/
theorem stE_none {d : Option Tmp} {op : Op} {t : TypeId} {pos : String} {af : Array Edge} {K : Env → LS → Prop} : stE P ops ⟨d, op, t, pos, af, none⟩ K env S = exeE P d K env S op := rfl
theorem stE_some {d : Option Tmp} {op : Op} {t : TypeId} {pos : String} {af : Array Edge} {j : Nat} {w : Bool} {K : Env → LS → Prop} : stE P ops ⟨d, op, t, pos, af, some (j, w)⟩ K env S = grd (gv ops env j w) w (exeE P d K env S op) (K (env.putO d (.tup [])) S) .mk := rfl
theorem dtE_none {d : Option Tmp} {op : Op} {t : TypeId} {pos : String} {af : Array Edge} {K : Env → LS → Prop} : dtE P ops L L' ⟨d, op, t, pos, af, none⟩ K env S = deE P L L' d K env S op := rfl
theorem dtE_some {d : Option Tmp} {op : Op} {t : TypeId} {pos : String} {af : Array Edge} {j : Nat} {w : Bool} {K : Env → LS → Prop} : dtE P ops L L' ⟨d, op, t, pos, af, some (j, w)⟩ K env S = grd (gv ops env j w) w (deE P L L' d K env S op) (K (env.putO d (.tup [])) S) .mk := rfl

section ops
variable {d : Option Tmp} {K : Env → LS → Prop} {x y z : Operand} {t u : TypeId} {n : Nat}
theorem exe_move : exeE P d K env S (.move x) = K (env.putO d (evalL env x)) S := by simp [exeE, genE, opC, opU, opS]
theorem exe_assign : exeE P d K env S (.assign x) = K (env.putO d (evalL env x)) S := by simp [exeE, genE, opC, opU, opS]
theorem exe_pick : exeE P d K env S (.pick x y z) = genE P d K env S (.pick x y z) := rfl
theorem exe_alloc : exeE P d K env S (.alloc t) = genE P d K env S (.alloc t) := rfl
theorem exe_box : exeE P d K env S (.box t x) = genE P d K env S (.box t x) := rfl
theorem exe_build {ps : Array (Nat × Operand)} : exeE P d K env S (.build t ps) = genE P d K env S (.build t ps) := rfl
theorem exe_buildSlice {ps : Array (Nat × Operand)} : exeE P d K env S (.buildSlice t n ps) = genE P d K env S (.buildSlice t n ps) := rfl
theorem exe_load : exeE P d K env S (.load t x) = genE P d K env S (.load t x) := rfl
theorem exe_store : exeE P d K env S (.store t x y) = genE P d K env S (.store t x y) := rfl
theorem exe_nilCheck : exeE P d K env S (.nilCheck x) = genE P d K env S (.nilCheck x) := rfl
theorem exe_binOp {o : BinOp} : exeE P d K env S (.binOp o t x y u) = genE P d K env S (.binOp o t x y u) := rfl
theorem exe_unOp {o : UnOp} : exeE P d K env S (.unOp o t x) = genE P d K env S (.unOp o t x) := rfl
theorem exe_convert : exeE P d K env S (.convert t u x) = genE P d K env S (.convert t u x) := rfl
theorem exe_makeInterface : exeE P d K env S (.makeInterface t x) = genE P d K env S (.makeInterface t x) := rfl
theorem exe_makeFunc {fn : Fn} {a b : Array Operand} : exeE P d K env S (.makeFunc fn a b) = genE P d K env S (.makeFunc fn a b) := rfl
theorem exe_makeSlice : exeE P d K env S (.makeSlice t x y) = genE P d K env S (.makeSlice t x y) := rfl
theorem exe_slice {a b c : Option Operand} : exeE P d K env S (.slice t x a b c) = genE P d K env S (.slice t x a b c) := rfl
theorem exe_fieldAddr : exeE P d K env S (.fieldAddr t x n) = genE P d K env S (.fieldAddr t x n) := rfl
theorem exe_field : exeE P d K env S (.field t x n) = genE P d K env S (.field t x n) := rfl
theorem exe_indexAddr : exeE P d K env S (.indexAddr t x y) = genE P d K env S (.indexAddr t x y) := rfl
theorem exe_index : exeE P d K env S (.index t x y) = genE P d K env S (.index t x y) := rfl
theorem exe_extract : exeE P d K env S (.extract x n) = genE P d K env S (.extract x n) := rfl
theorem exe_append {as : Array Operand} {ts : Array TypeId} : exeE P d K env S (.call ⟨.builtin .append, as, ts⟩) = (genE P d K env S (.call ⟨.builtin .append, as, ts⟩) ∨ apNil P d K env S as ts) := rfl
theorem exe_append_of {as : Array Operand} {ts : Array TypeId} (h : genE P d K env S (.call ⟨.builtin .append, as, ts⟩)) : exeE P d K env S (.call ⟨.builtin .append, as, ts⟩) := .inl h
/-- append of nothing. -/
theorem exe_append_nil {a x : Operand} {sT tx e : TypeId} {n b : Nat} {zc : List LV} {full : Bool} {elems : List (List LV)} (h0 : evalL env a = .sl full elems) (h1 : elemT P sT = some e) (h2 : layE P e = some (n, b, zc)) (h3 : srcT P tx = true)
    (h4 : srcC S.g (evalL env x)) (h5 : srcG S.g (evalL env x) = some []) (h6 : K (env.putO d (.sl full elems)) S) : exeE P d K env S (.call ⟨.builtin .append, #[a, x], #[sT, tx]⟩) :=
  .inr ⟨a, x, sT, tx, rfl, rfl, e, n, b, zc, full, elems, h1, h2, h3, src_of S.g_le h4 h5, h0, h6⟩
theorem exe_copy {as : Array Operand} {ts : Array TypeId} : exeE P d K env S (.call ⟨.builtin .copy, as, ts⟩) = genE P d K env S (.call ⟨.builtin .copy, as, ts⟩) := rfl
theorem exe_len {as : Array Operand} {ts : Array TypeId} : exeE P d K env S (.call ⟨.builtin .len, as, ts⟩) = genE P d K env S (.call ⟨.builtin .len, as, ts⟩) := rfl
theorem exe_min {as : Array Operand} {ts : Array TypeId} : exeE P d K env S (.call ⟨.builtin .min, as, ts⟩) = genE P d K env S (.call ⟨.builtin .min, as, ts⟩) := rfl
theorem exe_max {as : Array Operand} {ts : Array TypeId} : exeE P d K env S (.call ⟨.builtin .max, as, ts⟩) = genE P d K env S (.call ⟨.builtin .max, as, ts⟩) := rfl
theorem exe_call {as : Array Operand} {ts : Array TypeId} : exeE P d K env S (.call ⟨.value x, as, ts⟩) = calE P d K env S (as.toList.map (evalL env)) (evalL env x) := rfl
theorem exe_invoke {m : String} {as : Array Operand} {ts : Array TypeId} : exeE P d K env S (.call ⟨.invoke x m, as, ts⟩) = invE P d K env S (as.toList.map (evalL env)) m (evalL env x) := rfl
theorem de_move : deE P L L' d K env S (.move x) = K (env.putO d (evalL env x)) S := by simp [deE, floatOp, pureOp, genL, opC, opU]
theorem de_assign : deE P L L' d K env S (.assign x) = K (env.putO d (evalL env x)) S := by simp [deE, floatOp, pureOp, genL, opC, opU]
theorem de_pick : deE P L L' d K env S (.pick x y z) = genL P L d K env S (.pick x y z) := rfl
theorem de_alloc : deE P L L' d K env S (.alloc t) = genE P d (andL L' K) env S (.alloc t) := rfl
theorem de_box : deE P L L' d K env S (.box t x) = genE P d (andL L' K) env S (.box t x) := rfl
theorem de_build {ps : Array (Nat × Operand)} : deE P L L' d K env S (.build t ps) = genL P L d K env S (.build t ps) := rfl
theorem de_buildSlice {ps : Array (Nat × Operand)} : deE P L L' d K env S (.buildSlice t n ps) = genL P L d K env S (.buildSlice t n ps) := rfl
theorem de_load : deE P L L' d K env S (.load t x) = genL P L d K env S (.load t x) := rfl
theorem de_store : deE P L L' d K env S (.store t x y) = genE P d (andL L' K) env S (.store t x y) := rfl
theorem de_nilCheck : deE P L L' d K env S (.nilCheck x) = genL P L d K env S (.nilCheck x) := rfl
theorem de_binOp {o : BinOp} : deE P L L' d K env S (.binOp o t x y u) = genL P L d K env S (.binOp o t x y u) := rfl
theorem de_unOp {o : UnOp} : deE P L L' d K env S (.unOp o t x) = genL P L d K env S (.unOp o t x) := rfl
theorem de_convert : deE P L L' d K env S (.convert t u x) = genL P L d K env S (.convert t u x) := rfl
theorem de_makeInterface : deE P L L' d K env S (.makeInterface t x) = genL P L d K env S (.makeInterface t x) := rfl
theorem de_makeFunc {fn : Fn} {a b : Array Operand} : deE P L L' d K env S (.makeFunc fn a b) = genL P L d K env S (.makeFunc fn a b) := rfl
theorem de_makeSlice : deE P L L' d K env S (.makeSlice t x y) = genE P d (andL L' K) env S (.makeSlice t x y) := rfl
theorem de_slice {a b c : Option Operand} : deE P L L' d K env S (.slice t x a b c) = genL P L d K env S (.slice t x a b c) := rfl
theorem de_fieldAddr : deE P L L' d K env S (.fieldAddr t x n) = genL P L d K env S (.fieldAddr t x n) := rfl
theorem de_field : deE P L L' d K env S (.field t x n) = genL P L d K env S (.field t x n) := rfl
theorem de_indexAddr : deE P L L' d K env S (.indexAddr t x y) = genL P L d K env S (.indexAddr t x y) := rfl
theorem de_index : deE P L L' d K env S (.index t x y) = genL P L d K env S (.index t x y) := rfl
theorem de_extract : deE P L L' d K env S (.extract x n) = genL P L d K env S (.extract x n) := rfl
theorem de_len {as : Array Operand} {ts : Array TypeId} : deE P L L' d K env S (.call ⟨.builtin .len, as, ts⟩) = genL P L d K env S (.call ⟨.builtin .len, as, ts⟩) := rfl
theorem de_min {as : Array Operand} {ts : Array TypeId} : deE P L L' d K env S (.call ⟨.builtin .min, as, ts⟩) = genL P L d K env S (.call ⟨.builtin .min, as, ts⟩) := rfl
theorem de_max {as : Array Operand} {ts : Array TypeId} : deE P L L' d K env S (.call ⟨.builtin .max, as, ts⟩) = genL P L d K env S (.call ⟨.builtin .max, as, ts⟩) := rfl
theorem de_append {as : Array Operand} {ts : Array TypeId} : deE P L L' d K env S (.call ⟨.builtin .append, as, ts⟩) = exeE P d (andL L' K) env S (.call ⟨.builtin .append, as, ts⟩) := rfl
theorem de_copy {as : Array Operand} {ts : Array TypeId} : deE P L L' d K env S (.call ⟨.builtin .copy, as, ts⟩) = genE P d (andL L' K) env S (.call ⟨.builtin .copy, as, ts⟩) := rfl
theorem de_call {as : Array Operand} {ts : Array TypeId} : deE P L L' d K env S (.call ⟨.value x, as, ts⟩) = calE P d (andL L' K) env S (as.toList.map (evalL env)) (evalL env x) := rfl
theorem de_invoke {m : String} {as : Array Operand} {ts : Array TypeId} : deE P L L' d K env S (.call ⟨.invoke x m, as, ts⟩) = invE P d (andL L' K) env S (as.toList.map (evalL env)) m (evalL env x) := rfl
end ops

end

section
variable {P : Program} {S : LS} {ops : Array Oper} {env : Env} {L : Watch}
theorem rwE_nil {K : Env → LS → Prop} : rwE P ops K [] env S = K env S := rfl
theorem rwE_cons {K : Env → LS → Prop} {o : Oper} {l : List Oper} : rwE P ops K (o :: l) env S = stE P ops o (rwE P ops K l) env S := rfl
theorem dwE_nil {K : Env → LS → Prop} {ex : Option Nat} : dwE P ops L ex K [] env S = K env S := rfl
theorem dwE_cons {K : Env → LS → Prop} {ex : Option Nat} {i : Nat} {is : List Nat} : dwE P ops L ex K (i :: is) env S = (match ops[i]? with
    | some o => dtE P ops L (wat ex i is L) o (dwE P ops L ex K is) env S
    | none => False) := rfl
end
attribute [go_sem] rwE_nil rwE_cons dwE_nil dwE_cons stE_none stE_some dtE_none dtE_some grd_tt grd_ff grd_tf grd_ft exe_move exe_assign exe_pick exe_alloc exe_box exe_build exe_buildSlice exe_load exe_store exe_nilCheck exe_binOp exe_unOp exe_convert exe_makeInterface exe_makeFunc
  exe_makeSlice exe_slice exe_fieldAddr exe_field exe_indexAddr exe_index exe_extract exe_copy exe_len exe_min exe_max exe_call exe_invoke de_move de_assign de_pick de_alloc de_box de_build de_buildSlice de_load de_store de_nilCheck de_binOp de_unOp de_convert de_makeInterface de_makeFunc
  de_makeSlice de_slice de_fieldAddr de_field de_indexAddr de_index de_extract de_len de_min de_max de_append de_copy de_call de_invoke
theorem nilK_tmp {n : Nat} : nilK (.tmp n) = false := rfl
theorem nilK_int {k : IntKind} {n : Int} : nilK (.const (.int k n)) = false := rfl
theorem nilK_bool {b : Bool} : nilK (.const (.bool b)) = false := rfl
theorem nilK_str {b : ByteArray} : nilK (.const (.string b)) = false := rfl
theorem nilK_ptr {a : Option Addr} : nilK (.const (.pointer a)) = false := rfl
theorem nilK_agg {a : Array Value} : nilK (.const (.agg a)) = false := rfl
theorem nilK_nili : nilK (.const .nilIface) = false := rfl
theorem nilK_nilf : nilK (.const .nilFunc) = false := rfl
theorem nilK_nil : nilK (.const (.slice none 0 0)) = true := rfl
attribute [go_sem] nilK_tmp nilK_int nilK_bool nilK_str nilK_ptr nilK_agg nilK_nili nilK_nilf nilK_nil nilC nilU nilOk nilE neU
attribute [go_sem] wat List.isEmpty_cons List.isEmpty_nil Bool.and_false Bool.and_true Option.some_beq_some genE genL opC opU opS opU.apU' calE invE evalL Env.put Env.putO gv argsEnv LThen andL lookL atG ldC ldU stC ovr stS ncC intC intU strU strC eqC eqU isSh binC binU unC unU byteE srcG srcC bytesU convC convU loI hiI bOk slC slU ixC arrSz ixU faC faU aggL ixvC ixvU tupL intL
  mxC cutM cutL lenL eqL eqS fitL fitS aggC mkC mkS apC apN apS cpC cpU cpS lnC lnU mmC mnU mxU tbL isB LV.cells? fillL fillE ofVal ofVal1 resW oneOf LS.g LBlock
attribute [go_sem] true_and and_true false_and and_false ite_true ite_false if_true if_false Option.getD_some Option.getD_none Option.map_some Option.map_none Option.bind_some Option.bind_none Option.isSome_some Option.isSome_none Option.isNone_none Option.isNone_some Option.join_some Option.join_none
  List.map_cons List.map_nil List.getElem?_cons_zero List.getElem?_cons_succ List.getElem?_nil List.getElem?_toArray List.getD_cons_zero List.getD_cons_succ List.getD_nil List.set_cons_zero List.set_cons_succ List.length_cons List.length_nil List.take_succ_cons List.take_zero List.drop_succ_cons List.drop_zero
  List.nil_append List.cons_append List.append_nil List.take_nil List.drop_nil Option.some.injEq LV.int.injEq LV.bool.injEq Prod.mk.injEq reduceCtorEq and_self Bool.true_and Bool.and_true List.replicate_succ List.replicate_zero cond_true cond_false
theorem ex_trip {α β γ : Type} {Q : α → β → γ → Prop} {a : α} {b : β} {c : γ} : (∃ x y z, some (a, b, c) = some (x, y, z) ∧ Q x y z) ↔ Q a b c := ⟨fun h => by obtain ⟨_, _, _, h, hp⟩ := h; cases h; exact hp, fun hp => ⟨_, _, _, rfl, hp⟩⟩

end Go.Lift
end
section
set_option linter.all false
/-
  The lifted layer, part 16: slots that are kept, loops over slots, and small rules for walks.
-/
namespace Go.Lift
open Go.RowKit

def envZ : List Nat → List LV → Env
  | t :: ts, u :: us => (envZ ts us).put t u
  | _, _ => fun _ => none

def slotsOf (env : Env) : List Nat → List LV
  | [] => []
  | t :: ts => (env t).getD .any :: slotsOf env ts

def allLt (N : Nat) : List Nat → Bool
  | [] => true
  | t :: ts => decide (t < N) && allLt N ts

section
variable {P : Program} {N : Nat} {S : LS} {env : Env}

theorem SimE.keep {K : Know} {φ : List Pl} {a : Act} (h : SimE N K φ env a) : ∀ (ts : List Nat), allLt N ts = true → SimE N K φ (envZ ts (slotsOf env ts)) a
  | [], _ => ⟨h.size, h.defers, fun t u hu => by simp [envZ] at hu⟩
  | t :: ts, hl => by
    simp only [allLt, Bool.and_eq_true, decide_eq_true_eq] at hl
    have ih := SimE.keep h ts hl.2
    refine ⟨h.size, h.defers, fun x u hu => ?_⟩
    simp only [slotsOf, envZ, Env.put] at hu
    split at hu
    · rename_i e
      subst e
      cases hu
      exact ⟨hl.1, h.eval (.tmp x)⟩
    · exact ih.rel x u hu

/-- only these slots are kept. -/
theorem Lwp_keep {c : Code} {Q : Exit → Env → LS → Prop} (ts : List Nat) (hl : allLt N ts = true) (h : Lwp P N c Q (envZ ts (slotsOf env ts)) S) : Lwp P N c Q env S :=
  fun B w0 K φ a w hS hE => h B w0 K φ a w hS (hE.keep ts hl)

/-- A LOOP over slots. -/
theorem Lwp_loopE {c : Code} {Q : Exit → Env → LS → Prop} (ts : List Nat) (I : Nat → List LV → LS → Prop) (n : Nat) (hl : allLt N ts = true) (h0 : I n (slotsOf env ts) S)
    (round : ∀ n us S, I n us S → Lwp P N c (LThen (fun env' S' => ∃ m, m < n ∧ I m (slotsOf env' ts) S') Q) (envZ ts us) S) : Lwp P N (.loop c) Q env S := by
  refine Lwp_loop (fun n env S => I n (slotsOf env ts) S) n h0 fun n env S hI => ?_
  exact Lwp_keep ts hl (round n _ S hI)

theorem Lwp_seqE {x y : Code} {Q : Exit → Env → LS → Prop} (h : ∀ KK : Env → LS → Prop, (∀ env S, Lwp P N y Q env S → KK env S) → Lwp P N x (LThen KK Q) env S) : Lwp P N (.seq x y) Q env S := Lwp_seq h

end

/-! ### Ends of calls -/
section
variable {S : LS}
theorem ret_self {d : Nat} {R : LV → LS → Prop} {u : LV} (h1 : (frz S S.length d u).lt S.length = true) (h2 : R (frz S S.length d u) S) : RetOk d S R S u :=
  .inl ⟨Nat.le_refl _, S, rfl, fun _ _ h => .inl ⟨h, h⟩, h1, h2⟩

theorem ret_app {d : Nat} {T : LS} {R : LV → LS → Prop} {u : LV} (h1 : (frz (S ++ T) S.length d u).lt S.length = true) (h2 : R (frz (S ++ T) S.length d u) S) : RetOk d S R (S ++ T) u :=
  .inl ⟨by simp, S, rfl, fun id b h => .inl ⟨h, by rw [List.getElem?_append_left (List.getElem?_eq_some_iff.1 h).1]; exact h⟩, h1, h2⟩

/-- one block of the caller's was written. -/
theorem ret_setF {d p : Nat} {b b' : Blk} {T : LS} {R : LV → LS → Prop} {u : LV} (hb : b' = frzB (S.set p (some b) ++ T) S.length d b) (hl : ltLL S.length b'.2 = true) (h1 : (frz (S.set p (some b) ++ T) S.length d u).lt S.length = true)
    (h2 : R (frz (S.set p (some b) ++ T) S.length d u) (S.set p (some b'))) : RetOk d S R (S.set p (some b) ++ T) u := by
  refine .inl ⟨by simp, S.set p (some b'), by simp, fun id c h => ?_, h1, h2⟩
  by_cases e : p = id
  · subst e
    have hlt : p < S.length := by have := (List.getElem?_eq_some_iff.1 h).1; simpa using this
    rw [List.getElem?_set_self hlt] at h
    cases h
    exact .inr ⟨b, by rw [List.getElem?_append_left (by simpa using hlt), List.getElem?_set_self hlt], hb, hl⟩
  · rw [List.getElem?_set_ne e] at h
    exact .inl ⟨h, by rw [List.getElem?_append_left (by have := (List.getElem?_eq_some_iff.1 h).1; simpa using this), List.getElem?_set_ne e]; exact h⟩

end

/-! ### The store as a walk writes it: the caller's blocks, then the call's own -/
section
variable {S : LS} {T : LS}
theorem set_app (k : Nat) (v : Option Blk) : (S ++ T).set (S.length + k) v = S ++ T.set k v := by
  rw [List.set_append_right _ _ (by omega), Nat.add_sub_cancel_left]
theorem set_app0 (v : Option Blk) : (S ++ T).set S.length v = S ++ T.set 0 v := set_app 0 v
theorem get_app (k : Nat) : (S ++ T)[S.length + k]? = T[k]? := by
  rw [List.getElem?_append_right (by omega), Nat.add_sub_cancel_left]
theorem get_app0 : (S ++ T)[S.length]? = T[0]? := get_app 0
theorem get_setapp {p : Nat} {b : Option Blk} (k : Nat) : (S.set p b ++ T)[S.length + k]? = T[k]? := by
  have := get_app (S := S.set p b) (T := T) k; simpa using this
theorem get_setapp0 {p : Nat} {b : Option Blk} : (S.set p b ++ T)[S.length]? = T[0]? := get_setapp 0
theorem set_setapp {p : Nat} {b : Option Blk} (k : Nat) (v : Option Blk) : (S.set p b ++ T).set (S.length + k) v = S.set p b ++ T.set k v := by
  have := set_app (S := S.set p b) (T := T) k v; simpa using this
theorem set_setapp0 {p : Nat} {b : Option Blk} (v : Option Blk) : (S.set p b ++ T).set S.length v = S.set p b ++ T.set 0 v := set_setapp 0 v
theorem get_app_old {p : Nat} {b : Blk} (h : S[p]? = some (some b)) : (S ++ T)[p]? = some (some b) := by
  rw [List.getElem?_append_left (List.getElem?_eq_some_iff.1 h).1]; exact h
theorem set_app_old {p : Nat} {b : Blk} (h : S[p]? = some (some b)) (v : Option Blk) : (S ++ T).set p v = S.set p v ++ T := by
  rw [List.set_append_left _ _ (List.getElem?_eq_some_iff.1 h).1]
theorem get_set_self {p : Nat} {b : Blk} (h : S[p]? = some (some b)) (v : Option Blk) : (S.set p v)[p]? = some v := by
  rw [List.getElem?_set_self (List.getElem?_eq_some_iff.1 h).1]
theorem set_set (p : Nat) (v u : Option Blk) : (S.set p v).set p u = S.set p u := List.set_set v
end
attribute [go_sem] set_app set_app0 get_app get_app0 get_setapp get_setapp0 set_setapp set_setapp0 set_set List.length_append List.length_set List.append_assoc

attribute [go_sem] envZ slotsOf exists_eq' exists_eq exists_const KT.sl.injEq KT.arr.injEq exists_eq_left' exists_eq_left exists_and_left exists_eq_right'

theorem ex_blk {Q : List (List LV) → Prop} {n m : Nat} {es : List (List LV)} : (∃ es', some (n, es) = some (m, es') ∧ Q es') ↔ n = m ∧ Q es := ⟨fun h => by obtain ⟨_, h, hp⟩ := h; cases h; exact ⟨rfl, hp⟩, fun ⟨h, hp⟩ => ⟨_, by rw [h], hp⟩⟩

end Go.Lift
end
section
set_option linter.all false
/-
  The lifted layer, part 17: numbers that fit, calls that keep their blocks, stores that agree but for some blocks.
-/
namespace Go.Lift
open Go.RowKit

set_option linter.unusedSimpArgs false
theorem w64 {n : Int} (h1 : -9223372036854775808 ≤ n) (h2 : n ≤ 9223372036854775807) : IntKind.i64.wrap n = n := by
  simp only [IntKind.wrap, IntKind.signed, IntKind.bits, IntKind.max, IntKind.min]
  simp; omega
theorem wu64 {n : Int} (h1 : 0 ≤ n) (h2 : n ≤ 18446744073709551615) : IntKind.u64.wrap n = n := by
  simp only [IntKind.wrap, IntKind.signed, IntKind.bits, IntKind.max, IntKind.min]
  simp; omega
theorem wu64m (n : Int) : IntKind.u64.wrap n = n % 18446744073709551616 := by
  simp only [IntKind.wrap, IntKind.signed, IntKind.bits, IntKind.max, IntKind.min]
  simp
theorem wu8m (n : Int) : IntKind.u8.wrap n = n % 256 := by
  simp only [IntKind.wrap, IntKind.signed, IntKind.bits, IntKind.max, IntKind.min]
  simp
theorem w64_range (n : Int) : -9223372036854775808 ≤ IntKind.i64.wrap n ∧ IntKind.i64.wrap n ≤ 9223372036854775807 := by
  simp only [IntKind.wrap, IntKind.signed, IntKind.bits, IntKind.max, IntKind.min]
  simp; omega

theorem frzK_true {S : LS} : ∀ (d : Nat) (u : LV), frzK (fun _ => true) S d u = u
  | 0, _ => rfl
  | d + 1, u => by
    have hm : ∀ us : List LV, us.map (frzK (fun _ => true) S d) = us := fun us => by
      rw [List.map_congr_left (g := id) (fun x _ => frzK_true d x)]; simp
    cases u <;> simp [frzK, hm]

/-- all blocks are kept. -/
theorem ret_keep {d : Nat} {S S' : LS} {R : LV → LS → Prop} {u : LV} (h : R u S') : RetOk d S R S' u :=
  .inr ⟨fun _ => true, S', rfl, fun _ b hb => ⟨rfl, b, hb, .inl rfl⟩, by rw [frzK_true]; exact h⟩

/-- the blocks of 'S' but those of 'ids' are as they were. -/
def Keeps (S S' : LS) (ids : List Nat) : Prop := S.length ≤ S'.length ∧ ∀ j, j < S.length → j ∉ ids → S'[j]? = S[j]?

theorem Keeps.refl (S : LS) (ids : List Nat) : Keeps S S ids := ⟨Nat.le_refl _, fun _ _ _ => rfl⟩
theorem Keeps.get {S S' : LS} {ids : List Nat} (h : Keeps S S' ids) {j : Nat} {b : Blk} (hj : S[j]? = some (some b)) (hn : j ∉ ids) : S'[j]? = some (some b) := by
  rw [h.2 j (List.getElem?_eq_some_iff.1 hj).1 hn]; exact hj
theorem Keeps.trans {S S' S'' : LS} {ids ids' ids'' : List Nat} (h : Keeps S S' ids) (h' : Keeps S' S'' ids') (hs : ∀ j, j < S.length → j ∈ ids ∨ j ∈ ids' → j ∈ ids'') : Keeps S S'' ids'' :=
  ⟨Nat.le_trans h.1 h'.1, fun j hj hn => by
    rw [h'.2 j (Nat.lt_of_lt_of_le hj h.1) (fun hm => hn (hs j hj (.inr hm))), h.2 j hj (fun hm => hn (hs j hj (.inl hm)))]⟩
theorem Keeps.app (S T : LS) (ids : List Nat) : Keeps S (S ++ T) ids := ⟨by simp, fun j hj _ => List.getElem?_append_left hj⟩
theorem Keeps.set {S : LS} {j : Nat} {ids : List Nat} (b : Option Blk) (hj : j ∈ ids) : Keeps S (S.set j b) ids :=
  ⟨by simp, fun i _ hi => List.getElem?_set_ne (fun e : j = i => hi (e ▸ hj))⟩
theorem Keeps.mono {S S' : LS} {ids ids' : List Nat} (h : Keeps S S' ids) (hs : ∀ j ∈ ids, j ∈ ids') : Keeps S S' ids' := ⟨h.1, fun j hj hn => h.2 j hj (fun hm => hn (hs j hm))⟩

/-- nothing of the caller's was written. -/
theorem ret_frame {d : Nat} {S S' : LS} {R : LV → LS → Prop} {u : LV} (hf : Keeps S S' []) (h1 : (frz S' S.length d u).lt S.length = true) (h2 : R (frz S' S.length d u) S) : RetOk d S R S' u :=
  .inl ⟨hf.1, S, rfl, fun id b h => .inl ⟨h, hf.get h (by simp)⟩, h1, h2⟩

/-- one block of the caller's was written. -/
theorem ret_frame1 {d p : Nat} {S S' : LS} {R : LV → LS → Prop} {u : LV} {b b' : Blk} (hf : Keeps S S' [p]) (hp : p < S.length) (hb : S'[p]? = some (some b)) (hb' : b' = frzB S' S.length d b) (hl : ltLL S.length b'.2 = true)
    (h1 : (frz S' S.length d u).lt S.length = true) (h2 : R (frz S' S.length d u) (S.set p (some b'))) : RetOk d S R S' u := by
  refine .inl ⟨hf.1, S.set p (some b'), by simp, fun id c h => ?_, h1, h2⟩
  by_cases e : p = id
  · subst e
    rw [List.getElem?_set_self hp] at h
    cases h
    exact .inr ⟨b, hb, hb', hl⟩
  · rw [List.getElem?_set_ne e] at h
    exact .inl ⟨h, hf.get h (by simp; exact fun x => e x.symm)⟩

/-- A CALL, by its body; what is asked is hidden while the body is walked. -/
theorem LCalls_introK {P : Program} {S : LS} {f : FuncId} {fn : Func} {c : Code} {us : List LV} {R : LV → LS → Prop} (d : Nat) (hf : P.funcs[f]? = some fn) (hb : fn.body = some c) (hg : goT P f = true) (hn : Nat.ble us.length fn.ntmps = true)
    (h : ∀ RR : LV → LS → Prop, (∀ r S', R r S' → RR r S') → Lwp P fn.ntmps c (LPost P fn d S RR) (argsEnv us) S) : LCalls P f us S R :=
  LCalls_intro d hf hb hg (Nat.le_of_ble_eq_true hn) (h R fun _ _ h => h)

theorem ldW_eq {P : Program} {t : TypeId} {cells : List LV} {off : Nat} {k : LV → Prop} : ldW P t cells off k = (ldC P t (some (cells, off)) ∧ k (ldU P t (some (cells, off)))) := by
  refine propext ⟨fun h => ?_, fun h => ?_⟩
  · unfold ldW at h
    simp only [ldC, ldU]
    split at h
    · rename_i hr
      obtain ⟨n, hn, hle, hk⟩ := h
      simp only [hr, hn, Option.getD_some]
      exact ⟨hle, hk⟩
    · rename_i hr
      obtain ⟨r, hr', hk⟩ := h
      simp only [hr, List.getD_eq_getElem?_getD, hr', Option.getD_some]
      exact ⟨(List.getElem?_eq_some_iff.1 hr').1, hk⟩
    · exact h.elim
  · obtain ⟨h1, h2⟩ := h
    unfold ldW
    simp only [ldC, ldU] at h1 h2
    cases hr : rowT P t with
    | none => simp [hr] at h1
    | some b =>
      cases b with
      | true =>
        simp only [hr] at h1 h2 ⊢
        cases hn : sizeT P t with
        | none => simp [hn] at h1
        | some n => simp only [hn, Option.getD_some] at h1 h2; exact ⟨n, rfl, h1, h2⟩
      | false =>
        simp only [hr] at h1 h2 ⊢
        exact ⟨cells.getD off .any, by rw [List.getD_eq_getElem?_getD, List.getElem?_eq_getElem h1]; rfl, h2⟩

theorem at_eq {S : LS} {v : LV} : S.at v = atG S.g v := by
  cases v <;> simp only [LS.at, atG, LS.g]
  case ptr id i off =>
    cases h : S[id]? with
    | none => simp
    | some o => cases o with
      | none => simp
      | some b => obtain ⟨n, es⟩ := b; simp; cases es[i]? <;> rfl

theorem at_ld {P : Program} {S : LS} {t : TypeId} {v : LV} {k : LV → Prop} : (∃ cells off, S.at v = some (cells, off) ∧ ldW P t cells off k) = (ldC P t (atG S.g v) ∧ k (ldU P t (atG S.g v))) := by
  rw [at_eq]
  refine propext ⟨?_, ?_⟩
  · rintro ⟨cells, off, h1, h2⟩
    rw [h1, ← ldW_eq]; exact h2
  · intro h
    cases ha : atG S.g v with
    | none => rw [ha] at h; exact h.1.elim
    | some x => rw [ha] at h; exact ⟨x.1, x.2, rfl, by rw [ldW_eq]; exact h⟩
attribute [go_sem] at_ld

/-- A LOOP over slots; what is asked at a round's end is hidden. -/
theorem Lwp_loopK {P : Program} {N : Nat} {S : LS} {env : Env} {c : Code} {Q : Exit → Env → LS → Prop} (ts : List Nat) (I : Nat → List LV → LS → Prop) (n : Nat) (hl : allLt N ts = true) (h0 : I n (slotsOf env ts) S)
    (round : ∀ n us S, I n us S → ∀ II : List LV → LS → Prop, (∀ m us' S', m < n → I m us' S' → II us' S') → Lwp P N c (LThen (fun env' S' => II (slotsOf env' ts) S') Q) (envZ ts us) S) : Lwp P N (.loop c) Q env S :=
  Lwp_loopE ts I n hl h0 fun n us S h => round n us S h (fun us' S' => ∃ m, m < n ∧ I m us' S') fun m _ _ hm hi => ⟨m, hm, hi⟩

theorem lt_of_get {S : LS} {p : Nat} {b : Option Blk} (h : S[p]? = some b) : p < S.length := (List.getElem?_eq_some_iff.1 h).1

theorem frz_zero {S : LS} {n : Nat} {u : LV} : frz S n 0 u = u := rfl
section
variable {S : LS} {n d : Nat}
theorem frz_agg {us : List LV} : frz S n (d + 1) (.agg us) = .agg (us.map (frz S n d)) := rfl
theorem frz_tup {us : List LV} : frz S n (d + 1) (.tup us) = .tup (us.map (frz S n d)) := rfl
theorem frz_int {k : IntKind} {v : Int} : frz S n d (.int k v) = .int k v := by cases d <;> rfl
theorem frz_bool {b : Bool} : frz S n d (.bool b) = .bool b := by cases d <;> rfl
theorem frz_str {b : ByteArray} : frz S n d (.str b) = .str b := by cases d <;> rfl
theorem frz_nilp : frz S n d .nilp = .nilp := by cases d <;> rfl
theorem frz_ptr {i j k : Nat} : frz S n d (.ptr i j k) = .ptr i j k := by cases d <;> rfl
theorem frz_sl {f : Bool} {es : List (List LV)} : frz S n d (.sl f es) = .sl f es := by cases d <;> rfl
theorem frz_iface {t : TypeId} {v : LV} : frz S n d (.iface t v) = .iface t v := by cases d <;> rfl
theorem frz_nili : frz S n d .nili = .nili := by cases d <;> rfl
theorem frz_ref {id off len : Nat} : frz S n (d + 1) (.ref id off len) = if id < n then .ref id off len else
        match S[id]? with
        | some (some (_, es)) => if off + len ≤ es.length then .sl false (((es.drop off).take len).map fun e => e.map (frz S n d)) else .any
        | _ => .any := rfl
end
attribute [go_sem] frz_zero frz_agg frz_tup frz_int frz_bool frz_str frz_nilp frz_ptr frz_sl frz_iface frz_nili frz_ref
theorem frzB_zero {S : LS} {n : Nat} {b : Blk} : frzB S n 0 b = b := by
  have : ∀ es : List (List LV), es.map (fun e => e.map (frz S n 0)) = es := fun es => by
    have h1 : ∀ e : List LV, e.map (frz S n 0) = e := fun e => by
      induction e with
      | nil => rfl
      | cons x e ih => rw [List.map_cons, ih]; rfl
    rw [List.map_congr_left (g := id) (fun e _ => h1 e)]; simp
  simp only [frzB, this]

/-- one block of the caller's was written; nothing is frozen. -/
theorem ret_set0 {p : Nat} {S T : LS} {R : LV → LS → Prop} {u : LV} {b : Blk} (hp : p < S.length) (hl : ltLL S.length b.2 = true) (h1 : u.lt S.length = true) (h2 : R u (S.set p (some b))) : RetOk 0 S R (S.set p (some b) ++ T) u :=
  ret_frame1 (b := b) ((Keeps.set (ids := [p]) (some b) (List.mem_singleton.2 rfl)).trans (Keeps.app _ T []) (fun j _ h => h.elim id (fun h => absurd h (by simp)))) hp (by rw [List.getElem?_append_left (by simpa using hp), List.getElem?_set_self hp]) frzB_zero.symm hl h1 h2

theorem ret_set {p : Nat} {S : LS} {R : LV → LS → Prop} {u : LV} {b : Blk} (hp : p < S.length) (hl : ltLL S.length b.2 = true) (h1 : u.lt S.length = true) (h2 : R u (S.set p (some b))) : RetOk 0 S R (S.set p (some b)) u := by
  have := ret_set0 (T := []) hp hl h1 h2
  simpa using this

theorem lt_u8c {n : Nat} (xs : List UInt8) : ltLL n (xs.map u8c) = true := by
  induction xs with
  | nil => rfl
  | cons x xs ih => simp [ltLL, u8c, ltL, LV.lt, ih]

/-- bytes of a slice. -/
theorem u8c_getD {xs : List UInt8} {i : Nat} (h : i < xs.length) : (xs.map u8c).getD i [] = [.int .u8 (xs.getD i 0).toNat] := by
  rw [List.getD_eq_getElem?_getD, List.getD_eq_getElem?_getD, List.getElem?_map, List.getElem?_eq_getElem h]; rfl

end Go.Lift
end
section
set_option linter.all false
/-
  The lifted layer, part 18: appending to a row of one's own.
-/
namespace Go.Lift
open Go.RowKit
set_option linter.unusedSimpArgs false

/-- 'u' is a slice that may be appended to, and holds 'es'. -/
def RowS (S : LS) (lo : Nat) (u : LV) (sz : Nat) (es : List (List LV)) : Prop :=
  (∀ e ∈ es, e.length = sz) ∧ (u = .sl true es ∨ ∃ id, lo ≤ id ∧ u = .ref id 0 es.length ∧ S[id]? = some (some (sz, es)))

/-- the block of a row. -/
def rowIds : LV → List Nat
  | .ref id _ _ => [id]
  | _ => []

def killR : LV → LS → LS
  | .ref id _ _, S => S.set id none
  | _, S => S

section
variable {P : Program} {S : LS} {env : Env} {d : Option Tmp} {K : Env → LS → Prop}

theorem RowS.mono {S S' : LS} {lo lo' sz : Nat} {u : LV} {es : List (List LV)} (h : RowS S lo u sz es) (hlo : lo' ≤ lo) (hS : ∀ id ∈ rowIds u, ∀ b, S[id]? = some (some b) → S'[id]? = some (some b)) : RowS S' lo' u sz es := by
  refine ⟨h.1, ?_⟩
  rcases h.2 with h | ⟨id, h1, h2, h3⟩
  · exact .inl h
  · subst h2; exact .inr ⟨id, Nat.le_trans hlo h1, rfl, hS id (by simp [rowIds]) _ h3⟩

theorem RowS.lo {lo sz : Nat} {u : LV} {es : List (List LV)} (h : RowS S lo u sz es) : ∀ id ∈ rowIds u, lo ≤ id ∧ id < S.length := by
  intro id hid
  rcases h.2 with h | ⟨id', h1, h2, h3⟩
  · subst h; simp [rowIds] at hid
  · subst h2; simp [rowIds] at hid; subst hid; exact ⟨h1, lt_of_get h3⟩

theorem RowS.nil {lo sz : Nat} : RowS S lo (.sl true []) sz [] := ⟨by simp, .inl rfl⟩

theorem append_row0 {lo sz b : Nat} {e sT tx : TypeId} {zc : List LV} {a x : Operand} {u : LV} {es fs : List (List LV)} (h : RowS S lo u sz es) (hu : evalL env a = u) (h1 : elemT P sT = some e) (h2 : layE P e = some (sz, b, zc)) (h3 : srcT P tx = true)
    (h4 : srcC S.g (evalL env x)) (h5 : srcG S.g (evalL env x) = some fs) (h6 : ∀ f ∈ fs, f.length = sz) (h7 : es = [] ∨ fs ≠ []) (h8 : (es.length + fs.length) * b ≤ LIM)
    (hk : K (env.putO d (.ref S.length 0 (es.length + fs.length))) (killR u S ++ [some (sz, es ++ fs)])) :
    exeE P d K env S (.call ⟨.builtin .append, #[a, x], #[sT, tx]⟩) := by
  refine exe_append_of ?_
  rcases h.2 with h | ⟨id, g1, g2, g3⟩
  · subst h
    simp only [genE, opC, opU, opS, hu, h5, apC, opU.apU', apS, apN, h1, h2, Option.getD_some]
    exact ⟨⟨h4, _, _, _, _, rfl, h2, h3, h6, h7, h.1, h8⟩, hk⟩
  · subst g2
    have hg : S.g id = some (sz, es) := by simp [LS.g, g3]
    simp only [genE, opC, opU, opS, hu, h5, apC, opU.apU', apS, apN, h1, h2, Option.getD_some, hg, List.drop_zero, List.take_length]
    exact ⟨⟨h4, _, _, _, _, rfl, h2, h3, h6, es, rfl, by omega, h8⟩, hk⟩

/-- appending to a row, whatever the store. -/
theorem append_row {lo sz b : Nat} {e sT tx : TypeId} {zc : List LV} {a x : Operand} {u : LV} {es fs : List (List LV)} (h : RowS S lo u sz es) (hu : evalL env a = u) (h1 : elemT P sT = some e) (h2 : layE P e = some (sz, b, zc)) (h3 : srcT P tx = true)
    (h4 : srcC S.g (evalL env x)) (h5 : srcG S.g (evalL env x) = some fs) (h6 : ∀ f ∈ fs, f.length = sz) (h7 : es = [] ∨ fs ≠ []) (h8 : (es.length + fs.length) * b ≤ LIM)
    (hk : ∀ S' : LS, S'.length = S.length + 1 → RowS S' S.length (.ref S.length 0 (es.length + fs.length)) sz (es ++ fs) → Keeps S S' (rowIds u) → K (env.putO d (.ref S.length 0 (es.length + fs.length))) S') :
    exeE P d K env S (.call ⟨.builtin .append, #[a, x], #[sT, tx]⟩) := by
  refine append_row0 h hu h1 h2 h3 h4 h5 h6 h7 h8 (hk _ ?_ ⟨fun e he => ?_, .inr ⟨_, Nat.le_refl _, by simp, ?_⟩⟩ ?_)
  · rcases h.2 with g2 | ⟨id, g1, g2, g3⟩ <;> rw [g2] <;> simp [killR]
  · rcases List.mem_append.1 he with he | he
    · exact h.1 e he
    · exact h6 e he
  · rcases h.2 with g | ⟨id, g1, g2, g3⟩
    · rw [g]; simp [killR]
    · rw [g2]; simp [killR]
  · rcases h.2 with g | ⟨id, g1, g2, g3⟩
    · rw [g]; exact Keeps.app _ _ _
    · rw [g2]; exact (Keeps.set (ids := [id]) none (by simp)).trans (Keeps.app _ _ []) (fun j _ hj => hj.elim (fun h => h) (fun h => absurd h (by simp)))

/-- appending to a row that has memory, be it nothing. -/
theorem append_ref {id sz b : Nat} {e sT tx : TypeId} {zc : List LV} {a x : Operand} {es fs : List (List LV)} (hid : S[id]? = some (some (sz, es))) (hes : ∀ e ∈ es, e.length = sz) (hu : evalL env a = .ref id 0 es.length) (h1 : elemT P sT = some e) (h2 : layE P e = some (sz, b, zc)) (h3 : srcT P tx = true)
    (h4 : srcC S.g (evalL env x)) (h5 : srcG S.g (evalL env x) = some fs) (h6 : ∀ f ∈ fs, f.length = sz) (h8 : (es.length + fs.length) * b ≤ LIM)
    (hk : ∀ S' : LS, S'.length = S.length + 1 → RowS S' S.length (.ref S.length 0 (es.length + fs.length)) sz (es ++ fs) → Keeps S S' [id] → K (env.putO d (.ref S.length 0 (es.length + fs.length))) S') :
    exeE P d K env S (.call ⟨.builtin .append, #[a, x], #[sT, tx]⟩) := by
  refine exe_append_of ?_
  have hg : S.g id = some (sz, es) := by simp [LS.g, hid]
  simp only [genE, opC, opU, opS, hu, h5, apC, opU.apU', apS, apN, h1, h2, Option.getD_some, hg, List.drop_zero, List.take_length]
  refine ⟨⟨h4, _, _, _, _, rfl, h2, h3, h6, es, rfl, by omega, h8⟩, hk _ (by simp) ⟨fun e he => ?_, .inr ⟨_, Nat.le_refl _, by simp, by simp⟩⟩ ?_⟩
  · rcases List.mem_append.1 he with he | he
    · exact hes e he
    · exact h6 e he
  · exact (Keeps.set (ids := [id]) none (by simp)).trans (Keeps.app _ _ []) (fun j _ hj => hj.elim (fun h => h) (fun h => absurd h (by simp)))

/-- 'u' is a slice that may be appended to, and holds 'es': one of the call's own blocks 'T', which stand behind 'b' others. -/
def RowT (b : Nat) (T : LS) (m : Nat) (u : LV) (sz : Nat) (es : List (List LV)) : Prop :=
  (∀ e ∈ es, e.length = sz) ∧ (u = .sl true es ∨ ∃ k, m ≤ k ∧ u = .ref (b + k) 0 es.length ∧ T[k]? = some (some (sz, es)))

theorem RowT.nil {b m sz : Nat} {T : LS} : RowT b T m (.sl true []) sz [] := ⟨by simp, .inl rfl⟩
theorem RowT.mono {b m m' sz : Nat} {T T' : LS} {u : LV} {es : List (List LV)} (h : RowT b T m u sz es) (hm : m' ≤ m) (hT : ∀ k, m ≤ k → k < T.length → T'[k]? = T[k]?) : RowT b T' m' u sz es := by
  refine ⟨h.1, ?_⟩
  rcases h.2 with h | ⟨k, h1, h2, h3⟩
  · exact .inl h
  · exact .inr ⟨k, by omega, h2, by rw [hT k h1 (lt_of_get h3)]; exact h3⟩
theorem RowT.rowS {m sz : Nat} {A T : LS} {u : LV} {es : List (List LV)} (h : RowT A.length T m u sz es) : RowS (A ++ T) (A.length + m) u sz es := by
  refine ⟨h.1, ?_⟩
  rcases h.2 with h | ⟨k, h1, h2, h3⟩
  · exact .inl h
  · exact .inr ⟨_, by omega, h2, by rw [List.getElem?_append_right (by omega), Nat.add_sub_cancel_left]; exact h3⟩

/-- appending to a row of the call's own blocks 'T'. -/
theorem append_own {A T : LS} {n m sz b : Nat} {e sT tx : TypeId} {zc : List LV} {a x : Operand} {u : LV} {es fs : List (List LV)} (hA : A.length = n) (h : RowT n T m u sz es) (hu : evalL env a = u) (h1 : elemT P sT = some e) (h2 : layE P e = some (sz, b, zc)) (h3 : srcT P tx = true)
    (h4 : srcC (A ++ T).g (evalL env x)) (h5 : srcG (A ++ T).g (evalL env x) = some fs) (h6 : ∀ f ∈ fs, f.length = sz) (h7 : es = [] ∨ fs ≠ []) (h8 : (es.length + fs.length) * b ≤ LIM) (hm : m ≤ T.length)
    (hk : ∀ T' : LS, T'.length = T.length + 1 → RowT n T' m (.ref (n + T.length) 0 (es.length + fs.length)) sz (es ++ fs) → (∀ i, i < m → T'[i]? = T[i]?) → K (env.putO d (.ref (n + T.length) 0 (es.length + fs.length))) (A ++ T')) :
    exeE P d K env (A ++ T) (.call ⟨.builtin .append, #[a, x], #[sT, tx]⟩)   := by
  subst hA
  refine append_row h.rowS hu h1 h2 h3 h4 h5 h6 h7 h8 fun S' hl hr hf => ?_
  have hlo := h.rowS.lo
  have hpre : ∀ i, i < A.length + m → S'[i]? = (A ++ T)[i]? := fun i hi => hf.2 i (by simp; omega) (fun hid => by have := (hlo i hid).1; omega)
  have hS' : S' = A ++ S'.drop A.length := by
    apply List.ext_getElem?
    intro i
    by_cases hi : i < A.length
    · rw [List.getElem?_append_left hi, hpre i (by omega), List.getElem?_append_left hi]
    · rw [List.getElem?_append_right (by omega), List.getElem?_drop]; congr 1; omega
  rw [hS'] at hr hl ⊢
  have hr2 := hr.2
  simp only [List.length_append] at hl hr2 ⊢
  refine hk _ (by omega) ⟨hr.1, .inr ⟨T.length, hm, by simp, ?_⟩⟩ fun i hi => ?_
  · rcases hr2 with h | ⟨id, h0, h3, h4⟩
    · cases h
    · cases h3
      rw [List.getElem?_append_right (by omega)] at h4
      rw [← h4]; congr 1; omega
  · rw [List.getElem?_drop, hpre _ (by omega), List.getElem?_append_right (by omega)]; congr 1; omega

/-- elements without references. -/
theorem lt_int {n : Nat} {es : List (List LV)} (h : ∀ e ∈ es, ltL n e = true) : ltLL n es = true := by
  induction es with
  | nil => rfl
  | cons e es ih => simp only [ltLL, h e (by simp), ih (fun x hx => h x (by simp [hx])), Bool.and_self]

theorem map_frz0 {S : LS} {n : Nat} (es : List (List LV)) : es.map (fun e => e.map (frz S n 0)) = es := by
  have h1 : ∀ e : List LV, e.map (frz S n 0) = e := fun e => by
    induction e with
    | nil => rfl
    | cons x e ih => rw [List.map_cons, ih]; rfl
  induction es with
  | nil => rfl
  | cons e es ih => rw [List.map_cons, ih, h1]

/-- a row of the call's own, where the call ends. -/
theorem RowT.frz {m sz n d : Nat} {A T : LS} {u : LV} {es : List (List LV)} (h : RowT n T m u sz es) (hA : A.length = n) : (∃ full, Lift.frz (A ++ T) n (d + 1) u = .sl full es) ∨ Lift.frz (A ++ T) n (d + 1) u = .sl false (es.map fun e => e.map (Lift.frz (A ++ T) n d)) := by
  rcases h.2 with h | ⟨k, h1, h2, h3⟩
  · subst h; exact .inl ⟨true, rfl⟩
  · subst h2
    refine .inr ?_
    simp only [Lift.frz, Nat.not_lt_of_le (Nat.le_add_right n k), if_false]
    rw [List.getElem?_append_right (by omega), hA, Nat.add_sub_cancel_left, h3]
    simp
theorem RowT.frz1 {m sz n : Nat} {A T : LS} {u : LV} {es : List (List LV)} (h : RowT n T m u sz es) (hA : A.length = n) : ∃ full, Lift.frz (A ++ T) n 1 u = .sl full es := by
  rcases h.frz (d := 0) hA with h | h
  · exact h
  · exact ⟨false, by rw [h, map_frz0]⟩


/-- a row that a slot holds is written no more: what it holds is known from now on. -/
theorem Lwp_freeze {N : Nat} {c : Code} {Q : Exit → Env → LS → Prop} (t id : Nat) (ht : Nat.blt t N = true) (u : LV) (hu : env t = some u)
    (h : Lwp P N c Q (env.put t (frzK (fun j => j != id) S 1 u)) (S.set id none)) : Lwp P N c Q env S := by
  intro B w0 K φ a w hS hE
  obtain ⟨K', h1, h2, h3⟩ := SimS.freezeL [id] hS
  have hE1 := hE.mono h1 (List.prefix_refl _)
  have hr := frzK_sound (keep := fun j => j != id) (S := S) (fun j hj => by simp at hj; subst hj; exact h3 _ (by simp)) 1 ((hE1.rel t u hu).2)
  have hE2 : SimE N K' φ (env.put t (frzK (fun j => j != id) S 1 u)) a := ⟨hE1.size, hE1.defers, fun x y hx => by
    unfold Env.put at hx
    split at hx
    · rename_i e
      subst e
      cases hx
      exact ⟨by simp [Nat.blt] at ht; omega, hr⟩
    · exact hE1.rel x y hx⟩
  exact wp_mono (h B w0 K' φ a w h2 hE2) fun _ _ _ hq => LQ.mono h1 (List.prefix_refl _) hq

end
end Go.Lift
end
section
set_option linter.all false
/-
  The lifted layer, part 19: an empty slice as a row without memory; rows that are frozen where they lie.
-/
namespace Go.Lift
open Go.RowKit
set_option linter.unusedSimpArgs false

section
variable {P : Program} {B N : Nat} {w0 w : World} {K : Know} {φ : List Pl} {S : LS} {env : Env}

def vpl (n : Nat) : Pl := ⟨0, 0, n, 0, true⟩

theorem SimS.virt1 (h : SimS B w0 K φ S w) (n : Nat) : SimS B w0 K (φ ++ [vpl n]) (S ++ [some (n, [])]) w := by
  have hlen := h.len
  have old : ∀ {id : Nat} {p : Pl}, id < S.length → (φ ++ [vpl n])[id]? = some p → φ[id]? = some p := fun {id p} hid hp => by
    rwa [List.getElem?_append_left (by omega)] at hp
  have new : ∀ {p : Pl}, (φ ++ [vpl n])[S.length]? = some p → p = vpl n := fun {p} hp => by
    rw [← hlen] at hp; simp at hp; exact hp.symm
  refine ⟨h.below, h.base, h.know, by simp [hlen], ?_, ?_, ?_, ?_⟩
  · intro id m es p h1 h2
    rcases last_case h1 with ⟨hl, hs⟩ | ⟨rfl, hs⟩
    · exact h.sz id m es p hs (old hl h2)
    · cases hs; rw [new h2]; rfl
  · intro id m es p h1 h2 hv
    rcases last_case h1 with ⟨hl, hs⟩ | ⟨rfl, hs⟩
    · exact h.virt id m es p hs (old hl h2) hv
    · cases hs; rfl
  · intro id m es p h1 h2 hv
    rcases last_case h1 with ⟨hl, hs⟩ | ⟨rfl, hs⟩
    · obtain ⟨vals, T, vs, g1, g2, g3, g4, g5, g6⟩ := h.blk id m es p hs (old hl h2) hv
      exact ⟨vals, T, vs, g1, g2, g3, g4, g5.mono (Know.le_refl K) (List.prefix_append _ _), g6⟩
    · rw [new h2] at hv; cases hv
  · intro i j es fs p q h1 h2 h3 h4 h5 h6 h7
    rcases last_case h1 with ⟨hl, hs⟩ | ⟨rfl, hs⟩
    · rcases last_case h2 with ⟨hl', hs'⟩ | ⟨rfl, hs'⟩
      · exact h.inj i j es fs p q hs hs' (old hl h3) (old hl' h4) h5 h6 h7
      · rw [new h4] at h6; cases h6
    · rw [new h3] at h5; cases h5

theorem Rel.virt {v : Value} {n : Nat} (hlen : φ.length = S.length) (h : Rel K φ v (.sl true [])) : Rel K (φ ++ [vpl n]) v (.ref S.length 0 0) := by
  have hp : (φ ++ [vpl n])[S.length]? = some (vpl n) := by rw [← hlen]; simp
  cases h with
  | slnil => exact .refnil hp
  | sl hk h1 hr hsz hn hc hf =>
    subst hn
    have := hf rfl
    exact .ref hp (by omega) (fun hne => absurd this hne)

/-- AN EMPTY SLICE is a row without memory. -/
theorem Lwp_virt {c : Code} {Q : Exit → Env → LS → Prop} (t n : Nat) (hu : env t = some (.sl true [])) (h : Lwp P N c Q (env.put t (.ref S.length 0 0)) (S ++ [some (n, [])])) : Lwp P N c Q env S := by
  intro B w0 K φ a w hS hE
  have hE1 := hE.mono (Know.le_refl K) (List.prefix_append φ [vpl n])
  have hr := ((hE.rel t _ hu).2).virt (n := n) hS.len
  have hE2 : SimE N K (φ ++ [vpl n]) (env.put t (.ref S.length 0 0)) a := ⟨hE1.size, hE1.defers, fun x y hx => by
    unfold Env.put at hx
    split at hx
    · rename_i e
      subst e
      cases hx
      exact ⟨(hE.rel x _ hu).1, hr⟩
    · exact hE1.rel x y hx⟩
  exact wp_mono (h B w0 K _ a w (hS.virt1 n) hE2) fun _ _ _ hq => LQ.mono (Know.le_refl K) (List.prefix_append _ _) hq

theorem LCalls_virt {f : FuncId} {args : List LV} {R : LV → LS → Prop} (n : Nat) (h : LCalls P f (.ref S.length 0 0 :: args) (S ++ [some (n, [])]) R) : LCalls P f (.sl true [] :: args) S R := by
  refine ⟨h.1, fun B w0 K φ w vs hS hv => ?_⟩
  cases hv with
  | cons hx hs =>
    refine (h.2 B w0 K (φ ++ [vpl n]) w _ (hS.virt1 n) (.cons (hx.virt hS.len) (hs.mono (Know.le_refl K) (List.prefix_append _ _)))).mono fun e w' => ?_
    rintro ⟨v, he, u, S', K', φ', hk, h1, h2, h3, h4⟩
    exact ⟨v, he, u, S', K', φ', hk, h1, (List.prefix_append _ _).trans h2, h3, h4⟩

theorem envZ_map (f : LV → LV) : ∀ (ts : List Nat) (us : List LV) (x : Nat) (y : LV), envZ ts (us.map f) x = some y → ∃ y', envZ ts us x = some y' ∧ y = f y'
  | [], us, x, y, h => by cases us <;> simp [envZ] at h
  | t :: ts, [], x, y, h => by simp [envZ] at h
  | t :: ts, u :: us, x, y, h => by
    simp only [List.map_cons, envZ, Env.put] at h ⊢
    split at h
    · rename_i e
      cases h
      exact ⟨u, by simp [e], rfl⟩
    · rename_i e
      obtain ⟨y', h1, h2⟩ := envZ_map f ts us x y h
      exact ⟨y', by simp [e, h1], h2⟩

/-- BLOCKS THAT ARE WRITTEN NO MORE: what rows over them hold is known from now on: in slots and in the other blocks. -/
theorem Lwp_freezeB {c : Code} {Q : Exit → Env → LS → Prop} (keep : Nat → Bool) (d : Nat) (S1 : LS) (hlen : S1.length = S.length)
    (hb : ∀ (id : Nat) (b : Blk), S1[id]? = some (some b) → keep id = true ∧ ∃ b', S[id]? = some (some b') ∧ (b = b' ∨ b = frzKB keep S d b'))
    (ts : List Nat) (hl : allLt N ts = true) (h : Lwp P N c Q (envZ ts ((slotsOf env ts).map (frzK keep S d))) S1) : Lwp P N c Q env S := by
  intro B w0 K φ a w hS hE
  obtain ⟨K2, k1, k2, k3⟩ := SimS.freezeL ((List.range S.length).filter fun i => !keep i) hS
  have hfz : ∀ id, keep id = false → FrozenAt K2 φ S id := fun id hid m es p he hp =>
    k3 id (by simp [hid]; exact (List.getElem?_eq_some_iff.1 he).1) m es p he hp
  have hS1 := k2.weaken (S1 := S1) (by rw [hlen, (foldl_kill _ _).1]) (fun id b hid => by
    obtain ⟨hkeep, b', hb', hor⟩ := hb id b hid
    refine ⟨b', by rw [(foldl_kill _ _).2 id (by simp [hkeep])]; exact hb', ?_⟩
    rcases hor with rfl | rfl
    · exact ⟨rfl, rfl, fun _ h => h, fun _ h => h⟩
    · refine ⟨rfl, by simp [frzKB], fun sz hs e he => ?_, fun vs hv => ?_⟩
      · simp only [frzKB, List.mem_map] at he
        obtain ⟨e', he', rfl⟩ := he
        rw [List.length_map]; exact hs e' he'
      · simp only [frzKB]
        rw [← List.map_flatten]
        exact RelL.of_get (by rw [List.length_map]; exact hv.length) fun j v u hj hu => by
          rw [List.getElem?_map] at hu
          simp only [Option.map_eq_some_iff] at hu
          obtain ⟨u', hu', rfl⟩ := hu
          obtain ⟨v', hv', hr'⟩ := hv.get hu'
          rw [hj] at hv'; cases hv'
          exact frzK_sound hfz d hr')
  have hE1 := (hE.keep ts hl).mono k1 (List.prefix_refl φ)
  have hE2 : SimE N K2 φ (envZ ts ((slotsOf env ts).map (frzK keep S d))) a := ⟨hE1.size, hE1.defers, fun x y hx => by
    obtain ⟨y', h1, rfl⟩ := envZ_map _ _ _ _ _ hx
    exact ⟨(hE1.rel x y' h1).1, frzK_sound hfz d (hE1.rel x y' h1).2⟩⟩
  exact wp_mono (h B w0 K2 φ a w hS1 hE2) fun _ _ _ hq => LQ.mono k1 (List.prefix_refl _) hq


/-- A VARIABLE that is written no more: what lies behind its address is known from now on. -/
theorem Lwp_freezeP {c : Code} {Q : Exit → Env → LS → Prop} (t id i off n : Nat) (es : List (List LV)) (cells : List LV) (ht : Nat.blt t N = true) (hu : env t = some (.ptr id i off)) (hid : S[id]? = some (some (n, es))) (hc : es[i]? = some cells)
    (h : Lwp P N c Q (env.put t (.eptr cells off)) (S.set id none)) : Lwp P N c Q env S := by
  intro B w0 K φ a w hS hE
  obtain ⟨K', h1, h2, h3⟩ := SimS.freezeL [id] hS
  have hE1 := hE.mono h1 (List.prefix_refl _)
  have hr := (hE1.rel t _ hu).2
  have hr2 : Rel K' φ (a.tmps.getD t undef) (.eptr cells off) := by
    generalize a.tmps.getD t undef = v at hr
    cases hr with
    | ptr hp =>
      rename_i p
      obtain ⟨vs, g1, g2, g3, g4⟩ := h3 id (by simp) n es p hid hp
      have hv : p.virt = false := by
        cases hv : p.virt with
        | false => rfl
        | true => have := hS.virt id n es p hid hp hv; subst this; simp at hc
      have hes := g3 hv
      refine .eptr (vs := (vs.drop (i * p.sz)).take p.sz) ?_ (fun x hx => g2 x (List.mem_of_mem_drop (List.mem_of_mem_take hx))) ?_
      · intro j x hj
        rw [List.getElem?_take] at hj
        split at hj
        · rw [List.getElem?_drop] at hj
          have := g4 _ _ hj
          rwa [← Nat.add_assoc] at this
        · cases hj
      · have := (g1.drop (i * p.sz)).take p.sz
        rwa [flat_elem hes hc] at this
  have hE2 : SimE N K' φ (env.put t (.eptr cells off)) a := ⟨hE1.size, hE1.defers, fun x y hx => by
    unfold Env.put at hx
    split at hx
    · rename_i e
      subst e
      cases hx
      exact ⟨by simp [Nat.blt] at ht; omega, hr2⟩
    · exact hE1.rel x y hx⟩
  exact wp_mono (h B w0 K' φ a w h2 hE2) fun _ _ _ hq => LQ.mono h1 (List.prefix_refl _) hq

/-! ### Guards, resolved -/
def tv (env : Env) (t : Nat) (want : Bool) : Option Bool :=
  match env t with
  | some (.bool b) => some b
  | some (.tup []) => some (!want)
  | _ => none

abbrev Gd := Option (Nat × Bool)

/-- the slot that a guard looks at. -/
def gdOk (ops : Array Oper) (o : Oper) (g : Gd) : Bool :=
  match o.guard, g with
  | none, none => true
  | some (j, w), some (t, w') => w == w' && ((ops[j]?).bind (·.dst)) == some t
  | _, _ => false

def gdsOk (ops : Array Oper) : List Oper → List Gd → Bool
  | [], [] => true
  | o :: l, g :: G => gdOk ops o g && gdsOk ops l G
  | _, _ => false

def rwG (P : Program) (K : Env → LS → Prop) : List Oper → List Gd → Env → LS → Prop
  | [], _, env, S => K env S
  | _ :: _, [], _, _ => False
  | o :: l, none :: G, env, S => exeE P o.dst (rwG P K l G) env S o.op
  | o :: l, some (t, w) :: G, env, S => grd (tv env t w) w (exeE P o.dst (rwG P K l G) env S o.op) (rwG P K l G (env.putO o.dst (.tup [])) S) .mk

theorem gv_tv {ops : Array Oper} {j t : Nat} {w : Bool} (h : (ops[j]?).bind (·.dst) = some t) : gv ops env j w = tv env t w := by
  unfold gv tv
  simp only [h]
  cases env t with
  | none => rfl
  | some u =>
    cases u <;> first | rfl | (rename_i us; cases us <;> rfl)

end
section
variable {P : Program} {N : Nat} {S : LS} {env : Env}

theorem exeE_mono {d : Option Tmp} {K K' : Env → LS → Prop} {op : Op} (hk : ∀ env S, K env S → K' env S) (h : exeE P d K env S op) : exeE P d K' env S op := by
  unfold exeE at h ⊢
  split at h
  · rename_i f args ats
    unfold calE at h ⊢
    split at h
    · exact LCalls.mono h fun u S' => hk _ _
    · exact h.elim
  · rename_i r m args ats
    unfold invE at h ⊢
    split at h
    · obtain ⟨g, h1, h2⟩ := h; exact ⟨g, h1, LCalls.mono h2 fun u S' => hk _ _⟩
    · exact h.elim
  · rcases h with h | ⟨a, x, sT, tx, rfl, rfl, h⟩
    · exact .inl ⟨h.1, hk _ _ h.2⟩
    · obtain ⟨e, n, b, zc, full, elems, h1, h2, h3, h4, h5, h6⟩ := h
      exact .inr ⟨a, x, sT, tx, rfl, rfl, e, n, b, zc, full, elems, h1, h2, h3, h4, h5, hk _ _ h6⟩
  · exact ⟨h.1, hk _ _ h.2⟩

theorem rwG_rwE {ops : Array Oper} {K : Env → LS → Prop} : ∀ {l : List Oper} {G : List Gd} {env : Env} {S : LS}, gdsOk ops l G = true → rwG P K l G env S → rwE P ops K l env S
  | [], _, _, _, _, h => h
  | _ :: _, [], _, _, hg, _ => by simp [gdsOk] at hg
  | o :: l, none :: G, env, S, hg, h => by
    simp only [gdsOk, Bool.and_eq_true] at hg
    simp only [rwG] at h
    simp only [rwE, stE]
    have : o.guard = none := by
      have := hg.1
      unfold gdOk at this
      split at this
      · assumption
      · rename_i he; cases he
      · cases this
    simp only [this]
    exact exeE_mono (fun _ _ hh => rwG_rwE hg.2 hh) h
  | o :: l, some (t, w) :: G, env, S, hg, h => by
    simp only [gdsOk, Bool.and_eq_true] at hg
    simp only [rwG] at h
    simp only [rwE, stE]
    have : ∃ j, o.guard = some (j, w) ∧ (ops[j]?).bind (·.dst) = some t := by
      have := hg.1
      unfold gdOk at this
      split at this
      · rename_i he; cases he
      · rename_i j w1 t1 w2 he hq
        cases hq
        simp only [Bool.and_eq_true, beq_iff_eq] at this
        obtain ⟨rfl, h2⟩ := this
        exact ⟨j, he, h2⟩
      · cases this
    obtain ⟨j, hj, ht⟩ := this
    simp only [hj]
    rw [gv_tv ht]
    obtain ⟨b, hb, h1, h2⟩ := h
    exact ⟨b, hb, fun e => exeE_mono (fun _ _ hh => rwG_rwE hg.2 hh) (h1 e), fun e => rwG_rwE hg.2 (h2 e)⟩

/-- A REGION in the order of the text, its guards resolved. -/
theorem LregionG {id : Nat} {ops : List Oper} {Q : Exit → Env → LS → Prop} (G : List Gd) (hd : dstsOk N ops.toArray = true) (hg : gdsOk ops.toArray ops G = true) (h : rwG P (fun env S => Q .normal env S) ops G env S) : Lwp P N (.region id ops.toArray false) Q env S :=
  LregionE hd (rwG_rwE hg h)

theorem rwG_nil {K : Env → LS → Prop} {G : List Gd} : rwG P K [] G env S = K env S := rfl
theorem rwG_none {K : Env → LS → Prop} {d : Option Tmp} {op : Op} {t : TypeId} {pos : String} {af : Array Edge} {g : Option (Nat × Bool)} {l : List Oper} {G : List Gd} : rwG P K (⟨d, op, t, pos, af, g⟩ :: l) (none :: G) env S = exeE P d (rwG P K l G) env S op := rfl
theorem rwG_some {K : Env → LS → Prop} {d : Option Tmp} {op : Op} {t : TypeId} {pos : String} {af : Array Edge} {g : Option (Nat × Bool)} {l : List Oper} {G : List Gd} {j : Nat} {w : Bool} : rwG P K (⟨d, op, t, pos, af, g⟩ :: l) (some (j, w) :: G) env S = grd (tv env j w) w (exeE P d (rwG P K l G) env S op) (rwG P K l G (env.putO d (.tup [])) S) .mk := rfl
attribute [go_sem] rwG_nil rwG_none rwG_some tv


/-- WHAT HOLDS BETWEEN two pieces of code, said of some slots. -/
theorem Lwp_seqJ {x y : Code} {Q : Exit → Env → LS → Prop} (ts : List Nat) (J : List LV → LS → Prop) (hl : allLt N ts = true)
    (h1 : ∀ KK : List LV → LS → Prop, (∀ us S', J us S' → KK us S') → Lwp P N x (LThen (fun env' S' => KK (slotsOf env' ts) S') Q) env S)
    (h2 : ∀ us S', J us S' → Lwp P N y Q (envZ ts us) S') : Lwp P N (.seq x y) Q env S :=
  Lwp_seq fun KK hKK => (h1 J fun _ _ h => h).mono fun e env' S' h => by
    cases e <;> first | exact hKK env' S' (Lwp_keep ts hl (h2 _ _ h)) | exact h

end
attribute [go_sem] List.not_mem_nil false_implies implies_true Watch.holds List.mem_singleton forall_eq Nat.reduceBEq Option.none_beq_some Int.reduceToNat IntKind.bits Nat.min_eq_left Int.reducePow ne_eq Int.reduceEq Int.reduceNe Int.reduceLT Int.reduceLE Int.reduceAdd Int.reduceSub Int.reduceMul Int.reduceNeg not_false_eq_true not_true_eq_false Int.toNat_natCast List.length_map Int.ofNat_lt Int.ofNat_le Int.natCast_nonneg Nat.reduceAdd Nat.reduceMul Nat.reduceSub Nat.reduceEqDiff Nat.reduceLT Nat.reduceLeDiff beq_self_eq_true Bool.or_true Bool.true_or Bool.false_or decide_true decide_false Bool.not_true Bool.not_false
end Go.Lift
end
