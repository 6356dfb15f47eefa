/-
  StoreCrashes answers true for all codes, cuts, places and bytes, without conditions.
-/
import Derived.Test.YtdhngmldmalbbaaR5
import Derived.Test.YtdhngmldmalbbaaRows
import Derived.WalkKit
import Derived.ProofKit
import Derived.OpenShut
import Derived.JoinedCond
import Derived.Carry
import Derived.RowKitTokens
section
set_option linter.all false
namespace Go.Proofs.Ytdhngmldmalbbaa
open Go.Lift Go.RowKit Go.Store
set_option linter.unusedSimpArgs false
set_option linter.unusedVariables false

theorem wW_ty {rf : Bool} : (wW rf).ty = 83 := rfl
theorem wW_int {rf : Bool} {bs : List UInt8} {v : Int} : (wW rf).int bs v = (v, bs ++ be 8 (u64 v)) := rfl
theorem wW_word {rf : Bool} {bs : List UInt8} {v : Nat} : (wW rf).word bs v = (v, bs ++ be 8 v) := rfl
theorem wW_bool {rf : Bool} {bs : List UInt8} {b : Bool} : (wW rf).bool bs b = (b, bs ++ [if b then 1 else 0]) := rfl
theorem wW_str {rf : Bool} {bs : List UInt8} {s : ByteArray} : (wW rf).str bs s = (s, bs ++ (be 4 s.size ++ s.data.toList)) := rfl
theorem wW_count {rf : Bool} {bs : List UInt8} {n : Nat} : (wW rf).count bs n = (n, bs ++ be 4 n) := rfl
theorem walW {rf : Bool} : ∀ {s : Sch} {us : List LV} {bs : List UInt8}, ok s us → wal (wW rf) s us bs = (nz s us, bs ++ enc s us)
  | .nil, [], bs, _ => by simp only [wal, nz, enc, List.append_nil]; rfl
  | .int r, .int k v :: us, bs, h => by
    simp only [ok] at h
    obtain ⟨rfl, -, -, h⟩ := h
    simp only [wal, intOf, wW_int, walW h, nz, enc, List.append_assoc]; rfl
  | .word r, .int k v :: us, bs, h => by
    simp only [ok] at h
    obtain ⟨rfl, h1, -, h⟩ := h
    simp only [wal, natOf, wW_word, walW h, nz, enc, List.append_assoc, Int.toNat_of_nonneg h1]; rfl
  | .bool r, .bool b :: us, bs, h => by
    simp only [ok] at h
    show (LV.bool b :: (wal (wW rf) r us (bs ++ [if b then 1 else 0] : List UInt8)).1, (wal (wW rf) r us (bs ++ [if b then 1 else 0] : List UInt8)).2) = _
    rw [walW (s := r) h]
    simp only [nz, enc, List.append_assoc, List.cons_append, List.nil_append]; rfl
  | .str r, .str b :: us, bs, h => by
    simp only [ok] at h
    simp only [wal, bytesOf, wW_str, walW h.2, nz, enc, List.append_assoc]; rfl
  | .sl e r, .sl f es :: us, bs, h => by
    simp only [ok] at h
    have hN : ∀ (es : List (List LV)) (bs : List UInt8), (∀ x ∈ es, ok e x) → walN (wal (wW rf) e) (zs e) es.length es bs = (es.map (nz e), bs ++ es.flatMap (enc e)) := by
      intro es
      induction es with
      | nil => intro bs _; simp only [List.length_nil, walN, List.map_nil, List.flatMap_nil, List.append_nil]; rfl
      | cons x es ih =>
        intro bs hx
        have hx0 := hx x (List.mem_cons_self ..)
        simp only [List.length_cons, walN, List.headD_cons, List.tail_cons, walW hx0, List.map_cons, List.flatMap_cons]
        have hi := ih (bs ++ enc e x) (fun y hy => hx y (List.mem_cons_of_mem _ hy))
        rw [hi]
        simp only [List.append_assoc]; rfl
    simp only [wal, elemsOf, wW_count, nz, enc]
    rw [hN es _ h.2.1]
    simp only [walW h.2.2, List.append_assoc]; rfl
theorem kSch_off {k : Int} {off : Nat} {s : Sch} (h : kSch k = some (off, s)) : (k = 1 ∧ off = 1 ∧ s = sI) ∨ (k = 2 ∧ off = 2 ∧ s = sItem) ∨ (k = 3 ∧ off = 12 ∧ s = .int (.str sPer)) ∨ (k = 4 ∧ off = 21 ∧ s = sCyc) := by
  unfold kSch at h
  by_cases h1 : k = 1
  · simp [h1] at h; exact .inl ⟨h1, h.1.symm, h.2.symm⟩
  · by_cases h2 : k = 2
    · simp [h2] at h; exact .inr (.inl ⟨h2, h.1.symm, h.2.symm⟩)
    · by_cases h3 : k = 3
      · simp [h3] at h; exact .inr (.inr (.inl ⟨h3, h.1.symm, h.2.symm⟩))
      · by_cases h4 : k = 4
        · simp [h4] at h; exact .inr (.inr (.inr ⟨h4, h.1.symm, h.2.symm⟩))
        · simp [h1, h2, h3, h4] at h
theorem bodyE_some {us pre u post : List LV} {k : Int} {off : Nat} {s : Sch} (hk0 : us.getD 0 .any = V k) (hk : kSch k = some (off, s)) (hus : us = pre ++ (u ++ post)) (hpre : pre.length = off) (hok : ok s u) : bodyE us = some (b8 k :: enc s u) := by
  have hd : us.drop off = u ++ post := by rw [hus, ← hpre, List.drop_left]
  unfold bodyE
  rw [hk0]
  rcases kSch_off hk with ⟨rfl, rfl, rfl⟩ | ⟨rfl, rfl, rfl⟩ | ⟨rfl, rfl, rfl⟩ | ⟨rfl, rfl, rfl⟩ <;> simp only [intOf, Int.reduceEq, if_true, if_false, hd, enc_nil_app hok]
theorem bodyE_none {us : List LV} {k : Int} (hk0 : us.getD 0 .any = V k) (hk : kSch k = none) : bodyE us = none := by
  unfold bodyE
  rw [hk0]
  unfold kSch at hk
  simp only [intOf]
  split at hk
  · cases hk
  · split at hk
    · cases hk
    · split at hk
      · cases hk
      · split at hk
        · cases hk
        · simp only [*, if_false]

set_option maxHeartbeats 400000 in
theorem Equal_ok {S : LS} {u v : LV} {xs bs : List UInt8} (hu : Rd S u xs) (hv : Rd S v bs) : LCalls Try.prog 30 [u, v] S (fun r S' => r = .bool (decide (xs = bs)) ∧ S' = S) := by
  refine LCalls_introK 0 Try.func30 rfl (by kernel_rfl) rfl fun RR hRR => ?_
  refine Lwp_seq fun KK0 hKK0 => ?_
  refine LregionG [none] (by kernel_rfl) (by kernel_rfl) ?_
  simp -dsimp only [go_sem, ↓reduceIte]
  repeat with_reducible refine And.intro (by first | omega | decide) ?_
  refine hKK0 _ _ ?_
  try clear hKK0 KK0
  refine Lwp_seq fun KK1 hKK1 => ?_
  refine LregionG [none, none, none, none, none, none] (by kernel_rfl) (by kernel_rfl) ?_
  simp -dsimp only [go_sem, ↓reduceIte]
  rcases hu with ⟨f, rfl⟩ | ⟨i1, rfl, hid⟩ <;> rcases hv with ⟨f3, rfl⟩ | ⟨i3, rfl, hid3⟩
  · skip
    simp -dsimp only [go_sem, ↓reduceIte, bytesC_map, byteE_map, take_u8c, strOf_inj, Nat.zero_add, Nat.le_refl, true_and, and_true]
    
    refine hKK1 _ _ ?_
    try clear hKK1 KK1
    refine Lwp_ret ?_
    simp only [LThen, LBlock, LPost, Try.results30]
    simp -dsimp only [go_sem, ↓reduceIte]
    exact ret_keep (hRR _ _ ⟨rfl, rfl⟩)
  · skip
    simp -dsimp only [go_sem, ↓reduceIte, hid3, Option.join_some, List.drop_zero, bytesC_map, byteE_map, take_u8c, strOf_inj, Nat.zero_add, Nat.le_refl, true_and, and_true]
    
    refine hKK1 _ _ ?_
    try clear hKK1 KK1
    refine Lwp_ret ?_
    simp only [LThen, LBlock, LPost, Try.results30]
    simp -dsimp only [go_sem, ↓reduceIte]
    exact ret_keep (hRR _ _ ⟨rfl, rfl⟩)
  · skip
    simp -dsimp only [go_sem, ↓reduceIte, hid, Option.join_some, List.drop_zero, bytesC_map, byteE_map, take_u8c, strOf_inj, Nat.zero_add, Nat.le_refl, true_and, and_true]
    
    refine hKK1 _ _ ?_
    try clear hKK1 KK1
    refine Lwp_ret ?_
    simp only [LThen, LBlock, LPost, Try.results30]
    simp -dsimp only [go_sem, ↓reduceIte]
    exact ret_keep (hRR _ _ ⟨rfl, rfl⟩)
  · skip
    simp -dsimp only [go_sem, ↓reduceIte, hid, hid3, Option.join_some, List.drop_zero, bytesC_map, byteE_map, take_u8c, strOf_inj, Nat.zero_add, Nat.le_refl, true_and, and_true]
    
    refine hKK1 _ _ ?_
    try clear hKK1 KK1
    refine Lwp_ret ?_
    simp only [LThen, LBlock, LPost, Try.results30]
    simp -dsimp only [go_sem, ↓reduceIte]
    exact ret_keep (hRR _ _ ⟨rfl, rfl⟩)


theorem Lwp_store {N : Nat} {c : Code} {Q : Exit → Env → LS → Prop} {env : Env} {S : LS} (I : LS → Prop) (h0 : I S) (h : ∀ S1, I S1 → Lwp Try.prog N c Q env S1) : Lwp Try.prog N c Q env S := h S h0

set_option maxHeartbeats 400000 in
theorem SEncode_ok {S : LS} (us : List LV) (h : ok sLog us) (hl : ∀ bs, bodyE us = some bs → bs.length ≤ 1000000000) : LCalls Try.prog 9 [.agg us] S (EncR us S) := by
  refine LCalls_introK 0 Try.func9 rfl (by kernel_rfl) rfl fun RR hRR => ?_
  have hlen := okLog_len h
  have htk : us.take 38 = us := List.take_of_length_le (by omega)
  unfold EncR at hRR
  obtain ⟨us', hus⟩ := log_kind h
  obtain ⟨k, hk⟩ : ∃ k, intOf (us.getD 0 .any) = k := ⟨_, rfl⟩
  rw [hk] at hus
  have g0 : us.getD 0 .any = V k := by rw [hus]; rfl
  have e8 := u8_wrap k
  refine Lwp_seq fun KK0 hKK0 => ?_
  refine LregionG [none, none, none] (by kernel_rfl) (by kernel_rfl) ?_
  simp -dsimp only [go_sem, ↓reduceIte, hlen]
  repeat with_reducible refine And.intro (by first | omega | decide) ?_
  refine hKK0 _ _ ?_
  try clear hKK0 KK0
  refine Lwp_seq fun KK1 hKK1 => ?_
  refine LdrawE [1,2,3,4,0,5,6,7,8] [(S.length, (38, [us]))] none (by kernel_rfl) (by kernel_rfl) (by kernel_rfl) (by kernel_rfl) (by simp [Watch.holds]) ?_
  simp -dsimp only [go_sem, ↓reduceIte, hlen, g0, e8]
  refine ⟨⟨1, 1, _, ⟨rfl, rfl, rfl⟩, by decide⟩, ?_⟩
  repeat with_reducible refine And.intro (by first | omega | decide | assumption) ?_
  refine exe_append_of ?_
  simp -dsimp only [go_sem, ↓reduceIte, go_sem]
  refine ⟨⟨1, 1, _, ⟨rfl, rfl, rfl⟩, rfl, _, ⟨rfl, rfl⟩, by decide, by decide⟩, ?_⟩
  refine hKK1 _ _ ?_
  try clear hKK1 KK1
  refine Lwp_seq fun KK2 hKK2 => ?_
  refine Lwp_seq fun KK3 hKK3 => ?_
  refine Lwp_store (fun S1 => Keeps S S1 [] ∧ S1[S.length]? = some (some (38, [us])) ∧ (wW true).inv S1 (S.length + 3) [S.length + 3, S.length + 2] [0, 0, 0, 0, b8 k]) ⟨Keeps.app _ _ _, by simp, .ref (S.length + 2) 0 5, by simp, ⟨by simp [u8c], .inr ⟨S.length + 2, Nat.zero_le _, rfl, by simp [u8c]⟩⟩, by simp [rowIds], rfl, by simp [rowIds]⟩ ?_
  rintro S1 ⟨hK1, hS1, hi⟩
  refine LregionG [none, none, none, none] (by kernel_rfl) (by kernel_rfl) ?_
  simp -dsimp only [go_sem, ↓reduceIte]
  refine And.intro (by kernel_rfl) ?_
  cases hks : kSch k
  · skip
    have hwk := Walk_none (wW true) wW_law hi (by simp) hS1 g0 (by omega) hks
    rw [wW_ty] at hwk
    refine LCalls.k hwk ?_
    rintro _ _ ⟨rfl, rfl⟩
    rw [bodyE_none g0 hks] at hRR
    simp -dsimp only [go_sem, ↓reduceIte]
    refine hKK3 _ _ ?_
    try clear hKK3 KK3
    refine Lwp_cond (by simp only [go_sem, ↓reduceIte]; rfl) (fun ht => ?_) (fun hf => ?_)
    · skip
      
      refine Lwp_seq fun KK4 hKK4 => ?_
      refine LregionG [none, none] (by kernel_rfl) (by kernel_rfl) ?_
      simp -dsimp only [go_sem, ↓reduceIte]
      repeat with_reducible refine And.intro (by first | omega | decide) ?_
      refine hKK4 _ _ ?_
      try clear hKK4 KK4
      refine Lwp_ret ?_
      simp only [LThen, LBlock, LPost, Try.results9]
      simp -dsimp only [go_sem, ↓reduceIte]
      exact ret_keep (hRR _ _ ⟨rfl, hK1⟩)
    · skip
      cases hf
  · skip
    rename_i p
    obtain ⟨off, s⟩ := p
    obtain ⟨pre, u, post, hcells, hpre, hok, -, -⟩ := log_split h (off := off) (s := s) (by rw [hk]; exact hks)
    have hbE := bodyE_some g0 hks hcells hpre hok
    have hbl := hl _ hbE
    rw [hbE] at hRR
    simp only [] at hRR
    have hwk := Walk_some (wW true) wW_law hi (by simp) hS1 g0 (by omega) hcells hpre hok hks (by rw [walW hok]; simp only [List.length_cons] at hbl; show List.length (_ ++ _) ≤ _; simp only [List.length_append, List.length_cons, List.length_nil]; omega)
    rw [wW_ty] at hwk
    refine LCalls.k hwk ?_
    rintro _ S2 ⟨rfl, -, own2, us2, ⟨u', hw', hacc', hwu', rfl, hrf⟩, -, -, -, hK2, hown⟩
    rw [walW hok] at hacc'
    obtain ⟨body, hbody⟩ : ∃ b, b = b8 k :: enc s u := ⟨_, rfl⟩
    have hst : ([0, 0, 0, 0, b8 k] ++ enc s u : List UInt8) = [0, 0, 0, 0] ++ body := by rw [hbody]; rfl
    rw [← hbody] at hbl hRR
    have hK3 : Keeps S S2 [] := ⟨Nat.le_trans hK1.1 hK2.1, fun j hj _ => (hK2.2 j (Nat.lt_of_lt_of_le hj hK1.1) (by simp; omega)).trans (hK1.2 j hj (by simp))⟩
    have hacc2 : RowS S2 0 u' 1 (([0, 0, 0, 0] ++ body).map u8c) := hst ▸ hacc'
    have ⟨hr1, hr2⟩ := hacc2
    rcases hr2 with rfl | ⟨jd, -, rfl, hj⟩
    · exact absurd rfl (hrf rfl)
    have hjl := lt_of_get hj
    have hjS : S.length ≤ jd := by
      rcases hown jd (by simp [rowIds]) with h | h
      · simp at h; omega
      · have := hK1.1; omega
    clear hown
    have hwl := lt_of_get hw'
    have hwj : ¬ S.length + 3 = jd := fun e => hwu' (by rw [e]; simp [rowIds])
    have hln : (([0, 0, 0, 0] ++ body).map u8c).length = 4 + body.length := by simp; omega
    rw [hln] at hw'
    have e1 : IntKind.i64.wrap (((4 + body.length : Nat) : Int) + 4) = ((body.length + 8 : Nat) : Int) := by rw [w64 (by omega) (by omega)]; omega
    have e2 : IntKind.i64.wrap (((4 + body.length : Nat) : Int) - 4) = (body.length : Int) := by rw [w64 (by omega) (by omega)]; omega
    have e3 := u64_wrapN (n := body.length) (by clear e1 e2; omega)
    have hm4 : min 4 (4 + body.length) = 4 := by omega
    have hbe4 : (List.map u8c (be 4 body.length)).take 4 = List.map u8c (be 4 body.length) := List.take_of_length_le (by simp [be_length])
    clear hacc' hst hr1 hcells hwk hi hwu' hrf hok hbE hS1 hK2
    simp -dsimp only [go_sem, ↓reduceIte]
    refine hKK3 _ _ ?_
    try clear hKK3 KK3
    refine Lwp_cond (by simp only [go_sem, ↓reduceIte]; rfl) (fun ht => ?_) (fun hf => ?_)
    · skip
      cases ht
    · skip
      refine Lwp_skip ?_
      try simp -dsimp only [go_sem, ↓reduceIte]
      refine hKK2 _ _ ?_
      try clear hKK2 KK2
      refine Lwp_seq fun KK5 hKK5 => ?_
      refine Lwp_seq fun KK6 hKK6 => ?_
      refine LregionG [none, none, none, none, none, none, none] (by kernel_rfl) (by kernel_rfl) ?_
      simp -dsimp only [go_sem, ↓reduceIte, hw', e1]
      repeat with_reducible refine And.intro (by first | omega | decide) ?_
      refine hKK6 _ _ ?_
      try clear hKK6 KK6
      refine Lwp_cond (by simp only [go_sem, ↓reduceIte]; rfl) (fun ht => ?_) (fun hf => ?_)
      · skip
        have hgt : ¬ body.length + 8 ≤ 1048576 := by simp at ht; omega
        simp only [hgt, if_false] at hRR
        refine Lwp_seq fun KK7 hKK7 => ?_
        refine LregionG [none, none] (by kernel_rfl) (by kernel_rfl) ?_
        simp -dsimp only [go_sem, ↓reduceIte]
        repeat with_reducible refine And.intro (by first | omega | decide) ?_
        refine hKK7 _ _ ?_
        try clear hKK7 KK7
        refine Lwp_ret ?_
        simp only [LThen, LBlock, LPost, Try.results9]
        simp -dsimp only [go_sem, ↓reduceIte]
        exact ret_keep (hRR _ _ ⟨rfl, hK3⟩)
      · skip
        have hle : body.length + 8 ≤ 1048576 := by simp at hf; omega
        simp only [hle, if_true] at hRR
        refine Lwp_skip ?_
        try simp -dsimp only [go_sem, ↓reduceIte]
        refine hKK5 _ _ ?_
        try clear hKK5 KK5
        refine Lwp_seq fun KK8 hKK8 => ?_
        refine LdrawE [0,1,2,3,4,5,6,7,8,9,10,11,12] [(S.length + 3, (1, [[.ref jd 0 (4 + body.length)]]))] none (by kernel_rfl) (by kernel_rfl) (by kernel_rfl) (by kernel_rfl) (by simp [Watch.holds, hw']) ?_
        simp -dsimp only [go_sem, ↓reduceIte, e2, e3]
        refine Put.kk (SPut4 body.length (by clear e1 e2 e3; omega)) (NewR.nil S2) (by simp only [List.length_nil, be_length]; omega) ?_
        rintro r3 S3 hp3
        have hj3 := hp3.2.1.get hj (by simp [rowIds])
        have hw3 := hp3.2.1.get hw' (by simp [rowIds])
        have hK4 : Keeps S S3 [] := hK3.trans hp3.2.1 (ids'' := []) (fun _ _ h => h.elim id id)
        have hrd3 := (NewR.acc hp3).rd
        simp only [List.nil_append] at hrd3
        rcases hrd3 with ⟨f3, rfl⟩ | ⟨i3, rfl, hi3⟩
        · skip
          skip
          simp -dsimp only [go_sem, ↓reduceIte, hw3, hj3, be_length, hm4, hbe4, List.drop_succ_cons, List.drop_zero, Nat.zero_add]
          refine ⟨⟨fun f hf => ?_, by omega⟩, by rw [List.getElem?_set_ne (fun e => hwj e.symm)]; exact hw3, ?_⟩
          · obtain ⟨y, _, rfl⟩ := List.mem_map.1 hf; rfl
          refine hKK8 _ _ ?_
          try clear hKK8 KK8
          refine Lwp_seq fun KK9 hKK9 => ?_
          refine Lwp_store (fun S4 => Keeps S S4 [] ∧ S4[S.length + 3]? = some (some (1, [[.ref jd 0 (4 + body.length)]])) ∧ Acc S4 (.ref jd 0 (4 + body.length)) (be 4 body.length ++ body)) ⟨⟨by rw [List.length_set]; exact hK4.1, fun j hj _ => by rw [List.getElem?_set_ne (by omega)]; exact hK4.2 j hj (by simp)⟩, by rw [List.getElem?_set_ne (fun e => hwj e.symm)]; exact hw3, fun e he => ?_, .inr ⟨jd, Nat.zero_le _, by simp [be_length], by rw [List.getElem?_set_self (lt_of_get hj3), List.map_append]⟩⟩ ?_
          · obtain ⟨y, _, rfl⟩ := List.mem_map.1 he; rfl
          rintro S4 ⟨hK5, hw5, hacc5⟩
          clear hj3 hw3 hK4 hp3 hj hw' hacc2 hK3 hK1
          refine LdrawE [0,1,2,3,4,5,6,7,8,9,10,11,12] [(S.length + 3, (1, [[.ref jd 0 (4 + body.length)]]))] none (by kernel_rfl) (by kernel_rfl) (by kernel_rfl) (by kernel_rfl) (by simp [Watch.holds, hw5]) ?_
          simp -dsimp only [go_sem, ↓reduceIte]
          refine (SChk_ok hacc5.rd (by simp only [List.length_append, be_length]; omega)).k ?_
          rintro _ _ ⟨rfl, rfl⟩
          have hcl := chkN_lt (be 4 body.length ++ body)
          have e4 := u64_wrapN (n := chkN (be 4 body.length ++ body)) (by omega)
          simp -dsimp only [go_sem, ↓reduceIte, hw5, e4]
          repeat with_reducible refine And.intro (by first | omega | decide | assumption) ?_
          refine LCalls.k (SPut4 (chkN (be 4 body.length ++ body)) (by omega) _ _ _ hacc5 (by simp only [List.length_append, be_length]; omega)) ?_
          rintro r5 S5 hp5
          have hw6 := hp5.2.1.get hw5 (by simp [rowIds]; omega)
          simp -dsimp only [go_sem, ↓reduceIte, hw6]
          refine hKK9 _ _ ?_
          try clear hKK9 KK9
          refine Lwp_ret ?_
          simp only [LThen, LBlock, LPost, Try.results9]
          simp -dsimp only [go_sem, ↓reduceIte]
          refine ret_keep (hRR _ _ ⟨_, rfl, hp5.1, hK5.trans hp5.2.1 (fun j hj h => h.elim id fun h => by simp [rowIds] at h; omega), fun id hid => .inr ?_, fun h => absurd rfl h⟩)
          have hl4 := hK5.1
          rcases hp5.2.2.1 id hid with h | h
          · simp [rowIds] at h; omega
          · omega
        · skip
          skip
          simp -dsimp only [go_sem, ↓reduceIte, hw3, hj3, hi3, be_length, hm4, hbe4, List.drop_succ_cons, List.drop_zero, Nat.zero_add]
          refine ⟨⟨fun f hf => ?_, by omega⟩, by rw [List.getElem?_set_ne (fun e => hwj e.symm)]; exact hw3, ?_⟩
          · obtain ⟨y, _, rfl⟩ := List.mem_map.1 hf; rfl
          refine hKK8 _ _ ?_
          try clear hKK8 KK8
          refine Lwp_seq fun KK10 hKK10 => ?_
          refine Lwp_store (fun S4 => Keeps S S4 [] ∧ S4[S.length + 3]? = some (some (1, [[.ref jd 0 (4 + body.length)]])) ∧ Acc S4 (.ref jd 0 (4 + body.length)) (be 4 body.length ++ body)) ⟨⟨by rw [List.length_set]; exact hK4.1, fun j hj _ => by rw [List.getElem?_set_ne (by omega)]; exact hK4.2 j hj (by simp)⟩, by rw [List.getElem?_set_ne (fun e => hwj e.symm)]; exact hw3, fun e he => ?_, .inr ⟨jd, Nat.zero_le _, by simp [be_length], by rw [List.getElem?_set_self (lt_of_get hj3), List.map_append]⟩⟩ ?_
          · obtain ⟨y, _, rfl⟩ := List.mem_map.1 he; rfl
          rintro S4 ⟨hK5, hw5, hacc5⟩
          clear hj3 hw3 hK4 hp3 hj hw' hacc2 hK3 hK1
          refine LdrawE [0,1,2,3,4,5,6,7,8,9,10,11,12] [(S.length + 3, (1, [[.ref jd 0 (4 + body.length)]]))] none (by kernel_rfl) (by kernel_rfl) (by kernel_rfl) (by kernel_rfl) (by simp [Watch.holds, hw5]) ?_
          simp -dsimp only [go_sem, ↓reduceIte]
          refine (SChk_ok hacc5.rd (by simp only [List.length_append, be_length]; omega)).k ?_
          rintro _ _ ⟨rfl, rfl⟩
          have hcl := chkN_lt (be 4 body.length ++ body)
          have e4 := u64_wrapN (n := chkN (be 4 body.length ++ body)) (by omega)
          simp -dsimp only [go_sem, ↓reduceIte, hw5, e4]
          repeat with_reducible refine And.intro (by first | omega | decide | assumption) ?_
          refine LCalls.k (SPut4 (chkN (be 4 body.length ++ body)) (by omega) _ _ _ hacc5 (by simp only [List.length_append, be_length]; omega)) ?_
          rintro r5 S5 hp5
          have hw6 := hp5.2.1.get hw5 (by simp [rowIds]; omega)
          simp -dsimp only [go_sem, ↓reduceIte, hw6]
          refine hKK10 _ _ ?_
          try clear hKK10 KK10
          refine Lwp_ret ?_
          simp only [LThen, LBlock, LPost, Try.results9]
          simp -dsimp only [go_sem, ↓reduceIte]
          refine ret_keep (hRR _ _ ⟨_, rfl, hp5.1, hK5.trans hp5.2.1 (fun j hj h => h.elim id fun h => by simp [rowIds] at h; omega), fun id hid => .inr ?_, fun h => absurd rfl h⟩)
          have hl4 := hK5.1
          rcases hp5.2.2.1 id hid with h | h
          · simp [rowIds] at h; omega
          · omega

end Go.Proofs.Ytdhngmldmalbbaa
end
section
set_option linter.all false
namespace Go.Proofs.Ytdhngmldmalbbaa
open Go.Lift Go.RowKit Go.Store
set_option linter.unusedSimpArgs false
set_option linter.unusedVariables false

/-- a walk of the writer over an entry. -/
theorem WalkW {rf : Bool} {S : LS} {w l : Nat} {own : List Nat} {us : List LV} {bs : List UInt8} (h : ok sLog us) (hi : (wW rf).inv S w own bs) (hl : l ∉ own) (hS : S[l]? = some (some (38, [us]))) (hb : bs.length + ((bodyE us).getD []).length ≤ 1073741824) :
    LCalls Try.prog 25 [.iface 83 (.ptr w 0 0), .ptr l 0 0] S (fun r S' => ∃ own', (wW rf).inv S' w own' (bs ++ ((bodyE us).getD []).tail) ∧ Keeps S S' (l :: own) ∧ ∀ id ∈ own', id ∈ own ∨ S.length ≤ id) := by
  have hlen := okLog_len h
  obtain ⟨us', hus⟩ := log_kind h
  obtain ⟨k, hk⟩ : ∃ k, intOf (us.getD 0 .any) = k := ⟨_, rfl⟩
  rw [hk] at hus
  have g0 : us.getD 0 .any = V k := by rw [hus]; rfl
  cases hks : kSch k with
  | none =>
    have hwk := Walk_none (wW rf) wW_law hi hl hS g0 (by omega) hks
    rw [wW_ty] at hwk
    refine hwk.mono ?_
    rintro _ _ ⟨rfl, rfl⟩
    rw [bodyE_none g0 hks]
    exact ⟨own, by simpa using hi, Keeps.refl _ _, fun _ h => .inl h⟩
  | some p =>
    obtain ⟨off, s⟩ := p
    obtain ⟨pre, u, post, hcells, hpre, hok, -, -⟩ := log_split h (off := off) (s := s) (by rw [hk]; exact hks)
    have hbE := bodyE_some g0 hks hcells hpre hok
    rw [hbE] at hb ⊢
    simp only [Option.getD_some, List.length_cons] at hb
    have hwk := Walk_some (wW rf) wW_law hi hl hS g0 (by omega) hcells hpre hok hks (by rw [walW hok]; show List.length (_ ++ _) ≤ _; simp only [List.length_append]; omega)
    rw [wW_ty] at hwk
    refine hwk.mono ?_
    rintro _ S2 ⟨rfl, -, own2, us2, hi2, -, -, -, hK2, hown⟩
    rw [walW hok] at hi2
    exact ⟨own2, hi2, hK2, hown⟩
theorem body_eq {us vs : List LV} (h : ok sLog us) (hv : ok sLog vs) (hk : intOf (us.getD 0 .any) = intOf (vs.getD 0 .any)) : decide (((bodyE us).getD []).tail = ((bodyE vs).getD []).tail) = sameE us vs := by
  have hE : ∀ {us : List LV} (h : ok sLog us), (bodyE us).getD [] = [] ∧ kSch (intOf (us.getD 0 .any)) = none ∨ (∃ t, (bodyE us).getD [] = b8 (intOf (us.getD 0 .any)) :: t) ∧ kSch (intOf (us.getD 0 .any)) ≠ none := by
    intro us h
    obtain ⟨us', hus⟩ := log_kind h
    obtain ⟨k, hk⟩ : ∃ k, intOf (us.getD 0 .any) = k := ⟨_, rfl⟩
    rw [hk] at hus ⊢
    have g0 : us.getD 0 .any = V k := by rw [hus]; rfl
    cases hks : kSch k with
    | none => exact .inl ⟨by rw [bodyE_none g0 hks]; rfl, rfl⟩
    | some p =>
      obtain ⟨off, s⟩ := p
      obtain ⟨pre, u, post, hcells, hpre, hok, -, -⟩ := log_split h (off := off) (s := s) (by rw [hk]; exact hks)
      exact .inr ⟨⟨_, by rw [bodyE_some g0 hks hcells hpre hok]; rfl⟩, by simp⟩
  unfold sameE
  rw [hk, show decide (intOf (vs.getD 0 .any) = intOf (vs.getD 0 .any)) = true by simp, Bool.true_and]
  rcases hE h with ⟨e1, n1⟩ | ⟨⟨t1, e1⟩, n1⟩ <;> rcases hE hv with ⟨e2, n2⟩ | ⟨⟨t2, e2⟩, n2⟩
  · rw [e1, e2]; simp
  · rw [hk] at n1; exact absurd n1 n2
  · rw [hk] at n1; exact absurd n2 n1
  · rw [e1, e2, hk]; simp

set_option maxHeartbeats 400000 in
theorem SSame_ok {S : LS} (us vs : List LV) (h : ok sLog us) (hv : ok sLog vs) (hl : ∀ bs, bodyE us = some bs → bs.length ≤ 1000000000) (hlv : ∀ bs, bodyE vs = some bs → bs.length ≤ 1000000000) : LCalls Try.prog 11 [.agg us, .agg vs] S (fun r S' => r = .bool (sameE us vs) ∧ Keeps S S' []) := by
  refine LCalls_introK 0 Try.func11 rfl (by kernel_rfl) rfl fun RR hRR => ?_
  have hlen := okLog_len h
  have hlen2 := okLog_len hv
  obtain ⟨us', hus⟩ := log_kind h
  obtain ⟨vs', hvs⟩ := log_kind hv
  obtain ⟨k, hk⟩ : ∃ k, intOf (us.getD 0 .any) = k := ⟨_, rfl⟩
  obtain ⟨k2, hk2⟩ : ∃ k, intOf (vs.getD 0 .any) = k := ⟨_, rfl⟩
  have g0 : us.getD 0 .any = V k := by rw [hk] at hus; rw [hus]; rfl
  have g1 : vs.getD 0 .any = V k2 := by rw [hk2] at hvs; rw [hvs]; rfl
  clear hus hvs
  have hb1 : ((bodyE us).getD []).length ≤ 1000000000 := by
    cases hE : bodyE us with
    | none => simp
    | some b => exact hl b hE
  have hb2 : ((bodyE vs).getD []).length ≤ 1000000000 := by
    cases hE : bodyE vs with
    | none => simp
    | some b => exact hlv b hE
  refine Lwp_seq fun KK0 hKK0 => ?_
  refine LregionG [none, none, none] (by kernel_rfl) (by kernel_rfl) ?_
  simp -dsimp only [go_sem, ↓reduceIte, hlen, hlen2]
  repeat with_reducible refine And.intro (by first | omega | decide) ?_
  refine hKK0 _ _ ?_
  try clear hKK0 KK0
  refine Lwp_seq fun KK1 hKK1 => ?_
  refine Lwp_seq fun KK2 hKK2 => ?_
  refine LregionG [none, none, none, none, none] (by kernel_rfl) (by kernel_rfl) ?_
  simp -dsimp only [go_sem, ↓reduceIte, hlen, hlen2, g0, g1]
  repeat with_reducible refine And.intro (by first | omega | decide) ?_
  refine hKK2 _ _ ?_
  try clear hKK2 KK2
  refine Lwp_cond (by simp only [go_sem, ↓reduceIte]; rfl) (fun ht => ?_) (fun hf => ?_)
  · skip
    have hne : k ≠ k2 := by simpa using ht
    refine Lwp_seq fun KK3 hKK3 => ?_
    refine LregionG [none] (by kernel_rfl) (by kernel_rfl) ?_
    simp -dsimp only [go_sem, ↓reduceIte]
    repeat with_reducible refine And.intro (by first | omega | decide) ?_
    refine hKK3 _ _ ?_
    try clear hKK3 KK3
    refine Lwp_ret ?_
    simp only [LThen, LBlock, LPost, Try.results11]
    simp -dsimp only [go_sem, ↓reduceIte]
    exact ret_keep (hRR _ _ ⟨by unfold sameE; rw [hk, hk2]; simp [hne], Keeps.app _ _ _⟩)
  · skip
    obtain rfl : k = k2 := by simpa using hf
    refine Lwp_skip ?_
    try simp -dsimp only [go_sem, ↓reduceIte]
    refine hKK1 _ _ ?_
    try clear hKK1 KK1
    refine Lwp_seq fun KK4 hKK4 => ?_
    refine LregionG [none, none, none, none, none, none] (by kernel_rfl) (by kernel_rfl) ?_
    simp -dsimp only [go_sem, ↓reduceIte]
    repeat with_reducible refine And.intro (by first | omega | decide) ?_
    refine hKK4 _ _ ?_
    try clear hKK4 KK4
    refine Lwp_seq fun KK5 hKK5 => ?_
    refine Lwp_store (fun S1 => Keeps S S1 [] ∧ S1.length = S.length + 4 ∧ S1[S.length]? = some (some (38, [us])) ∧ S1[S.length + 1]? = some (some (38, [vs])) ∧ S1[S.length + 3]? = some (some (1, [[.sl true []]])) ∧ (wW false).inv S1 (S.length + 2) [S.length + 2] []) ⟨Keeps.app _ _ _, by simp, by simp, by simp, by simp, .sl true [], by simp, RowS.nil, by simp [rowIds], rfl, by simp⟩ ?_
    rintro S1 ⟨hK1, hS1l, hS1, hS1b, hS1c, hi⟩
    refine LregionG [none, none, none] (by kernel_rfl) (by kernel_rfl) ?_
    simp -dsimp only [go_sem, ↓reduceIte]
    refine And.intro (by kernel_rfl) ?_
    refine LCalls.k (WalkW h hi (by simp) hS1 (by simp only [List.length_nil]; omega)) ?_
    rintro r S2 ⟨own2, hi2, hK2, ho2⟩
    have hS2b := hK2.get hS1b (by simp)
    have hS2c := hK2.get hS1c (by simp)
    have hl2 := hK2.1
    simp -dsimp only [go_sem, ↓reduceIte]
    refine hKK5 _ _ ?_
    try clear hKK5 KK5
    refine Lwp_seq fun KK6 hKK6 => ?_
    refine LregionG [none, none, none] (by kernel_rfl) (by kernel_rfl) ?_
    simp -dsimp only [go_sem, ↓reduceIte]
    refine And.intro (by kernel_rfl) ?_
    refine LCalls.k (WalkW hv (rf := false) (own := [S.length + 3]) (bs := []) ⟨.sl true [], hS2c, RowS.nil, by simp [rowIds], rfl, by simp⟩ (by simp) hS2b (by simp only [List.length_nil]; omega)) ?_
    rintro r3 S3 ⟨own3, hi3, hK3, ho3⟩
    have hi2b := wW_law.keep hi2 hK3 (fun id hid hm => by
      rcases ho2 id hid with h | h
      · simp at h hm; omega
      · simp at hm; omega)
    simp -dsimp only [go_sem, ↓reduceIte]
    refine hKK6 _ _ ?_
    try clear hKK6 KK6
    refine Lwp_seq fun KK7 hKK7 => ?_
    have hKf : Keeps S S3 [] := ⟨by have := hK1.1; have := hK3.1; omega, fun j hj _ => (hK3.2 j (by omega) (by simp; omega)).trans ((hK2.2 j (by omega) (by simp; omega)).trans (hK1.2 j hj (by simp)))⟩
    obtain ⟨u1, hw1, ha1, -, -, -⟩ := hi2b
    obtain ⟨u2, hw2, ha2, -, -, -⟩ := hi3
    simp only [List.nil_append] at ha1 ha2
    have hne1 : ¬ S.length + 1 = S.length := by omega
    refine LdrawE [0,1,2,3,4,5,6,7,8,9] [(S.length + 2, (1, [[u1]])), (S.length + 3, (1, [[u2]]))] none (by kernel_rfl) (by kernel_rfl) (by kernel_rfl) (by kernel_rfl) (by simp [Watch.holds, hw1, hw2]) ?_
    simp -dsimp only [go_sem, ↓reduceIte, List.mem_cons, forall_eq_or_imp, hw1, hw2, hne1]
    repeat with_reducible refine And.intro (by first | omega | decide | assumption) ?_
    refine LCalls.k (Equal_ok ha1.rd ha2.rd) ?_
    rintro _ _ ⟨rfl, rfl⟩
    simp -dsimp only [go_sem, ↓reduceIte, List.mem_cons, forall_eq_or_imp, hw1, hw2]
    refine hKK7 _ _ ?_
    try clear hKK7 KK7
    refine Lwp_ret ?_
    simp only [LThen, LBlock, LPost, Try.results11]
    simp -dsimp only [go_sem, ↓reduceIte]
    exact ret_keep (hRR _ _ ⟨by rw [body_eq h hv (by rw [hk, hk2])], hKf⟩)

end Go.Proofs.Ytdhngmldmalbbaa
end
section
set_option linter.all false
namespace Go.Proofs.Ytdhngmldmalbbaa
open Go.Lift Go.RowKit Go.Store
set_option linter.unusedSimpArgs false
set_option linter.unusedVariables false

/-- some bytes, where there are as many. -/
def rTake (st : List UInt8 × Bool) (k : Nat) : List UInt8 × (List UInt8 × Bool) := if st.2 = true ∨ st.1.length < k then ([], (st.1, true)) else (st.1.take k, (st.1.drop k, false))
theorem rTake_bad {bs : List UInt8} {k : Nat} : rTake (bs, true) k = ([], (bs, true)) := by simp [rTake]
theorem rTake_few {bs : List UInt8} {b : Bool} {k : Nat} (h : bs.length < k) : rTake (bs, b) k = ([], (bs, true)) := by simp [rTake, h]
theorem rTake_ok {bs : List UInt8} {k : Nat} (h : k ≤ bs.length) : rTake (bs, false) k = (bs.take k, (bs.drop k, false)) := by simp [rTake]; omega
theorem rTake_len (st : List UInt8 × Bool) (k : Nat) : (rTake st k).1.length ≤ k ∧ (rTake st k).1.length ≤ st.1.length ∧ (rTake st k).2.1.length ≤ st.1.length := by
  unfold rTake
  split
  · simp
  · simp only [List.length_take, List.length_drop]; omega
def rCount (st : List UInt8 × Bool) : Nat × (List UInt8 × Bool) :=
  if (rTake st 4).2.2 = true ∨ (rTake st 4).2.1.length / 4 < num (rTake st 4).1 then (0, ((rTake st 4).2.1, true)) else (num (rTake st 4).1, (rTake st 4).2)
/-- the reader. -/
def rR : Wk where
  ty := 92
  St := List UInt8 × Bool
  inv := fun S w own st => own = [w] ∧ st.1.length ≤ 1048576 ∧ ∃ f, S[w]? = some (some (2, [[.sl f (st.1.map u8c), .bool st.2]]))
  fits := fun _ => True
  int := fun st _ => (s64 (num (rTake st 8).1), (rTake st 8).2)
  word := fun st _ => (num (rTake st 8).1, (rTake st 8).2)
  bool := fun st _ => (num (rTake st 1).1 == 1, ((rTake st 1).2.1, (rTake st 1).2.2 || decide (1 < num (rTake st 1).1)))
  str := fun st _ => (strOf (rTake (rTake st 4).2 (num (rTake st 4).1)).1, (rTake (rTake st 4).2 (num (rTake st 4).1)).2)
  count := fun st _ => rCount st
  fInt := 120
  fWord := 122
  fBool := 118
  fText := 121
  fCount := 119

set_option maxHeartbeats 400000 in
theorem RTake_ok {S : LS} {w : Nat} {bs : List UInt8} {bad : Bool} {f : Bool} (k : Nat) (hk : k ≤ 4294967296) (hb : bs.length ≤ 1048576) (hw : S[w]? = some (some (2, [[.sl f (bs.map u8c), .bool bad]]))) : LCalls Try.prog 123 [.ptr w 0 0, V k] S (fun r S' => ∃ f' f2, r = .sl f' ((rTake (bs, bad) k).1.map u8c) ∧ S' = S.set w (some (2, [[.sl f2 ((rTake (bs, bad) k).2.1.map u8c), .bool (rTake (bs, bad) k).2.2]]))) := by
  refine LCalls_introK 0 Try.func123 rfl (by kernel_rfl) rfl fun RR hRR => ?_
  have hwl := lt_of_get hw
  have hk0 : ¬ (k : Int) < 0 := by omega
  have hd1 : ∀ (e : List LV), e ∈ (List.map u8c bs).head? → e.length = 1 := fun e he => by
    obtain ⟨y, _, rfl⟩ := List.mem_map.1 (List.mem_of_mem_head? he); rfl
  refine Lwp_seq fun KK0 hKK0 => ?_
  refine LregionG [none] (by kernel_rfl) (by kernel_rfl) ?_
  simp -dsimp only [go_sem, ↓reduceIte, hw]
  repeat with_reducible refine And.intro (by first | omega | decide) ?_
  refine hKK0 _ _ ?_
  try clear hKK0 KK0
  refine Lwp_seq fun KK1 hKK1 => ?_
  refine Lwp_seq fun KK2 hKK2 => ?_
  refine LregionG [none, none, none, none, none, some (10, false), some (10, false), none, none, some (14, false), some (14, false), some (14, false), some (14, false), some (14, false), some (14, false), some (14, false), none] (by kernel_rfl) (by kernel_rfl) ?_
  simp -dsimp only [go_sem, ↓reduceIte, hw, hw]
  cases bad
  · skip
    simp -dsimp only [go_sem, ↓reduceIte, hw, hk0]
    refine hKK2 _ _ ?_
    try clear hKK2 KK2
    refine Lwp_cond (by simp only [go_sem, ↓reduceIte, hw]; rfl) (fun ht => ?_) (fun hf => ?_)
    · skip
      have hlt : bs.length < k := by simpa using ht
      refine Lwp_seq fun KK3 hKK3 => ?_
      refine LregionG [none, none, none, none] (by kernel_rfl) (by kernel_rfl) ?_
      simp -dsimp only [go_sem, ↓reduceIte, hw]
      repeat with_reducible refine And.intro (by first | omega | decide) ?_
      refine hKK3 _ _ ?_
      try clear hKK3 KK3
      refine Lwp_seq fun KK4 hKK4 => ?_
      refine LregionG [none] (by kernel_rfl) (by kernel_rfl) ?_
      simp -dsimp only [go_sem, ↓reduceIte, hw]
      repeat with_reducible refine And.intro (by first | omega | decide) ?_
      refine hKK4 _ _ ?_
      try clear hKK4 KK4
      refine Lwp_ret ?_
      simp only [LThen, LBlock, LPost, Try.results123]
      simp -dsimp only [go_sem, ↓reduceIte, hw]
      rw [rTake_few hlt] at hRR
      exact ret_keep (hRR _ _ ⟨_, _, rfl, rfl⟩)
    · skip
      have hle : k ≤ bs.length := by simpa using hf
      refine Lwp_skip ?_
      try simp -dsimp only [go_sem, ↓reduceIte, hw]
      refine hKK1 _ _ ?_
      try clear hKK1 KK1
      refine Lwp_seq fun KK5 hKK5 => ?_
      refine LregionG [none, none, none, none, none, none, none] (by kernel_rfl) (by kernel_rfl) ?_
      simp -dsimp only [go_sem, ↓reduceIte, hw]
      refine ⟨⟨hle, hd1⟩, ?_⟩
      refine hKK5 _ _ ?_
      try clear hKK5 KK5
      refine Lwp_seq fun KK6 hKK6 => ?_
      refine LregionG [none, none, none, none, none, none, none, none, none, none] (by kernel_rfl) (by kernel_rfl) ?_
      simp -dsimp only [go_sem, ↓reduceIte, hw]
      refine ⟨⟨hle, Nat.le_refl _, hd1⟩, ?_⟩
      refine hKK6 _ _ ?_
      try clear hKK6 KK6
      refine Lwp_seq fun KK7 hKK7 => ?_
      refine LregionG [none, none] (by kernel_rfl) (by kernel_rfl) ?_
      simp -dsimp only [go_sem, ↓reduceIte, hw]
      repeat with_reducible refine And.intro (by first | omega | decide) ?_
      refine hKK7 _ _ ?_
      try clear hKK7 KK7
      refine Lwp_ret ?_
      simp only [LThen, LBlock, LPost, Try.results123]
      simp -dsimp only [go_sem, ↓reduceIte, hw]
      rw [rTake_ok hle] at hRR
      have hdr : List.take (bs.length - k) (List.drop k (bs.map u8c)) = (bs.drop k).map u8c := by rw [List.map_drop]; exact List.take_of_length_le (by simp)
      exact ret_keep (hRR _ _ ⟨_, _, by rw [List.map_take, Nat.sub_zero], by rw [hdr]⟩)
  · skip
    simp -dsimp only [go_sem, ↓reduceIte, hw, hk0]
    refine hKK2 _ _ ?_
    try clear hKK2 KK2
    refine Lwp_cond (by simp only [go_sem, ↓reduceIte, hw]; rfl) (fun ht => ?_) (fun hf => ?_)
    · skip
      refine Lwp_seq fun KK8 hKK8 => ?_
      refine LregionG [none, none, none, none] (by kernel_rfl) (by kernel_rfl) ?_
      simp -dsimp only [go_sem, ↓reduceIte, hw]
      repeat with_reducible refine And.intro (by first | omega | decide) ?_
      refine hKK8 _ _ ?_
      try clear hKK8 KK8
      refine Lwp_seq fun KK9 hKK9 => ?_
      refine LregionG [none] (by kernel_rfl) (by kernel_rfl) ?_
      simp -dsimp only [go_sem, ↓reduceIte, hw]
      repeat with_reducible refine And.intro (by first | omega | decide) ?_
      refine hKK9 _ _ ?_
      try clear hKK9 KK9
      refine Lwp_ret ?_
      simp only [LThen, LBlock, LPost, Try.results123]
      simp -dsimp only [go_sem, ↓reduceIte, hw]
      rw [rTake_bad] at hRR
      exact ret_keep (hRR _ _ ⟨_, _, rfl, rfl⟩)
    · skip
      cases hf


theorem rR_ty : rR.ty = 92 := rfl
theorem rR_int {st : List UInt8 × Bool} {v : Int} : rR.int st v = (s64 (num (rTake st 8).1), (rTake st 8).2) := rfl
theorem rR_word {st : List UInt8 × Bool} {v : Nat} : rR.word st v = (num (rTake st 8).1, (rTake st 8).2) := rfl
/-- bytes are taken. -/
theorem RTakeI {S : LS} {w : Nat} {own : List Nat} {st : List UInt8 × Bool} (hi : rR.inv S w own st) (k : Nat) (hk : k ≤ 4294967296) :
    LCalls Try.prog 123 [.ptr w 0 0, V k] S (fun r S' => ∃ f, r = .sl f ((rTake st k).1.map u8c) ∧ rR.inv S' w [w] (rTake st k).2 ∧ Keeps S S' [w]) := by
  obtain ⟨rfl, hb, f, hw⟩ := hi
  obtain ⟨bs, bad⟩ := st
  refine (RTake_ok k hk hb hw).mono ?_
  rintro _ _ ⟨f1, f2, rfl, rfl⟩
  exact ⟨f1, rfl, ⟨rfl, Nat.le_trans (rTake_len (bs, bad) k).2.2 hb, f2, List.getElem?_set_self (lt_of_get hw)⟩, Keeps.set _ (List.mem_singleton_self _)⟩
theorem rprim {S S2 : LS} {w l n : Nat} {pre post : List LV} {s : Sch} {st : List UInt8 × Bool} {st' : List UInt8 × Bool} {off : Nat} {cells : List LV} {u : LV} (hcells : cells = pre ++ ([u] ++ post)) (hpre : pre.length = off) {u' : LV} (hok : ok s [u]) (hl : l ∉ [w]) (hlS : S2[l]? = some (some (n, [cells]))) (hi : rR.inv S2 w [w] st') (hK : Keeps S S2 [w])
    (h1 : wal rR s [u] st = (nz s [u'], st')) (h2 : ok s [u']) : WP rR S w l n pre [w] s [u] st post (S2.set l (some (n, [ovr cells off [u']]))) := by
  have hlw : l ≠ w := by simpa using hl
  refine ⟨hok, [w], [u'], ?_, by rw [h1], h2, ?_, ⟨by rw [List.length_set]; exact hK.1, fun j hj hm => ?_⟩, fun id hid => .inl hid⟩
  · rw [h1]
    obtain ⟨-, hb, f, hw⟩ := hi
    exact ⟨rfl, hb, f, by rw [List.getElem?_set_ne hlw]; exact hw⟩
  · rw [List.getElem?_set_self (lt_of_get hlS), hcells, ← hpre]
    congr 4
    exact ovr_mid
  · simp only [List.mem_cons, List.not_mem_nil, or_false, not_or] at hm
    rw [List.getElem?_set_ne (fun e => hm.1 e.symm)]; exact hK.2 j hj (by simpa using hm.2)
theorem s64_isI (n : Nat) : isI (s64 n) := w64_range _

set_option maxHeartbeats 400000 in
theorem RInt_ok : WOk rR aP 120 sI := by
  refine WOk_intro 0 Try.func120 rfl (by kernel_rfl) (fun _ _ _ => rfl) fun S w l n off pre us post own st RR hi hl hS hpre hok hfit hRR => ?_
  have hlS := lt_of_get hS
  obtain ⟨bs, rfl⟩ : ∃ b : List UInt8 × Bool, b = st := ⟨st, rfl⟩
  have hi0 := hi
  obtain ⟨rfl, hbl, fw, hw⟩ := hi
  obtain ⟨v, us, rfl, iv, h0⟩ := ok_int hok
  obtain rfl := ok_nil h0
  obtain ⟨cells, hcells⟩ : ∃ c, c = pre ++ ([V v] ++ post) := ⟨_, rfl⟩
  have hc1 : off < cells.length := by rw [hcells, ← hpre]; simp
  have hc2 : cells.getD off .any = V v := by rw [hcells, ← hpre]; simp [List.getD_eq_getElem?_getD]
  have hlw : l ≠ w := fun e => hl (e ▸ List.mem_cons_self ..)
  have hSc := hS
  rw [← hcells] at hSc
  clear h0
  refine LregionG [none, none, none, none, none, none, none] (by kernel_rfl) (by kernel_rfl) ?_
  simp -dsimp only [go_sem, ↓reduceIte]
  repeat with_reducible refine And.intro (by first | omega | decide | assumption) ?_
  refine LCalls.k (RTakeI hi0 8 (by decide)) ?_
  rintro _ S2 ⟨f2, rfl, hi2, hK2⟩
  have hl2 := hK2.get hSc (by simpa using hlw)
  have h8 := (rTake_len bs 8).1
  simp -dsimp only [go_sem, ↓reduceIte]
  repeat with_reducible refine And.intro (by first | omega | decide | assumption) ?_
  refine LCalls.k (SGet_ok _ (by omega) f2) ?_
  rintro _ S2 ⟨rfl, rfl⟩
  simp -dsimp only [go_sem, ↓reduceIte, hl2, hc1]
  simp only [LThen, LBlock, LPost, Try.results120]
  simp -dsimp only [go_sem, ↓reduceIte]
  refine ⟨by omega, ?_⟩
  exact ret_keep (hRR _ _ (rprim hcells hpre (u' := V (s64 (num (rTake bs 8).1))) hok hl hl2 hi2 hK2 rfl (okI1 (s64_isI _))))


theorem num8 {x : List UInt8} (h : x.length ≤ 8) : num x < 18446744073709551616 := Nat.lt_of_lt_of_le (num_lt x) (Nat.le_trans (Nat.pow_le_pow_right (by decide) h) (by decide))
theorem num4 {x : List UInt8} (h : x.length ≤ 4) : num x < 4294967296 := Nat.lt_of_lt_of_le (num_lt x) (Nat.le_trans (Nat.pow_le_pow_right (by decide) h) (by decide))

set_option maxHeartbeats 400000 in
theorem RWord_ok : WOk rR aP 122 (.word .nil) := by
  refine WOk_intro 0 Try.func122 rfl (by kernel_rfl) (fun _ _ _ => rfl) fun S w l n off pre us post own st RR hi hl hS hpre hok hfit hRR => ?_
  have hlS := lt_of_get hS
  obtain ⟨bs, rfl⟩ : ∃ b : List UInt8 × Bool, b = st := ⟨st, rfl⟩
  have hi0 := hi
  obtain ⟨rfl, hbl, fw, hw⟩ := hi
  obtain ⟨v, us, rfl, iv, h0⟩ := ok_word hok
  obtain rfl := ok_nil h0
  obtain ⟨cells, hcells⟩ : ∃ c, c = pre ++ ([.int .u64 v] ++ post) := ⟨_, rfl⟩
  have hc1 : off < cells.length := by rw [hcells, ← hpre]; simp
  have hc2 : cells.getD off .any = .int .u64 v := by rw [hcells, ← hpre]; simp [List.getD_eq_getElem?_getD]
  have hlw : l ≠ w := fun e => hl (e ▸ List.mem_cons_self ..)
  have hSc := hS
  rw [← hcells] at hSc
  clear h0
  refine LregionG [none, none, none, none, none, none] (by kernel_rfl) (by kernel_rfl) ?_
  simp -dsimp only [go_sem, ↓reduceIte]
  repeat with_reducible refine And.intro (by first | omega | decide | assumption) ?_
  refine LCalls.k (RTakeI hi0 8 (by decide)) ?_
  rintro _ S2 ⟨f2, rfl, hi2, hK2⟩
  have hl2 := hK2.get hSc (by simpa using hlw)
  have h8 := (rTake_len bs 8).1
  simp -dsimp only [go_sem, ↓reduceIte]
  repeat with_reducible refine And.intro (by first | omega | decide | assumption) ?_
  refine LCalls.k (SGet_ok _ (by omega) f2) ?_
  rintro _ S2 ⟨rfl, rfl⟩
  simp -dsimp only [go_sem, ↓reduceIte, hl2, hc1]
  simp only [LThen, LBlock, LPost, Try.results122]
  simp -dsimp only [go_sem, ↓reduceIte]
  refine ⟨by omega, ?_⟩
  exact ret_keep (hRR _ _ (rprim hcells hpre (u' := .int .u64 (num (rTake bs 8).1 : Nat)) hok hl hl2 hi2 hK2 rfl (⟨rfl, by omega, by have := num8 h8; omega, trivial⟩)))

set_option maxHeartbeats 400000 in
theorem RText_ok : WOk rR aP 121 sStr := by
  refine WOk_intro 0 Try.func121 rfl (by kernel_rfl) (fun _ _ _ => rfl) fun S w l n off pre us post own st RR hi hl hS hpre hok hfit hRR => ?_
  have hlS := lt_of_get hS
  obtain ⟨bs, rfl⟩ : ∃ b : List UInt8 × Bool, b = st := ⟨st, rfl⟩
  have hi0 := hi
  obtain ⟨rfl, hbl, fw, hw⟩ := hi
  obtain ⟨v, us, rfl, iv, h0⟩ := ok_str hok
  obtain rfl := ok_nil h0
  obtain ⟨cells, hcells⟩ : ∃ c, c = pre ++ ([.str v] ++ post) := ⟨_, rfl⟩
  have hc1 : off < cells.length := by rw [hcells, ← hpre]; simp
  have hc2 : cells.getD off .any = .str v := by rw [hcells, ← hpre]; simp [List.getD_eq_getElem?_getD]
  have hlw : l ≠ w := fun e => hl (e ▸ List.mem_cons_self ..)
  have hSc := hS
  rw [← hcells] at hSc
  clear h0
  refine LregionG [none, none, none, none, none, none, none, none, none, none] (by kernel_rfl) (by kernel_rfl) ?_
  simp -dsimp only [go_sem, ↓reduceIte]
  repeat with_reducible refine And.intro (by first | omega | decide | assumption) ?_
  refine LCalls.k (RTakeI hi0 4 (by decide)) ?_
  rintro _ S2 ⟨f2, rfl, hi2, hK2⟩
  have hl2 := hK2.get hSc (by simpa using hlw)
  have h8 := (rTake_len bs 4).1
  simp -dsimp only [go_sem, ↓reduceIte]
  repeat with_reducible refine And.intro (by first | omega | decide | assumption) ?_
  refine LCalls.k (SGet_ok _ (by omega) f2) ?_
  rintro _ S2 ⟨rfl, rfl⟩
  have hn4 := num4 h8
  have e1 : IntKind.i64.wrap (num (rTake bs 4).1 : Int) = (num (rTake bs 4).1 : Int) := w64 (by omega) (by omega)
  simp -dsimp only [go_sem, ↓reduceIte, e1]
  repeat with_reducible refine And.intro (by first | omega | decide | assumption) ?_
  have hi3 := hi2
  refine LCalls.k (RTakeI hi3 (num (rTake bs 4).1) (by omega)) ?_
  rintro _ S3 ⟨f3, rfl, hi4, hK4⟩
  have hl4 := hK4.get hl2 (by simpa using hlw)
  have hu : ((rTake (rTake bs 4).2 (num (rTake bs 4).1)).1.map u8c).map byteE = (rTake (rTake bs 4).2 (num (rTake bs 4).1)).1 := byteE_map _
  have hub := bytesC_map (rTake (rTake bs 4).2 (num (rTake bs 4).1)).1
  simp -dsimp only [go_sem, ↓reduceIte, hl4, hc1, hu, hub]
  simp only [LThen, LBlock, LPost, Try.results121]
  simp -dsimp only [go_sem, ↓reduceIte]
  refine ⟨by omega, ?_⟩
  have hsz : (strOf (rTake (rTake bs 4).2 (num (rTake bs 4).1)).1).size < 4294967296 := by
    have h1 := (rTake_len (rTake bs 4).2 (num (rTake bs 4).1)).1
    show (rTake (rTake bs 4).2 (num (rTake bs 4).1)).1.toArray.size < _
    simp only [List.size_toArray]; omega
  exact ret_keep (hRR _ _ (rprim hcells hpre (u' := .str (strOf (rTake (rTake bs 4).2 (num (rTake bs 4).1)).1)) hok hl hl4 hi4 (hK2.trans hK4 (fun _ _ h => h.elim id id)) rfl ⟨hsz, trivial⟩))

set_option maxHeartbeats 400000 in
theorem RBool_ok : WOk rR aP 118 (.bool .nil) := by
  refine WOk_intro 0 Try.func118 rfl (by kernel_rfl) (fun _ _ _ => rfl) fun S w l n off pre us post own st RR hi hl hS hpre hok hfit hRR => ?_
  have hlS := lt_of_get hS
  obtain ⟨bs, rfl⟩ : ∃ b : List UInt8 × Bool, b = st := ⟨st, rfl⟩
  have hi0 := hi
  obtain ⟨rfl, hbl, fw, hw⟩ := hi
  obtain ⟨v, us, rfl, h0⟩ := ok_bool hok
  obtain rfl := ok_nil h0
  obtain ⟨cells, hcells⟩ : ∃ c, c = pre ++ ([.bool v] ++ post) := ⟨_, rfl⟩
  have hc1 : off < cells.length := by rw [hcells, ← hpre]; simp
  have hc2 : cells.getD off .any = .bool v := by rw [hcells, ← hpre]; simp [List.getD_eq_getElem?_getD]
  have hlw : l ≠ w := fun e => hl (e ▸ List.mem_cons_self ..)
  have hSc := hS
  rw [← hcells] at hSc
  clear h0
  refine Lwp_seq fun KK0 hKK0 => ?_
  refine LregionG [none, none, none, none] (by kernel_rfl) (by kernel_rfl) ?_
  simp -dsimp only [go_sem, ↓reduceIte]
  repeat with_reducible refine And.intro (by first | omega | decide | assumption) ?_
  refine LCalls.k (RTakeI hi0 1 (by decide)) ?_
  rintro _ S2 ⟨f2, rfl, hi2, hK2⟩
  have hl2 := hK2.get hSc (by simpa using hlw)
  have h8 := (rTake_len bs 1).1
  simp -dsimp only [go_sem, ↓reduceIte]
  repeat with_reducible refine And.intro (by first | omega | decide | assumption) ?_
  refine LCalls.k (SGet_ok _ (by omega) f2) ?_
  rintro _ S2 ⟨rfl, rfl⟩
  simp -dsimp only [go_sem, ↓reduceIte]
  refine hKK0 _ _ ?_
  try clear hKK0 KK0
  refine Lwp_seq fun KK1 hKK1 => ?_
  obtain ⟨-, hb2, f3, hw2⟩ := hi2
  obtain ⟨x, hx⟩ : ∃ x, x = (rTake bs 1).1 := ⟨_, rfl⟩
  obtain ⟨b2, hb2e⟩ : ∃ x, x = (rTake bs 1).2.1 := ⟨_, rfl⟩
  obtain ⟨bad2, hbad⟩ : ∃ x, x = (rTake bs 1).2.2 := ⟨_, rfl⟩
  have hl3 : ∀ v, (S2.set w v)[l]? = some (some (n, [cells])) := fun v => by rw [List.getElem?_set_ne (fun e => hlw e.symm)]; exact hl2
  rw [← hb2e] at hb2
  rw [← hb2e, ← hbad] at hw2
  rw [← hx]
  have hwl2 := lt_of_get hw2
  have fin : ∀ (S3 : LS) (b : Bool), b = (bad2 || decide (1 < num x)) → S3 = S2.set w (some (2, [[.sl f3 (b2.map u8c), .bool b]])) → ∀ c, c = (num x == 1) → WP rR S w l n pre [w] (.bool .nil) [.bool v] bs post (S3.set l (some (n, [ovr cells off [.bool c]]))) := by
    rintro _ b hb rfl c hc
    refine rprim hcells hpre hok hl (hl3 _) (st' := (b2, b)) ⟨rfl, hb2, f3, List.getElem?_set_self hwl2⟩ (hK2.trans (Keeps.set _ (List.mem_singleton_self _)) (fun _ _ h => h.elim id id)) ?_ trivial
    rw [hb, hc, hx, hb2e, hbad]; rfl
  refine LregionG [none, none, none, none, none, none, some (13, false), some (13, false), none, none, none, none] (by kernel_rfl) (by kernel_rfl) ?_
  simp -dsimp only [go_sem, ↓reduceIte, hw2]
  cases bad2
  · skip
    simp -dsimp only [go_sem, ↓reduceIte, hw2]
    refine hKK1 _ _ ?_
    try clear hKK1 KK1
    refine LregionG [none, none, none, none, none] (by kernel_rfl) (by kernel_rfl) ?_
    simp -dsimp only [go_sem, ↓reduceIte, hl3, hc1]
    repeat with_reducible refine And.intro (by first | omega | decide) ?_
    simp only [LThen, LBlock, LPost, Try.results118]
    simp -dsimp only [go_sem, ↓reduceIte]
    refine ret_keep (hRR _ _ (fin _ _ (by first | rfl | (rw [Bool.false_or]; exact decide_eq_decide.2 (by omega))) rfl _ (by rw [Bool.eq_iff_iff]; simp; omega)))
  · skip
    simp -dsimp only [go_sem, ↓reduceIte, hw2]
    refine hKK1 _ _ ?_
    try clear hKK1 KK1
    refine LregionG [none, none, none, none, none] (by kernel_rfl) (by kernel_rfl) ?_
    simp -dsimp only [go_sem, ↓reduceIte, hl3, hc1]
    repeat with_reducible refine And.intro (by first | omega | decide) ?_
    simp only [LThen, LBlock, LPost, Try.results118]
    simp -dsimp only [go_sem, ↓reduceIte]
    refine ret_keep (hRR _ _ (fin _ _ (by first | rfl | (rw [Bool.false_or]; exact decide_eq_decide.2 (by omega))) rfl _ (by rw [Bool.eq_iff_iff]; simp; omega)))

set_option maxHeartbeats 400000 in
theorem RCount_ok (S : LS) (w : Nat) (own : List Nat) (bs : List UInt8 × Bool) (m : Nat) (hi : rR.inv S w own bs) (hm : m < 4294967296) (hfit : True) : LCalls Try.prog 119 [.ptr w 0 0, V m] S (fun r S' => r = V (rCount bs).1 ∧ ∃ own', rR.inv S' w own' (rCount bs).2 ∧ Keeps S S' own ∧ ∀ id ∈ own', id ∈ own ∨ S.length ≤ id) := by
  refine LCalls_introK 0 Try.func119 rfl (by kernel_rfl) rfl fun RR hRR => ?_
  have hi0 := hi
  obtain ⟨rfl, hbl, fw, hw⟩ := hi
  refine Lwp_seq fun KK0 hKK0 => ?_
  refine LregionG [none] (by kernel_rfl) (by kernel_rfl) ?_
  simp -dsimp only [go_sem, ↓reduceIte]
  repeat with_reducible refine And.intro (by first | omega | decide) ?_
  refine hKK0 _ _ ?_
  try clear hKK0 KK0
  refine Lwp_seq fun KK1 hKK1 => ?_
  refine LregionG [none, none, none, none, none] (by kernel_rfl) (by kernel_rfl) ?_
  simp -dsimp only [go_sem, ↓reduceIte]
  repeat with_reducible refine And.intro (by first | omega | decide | assumption) ?_
  refine LCalls.k (RTakeI hi0 4 (by decide)) ?_
  rintro _ S2 ⟨f2, rfl, hi2, hK2⟩
  have h8 := (rTake_len bs 4).1
  simp -dsimp only [go_sem, ↓reduceIte]
  repeat with_reducible refine And.intro (by first | omega | decide | assumption) ?_
  refine LCalls.k (SGet_ok _ (by omega) f2) ?_
  rintro _ S2 ⟨rfl, rfl⟩
  have hn4 := num4 h8
  have e1 : IntKind.i64.wrap (num (rTake bs 4).1 : Int) = (num (rTake bs 4).1 : Int) := w64 (by omega) (by omega)
  simp -dsimp only [go_sem, ↓reduceIte, e1]
  refine hKK1 _ _ ?_
  try clear hKK1 KK1
  refine Lwp_seq fun KK2 hKK2 => ?_
  refine Lwp_seq fun KK3 hKK3 => ?_
  obtain ⟨-, hb2, f3, hw2⟩ := hi2
  obtain ⟨x, hx⟩ : ∃ x, x = (rTake bs 4).1 := ⟨_, rfl⟩
  obtain ⟨b2, hb2e⟩ : ∃ x, x = (rTake bs 4).2.1 := ⟨_, rfl⟩
  obtain ⟨bad2, hbad⟩ : ∃ x, x = (rTake bs 4).2.2 := ⟨_, rfl⟩
  rw [← hb2e] at hb2
  rw [← hb2e, ← hbad] at hw2
  rw [← hx] at hn4 ⊢
  have hwl2 := lt_of_get hw2
  have hrc : rCount bs = if bad2 = true ∨ b2.length / 4 < num x then (0, (b2, true)) else (num x, (b2, bad2)) := by
    unfold rCount; rw [hx, hb2e, hbad]
  have hq : Int.tdiv (b2.length : Int) 4 = ((b2.length / 4 : Nat) : Int) := by rw [Int.tdiv_eq_ediv_of_nonneg (by omega)]; omega
  have hq2 : IntKind.i64.wrap ((b2.length / 4 : Nat) : Int) = ((b2.length / 4 : Nat) : Int) := w64 (by omega) (by omega)
  refine LregionG [none, none, none, none, none, some (14, false), some (14, false), some (14, false), some (14, false), some (14, false), some (14, false), some (14, false), some (14, false), none] (by kernel_rfl) (by kernel_rfl) ?_
  simp -dsimp only [go_sem, ↓reduceIte, hw2, hq, hq2]
  cases bad2
  · skip
    simp -dsimp only [go_sem, ↓reduceIte, hw2, hq, hq2]
    refine hKK3 _ _ ?_
    try clear hKK3 KK3
    refine Lwp_cond (by simp only [go_sem, ↓reduceIte]; rfl) (fun ht => ?_) (fun hf => ?_)
    · skip
      have hc : b2.length / 4 < num x := by simpa using ht
      refine Lwp_seq fun KK4 hKK4 => ?_
      refine LregionG [none, none, none, none] (by kernel_rfl) (by kernel_rfl) ?_
      simp -dsimp only [go_sem, ↓reduceIte, hw2]
      repeat with_reducible refine And.intro (by first | omega | decide) ?_
      refine hKK4 _ _ ?_
      try clear hKK4 KK4
      refine Lwp_seq fun KK5 hKK5 => ?_
      refine LregionG [none] (by kernel_rfl) (by kernel_rfl) ?_
      simp -dsimp only [go_sem, ↓reduceIte]
      repeat with_reducible refine And.intro (by first | omega | decide) ?_
      refine hKK5 _ _ ?_
      try clear hKK5 KK5
      refine Lwp_ret ?_
      simp only [LThen, LBlock, LPost, Try.results119]
      simp -dsimp only [go_sem, ↓reduceIte]
      rw [hrc] at hRR
      simp only [hc, if_true, if_false, or_true, true_or, Bool.false_eq_true, or_self] at hRR
      exact ret_keep (hRR _ _ ⟨rfl, [w], ⟨rfl, hb2, f3, List.getElem?_set_self hwl2⟩, hK2.trans (Keeps.set _ (List.mem_singleton_self _)) (fun _ _ h => h.elim id id), fun _ h => .inl h⟩)
    · skip
      have hc : ¬ b2.length / 4 < num x := by simpa using hf
      refine Lwp_skip ?_
      try simp -dsimp only [go_sem, ↓reduceIte]
      refine hKK2 _ _ ?_
      try clear hKK2 KK2
      refine Lwp_seq fun KK6 hKK6 => ?_
      refine LregionG [none, none] (by kernel_rfl) (by kernel_rfl) ?_
      simp -dsimp only [go_sem, ↓reduceIte]
      repeat with_reducible refine And.intro (by first | omega | decide) ?_
      refine hKK6 _ _ ?_
      try clear hKK6 KK6
      refine Lwp_ret ?_
      simp only [LThen, LBlock, LPost, Try.results119]
      simp -dsimp only [go_sem, ↓reduceIte]
      rw [hrc] at hRR
      simp only [hc, if_true, if_false, or_true, true_or, Bool.false_eq_true, or_self] at hRR
      exact ret_keep (hRR _ _ ⟨rfl, [w], ⟨rfl, hb2, f3, hw2⟩, hK2, fun _ h => .inl h⟩)
  · skip
    simp -dsimp only [go_sem, ↓reduceIte, hw2]
    refine hKK3 _ _ ?_
    try clear hKK3 KK3
    refine Lwp_cond (by simp only [go_sem, ↓reduceIte]; rfl) (fun ht => ?_) (fun hf => ?_)
    · skip
      refine Lwp_seq fun KK7 hKK7 => ?_
      refine LregionG [none, none, none, none] (by kernel_rfl) (by kernel_rfl) ?_
      simp -dsimp only [go_sem, ↓reduceIte, hw2]
      repeat with_reducible refine And.intro (by first | omega | decide) ?_
      refine hKK7 _ _ ?_
      try clear hKK7 KK7
      refine Lwp_seq fun KK8 hKK8 => ?_
      refine LregionG [none] (by kernel_rfl) (by kernel_rfl) ?_
      simp -dsimp only [go_sem, ↓reduceIte]
      repeat with_reducible refine And.intro (by first | omega | decide) ?_
      refine hKK8 _ _ ?_
      try clear hKK8 KK8
      refine Lwp_ret ?_
      simp only [LThen, LBlock, LPost, Try.results119]
      simp -dsimp only [go_sem, ↓reduceIte]
      rw [hrc] at hRR
      simp only [if_true, if_false, or_true, true_or, Bool.false_eq_true, or_self] at hRR
      exact ret_keep (hRR _ _ ⟨rfl, [w], ⟨rfl, hb2, f3, List.getElem?_set_self hwl2⟩, hK2.trans (Keeps.set _ (List.mem_singleton_self _)) (fun _ _ h => h.elim id id), fun _ h => .inl h⟩)
    · skip
      cases hf


theorem rR_law : WkL rR where
  lt := by
    rintro S w own st ⟨rfl, hb, f, hw⟩ id hid
    rw [List.mem_singleton.1 hid]; exact lt_of_get hw
  keep := by
    rintro S S' w own st ids ⟨rfl, hb, f, hw⟩ hK hd
    exact ⟨rfl, hb, f, hK.get hw (hd w (List.mem_singleton_self _))⟩
  iint := fun _ => trivial
  iword := fun _ => trivial
  ibool := fun _ => trivial
  istr := fun _ => trivial
  icount := fun _ => trivial
  cnt := by
    intro S w own st m hi hm
    show (rCount st).1 < _
    unfold rCount
    split
    · simp
    · exact num4 (rTake_len st 4).1
  mInt := by kernel_rfl
  mWord := by kernel_rfl
  mBool := by kernel_rfl
  mText := by kernel_rfl
  mCount := by kernel_rfl
  hInt := RInt_ok
  hWord := RWord_ok
  hBool := RBool_ok
  hText := RText_ok
  hCount := RCount_ok

end Go.Proofs.Ytdhngmldmalbbaa
end
section
set_option linter.all false
namespace Go.Proofs.Ytdhngmldmalbbaa
open Go.Lift Go.RowKit Go.Store
set_option linter.unusedSimpArgs false
set_option linter.unusedVariables false

/-- what 'Decode' gives: an error, or a kind, where its cells begin, their schema, what was read, and the bytes of the entry. -/
def decS (bs : List UInt8) : Int ⊕ (Int × Nat × Sch × List LV × Nat) :=
  if bs.length < 4 then .inl 11
  else if 1048576 < num (bs.take 4) + 8 then .inl 2
  else if bs.length < num (bs.take 4) + 8 then .inl 11
  else if chkN (bs.take (num (bs.take 4) + 4)) ≠ num ((bs.drop (num (bs.take 4) + 4)).take 4) then .inl 10
  else if num (bs.take 4) = 0 then .inl 4
  else match kSch ((bs.getD 4 0).toNat : Int) with
    | none => .inl 4
    | some (off, s) =>
      if (wal rR s (zs s) ((bs.take (num (bs.take 4) + 4)).drop 5, false)).2.2 = true ∨ 0 < (wal rR s (zs s) ((bs.take (num (bs.take 4) + 4)).drop 5, false)).2.1.length then .inl 3
      else .inr (((bs.getD 4 0).toNat : Int), off, s, (wal rR s (zs s) ((bs.take (num (bs.take 4) + 4)).drop 5, false)).1, num (bs.take 4) + 8)
def DecO (o : Int ⊕ (Int × Nat × Sch × List LV × Nat)) (r : LV) : Prop :=
  match o with
  | .inl e => r = .tup [.agg (zs sLog), V 0, V e]
  | .inr (k, off, s, p, n) => ∃ us pre u' post, r = .tup [.agg us, V n, V 0] ∧ ok sLog us ∧ us.getD 0 .any = V k ∧ us = pre ++ (u' ++ post) ∧ pre.length = off ∧ ok s u' ∧ nz s u' = p
def DecR (bs : List UInt8) (S : LS) (r : LV) (S' : LS) : Prop := Keeps S S' [] ∧ DecO (decS bs) r
theorem zs_walR : ∀ {s : Sch} {us vs : List LV} {st : rR.St}, ok s us → ok s vs → wal rR s us st = wal rR s vs st
  | .nil, [], [], st, _, _ => rfl
  | .int r, .int k v :: us, .int k' v' :: vs, st, h, h' => by
    simp only [ok] at h h'
    simp only [wal]; rw [show rR.int st (intOf (.int k v)) = rR.int st (intOf (.int k' v')) from rfl, zs_walR h.2.2.2 h'.2.2.2]
  | .word r, .int k v :: us, .int k' v' :: vs, st, h, h' => by
    simp only [ok] at h h'
    simp only [wal]; rw [show rR.word st (natOf (.int k v)) = rR.word st (natOf (.int k' v')) from rfl, zs_walR h.2.2.2 h'.2.2.2]
  | .bool r, .bool b :: us, .bool b' :: vs, st, h, h' => by
    simp only [ok] at h h'
    simp only [wal]; rw [show rR.bool st (boolOf (.bool b)) = rR.bool st (boolOf (.bool b')) from rfl, zs_walR (s := r) h h']
  | .str r, .str b :: us, .str b' :: vs, st, h, h' => by
    simp only [ok] at h h'
    simp only [wal]; rw [show rR.str st (bytesOf (.str b)) = rR.str st (bytesOf (.str b')) from rfl, zs_walR h.2 h'.2]
  | .sl e r, .sl f es :: us, .sl f' es' :: vs, st, h, h' => by
    simp only [ok] at h h'
    have hN : ∀ (n : Nat) (es es' : List (List LV)) (st : rR.St), (∀ x ∈ es, ok e x) → (∀ x ∈ es', ok e x) → walN (wal rR e) (zs e) n es st = walN (wal rR e) (zs e) n es' st := by
      intro n
      induction n with
      | zero => intros; rfl
      | succ n ih =>
        intro es es' st h h'
        have hd : ∀ es : List (List LV), (∀ x ∈ es, ok e x) → ok e (es.headD (zs e)) := fun es h => by
          cases es with
          | nil => exact ok_zs
          | cons x es => exact h x (List.mem_cons_self ..)
        simp only [walN]
        rw [zs_walR (hd es h) (hd es' h'), ih es.tail es'.tail _ (fun x hx => h x (List.mem_of_mem_tail hx)) (fun x hx => h' x (List.mem_of_mem_tail hx))]
    simp only [wal]
    rw [show rR.count st (elemsOf (.sl f es)).length = rR.count st (elemsOf (.sl f' es')).length from rfl, hN _ (elemsOf (.sl f es)) (elemsOf (.sl f' es')) _ h.2.1 h'.2.1, zs_walR h.2.2 h'.2.2]


theorem ok_repl {sP s sQ : Sch} {us pre u u' post : List LV} (h : ok (sP.app (s.app sQ)) us) (hus : us = pre ++ (u ++ post)) (hpre : pre.length = sP.n) (hu : ok s u) (hu' : ok s u') : ok (sP.app (s.app sQ)) (pre ++ (u' ++ post)) := by
  subst hus
  obtain ⟨a, b, e1, h1, h2⟩ := app_inv h
  obtain ⟨rfl, rfl⟩ := List.append_inj e1 (by rw [hpre, ok_len h1])
  obtain ⟨c, d, e2, h3, h4⟩ := app_inv h2
  obtain ⟨rfl, rfl⟩ := List.append_inj e2 (by rw [ok_len hu, ok_len h3])
  exact app_ok h1 (app_ok hu' h4)
theorem log_repl {us pre u u' post : List LV} {k : Int} {off : Nat} {s : Sch} (hk : kSch k = some (off, s)) (h : ok sLog us) (hus : us = pre ++ (u ++ post)) (hpre : pre.length = off) (hu : ok s u) (hu' : ok s u') : ok sLog (pre ++ (u' ++ post)) := by
  rcases kSch_off hk with ⟨-, rfl, rfl⟩ | ⟨-, rfl, rfl⟩ | ⟨-, rfl, rfl⟩ | ⟨-, rfl, rfl⟩
  · exact ok_repl (s := sI) (sP := .int .nil) (sQ := sItem.app (.int (.str (sPer.app sCyc)))) h hus hpre hu hu'
  · exact ok_repl (s := sItem) (sP := .int (.int .nil)) (sQ := .int (.str (sPer.app sCyc))) h hus hpre hu hu'
  · exact ok_repl (s := .int (.str sPer)) (sP := .int (.int sItem)) (sQ := sCyc) h hus hpre hu hu'
  · exact ok_repl (s := sCyc) (sP := .int (.int (sItem.app (.int (.str sPer))))) (sQ := .nil) h hus hpre hu hu'
theorem head_pre {us pre x y : List LV} {off : Nat} (hus : us = pre ++ x) (hpre : pre.length = off) (h : off ≠ 0) : (pre ++ y).getD 0 .any = us.getD 0 .any := by
  subst hus hpre
  cases pre with
  | nil => exact absurd rfl h
  | cons p pre => rfl
theorem kSch_pos {k : Int} {off : Nat} {s : Sch} (hk : kSch k = some (off, s)) : off ≠ 0 := by
  rcases kSch_off hk with ⟨-, rfl, rfl⟩ | ⟨-, rfl, rfl⟩ | ⟨-, rfl, rfl⟩ | ⟨-, rfl, rfl⟩ <;> decide
theorem keep_set {S S1 : LS} {j : Nat} {v : Option Blk} (h : Keeps S S1 []) (hj : S.length ≤ j := by omega) : Keeps S (S1.set j v) [] := ⟨by rw [List.length_set]; exact h.1, fun i hi hm => by rw [List.getElem?_set_ne (by omega)]; exact h.2 i hi hm⟩

set_option maxHeartbeats 400000 in
theorem SDecode_ok {S : LS} (bs : List UInt8) (f : Bool) (hb : bs.length ≤ 562949953421312) : LCalls Try.prog 14 [.sl f (bs.map u8c)] S (DecR bs S) := by
  refine LCalls_introK 0 Try.func14 rfl (by kernel_rfl) rfl fun RR hRR => ?_
  unfold DecR decS at hRR
  have hd1 : ∀ (e : List LV), e ∈ (List.map u8c bs).head? → e.length = 1 := fun e he => by
    obtain ⟨y, _, rfl⟩ := List.mem_map.1 (List.mem_of_mem_head? he); rfl
  refine Lwp_seq fun KK0 hKK0 => ?_
  refine LregionG [none, none, none] (by kernel_rfl) (by kernel_rfl) ?_
  simp -dsimp only [go_sem, ↓reduceIte]
  repeat with_reducible refine And.intro (by first | omega | decide) ?_
  refine hKK0 _ _ ?_
  try clear hKK0 KK0
  refine Lwp_seq fun KK1 hKK1 => ?_
  refine Lwp_seq fun KK2 hKK2 => ?_
  refine LregionG [none, none, none] (by kernel_rfl) (by kernel_rfl) ?_
  simp -dsimp only [go_sem, ↓reduceIte]
  repeat with_reducible refine And.intro (by first | omega | decide) ?_
  refine hKK2 _ _ ?_
  try clear hKK2 KK2
  refine Lwp_cond (by simp only [go_sem, ↓reduceIte]; rfl) (fun ht => ?_) (fun hf => ?_)
  · skip
    have h4 : bs.length < 4 := by simp at ht; omega
    simp only [h4, if_true] at hRR
    refine Lwp_seq fun KK3 hKK3 => ?_
    refine LregionG [none, none, none, none] (by kernel_rfl) (by kernel_rfl) ?_
    simp -dsimp only [go_sem, ↓reduceIte]
    repeat with_reducible refine And.intro (by first | omega | decide) ?_
    refine hKK3 _ _ ?_
    try clear hKK3 KK3
    refine Lwp_ret ?_
    simp only [LThen, LBlock, LPost, Try.results14]
    simp -dsimp only [go_sem, ↓reduceIte]
    exact ret_keep (hRR _ _ ⟨Keeps.app _ _ _, rfl⟩)
  · skip
    have h4 : ¬ bs.length < 4 := by simp at hf; omega
    simp only [h4, if_false] at hRR
    refine Lwp_skip ?_
    try simp -dsimp only [go_sem, ↓reduceIte]
    refine hKK1 _ _ ?_
    try clear hKK1 KK1
    refine Lwp_seq fun KK4 hKK4 => ?_
    have hm4 : List.take 4 (List.map u8c bs) = List.map u8c (bs.take 4) := List.map_take.symm
    have h4l : (bs.take 4).length ≤ 8 := by simp; omega
    have hN4 := num4 (x := bs.take 4) (by simp; omega)
    obtain ⟨N, hN⟩ : ∃ N, N = num (bs.take 4) := ⟨_, rfl⟩
    rw [← hN] at hRR hN4
    have e1 : IntKind.i64.wrap (N : Int) = (N : Int) := w64 (by omega) (by omega)
    have e2 : IntKind.i64.wrap ((N : Int) + 8) = ((N + 8 : Nat) : Int) := by rw [w64 (by omega) (by omega)]; omega
    have e3 : IntKind.i64.wrap (((N + 8 : Nat) : Int) - 4) = ((N + 4 : Nat) : Int) := by rw [w64 (by omega) (by omega)]; omega
    refine LregionG [none, none, none, none, none, none] (by kernel_rfl) (by kernel_rfl) ?_
    simp -dsimp only [go_sem, ↓reduceIte, hm4]
    refine ⟨⟨by omega, hd1⟩, ?_⟩
    refine LCalls.k (SGet_ok _ h4l _) ?_
    rintro _ _ ⟨rfl, rfl⟩
    rw [← hN]
    simp -dsimp only [go_sem, ↓reduceIte, e1, e2]
    refine hKK4 _ _ ?_
    try clear hKK4 KK4
    refine Lwp_seq fun KK5 hKK5 => ?_
    refine Lwp_block ?_
    refine Lwp_seq fun KK6 hKK6 => ?_
    refine LregionG [none, none, none] (by kernel_rfl) (by kernel_rfl) ?_
    simp -dsimp only [go_sem, ↓reduceIte]
    repeat with_reducible refine And.intro (by first | omega | decide) ?_
    refine hKK6 _ _ ?_
    try clear hKK6 KK6
    refine Lwp_cond (by simp only [go_sem, ↓reduceIte]; rfl) (fun ht => ?_) (fun hf => ?_)
    · skip
      have hbig : 1048576 < N + 8 := by simp at ht; omega
      simp only [hbig, if_true] at hRR
      refine Lwp_seq fun KK7 hKK7 => ?_
      refine LregionG [none, none, none, none] (by kernel_rfl) (by kernel_rfl) ?_
      simp -dsimp only [go_sem, ↓reduceIte]
      repeat with_reducible refine And.intro (by first | omega | decide) ?_
      refine hKK7 _ _ ?_
      try clear hKK7 KK7
      refine Lwp_ret ?_
      simp only [LThen, LBlock, LPost, Try.results14]
      simp -dsimp only [go_sem, ↓reduceIte]
      exact ret_keep (hRR _ _ ⟨Keeps.app _ _ _, rfl⟩)
    · skip
      have hbig : ¬ 1048576 < N + 8 := by simp at hf; omega
      simp only [hbig, if_false] at hRR
      refine Lwp_seq fun KK8 hKK8 => ?_
      refine LregionG [none, none, none, none, none] (by kernel_rfl) (by kernel_rfl) ?_
      simp -dsimp only [go_sem, ↓reduceIte]
      repeat with_reducible refine And.intro (by first | omega | decide) ?_
      refine hKK8 _ _ ?_
      try clear hKK8 KK8
      refine Lwp_cond (by simp only [go_sem, ↓reduceIte]; rfl) (fun ht => ?_) (fun hf => ?_)
      · skip
        have hsh : bs.length < N + 8 := by simp at ht; omega
        simp only [hsh, if_true] at hRR
        refine Lwp_seq fun KK9 hKK9 => ?_
        refine LregionG [none, none, none, none] (by kernel_rfl) (by kernel_rfl) ?_
        simp -dsimp only [go_sem, ↓reduceIte]
        repeat with_reducible refine And.intro (by first | omega | decide) ?_
        refine hKK9 _ _ ?_
        try clear hKK9 KK9
        refine Lwp_ret ?_
        simp only [LThen, LBlock, LPost, Try.results14]
        simp -dsimp only [go_sem, ↓reduceIte]
        exact ret_keep (hRR _ _ ⟨Keeps.app _ _ _, rfl⟩)
      · skip
        have hsh : ¬ bs.length < N + 8 := by simp at hf; omega
        simp only [hsh, if_false] at hRR
        refine Lwp_skip ?_
        try simp -dsimp only [go_sem, ↓reduceIte]
        refine hKK5 _ _ ?_
        try clear hKK5 KK5
        refine Lwp_seq fun KK10 hKK10 => ?_
        refine LregionG [none, none, none] (by kernel_rfl) (by kernel_rfl) ?_
        simp -dsimp only [go_sem, ↓reduceIte, e3]
        repeat with_reducible refine And.intro (by first | omega | decide) ?_
        refine hKK10 _ _ ?_
        try clear hKK10 KK10
        refine Lwp_seq fun KK11 hKK11 => ?_
        refine Lwp_block ?_
        refine Lwp_seq fun KK12 hKK12 => ?_
        have hm5 : List.take (N + 4) (List.map u8c bs) = List.map u8c (bs.take (N + 4)) := List.map_take.symm
        have hm6 : List.take (N + 8 - (N + 4)) (List.drop (N + 4) (List.map u8c bs)) = List.map u8c ((bs.drop (N + 4)).take 4) := by
          rw [show N + 8 - (N + 4) = 4 by omega, List.map_take, List.map_drop]
        have h6l : ((bs.drop (N + 4)).take 4).length ≤ 8 := by simp; omega
        have hcl := chkN_lt (bs.take (N + 4))
        have e4 := u64_wrapN (n := chkN (bs.take (N + 4))) (by omega)
        refine LdrawE [0,1,2,5,6,7,8,3,4,9,10,11] [] none (by kernel_rfl) (by kernel_rfl) (by kernel_rfl) (by kernel_rfl) (by simp [Watch.holds]) ?_
        simp -dsimp only [go_sem, ↓reduceIte, Nat.sub_zero, hm5, hm6]
        refine ⟨⟨by omega, hd1⟩, ⟨by omega, by omega, hd1⟩, ?_⟩
        refine LCalls.k (SChk_ok (.inl ⟨_, rfl⟩) (by simp; omega)) ?_
        rintro _ _ ⟨rfl, rfl⟩
        simp -dsimp only [go_sem, ↓reduceIte, e4, Nat.sub_zero, hm6]
        refine LCalls.k (SGet_ok _ h6l _) ?_
        rintro _ _ ⟨rfl, rfl⟩
        simp -dsimp only [go_sem, ↓reduceIte]
        refine hKK12 _ _ ?_
        try clear hKK12 KK12
        refine Lwp_cond (by simp only [go_sem, ↓reduceIte]; rfl) (fun ht => ?_) (fun hf => ?_)
        · skip
          have hne : chkN (bs.take (N + 4)) ≠ num ((bs.drop (N + 4)).take 4) := by simp at ht; omega
          rw [if_pos hne] at hRR
          refine Lwp_seq fun KK13 hKK13 => ?_
          refine LregionG [none, none, none, none] (by kernel_rfl) (by kernel_rfl) ?_
          simp -dsimp only [go_sem, ↓reduceIte]
          repeat with_reducible refine And.intro (by first | omega | decide) ?_
          refine hKK13 _ _ ?_
          try clear hKK13 KK13
          refine Lwp_ret ?_
          simp only [LThen, LBlock, LPost, Try.results14]
          simp -dsimp only [go_sem, ↓reduceIte]
          exact ret_keep (hRR _ _ ⟨Keeps.app _ _ _, rfl⟩)
        · skip
          have hne : ¬ chkN (bs.take (N + 4)) ≠ num ((bs.drop (N + 4)).take 4) := by simp at hf; omega
          rw [if_neg hne] at hRR
          refine Lwp_seq fun KK14 hKK14 => ?_
          refine LregionG [none, none, none] (by kernel_rfl) (by kernel_rfl) ?_
          simp -dsimp only [go_sem, ↓reduceIte]
          repeat with_reducible refine And.intro (by first | omega | decide) ?_
          refine hKK14 _ _ ?_
          try clear hKK14 KK14
          refine Lwp_cond (by simp only [go_sem, ↓reduceIte]; rfl) (fun ht => ?_) (fun hf => ?_)
          · skip
            have hz : N = 0 := by simp at ht; omega
            rw [if_pos hz] at hRR
            refine Lwp_seq fun KK15 hKK15 => ?_
            refine LregionG [none, none, none, none] (by kernel_rfl) (by kernel_rfl) ?_
            simp -dsimp only [go_sem, ↓reduceIte]
            repeat with_reducible refine And.intro (by first | omega | decide) ?_
            refine hKK15 _ _ ?_
            try clear hKK15 KK15
            refine Lwp_ret ?_
            simp only [LThen, LBlock, LPost, Try.results14]
            simp -dsimp only [go_sem, ↓reduceIte]
            exact ret_keep (hRR _ _ ⟨Keeps.app _ _ _, rfl⟩)
          · skip
            have hz : ¬ N = 0 := by simp at hf; omega
            rw [if_neg hz] at hRR
            refine Lwp_skip ?_
            try simp -dsimp only [go_sem, ↓reduceIte]
            refine hKK11 _ _ ?_
            try clear hKK11 KK11
            refine Lwp_seq fun KK16 hKK16 => ?_
            have hk4 := u8c_getD (xs := bs) (i := 4) (by omega)
            have hb4 : (bs.getD 4 0).toNat < 256 := (bs.getD 4 0).toNat_lt
            have e5 : IntKind.i64.wrap ((bs.getD 4 0).toNat : Int) = ((bs.getD 4 0).toNat : Int) := w64 (by omega) (by omega)
            obtain ⟨k, hk⟩ : ∃ k : Int, k = ((bs.getD 4 0).toNat : Int) := ⟨_, rfl⟩
            refine LregionG [none, none, none, none, none, none, none] (by kernel_rfl) (by kernel_rfl) ?_
            simp -dsimp only [go_sem, ↓reduceIte, hk4, e5]
            refine ⟨by omega, ?_⟩
            refine hKK16 _ _ ?_
            try clear hKK16 KK16
            refine Lwp_seq fun KK17 hKK17 => ?_
            have hm7 : List.take (N + 4 - 5) (List.drop 5 (List.map u8c bs)) = List.map u8c ((bs.take (N + 4)).drop 5) := by
              rw [List.map_drop, List.map_take, List.drop_take]
            refine LregionG [none, none, none, none, none, none] (by kernel_rfl) (by kernel_rfl) ?_
            simp -dsimp only [go_sem, ↓reduceIte, hm7]
            refine ⟨⟨by omega, by omega, hd1⟩, ?_⟩
            refine hKK17 _ _ ?_
            try clear hKK17 KK17
            refine Lwp_seq fun KK18 hKK18 => ?_
            refine Lwp_seq fun KK19 hKK19 => ?_
            refine Lwp_store (fun S1 => Keeps S S1 [] ∧ S1.length = S.length + 3 ∧ S1[S.length]? = some (some (38, [zs sLog])) ∧ S1[S.length + 1]? = some (some (38, [V k :: (zs sLog).tail])) ∧ rR.inv S1 (S.length + 2) [S.length + 2] ((bs.take (N + 4)).drop 5, false)) ⟨Keeps.app _ _ _, by simp, by simp; rfl, by simp [hk]; rfl, rfl, by simp; omega, _, by simp; rfl⟩ ?_
            rintro S1 ⟨hK1, hS1l, hS1z, hS1, hi⟩
            obtain ⟨pay, hpay⟩ : ∃ x, x = (bs.take (N + 4)).drop 5 := ⟨_, rfl⟩
            rw [← hpay, ← hk] at hRR
            rw [← hpay] at hi
            have okz := ok_zs (s := sLog)
            have ok0 : ok sLog (V k :: (zs sLog).tail) := ⟨rfl, by omega, by omega, okz.2.2.2⟩
            clear hm4 hm5 hm6 hm7 e1 e2 e3 e4 hk4 e5 h4l h6l hcl hpay hd1
            refine LregionG [none, none, none, none] (by kernel_rfl) (by kernel_rfl) ?_
            simp -dsimp only [go_sem, ↓reduceIte]
            refine And.intro (by kernel_rfl) ?_
            cases hks : kSch k
            · skip
              rw [hks] at hRR
              refine LCalls.k (Walk_none rR rR_law hi (by simp) hS1 rfl (by simp) hks) ?_
              rintro _ S1 ⟨rfl, rfl⟩
              have hsz : ∀ v, (S1.set S.length v)[S.length]? = some v := fun v => List.getElem?_set_self (lt_of_get hS1z)
              simp -dsimp only [go_sem, ↓reduceIte]
              refine hKK19 _ _ ?_
              try clear hKK19 KK19
              refine Lwp_cond (by simp only [go_sem, ↓reduceIte]; rfl) (fun ht => ?_) (fun hf => ?_)
              · skip
                refine Lwp_seq fun KK20 hKK20 => ?_
                refine LregionG [none, none, none, none] (by kernel_rfl) (by kernel_rfl) ?_
                simp -dsimp only [go_sem, ↓reduceIte, hsz, hS1z]
                refine ⟨by decide, ?_⟩
                refine hKK20 _ _ ?_
                try clear hKK20 KK20
                refine Lwp_ret ?_
                simp only [LThen, LBlock, LPost, Try.results14]
                simp -dsimp only [go_sem, ↓reduceIte, hsz]
                refine ⟨by decide, ?_⟩
                exact ret_keep (hRR _ _ ⟨keep_set hK1, rfl⟩)
              · skip
                cases hf
            · skip
              rename_i p
              obtain ⟨off, s⟩ := p
              rw [hks] at hRR
              simp only [] at hRR
              obtain ⟨pre, u, post, hcells, hpre, hok, -, -⟩ := log_split ok0 (off := off) (s := s) hks
              have hwk := Walk_some rR rR_law hi (by simp) hS1 rfl (by simp) hcells hpre hok hks trivial
              have hzw := zs_walR (st := ((pay, false) : List UInt8 × Bool)) hok (ok_zs (s := s))
              refine LCalls.k hwk ?_
              rintro _ S2 ⟨rfl, -, own2, us2, hi2, hz2, hok2, hS2, hK2, -⟩
              rw [hzw] at hi2 hz2
              obtain ⟨p1, hp1⟩ : ∃ x, x = (wal rR s (zs s) (pay, false)).1 := ⟨_, rfl⟩
              obtain ⟨b2, hb2e⟩ : ∃ x : List UInt8, x = (wal rR s (zs s) (pay, false)).2.1 := ⟨_, rfl⟩
              obtain ⟨bad2, hbad⟩ : ∃ x : Bool, x = (wal rR s (zs s) (pay, false)).2.2 := ⟨_, rfl⟩
              obtain ⟨-, -, f2, hw2⟩ := hi2
              rw [← hb2e, ← hbad] at hw2
              rw [← hp1] at hz2
              rw [← hp1, ← hb2e, ← hbad] at hRR
              have hS2z := hK2.get hS1z (by simp)
              have hsz : ∀ v, (S2.set S.length v)[S.length]? = some v := fun v => List.getElem?_set_self (lt_of_get hS2z)
              have hK3 : Keeps S S2 [] := ⟨Nat.le_trans hK1.1 hK2.1, fun j hj _ => (hK2.2 j (by omega) (by simp; omega)).trans (hK1.2 j hj (by simp))⟩
              obtain ⟨cells2, hc2⟩ : ∃ c, c = pre ++ (us2 ++ post) := ⟨_, rfl⟩
              have hl38 : cells2.length = 38 := by
                have h1 := congrArg List.length hcells
                rw [show (V k :: (zs sLog).tail).length = 38 from rfl] at h1
                simp only [List.length_append] at h1
                rw [hc2]; simp only [List.length_append]
                rw [ok_len hok2, ← ok_len hok]; exact h1.symm
              have ht38 : cells2.take 38 = cells2 := List.take_of_length_le (by omega)
              have hov : ovr (zs sLog) 0 cells2 = cells2 := ovr_all (by rw [hl38]; rfl)
              rw [← hc2] at hS2
              have hok38 : ok sLog cells2 := by rw [hc2]; exact log_repl hks ok0 hcells hpre hok hok2
              have hg0 : cells2.getD 0 .any = V k := by rw [hc2, head_pre hcells hpre (kSch_pos hks)]; rfl
              clear hwk hzw hi
              simp -dsimp only [go_sem, ↓reduceIte]
              refine hKK19 _ _ ?_
              try clear hKK19 KK19
              refine Lwp_cond (by simp only [go_sem, ↓reduceIte]; rfl) (fun ht => ?_) (fun hf => ?_)
              · skip
                cases ht
              · skip
                refine Lwp_skip ?_
                try simp -dsimp only [go_sem, ↓reduceIte]
                refine hKK18 _ _ ?_
                try clear hKK18 KK18
                refine Lwp_seq fun KK21 hKK21 => ?_
                refine Lwp_seq fun KK22 hKK22 => ?_
                refine LregionG [none, none, none, none, none, some (66, false), some (66, false), some (66, false), some (66, false), some (66, false), some (66, false), none] (by kernel_rfl) (by kernel_rfl) ?_
                simp -dsimp only [go_sem, ↓reduceIte, hw2]
                cases bad2
                · skip
                  simp -dsimp only [go_sem, ↓reduceIte, hw2]
                  refine hKK22 _ _ ?_
                  try clear hKK22 KK22
                  refine Lwp_cond (by simp only [go_sem, ↓reduceIte]; rfl) (fun ht => ?_) (fun hf => ?_)
                  · skip
                    have hlong : 0 < b2.length := by simp at ht; omega
                    rw [if_pos (.inr hlong)] at hRR
                    refine Lwp_seq fun KK23 hKK23 => ?_
                    refine LregionG [none, none, none, none] (by kernel_rfl) (by kernel_rfl) ?_
                    simp -dsimp only [go_sem, ↓reduceIte, hsz, hS2z, hsz]
                    refine ⟨by decide, ?_⟩
                    refine hKK23 _ _ ?_
                    try clear hKK23 KK23
                    refine Lwp_ret ?_
                    simp only [LThen, LBlock, LPost, Try.results14]
                    simp -dsimp only [go_sem, ↓reduceIte, hsz]
                    refine ⟨by decide, ?_⟩
                    exact ret_keep (hRR _ _ ⟨keep_set hK3, rfl⟩)
                  · skip
                    have hlong : ¬ 0 < b2.length := by simp at hf; simp [hf]
                    rw [if_neg (by simp [hlong])] at hRR
                    refine Lwp_skip ?_
                    try simp -dsimp only [go_sem, ↓reduceIte]
                    refine hKK21 _ _ ?_
                    try clear hKK21 KK21
                    refine Lwp_seq fun KK24 hKK24 => ?_
                    refine LregionG [none, none, none, none, none] (by kernel_rfl) (by kernel_rfl) ?_
                    simp -dsimp only [go_sem, ↓reduceIte, hsz, hl38, ht38, hov, hS2z, hS2, hsz]
                    repeat with_reducible refine And.intro (by first | omega | decide) ?_
                    refine hKK24 _ _ ?_
                    try clear hKK24 KK24
                    refine Lwp_ret ?_
                    simp only [LThen, LBlock, LPost, Try.results14]
                    simp -dsimp only [go_sem, ↓reduceIte, hsz, hl38, ht38, hov]
                    exact ret_keep (hRR _ _ ⟨keep_set hK3, cells2, pre, us2, post, rfl, hok38, hg0, hc2, hpre, hok2, hz2⟩)
                · skip
                  simp -dsimp only [go_sem, ↓reduceIte, hw2]
                  refine hKK22 _ _ ?_
                  try clear hKK22 KK22
                  refine Lwp_cond (by simp only [go_sem, ↓reduceIte]; rfl) (fun ht => ?_) (fun hf => ?_)
                  · skip
                    rw [if_pos (.inl rfl)] at hRR
                    refine Lwp_seq fun KK25 hKK25 => ?_
                    refine LregionG [none, none, none, none] (by kernel_rfl) (by kernel_rfl) ?_
                    simp -dsimp only [go_sem, ↓reduceIte, hsz, hS2z, hsz]
                    refine ⟨by decide, ?_⟩
                    refine hKK25 _ _ ?_
                    try clear hKK25 KK25
                    refine Lwp_ret ?_
                    simp only [LThen, LBlock, LPost, Try.results14]
                    simp -dsimp only [go_sem, ↓reduceIte, hsz]
                    refine ⟨by decide, ?_⟩
                    exact ret_keep (hRR _ _ ⟨keep_set hK3, rfl⟩)
                  · skip
                    cases hf

end Go.Proofs.Ytdhngmldmalbbaa
end
section
set_option linter.all false
namespace Go.Proofs.Ytdhngmldmalbbaa
open Go.Lift Go.RowKit Go.Store
set_option linter.unusedSimpArgs false
set_option linter.unusedVariables false

/-! ### What was written is read -/
def minB : Sch → Nat
  | .nil => 0
  | .int r => 8 + minB r
  | .word r => 8 + minB r
  | .bool r => 1 + minB r
  | .str r => 4 + minB r
  | .sl _ r => 4 + minB r
def wfS : Sch → Bool
  | .nil => true
  | .int r => wfS r
  | .word r => wfS r
  | .bool r => wfS r
  | .str r => wfS r
  | .sl e r => Nat.ble 4 (minB e) && wfS e && wfS r
theorem enc_min : ∀ {s : Sch} {us : List LV}, ok s us → minB s ≤ (enc s us).length
  | .nil, [], _ => Nat.zero_le _
  | .int r, .int k v :: us, h => by simp only [ok] at h; have := enc_min h.2.2.2; simp only [minB, enc, List.length_append, be_length]; omega
  | .word r, .int k v :: us, h => by simp only [ok] at h; have := enc_min h.2.2.2; simp only [minB, enc, List.length_append, be_length]; omega
  | .bool r, .bool b :: us, h => by simp only [ok] at h; have := enc_min (s := r) h; simp only [minB, enc, List.length_cons]; omega
  | .str r, .str b :: us, h => by simp only [ok] at h; have := enc_min h.2; simp only [minB, enc, List.length_append, be_length]; omega
  | .sl e r, .sl f es :: us, h => by simp only [ok] at h; have := enc_min h.2.2; simp only [minB, enc, List.length_append, be_length]; omega
theorem fm_min {e : Sch} (he : 4 ≤ minB e) : ∀ {es : List (List LV)}, (∀ x ∈ es, ok e x) → 4 * es.length ≤ (es.flatMap (enc e)).length
  | [], _ => by simp
  | x :: es, h => by
    have h1 := enc_min (h x (List.mem_cons_self ..))
    have h2 := fm_min he (es := es) (fun y hy => h y (List.mem_cons_of_mem _ hy))
    simp only [List.length_cons, List.flatMap_cons, List.length_append]; omega
theorem rTake_app {x r : List UInt8} {k : Nat} (h : x.length = k) : rTake (x ++ r, false) k = (x, (r, false)) := by
  subst h
  rw [rTake_ok (by simp)]
  simp
theorem num_be8 {v : Nat} (h : v < 18446744073709551616) : num (be 8 v) = v := by rw [num_be]; exact Nat.mod_eq_of_lt h
theorem num_be4 {v : Nat} (h : v < 4294967296) : num (be 4 v) = v := by rw [num_be]; exact Nat.mod_eq_of_lt h
theorem s64_u64 {v : Int} (h1 : -9223372036854775808 ≤ v) (h2 : v ≤ 9223372036854775807) : s64 (u64 v) = v := by
  have : IntKind.i64.wrap ((u64 v : Nat) : Int) = v := by
    have e : ((u64 v : Nat) : Int) = v % 18446744073709551616 := by unfold u64; omega
    rw [e]
    simp only [IntKind.wrap, IntKind.signed, IntKind.bits, IntKind.max, IntKind.min]
    simp; omega
  exact this
theorem strOf_data (s : ByteArray) : strOf s.data.toList = s := rfl
theorem walR_enc : ∀ {s : Sch} {us : List LV} {rest : List UInt8}, ok s us → wfS s = true → wal rR s us ((enc s us ++ rest, false) : List UInt8 × Bool) = (nz s us, ((rest, false) : List UInt8 × Bool))
  | .nil, [], rest, _, _ => rfl
  | .int r, .int k v :: us, rest, h, hw => by
    simp only [ok] at h
    obtain ⟨rfl, h1, h2, h⟩ := h
    have e := walR_enc (rest := rest) h hw
    have t : rTake (enc (.int r) (.int .i64 v :: us) ++ rest, false) 8 = (be 8 (u64 v), (enc r us ++ rest, false)) := by
      simp only [enc, List.append_assoc]; exact rTake_app (be_length 8 _)
    show ((LV.int .i64 (s64 (num (rTake (enc (.int r) (.int .i64 v :: us) ++ rest, false) 8).1)) :: (wal rR r us (rTake (enc (.int r) (.int .i64 v :: us) ++ rest, false) 8).2).1, (wal rR r us (rTake (enc (.int r) (.int .i64 v :: us) ++ rest, false) 8).2).2) : List LV × rR.St) = _
    rw [t]; simp only []; rw [e, num_be8 (u64_lt v), s64_u64 h1 h2]; rfl
  | .word r, .int k v :: us, rest, h, hw => by
    simp only [ok] at h
    obtain ⟨rfl, h1, h2, h⟩ := h
    have e := walR_enc (rest := rest) h hw
    have t : rTake (enc (.word r) (.int .u64 v :: us) ++ rest, false) 8 = (be 8 v.toNat, (enc r us ++ rest, false)) := by
      simp only [enc, List.append_assoc]; exact rTake_app (be_length 8 _)
    show ((LV.int .u64 ((num (rTake (enc (.word r) (.int .u64 v :: us) ++ rest, false) 8).1 : Nat) : Int) :: (wal rR r us (rTake (enc (.word r) (.int .u64 v :: us) ++ rest, false) 8).2).1, (wal rR r us (rTake (enc (.word r) (.int .u64 v :: us) ++ rest, false) 8).2).2) : List LV × rR.St) = _
    rw [t]; simp only []; rw [e, num_be8 (by omega), Int.toNat_of_nonneg h1]; rfl
  | .bool r, .bool b :: us, rest, h, hw => by
    simp only [ok] at h
    have e := walR_enc (s := r) (rest := rest) h hw
    have t : rTake (enc (.bool r) (.bool b :: us) ++ rest, false) 1 = ([if b then 1 else 0], (enc r us ++ rest, false)) := by
      simp only [enc, List.cons_append]; exact rTake_app (x := [if b then 1 else 0]) rfl
    show ((LV.bool (num (rTake (enc (.bool r) (.bool b :: us) ++ rest, false) 1).1 == 1) :: (wal rR r us ((rTake (enc (.bool r) (.bool b :: us) ++ rest, false) 1).2.1, (rTake (enc (.bool r) (.bool b :: us) ++ rest, false) 1).2.2 || decide (1 < num (rTake (enc (.bool r) (.bool b :: us) ++ rest, false) 1).1))).1, (wal rR r us ((rTake (enc (.bool r) (.bool b :: us) ++ rest, false) 1).2.1, (rTake (enc (.bool r) (.bool b :: us) ++ rest, false) 1).2.2 || decide (1 < num (rTake (enc (.bool r) (.bool b :: us) ++ rest, false) 1).1))).2) : List LV × rR.St) = _
    rw [t]; simp only []
    have hb : (false || decide (1 < num [if b = true then (1 : UInt8) else 0])) = false := by cases b <;> rfl
    have hb2 : (num [if b = true then (1 : UInt8) else 0] == 1) = b := by cases b <;> rfl
    rw [hb, hb2, e]; rfl
  | .str r, .str b :: us, rest, h, hw => by
    simp only [ok] at h
    have e := walR_enc (rest := rest) h.2 hw
    have t : rTake (enc (.str r) (.str b :: us) ++ rest, false) 4 = (be 4 b.size, (b.data.toList ++ (enc r us ++ rest), false)) := by
      simp only [enc, List.append_assoc]; exact rTake_app (be_length 4 _)
    have t2 : rTake (b.data.toList ++ (enc r us ++ rest), false) b.size = (b.data.toList, (enc r us ++ rest, false)) := rTake_app (by rw [Array.length_toList]; rfl)
    show ((LV.str (strOf (rTake (rTake (enc (.str r) (.str b :: us) ++ rest, false) 4).2 (num (rTake (enc (.str r) (.str b :: us) ++ rest, false) 4).1)).1) :: (wal rR r us (rTake (rTake (enc (.str r) (.str b :: us) ++ rest, false) 4).2 (num (rTake (enc (.str r) (.str b :: us) ++ rest, false) 4).1)).2).1, (wal rR r us (rTake (rTake (enc (.str r) (.str b :: us) ++ rest, false) 4).2 (num (rTake (enc (.str r) (.str b :: us) ++ rest, false) 4).1)).2).2) : List LV × rR.St) = _
    rw [t]; simp only []; rw [num_be4 h.1, t2]; simp only []; rw [e, strOf_data]; rfl
  | .sl e r, .sl f es :: us, rest, h, hw => by
    simp only [ok] at h
    simp only [wfS, Bool.and_eq_true] at hw
    obtain ⟨⟨hm, hwe⟩, hwr⟩ := hw
    have hm4 : 4 ≤ minB e := Nat.le_of_ble_eq_true hm
    have er := walR_enc (rest := rest) h.2.2 hwr
    have hN : ∀ (es : List (List LV)) (rest : List UInt8), (∀ x ∈ es, ok e x) → walN (wal rR e) (zs e) es.length es ((es.flatMap (enc e) ++ rest, false) : List UInt8 × Bool) = (es.map (nz e), ((rest, false) : List UInt8 × Bool)) := by
      intro es
      induction es with
      | nil => intro rest _; rfl
      | cons x es ih =>
        intro rest hx
        have e1 := walR_enc (rest := es.flatMap (enc e) ++ rest) (hx x (List.mem_cons_self ..)) hwe
        have e2 := ih rest (fun y hy => hx y (List.mem_cons_of_mem _ hy))
        simp only [List.flatMap_cons, List.append_assoc, List.length_cons, walN, List.headD_cons, List.tail_cons, List.map_cons]
        rw [e1]; simp only []; rw [e2]; rfl
    have t : rTake (enc (.sl e r) (.sl f es :: us) ++ rest, false) 4 = (be 4 es.length, (es.flatMap (enc e) ++ (enc r us ++ rest), false)) := by
      simp only [enc, List.append_assoc]; exact rTake_app (be_length 4 _)
    have hc : rCount (enc (.sl e r) (.sl f es :: us) ++ rest, false) = (es.length, (es.flatMap (enc e) ++ (enc r us ++ rest), false)) := by
      unfold rCount
      rw [t]
      simp only []
      rw [num_be4 h.1, if_neg]
      have := fm_min hm4 h.2.1
      simp only [List.length_append, Bool.false_eq_true, false_or]
      omega
    show ((LV.sl false (walN (wal rR e) (zs e) (rCount (enc (.sl e r) (.sl f es :: us) ++ rest, false)).1 es (rCount (enc (.sl e r) (.sl f es :: us) ++ rest, false)).2).1 :: (wal rR r us (walN (wal rR e) (zs e) (rCount (enc (.sl e r) (.sl f es :: us) ++ rest, false)).1 es (rCount (enc (.sl e r) (.sl f es :: us) ++ rest, false)).2).2).1, (wal rR r us (walN (wal rR e) (zs e) (rCount (enc (.sl e r) (.sl f es :: us) ++ rest, false)).1 es (rCount (enc (.sl e r) (.sl f es :: us) ++ rest, false)).2).2).2) : List LV × rR.St) = _
    rw [hc]; simp only []; rw [hN es (enc r us ++ rest) h.2.1]; simp only []; rw [er]; rfl
theorem framed_len (body : List UInt8) : (framed body).length = body.length + 8 := by simp [framed, be_length]; omega
theorem b8_nat {k : Int} (h0 : 0 ≤ k) (h : k < 256) : ((b8 k).toNat : Int) = k := by
  unfold b8
  rw [UInt8.toNat_ofNat']
  omega
theorem wf_kSch {k : Int} {off : Nat} {s : Sch} (hk : kSch k = some (off, s)) : wfS s = true := by
  rcases kSch_off hk with ⟨-, rfl, rfl⟩ | ⟨-, rfl, rfl⟩ | ⟨-, rfl, rfl⟩ | ⟨-, rfl, rfl⟩ <;> rfl
/-- an entry that was written is read, whatever follows. -/
theorem decS_framed {k : Int} {off : Nat} {s : Sch} {u : List LV} {body rest : List UInt8} (hk : kSch k = some (off, s)) (hok : ok s u) (hb : body = b8 k :: enc s u) (hl : body.length + 8 ≤ 1048576) : decS (framed body ++ rest) = .inr (k, off, s, nz s u, body.length + 8) := by
  have hk14 : 0 ≤ k ∧ k < 256 := by rcases kSch_off hk with ⟨rfl, -, -⟩ | ⟨rfl, -, -⟩ | ⟨rfl, -, -⟩ | ⟨rfl, -, -⟩ <;> decide
  have hN4 : num (be 4 body.length) = body.length := num_be4 (by omega)
  have e4 : (framed body ++ rest).take 4 = be 4 body.length := by
    simp only [framed, List.append_assoc]; exact List.take_left' (be_length 4 _)
  have eN : (framed body ++ rest).take (body.length + 4) = be 4 body.length ++ body := by
    simp only [framed, List.append_assoc]
    rw [← List.append_assoc]
    exact List.take_left' (by simp [be_length]; omega)
  have eD : ((framed body ++ rest).drop (body.length + 4)).take 4 = be 4 (chkN (be 4 body.length ++ body)) := by
    have h1 : (framed body ++ rest).drop (body.length + 4) = be 4 (chkN (be 4 body.length ++ body)) ++ rest := by
      simp only [framed, List.append_assoc]
      rw [← List.append_assoc]
      exact List.drop_left' (by simp [be_length]; omega)
    rw [h1]; exact List.take_left' (be_length 4 _)
  have hlen : (framed body ++ rest).length = body.length + 8 + rest.length := by rw [List.length_append, framed_len]
  have eG : (framed body ++ rest).getD 4 0 = b8 k := by
    simp only [framed, List.append_assoc]
    rw [List.getD_eq_getElem?_getD, List.getElem?_append_right (by simp [be_length]), be_length, hb]
    rfl
  have ep : (be 4 body.length ++ body).drop 5 = enc s u := by
    rw [show (5 : Nat) = (be 4 body.length).length + 1 by rw [be_length], List.drop_append, hb]
    simp
  have hw := walR_enc (rest := []) hok (wf_kSch hk)
  have hz := zs_walR (st := ((enc s u, false) : List UInt8 × Bool)) hok (ok_zs (s := s))
  rw [List.append_nil, hz] at hw
  unfold decS
  rw [e4, hN4, hlen, eN, eD, num_be4 (by have := chkN_lt (be 4 body.length ++ body); omega), eG, b8_nat hk14.1 hk14.2, hk, ep]
  have hbl : body.length ≠ 0 := by rw [hb]; simp
  rw [if_neg (by omega), if_neg (by omega), if_neg (by omega), if_neg (by simp), if_neg hbl]
  simp only []
  rw [hw]
  simp only [List.length_nil, Nat.lt_irrefl, or_false, Bool.false_eq_true, if_false]

end Go.Proofs.Ytdhngmldmalbbaa
end
section
set_option linter.all false
namespace Go.Proofs.Ytdhngmldmalbbaa
open Go.Lift Go.RowKit Go.Store
set_option linter.unusedSimpArgs false
set_option linter.unusedVariables false

/-! ### Entries that were made are small -/
theorem fm_max {α β : Type} {f : α → List β} {m : Nat} : ∀ {es : List α}, (∀ e ∈ es, (f e).length ≤ m) → (es.flatMap f).length ≤ m * es.length
  | [], _ => by simp
  | x :: es, h => by
    have h1 := h x (List.mem_cons_self ..)
    have h2 := fm_max (f := f) (m := m) (es := es) (fun y hy => h y (List.mem_cons_of_mem _ hy))
    simp only [List.flatMap_cons, List.length_append, List.length_cons, Nat.mul_add]; omega
theorem rd_len {e : List LV} (h : ok sRd e) : (enc sRd e).length ≤ 16 := by
  obtain ⟨a, us, rfl, ha, h⟩ := ok_int h
  obtain ⟨b, us, rfl, hb, h⟩ := ok_int h
  rw [ok_nil h]; simp [enc, sRd, be_length]
theorem i_len {e : List LV} (h : ok sI e) : (enc sI e).length ≤ 8 := by
  obtain ⟨a, us, rfl, ha, h⟩ := ok_int h
  rw [ok_nil h]; simp [enc, sI, be_length]
theorem rep_len {us : List LV} (h : RepOk us) : (enc sRep us).length ≤ 100 := by
  obtain ⟨k, s, t, f, x, y, z, fl, es, rfl, -, hs, -, -, -, -, -, hn, he⟩ := h
  have := fm_max (f := enc sRd) (m := 16) (es := es) (fun e h => rd_len (he e h))
  simp only [enc, sRep, List.length_append, be_length, List.append_nil, Array.length_toList]
  have e1 : s.data.size = s.size := rfl
  omega
theorem cat_len (a1 a2 a3 a4 a5 a6 a7 a8 a9 a10 a11 a12 a13 a14 a15 a16 a17 : Nat) (l1 l2 l3 l4 l5 l6 l7 l8 : List UInt8) (h1 : l1.length ≤ 200) (h2 : l2.length ≤ 200) (h3 : l3.length ≤ 200) (h4 : l4.length ≤ 200) (h5 : l5.length ≤ 200) (h6 : l6.length ≤ 600) (h7 : l7.length ≤ 300) (h8 : l8.length ≤ 300) :
    (be 8 a1 ++ (be 8 a2 ++ (be 8 a3 ++ (be 4 a4 ++ (l1 ++ (be 4 a5 ++ (l2 ++ (be 4 a6 ++ (l3 ++ (be 4 a7 ++ (l4 ++ (be 8 a8 ++ (be 8 a9 ++ (be 8 a10 ++ (be 8 a11 ++ (be 8 a12 ++ (be 8 a13 ++ (be 4 a14 ++ (l5 ++ (be 4 a15 ++ (l6 ++ (be 4 a16 ++ (l7 ++ (be 4 a17 ++ (l8 ++ []))))))))))))))))))))))))).length ≤ 4000 := by
  simp only [List.length_append, be_length, List.length_nil]
  simp only [← Nat.add_assoc]
  omega
theorem cyc_len2 (nm tm ct rd hi lo an ra fq : Int) (fr fc fl' b1 b2 b3 g1 g2 : Bool) (er ec el v1s v2s v3s d1 d2 : List (List LV)) (h1 : (er.flatMap (enc sRep)).length ≤ 200) (h2 : (v1s.flatMap (enc sI)).length ≤ 200) (h3 : (v2s.flatMap (enc sI)).length ≤ 200) (h4 : (v3s.flatMap (enc sI)).length ≤ 200) (h5 : (d1.flatMap (enc sI)).length ≤ 200) (h6 : (d2.flatMap (enc sI)).length ≤ 600) (h7 : (ec.flatMap (enc (.sl sCnt .nil))).length ≤ 300) (h8 : (el.flatMap (enc sStr)).length ≤ 300) :
    (enc sCyc [V nm, V tm, V ct, .sl fr er, .sl b1 v1s, .sl b2 v2s, .sl b3 v3s, V hi, .int .u64 lo, V an, V ra, V rd, V fq, .sl g1 d1, .sl g2 d2, .sl fc ec, .sl fl' el]).length ≤ 4000 := by
  have hE : enc sCyc [V nm, V tm, V ct, .sl fr er, .sl b1 v1s, .sl b2 v2s, .sl b3 v3s, V hi, .int .u64 lo, V an, V ra, V rd, V fq, .sl g1 d1, .sl g2 d2, .sl fc ec, .sl fl' el] = be 8 (u64 nm) ++ (be 8 (u64 tm) ++ (be 8 (u64 ct) ++ (be 4 er.length ++ (er.flatMap (enc sRep) ++ (be 4 v1s.length ++ (v1s.flatMap (enc sI) ++ (be 4 v2s.length ++ (v2s.flatMap (enc sI) ++ (be 4 v3s.length ++ (v3s.flatMap (enc sI) ++ (be 8 (u64 hi) ++ (be 8 lo.toNat ++ (be 8 (u64 an) ++ (be 8 (u64 ra) ++ (be 8 (u64 rd) ++ (be 8 (u64 fq) ++ (be 4 d1.length ++ (d1.flatMap (enc sI) ++ (be 4 d2.length ++ (d2.flatMap (enc sI) ++ (be 4 ec.length ++ (ec.flatMap (enc (.sl sCnt .nil)) ++ (be 4 el.length ++ (el.flatMap (enc sStr) ++ [])))))))))))))))))))))))) := by
    simp only [enc, sCyc, sAna, sHist, Sch.app]
  rw [hE]
  exact cat_len _ _ _ _ _ _ _ _ _ _ _ _ _ _ _ _ _ _ _ _ _ _ _ _ _ h1 h2 h3 h4 h5 h6 h7 h8
theorem cyc_len {us : List LV} (h : CycOk us) : (enc sCyc us).length ≤ 4000 := by
  obtain ⟨nm, tm, ct, rd, hi, lo, an, ra, fq, fr, fc, fl', b1, b2, b3, g1, g2, er, ec, el, v1s, v2s, v3s, d1, d2, rfl, -, -, -, -, -, -, -, -, -, ⟨n1, o1⟩, ⟨n2, o2⟩, ⟨n3, o3⟩, ⟨n4, o4⟩, ⟨n5, o5⟩, ⟨n6, o6⟩, ⟨n7, o7⟩, ⟨n8, o8⟩⟩ := h
  have mul : ∀ {x m n k : Nat}, x ≤ m * n → n ≤ k → x ≤ m * k := fun h1 h2 => Nat.le_trans h1 (Nat.mul_le_mul_left _ h2)
  refine cyc_len2 _ _ _ _ _ _ _ _ _ _ _ _ _ _ _ _ _ _ _ _ _ _ _ _ _ ?_ ?_ ?_ ?_ ?_ ?_ ?_ ?_
  · exact mul (fm_max (m := 100) fun e h => rep_len (o1 e h)) n1
  · exact Nat.le_trans (mul (fm_max (m := 8) fun e h => i_len (o2 e h)) n2) (by decide)
  · exact Nat.le_trans (mul (fm_max (m := 8) fun e h => i_len (o3 e h)) n3) (by decide)
  · exact Nat.le_trans (mul (fm_max (m := 8) fun e h => i_len (o4 e h)) n4) (by decide)
  · exact Nat.le_trans (mul (fm_max (m := 8) fun e h => i_len (o5 e h)) n5) (by decide)
  · exact Nat.le_trans (mul (fm_max (m := 8) fun e h => i_len (o6 e h)) n6) (by decide)
  · refine Nat.le_trans (mul (fm_max (m := 100) fun e h => ?_) n7) (by decide)
    obtain ⟨f, l, rfl, hl, hx⟩ := o7 e h
    have h9 := fm_max (f := enc sCnt) (m := 30) (es := l) (fun x hxl => by
      obtain ⟨s, t, r, rfl, hs⟩ := (hx x hxl).2
      simp only [enc, sCnt, List.length_append, be_length, List.append_nil, Array.length_toList]
      have e1 : s.data.size = s.size := rfl
      omega)
    simp only [enc, List.length_append, be_length, List.append_nil]; omega
  · refine Nat.le_trans (mul (fm_max (m := 10) fun e h => ?_) n8) (by decide)
    obtain ⟨s, rfl, hs⟩ := o8 e h
    simp only [enc, sStr, List.length_append, be_length, List.append_nil, Array.length_toList]
    have e1 : s.data.size = s.size := rfl
    omega
theorem ent_body {us : List LV} (h : EntOk us) : ∃ body, bodyE us = some body ∧ body.length ≤ 5000 := by
  obtain ⟨k, now, st, nm, it, pe, cy, rfl, ⟨k1, k2⟩, -, -, hnm, ⟨rep, co, ar, rfl, hrep, -, -⟩, ⟨fr, cl, f, x, y, z, fl, es, rfl, -, -, -, -, -, hn, he⟩, hcy⟩ := h
  have hr := rep_len hrep
  have hc := cyc_len hcy
  obtain ⟨k0, s0, t0, f0, x0, y0, z0, fl0, es0, rfl, -⟩ := hrep
  have hr' : (enc sRep [V k0, .str s0, V t0, V f0, V x0, V y0, V z0, .sl fl0 es0]).length ≤ 100 := hr
  clear hr
  have hb := bodyE_log (k := k) (now := now) (k0 := k0) (s0 := s0) (t0 := t0) (f0 := f0) (x0 := x0) (y0 := y0) (z0 := z0) (fl0 := fl0) (es0 := es0) (co := co) (ar := ar) (st := st) (nm := nm) (fr := fr) (cl := cl) (pf := f) (px := x) (py := y) (pz := z) (fb := fl) (eb := es) (cy := cy)
  have hu : [V k, V now] ++ ([V k0, .str s0, V t0, V f0, V x0, V y0, V z0, .sl fl0 es0] ++ [V co, V ar]) ++ [V st, .str nm] ++ [V fr, .bool cl, V f, V x, V y, V z, .sl fl es] ++ cy = logL k now k0 s0 t0 f0 x0 y0 z0 fl0 es0 co ar st nm fr cl f x y z fl es cy := rfl
  rw [hu, hb]
  have hrd := fm_max (f := enc sRd) (m := 16) (es := es) (fun e h => rd_len (he e h))
  by_cases h1 : k = 1
  · rw [if_pos h1]; exact ⟨_, rfl, by simp [be_length]⟩
  · rw [if_neg h1]
    by_cases h2 : k = 2
    · rw [if_pos h2]; exact ⟨_, rfl, by
      simp only [List.length_cons, List.length_append, be_length]
      generalize (enc sRep [V k0, .str s0, V t0, V f0, V x0, V y0, V z0, .sl fl0 es0]).length = m at *
      omega⟩
    · rw [if_neg h2]
      by_cases h3 : k = 3
      · rw [if_pos h3]
        refine ⟨_, rfl, ?_⟩
        simp only [List.length_cons, List.length_append, be_length, Array.length_toList]
        have e1 : nm.data.size = nm.size := rfl
        omega
      · rw [if_neg h3, if_pos (by omega)]
        exact ⟨_, rfl, by simp only [List.length_cons]; omega⟩
theorem enc_nz : ∀ {s : Sch} {us : List LV}, ok s us → enc s (nz s us) = enc s us
  | .nil, [], _ => rfl
  | .int r, .int k v :: us, h => by simp only [ok] at h; simp only [nz, enc, enc_nz h.2.2.2]
  | .word r, .int k v :: us, h => by simp only [ok] at h; simp only [nz, enc, enc_nz h.2.2.2]
  | .bool r, .bool b :: us, h => by simp only [ok] at h; simp only [nz, enc, enc_nz (s := r) h]
  | .str r, .str b :: us, h => by simp only [ok] at h; simp only [nz, enc, enc_nz h.2]
  | .sl e r, .sl f es :: us, h => by
    simp only [ok] at h
    have : ∀ es : List (List LV), (∀ x ∈ es, ok e x) → (es.map (nz e)).flatMap (enc e) = es.flatMap (enc e) := by
      intro es
      induction es with
      | nil => intro _; rfl
      | cons x es ih => intro hx; rw [List.map_cons, List.flatMap_cons, List.flatMap_cons, enc_nz (hx x (List.mem_cons_self ..)), ih fun y hy => hx y (List.mem_cons_of_mem _ hy)]
    simp only [nz, enc, List.length_map, this es h.2.1, enc_nz h.2.2]
/-- an entry that is there to be written: its kind, what is walked, its body. -/
def Fits (us : List LV) (k : Int) (off : Nat) (s : Sch) (u : List LV) (body : List UInt8) : Prop :=
  ok sLog us ∧ us.getD 0 .any = V k ∧ kSch k = some (off, s) ∧ ok s u ∧ body = b8 k :: enc s u ∧ bodyE us = some body ∧ body.length ≤ 5000
theorem ent_fits {us : List LV} (h : EntOk us) : ∃ k off s u body, Fits us k off s u body := by
  obtain ⟨body, hb, hl⟩ := ent_body h
  have hok := EntOk_ok h
  obtain ⟨us', hus⟩ := log_kind hok
  obtain ⟨k, hk⟩ : ∃ k, intOf (us.getD 0 .any) = k := ⟨_, rfl⟩
  rw [hk] at hus
  have g0 : us.getD 0 .any = V k := by rw [hus]; rfl
  cases hks : kSch k with
  | none => rw [bodyE_none g0 hks] at hb; cases hb
  | some p =>
    obtain ⟨off, s⟩ := p
    obtain ⟨pre, u, post, hcells, hpre, hu, -, -⟩ := log_split hok (off := off) (s := s) (by rw [hk]; exact hks)
    have hE := bodyE_some g0 hks hcells hpre hu
    rw [hb] at hE; cases hE
    exact ⟨k, off, s, u, _, hok, g0, hks, hu, rfl, hb, hl⟩
/-- what was read of what was written is the same. -/
theorem dec_same {us : List LV} {k : Int} {off : Nat} {s : Sch} {u : List LV} {body rest : List UInt8} (h : Fits us k off s u body) {r : LV} (hd : DecO (decS (framed body ++ rest)) r) :
    ∃ vs, r = .tup [.agg vs, V (framed body).length, V 0] ∧ ok sLog vs ∧ sameE us vs = true ∧ sameE vs us = true ∧ bodyE vs = some body := by
  obtain ⟨hok, g0, hks, hu, rfl, hb, hl⟩ := h
  rw [decS_framed hks hu rfl (by omega)] at hd
  obtain ⟨vs, pre, u', post, rfl, okv, gv, hvs, hpre, hu', hz⟩ := hd
  have hbv : bodyE vs = some (b8 k :: enc s u) := by
    rw [bodyE_some gv hks hvs hpre hu', ← enc_nz hu', hz, enc_nz hu]
  refine ⟨vs, by rw [framed_len], okv, ?_, ?_, hbv⟩
  · unfold sameE; rw [g0, gv, hb, hbv]; simp
  · unfold sameE; rw [g0, gv, hb, hbv]; simp

end Go.Proofs.Ytdhngmldmalbbaa
end
section
set_option linter.all false
namespace Go.Proofs.Ytdhngmldmalbbaa
open Go.Lift Go.RowKit Go.Store
set_option linter.unusedSimpArgs false
set_option linter.unusedVariables false

/-- a row that is handed over and written no more. -/
theorem LCalls_frz {P : Program} {f : FuncId} {args : List LV} {S : LS} {R : LV → LS → Prop} {id n : Nat} {es : List (List LV)} (hid : S[id]? = some (some (n, es))) (h : LCalls P f (.sl false es :: args) (S.set id none) R) : LCalls P f (.ref id 0 es.length :: args) S R := by
  refine ⟨h.1, fun B w0 K φ w vs hS hv => ?_⟩
  cases hv with
  | cons hx hs =>
    obtain ⟨K', h1, h2, h3⟩ := SimS.freezeL [id] hS
    have hr := frzK_sound (keep := fun j => j != id) (S := S) (fun j hj => by simp at hj; subst hj; exact h3 _ (by simp)) 1 (hx.mono h1 (List.prefix_refl _))
    have e : frzK (fun j => j != id) S 1 (.ref id 0 es.length) = .sl false es := by
      simp only [frzK, bne_self_eq_false, hid]
      simp [frzK]
    rw [e] at hr
    refine (h.2 B w0 K' φ w _ h2 (.cons hr (hs.mono h1 (List.prefix_refl _)))).mono fun e w' => ?_
    rintro ⟨v, he, u, S', K2, φ', hk, g1, g2, g3, g4⟩
    exact ⟨v, he, u, S', K2, φ', hk, Know.le_trans h1 g1, g2, g3, g4⟩
/-- bytes that a call takes. -/
theorem LCalls_bytes {f : FuncId} {args : List LV} {S : LS} {R : LV → LS → Prop} {u : LV} {bs : List UInt8} (hu : Rd S u bs) (h : ∀ (fl : Bool) (S1 : LS), S1.length = S.length → (∀ j, j ∉ rowIds u → S1[j]? = S[j]?) → LCalls Try.prog f (.sl fl (bs.map u8c) :: args) S1 R) : LCalls Try.prog f (u :: args) S R := by
  rcases hu with ⟨fl, rfl⟩ | ⟨id, rfl, hid⟩
  · exact h fl S rfl (fun _ _ => rfl)
  · have := LCalls_frz (args := args) hid (h false _ (by simp) (fun j hj => by rw [List.getElem?_set_ne (by simp [rowIds] at hj; omega)]))
    rwa [List.length_map] at this
theorem rdRow {S : LS} {u : LV} {bs : List UInt8} (h : Rd S u bs) : ∀ (N : Nat) (c : Code) (Q : Exit → Env → LS → Prop) (env : Env) (t : Nat), Nat.blt t N = true → env t = some u → (∀ (full : Bool) (S1 : LS), S1.length = S.length → (∀ j, j ∉ rowIds u → S1[j]? = S[j]?) → Lwp Try.prog N c Q (env.put t (.sl full (bs.map u8c))) S1) → Lwp Try.prog N c Q env S := by
  intro N c Q env t ht hu hk
  rcases h with ⟨fl, rfl⟩ | ⟨id, rfl, hid⟩
  · have e : env.put t (.sl fl (bs.map u8c)) = env := by
      funext x
      simp only [Env.put]
      split
      · rename_i e; rw [e, hu]
      · rfl
    have := hk fl S rfl (fun _ _ => rfl)
    rwa [e] at this
  · refine Lwp_frzRowS (lo := 0) (sz := 1) (es := bs.map u8c) t _ ht hu ⟨fun e he => ?_, .inr ⟨id, Nat.zero_le _, by rw [List.length_map], hid⟩⟩ hk
    obtain ⟨y, _, rfl⟩ := List.mem_map.1 he; rfl

set_option maxHeartbeats 400000 in
theorem Awake_ok {S : LS} : LCalls Try.prog 6 [] S (fun r S' => r = .bool true ∧ Keeps S S' []) := by
  refine LCalls_introK 0 Try.func6 rfl (by kernel_rfl) rfl fun RR hRR => ?_
  have hE : ok sLog (V 1 :: V 9 :: (zs sLog).drop 2) := ⟨rfl, by decide, by decide, rfl, by decide, by decide, (ok_zs (s := sLog)).2.2.2.2.2.2⟩
  have hB : bodyE (V 1 :: V 9 :: (zs sLog).drop 2) = some (b8 1 :: be 8 9) := by decide
  refine Lwp_seq fun KK0 hKK0 => ?_
  refine LregionG [none] (by kernel_rfl) (by kernel_rfl) ?_
  simp -dsimp only [go_sem, ↓reduceIte]
  repeat with_reducible refine And.intro (by first | omega | decide) ?_
  refine hKK0 _ _ ?_
  try clear hKK0 KK0
  refine Lwp_seq fun KK1 hKK1 => ?_
  refine LregionG [none, none, none, none, none, none, none] (by kernel_rfl) (by kernel_rfl) ?_
  simp -dsimp only [go_sem, ↓reduceIte]
  refine LCalls.k (SEncode_ok (V 1 :: V 9 :: (zs sLog).drop 2) hE (fun b hb => by rw [hB] at hb; cases hb; decide)) ?_
  rintro r S1 hr
  unfold EncR at hr
  rw [hB] at hr
  simp only [] at hr
  rw [if_pos (by decide)] at hr
  obtain ⟨u, rfl, hN⟩ := hr
  obtain ⟨fb, hfb⟩ : ∃ x, x = framed (b8 1 :: be 8 9) := ⟨_, rfl⟩
  have hfl : fb.length = 17 := by rw [hfb, framed_len]; rfl
  have hrd := hN.acc.rd
  rw [← hfb] at hrd
  simp -dsimp only [go_sem, ↓reduceIte]
  refine hKK1 _ _ ?_
  try clear hKK1 KK1
  refine Lwp_seq fun KK2 hKK2 => ?_
  refine rdRow hrd _ _ _ _ 1 rfl (by simp only [go_sem, ↓reduceIte]) fun full S2 hl2 hK2 => ?_
  have hK12 : Keeps S S2 [] := ⟨by rw [hl2]; exact hN.2.1.1, fun j hj _ => (hK2 j (fun h => (hN.2.2.1 j h).elim (by simp [rowIds]) (fun h => by omega))).trans (hN.2.1.2 j hj (by simp [rowIds]))⟩
  refine LregionG [none, none, none, none, none, none, none, none, none, none] (by kernel_rfl) (by kernel_rfl) ?_
  simp -dsimp only [go_sem, ↓reduceIte]
  refine LCalls.k (SDecode_ok fb full (by rw [hfl]; decide)) ?_
  rintro r S3 ⟨hK3, hd⟩
  have hdd : decS fb = .inr (1, 1, sI, nz sI [V 9], 17) := by
    have := decS_framed (k := 1) (off := 1) (s := sI) (u := [V 9]) (body := b8 1 :: be 8 9) (rest := []) rfl ⟨rfl, by decide, by decide, trivial⟩ rfl (by decide)
    rw [List.append_nil, ← hfb] at this
    exact this
  rw [hdd] at hd
  obtain ⟨vs, pre, u', post, rfl, okv, gv, hvs, hpre, hu', hz⟩ := hd
  have hv1 : vs.getD 1 .any = V 9 := by
    obtain ⟨x, us3, rfl, -, h3⟩ := ok_int hu'
    obtain rfl := ok_nil h3
    have hx : V x = V 9 := by simpa [nz, sI] using hz
    rw [hvs, hx, List.getD_eq_getElem?_getD, List.getElem?_append_right (by omega), hpre]
    rfl
  have hov : ∀ cs : List LV, cs.length = 38 → ovr cs 0 vs = vs := fun cs h => ovr_all (by rw [okLog_len okv, h])
  have h17 : ((17 : Nat) : Int) = 17 := rfl
  have hvl := okLog_len okv
  have hvt : vs.take 38 = vs := List.take_of_length_le (by omega)
  have hK := hK12.trans hK3 (ids'' := []) (fun _ _ h => h.elim id id)
  simp -dsimp only [go_sem, ↓reduceIte, hvl]
  refine hKK2 _ _ ?_
  try clear hKK2 KK2
  refine Lwp_seq fun KK3 hKK3 => ?_
  refine LregionG [none, none, none, some (19, true), some (19, true), none, none, some (23, true), some (23, true), some (23, true), none, none, some (28, true), some (28, true), none, none, some (32, true), some (32, true), some (32, true), none, none] (by kernel_rfl) (by kernel_rfl) ?_
  simp -dsimp only [go_sem, ↓reduceIte, hfl, hvl, hv1, hvt, h17, hov, List.length_cons, List.length_nil]
  repeat with_reducible refine And.intro (by first | omega | decide) ?_
  refine hKK3 _ _ ?_
  try clear hKK3 KK3
  refine Lwp_ret ?_
  simp only [LThen, LBlock, LPost, Try.results6]
  simp -dsimp only [go_sem, ↓reduceIte]
  exact ret_keep (hRR _ _ ⟨rfl, hK.trans (Keeps.app _ _ []) (fun _ _ h => h.elim id id)⟩)

end Go.Proofs.Ytdhngmldmalbbaa
end
section
set_option linter.all false
namespace Go.Proofs.Ytdhngmldmalbbaa
open Go.Lift Go.RowKit Go.Store
set_option linter.unusedSimpArgs false
set_option linter.unusedVariables false
set_option maxHeartbeats 400000 in
theorem Returns_ok {S : LS} (f0 f1 : Bool) (xs ys : List UInt8) (hy : ys.length ≤ 140737488350000) : LCalls Try.prog 4 [.sl f0 (xs.map u8c), .sl f1 (ys.map u8c)] S (fun r S' => r = .bool true) := by
  refine LCalls_introK 0 Try.func4 rfl (by kernel_rfl) rfl fun RR hRR => ?_
  refine Lwp_seq fun KK0 hKK0 => ?_
  refine LregionG [none] (by kernel_rfl) (by kernel_rfl) ?_
  simp -dsimp only [go_sem, ↓reduceIte]
  repeat with_reducible refine And.intro (by first | omega | decide) ?_
  refine hKK0 _ _ ?_
  try clear hKK0 KK0
  refine Lwp_seq fun KK1 hKK1 => ?_
  refine Lwp_seq fun KK2 hKK2 => ?_
  refine LregionG [none, none] (by kernel_rfl) (by kernel_rfl) ?_
  simp -dsimp only [go_sem, ↓reduceIte]
  refine LCalls.k Awake_ok ?_
  rintro _ S1 ⟨rfl, hK1⟩
  simp -dsimp only [go_sem, ↓reduceIte]
  refine hKK2 _ _ ?_
  try clear hKK2 KK2
  refine Lwp_cond (by simp only [go_sem, ↓reduceIte]; rfl) (fun ht => ?_) (fun hf => ?_)
  · skip
    cases ht
  · skip
    refine Lwp_skip ?_
    try simp -dsimp only [go_sem, ↓reduceIte]
    refine hKK1 _ _ ?_
    try clear hKK1 KK1
    refine Lwp_seq fun KK3 hKK3 => ?_
    refine LregionG [none, none, none, none, none] (by kernel_rfl) (by kernel_rfl) ?_
    simp -dsimp only [go_sem, ↓reduceIte]
    refine LCalls.k (New_ok f0 xs 200 (by decide)) ?_
    rintro _ _ ⟨fn, ns, hns, rfl, rfl⟩
    simp -dsimp only [go_sem, ↓reduceIte]
    refine LCalls.k (EntryC _ S1.length fn ns 0 hns (by simp)) ?_
    rintro _ _ ⟨a2, rfl, us, rfl, hEnt⟩
    obtain ⟨k, off, s, u, body, hF⟩ := ent_fits hEnt
    have hok := hF.1
    have hlen := okLog_len hok
    have htk : us.take 38 = us := List.take_of_length_le (by omega)
    have hov : ∀ cs : List LV, cs.length = 38 → ovr cs 0 us = us := fun cs h => ovr_all (by rw [hlen, h])
    simp -dsimp only [go_sem, ↓reduceIte, hlen, htk, hov, List.length_cons, List.length_nil]
    refine hKK3 _ _ ?_
    try clear hKK3 KK3
    refine Lwp_seq fun KK4 hKK4 => ?_
    refine Lwp_freezeP 5 (S1.length + 1) 0 0 38 [us] us rfl (by simp only [go_sem, ↓reduceIte]) (by simp) rfl ?_
    refine Lwp_store (fun _ => True) trivial ?_
    rintro S2 -
    refine LregionG [none, none, none, none, none, none, none] (by kernel_rfl) (by kernel_rfl) ?_
    simp -dsimp only [go_sem, ↓reduceIte, hlen, htk]
    refine LCalls.k (SEncode_ok us hok (fun b hb => by rw [hF.2.2.2.2.2.1] at hb; cases hb; have := hF.2.2.2.2.2.2; omega)) ?_
    rintro r S3 hr
    unfold EncR at hr
    rw [hF.2.2.2.2.2.1] at hr
    have hbl := hF.2.2.2.2.2.2
    simp only [] at hr
    rw [if_pos (by omega)] at hr
    obtain ⟨u1, rfl, hN⟩ := hr
    have hrd := hN.acc.rd
    obtain ⟨fb, hfb⟩ : ∃ x, x = framed body := ⟨_, rfl⟩
    have hfl : fb.length ≤ 5008 := by rw [hfb, framed_len]; omega
    rw [← hfb] at hrd
    clear hN
    simp -dsimp only [go_sem, ↓reduceIte]
    refine hKK4 _ _ ?_
    try clear hKK4 KK4
    refine Lwp_seq fun KK5 hKK5 => ?_
    refine rdRow hrd _ _ _ _ 6 rfl (by simp only [go_sem, ↓reduceIte]) fun full S9 _ _ => ?_
    have hrd9 : Rd S9 (.sl full (fb.map u8c)) fb := .inl ⟨_, rfl⟩
    refine LregionG [none, none, none, none, none, none, none, none, none, none, none, none, none] (by kernel_rfl) (by kernel_rfl) ?_
    simp -dsimp only [go_sem, ↓reduceIte]
    repeat with_reducible refine And.intro (by first | omega | decide | assumption) ?_
    refine PutR.apd (zs := fb) (NewR.nil S9) rfl (by simp only [go_sem]; rfl) (by simp only [go_sem]; first | exact ⟨rfl, rfl⟩ | exact ⟨rfl, rfl, rfl⟩ | rfl) (by simp only [go_sem]) hrd9.src.1 hrd9.src.2 (by simp only [List.length_nil]; omega) ?_
    rintro r2 S4 hp
    simp only [List.nil_append] at hp
    simp -dsimp only [go_sem, ↓reduceIte]
    repeat with_reducible refine And.intro (by first | omega | decide | assumption) ?_
    refine PutR.apd (zs := ys) hp rfl (by simp only [go_sem]; rfl) (by simp only [go_sem]; first | exact ⟨rfl, rfl⟩ | exact ⟨rfl, rfl, rfl⟩ | rfl) (by simp only [go_sem]) (by simp only [go_sem, ↓reduceIte]) (by simp only [go_sem, ↓reduceIte]) (by simp only [List.length_nil]; omega) ?_
    rintro r3 S5 hp3
    simp -dsimp only [go_sem, ↓reduceIte]
    refine LCalls.k (LCalls_bytes (R := fun r _ => DecO (decS (fb ++ ys)) r) (show Rd S5 r3 (fb ++ ys) from hp3.1.rd) (fun fl S6 hl6 hK6 => (SDecode_ok (fb ++ ys) fl (by simp only [List.length_append]; omega)).mono fun r S' h => h.2)) ?_
    rintro r S6 hd
    rw [hfb] at hd
    obtain ⟨vs, rfl, okv, sm1, sm2, hbv⟩ := dec_same hF hd
    rw [← hfb]
    have hvl := okLog_len okv
    have hvt : vs.take 38 = vs := List.take_of_length_le (by omega)
    have hovv : ∀ cs : List LV, cs.length = 38 → ovr cs 0 vs = vs := fun cs h => ovr_all (by rw [hvl, h])
    simp -dsimp only [go_sem, ↓reduceIte, hvl, hovv, List.length_cons, List.length_nil]
    refine hKK5 _ _ ?_
    try clear hKK5 KK5
    refine Lwp_seq fun KK6 hKK6 => ?_
    refine LregionG [none, none, none, some (32, true), some (32, true), none, none, some (36, true), some (36, true), some (36, true), some (36, true), none, none, some (42, true), some (42, true), some (42, true), none, none, some (47, true), some (47, true), some (47, true), none, none] (by kernel_rfl) (by kernel_rfl) ?_
    simp -dsimp only [go_sem, ↓reduceIte, hlen, htk, hvl, hvt]
    repeat with_reducible refine And.intro (by first | omega | decide | assumption) ?_
    refine LCalls.k (Same_ok us vs hok okv (fun b hb => by rw [hF.2.2.2.2.2.1] at hb; cases hb; omega) (fun b hb => by rw [hbv] at hb; cases hb; omega)) ?_
    rintro _ S7 ⟨rfl, hK7⟩
    have hg7 : S7[S6.length]? = some (some (38, [vs])) := hK7.get (by simp) (by simp)
    simp -dsimp only [go_sem, ↓reduceIte, sm1, hlen, htk, hg7, hvl, hvt, List.drop_zero]
    repeat with_reducible refine And.intro (by first | omega | decide | assumption) ?_
    refine LCalls.k (SSame_ok us vs hok okv (fun b hb => by rw [hF.2.2.2.2.2.1] at hb; cases hb; omega) (fun b hb => by rw [hbv] at hb; cases hb; omega)) ?_
    rintro _ S8 ⟨rfl, -⟩
    simp -dsimp only [go_sem, ↓reduceIte, sm1]
    refine hKK6 _ _ ?_
    try clear hKK6 KK6
    refine Lwp_ret ?_
    simp only [LThen, LBlock, LPost, Try.results4]
    simp -dsimp only [go_sem, ↓reduceIte]
    exact ret_keep (hRR _ _ rfl)

end Go.Proofs.Ytdhngmldmalbbaa
end
section
set_option linter.all false
namespace Go.Proofs.Ytdhngmldmalbbaa
open Go.Lift Go.RowKit Go.Store
set_option linter.unusedSimpArgs false
set_option linter.unusedVariables false

/-! ### From lifted calls to the model's -/
def knowW (W : World) : Know := fun b o => W.cell? ⟨b, o, none⟩
theorem SimS_start (W : World) : SimS W.heap.size W (knowW W) [] [] W :=
  ⟨Below.refl _ _, Nat.le_refl _, fun _ _ _ h => h, rfl, by simp, by simp, by simp, by simp⟩
/-- a law that answers true. -/
theorem LCalls.true {P : Program} {f : FuncId} {us : List LV} (h : LCalls P f us [] (fun r _ => r = .bool true)) {W : World} {vs : List Value} (hv : RelL (knowW W) [] vs us) :
    Calls P f vs.toArray W fun e W' => e = .returned (.bool true) ∧ Below W.heap.size W W' := by
  refine (h.2 _ _ _ _ W vs (SimS_start W) hv).mono fun e W' => ?_
  rintro ⟨v, rfl, u, S', K', φ', rfl, hk, hp, hS, hr⟩
  cases hr
  exact ⟨rfl, hS.below⟩


set_option maxRecDepth 100000
open Go.ChangeShapes in
/-- a slice of bytes, as it was handed over. -/
theorem open_bytes {H : Type} {enc : TypeId × Value → H} {W : World} {base : Nat} {v : Value} {d : DataW H} {p : List MemPlace} (hval : Value.okWide Try.prog W .any base 22 v) (h : DataW.Trod enc Try.prog W 0 (fun _ => true) true 22 v d p) :
    ∃ (f : Bool) (xs : List UInt8), Rel (knowW W) [] v (.sl f (xs.map u8c)) ∧ ((d = .nil ∧ xs = []) ∨ ∃ ls sp, d = .slice ls sp ∧ xs.length = ls.length) := by
  obtain ⟨a0, len0, cap0, rfl⟩ := Go.WideShapes.okWide_slice Try.underlying22 hval
  obtain ⟨fuel, hf⟩ := h
  rcases open_ints Try.underlying22 Try.underlying5 (by kernel_rfl) hf with ⟨hcs, hx⟩ | ⟨a, len, cap, zs, hcs, -, hl, -, hz, hx, hcell, hwf⟩
  · obtain ⟨h1, -⟩ := Prod.mk.inj hx
    simp [Value.cells] at hcs
    obtain ⟨rfl, rfl, rfl⟩ := hcs
    exact ⟨true, [], .slnil _, .inl ⟨h1, rfl⟩⟩
  · obtain ⟨h1, -⟩ := Prod.mk.inj hx
    simp [Value.cells] at hcs
    obtain ⟨rfl, rfl, rfl⟩ := hcs
    simp only [if_true] at hz
    have hsp : a.spot = none := by
      simp only [Value.okWide, Try.underlying22, Cell.okWide, Cell.ok] at hval
      exact hval.2.2.2.1
    obtain ⟨b, o, sp⟩ := a
    simp only at hsp
    subst hsp
    have hb : ∀ n ∈ zs, 0 ≤ n ∧ n ≤ 255 := fun n hn => by simpa [Lit.wf, IntKind.min, IntKind.max, IntKind.signed, IntKind.bits] using hwf n hn
    have hxs : (((zs.take len0).map fun n => UInt8.ofNat n.toNat).map u8c) = (zs.take len0).map fun n => [LV.int .u8 n] := by
      rw [List.map_map]
      refine List.map_congr_left fun n hn => ?_
      have := hb n (List.mem_of_mem_take hn)
      simp only [Function.comp, u8c, UInt8.toNat_ofNat']
      congr 2
      omega
    refine ⟨false, (zs.take len0).map fun n => UInt8.ofNat n.toNat, ?_, .inr ⟨_, _, h1, by simp [lits]⟩⟩
    rw [hxs]
    have hlen : (zs.take len0).length = len0 := by rw [List.length_take]; omega
    refine .sl (vs := (zs.take len0).map fun n => Value.int .u8 n) (sz := 1) (fun j v hv => ?_) (fun v hv => ?_) ?_ (fun e he => ?_) (by simp; omega) hl (by simp)
    · rw [List.getElem?_map] at hv
      obtain ⟨n, hn, rfl⟩ := Option.map_eq_some_iff.1 hv
      have hj := (List.getElem?_eq_some_iff.1 hn).1
      rw [hlen] at hj
      have hc := hcell j (by omega)
      have e1 : zs.getD j 0 = n := by
        rw [List.getElem?_take_of_lt hj] at hn
        rw [List.getD_eq_getElem?_getD, hn]; rfl
      rw [e1] at hc
      have e2 : (Addr.add ⟨b, o, none⟩ j) = ⟨b, o + j, none⟩ := by
        unfold Addr.add
        split
        · rename_i h; subst h; rfl
        · rfl
      rw [e2] at hc
      exact hc
    · obtain ⟨n, _, rfl⟩ := List.mem_map.1 hv; rfl
    · generalize zs.take len0 = ys
      induction ys with
      | nil => exact .nil
      | cons y ys ih => exact .cons (.int _ _) ih
    · obtain ⟨n, _, rfl⟩ := List.mem_map.1 he; rfl

end Go.Proofs.Ytdhngmldmalbbaa
end
section
set_option linter.all false
namespace Go.Proofs.Ytdhngmldmalbbaa
open Go.Lift Go.RowKit Go.Store
set_option linter.unusedSimpArgs false
set_option linter.unusedVariables false
set_option maxHeartbeats 400000 in
theorem Clone_ok {S : LS} {u : LV} {bs : List UInt8} (hu : Rd S u bs) (hl : bs.length ≤ 140737488355328) : LCalls Try.prog 35 [u] S (NewR S bs) := by
  refine LCalls_introK 0 Try.func35 rfl (by kernel_rfl) rfl fun RR hRR => ?_
  refine Lwp_seq fun KK0 hKK0 => ?_
  refine LregionG [none] (by kernel_rfl) (by kernel_rfl) ?_
  simp -dsimp only [go_sem, ↓reduceIte]
  repeat with_reducible refine And.intro (by first | omega | decide) ?_
  refine hKK0 _ _ ?_
  try clear hKK0 KK0
  refine Lwp_seq fun KK1 hKK1 => ?_
  refine Lwp_seq fun KK2 hKK2 => ?_
  refine LregionG [none, none] (by kernel_rfl) (by kernel_rfl) ?_
  simp -dsimp only [go_sem, ↓reduceIte]
  rcases bs with _ | ⟨b, bs⟩ <;> rcases hu with ⟨f, rfl⟩ | ⟨i1, rfl, hid⟩
  · skip
    simp -dsimp only [go_sem, ↓reduceIte]
    refine hKK2 _ _ ?_
    try clear hKK2 KK2
    refine Lwp_condAny (by simp only [go_sem, ↓reduceIte]) ?_ ?_
    · skip
      refine Lwp_seq fun KK3 hKK3 => ?_
      refine LregionG [none] (by kernel_rfl) (by kernel_rfl) ?_
      simp -dsimp only [go_sem, ↓reduceIte]
      repeat with_reducible refine And.intro (by first | omega | decide) ?_
      refine hKK3 _ _ ?_
      try clear hKK3 KK3
      refine Lwp_ret ?_
      simp only [LThen, LBlock, LPost, Try.results35]
      simp -dsimp only [go_sem, ↓reduceIte]
      exact ret_keep (hRR _ _ (NewR.nil S))
    · skip
      refine Lwp_skip ?_
      try simp -dsimp only [go_sem, ↓reduceIte]
      refine hKK1 _ _ ?_
      try clear hKK1 KK1
      refine Lwp_seq fun KK4 hKK4 => ?_
      refine LregionG [none, none, none, none] (by kernel_rfl) (by kernel_rfl) ?_
      simp -dsimp only [go_sem, ↓reduceIte]
      repeat with_reducible refine And.intro (by first | omega | decide | assumption) ?_
      refine PutR.apd (zs := []) (NewR.nil S) rfl (by simp only [go_sem]; rfl) (by simp only [go_sem]; first | exact ⟨rfl, rfl⟩ | exact ⟨rfl, rfl, rfl⟩ | rfl) (by simp only [go_sem]) (by first | exact trivial | simp only [go_sem, ↓reduceIte, hRR, Nat.zero_add, Nat.le_refl]) (by first | rfl | simp only [go_sem, ↓reduceIte, hRR, List.drop_zero, List.take_of_length_le, List.length_map, List.length_cons, List.length_nil, Nat.le_refl]) (by simp only [List.length_nil, List.length_cons] at hl ⊢; omega) ?_
      rintro r2 S2 hp
      simp only [List.nil_append] at hp
      simp -dsimp only [go_sem, ↓reduceIte]
      refine hKK4 _ _ ?_
      try clear hKK4 KK4
      refine Lwp_ret ?_
      simp only [LThen, LBlock, LPost, Try.results35]
      simp -dsimp only [go_sem, ↓reduceIte]
      exact ret_keep (hRR _ _ hp)
  · skip
    simp -dsimp only [go_sem, ↓reduceIte]
    refine hKK2 _ _ ?_
    try clear hKK2 KK2
    refine Lwp_condAny (by simp only [go_sem, ↓reduceIte]) ?_ ?_
    · skip
      refine Lwp_seq fun KK5 hKK5 => ?_
      refine LregionG [none] (by kernel_rfl) (by kernel_rfl) ?_
      simp -dsimp only [go_sem, ↓reduceIte]
      repeat with_reducible refine And.intro (by first | omega | decide) ?_
      refine hKK5 _ _ ?_
      try clear hKK5 KK5
      refine Lwp_ret ?_
      simp only [LThen, LBlock, LPost, Try.results35]
      simp -dsimp only [go_sem, ↓reduceIte]
      exact ret_keep (hRR _ _ (NewR.nil S))
    · skip
      refine Lwp_skip ?_
      try simp -dsimp only [go_sem, ↓reduceIte]
      refine hKK1 _ _ ?_
      try clear hKK1 KK1
      refine Lwp_seq fun KK6 hKK6 => ?_
      refine LregionG [none, none, none, none] (by kernel_rfl) (by kernel_rfl) ?_
      simp -dsimp only [go_sem, ↓reduceIte]
      repeat with_reducible refine And.intro (by first | omega | decide | assumption) ?_
      refine PutR.apd (zs := []) (NewR.nil S) rfl (by simp only [go_sem]; rfl) (by simp only [go_sem]; first | exact ⟨rfl, rfl⟩ | exact ⟨rfl, rfl, rfl⟩ | rfl) (by simp only [go_sem]) (by first | exact trivial | simp only [go_sem, ↓reduceIte, LS.g, hid, Nat.zero_add, Nat.le_refl]) (by first | rfl | simp only [go_sem, ↓reduceIte, LS.g, hid, List.drop_zero, List.take_of_length_le, List.length_map, List.length_cons, List.length_nil, Nat.le_refl]) (by simp only [List.length_nil, List.length_cons] at hl ⊢; omega) ?_
      rintro r2 S2 hp
      simp only [List.nil_append] at hp
      simp -dsimp only [go_sem, ↓reduceIte]
      refine hKK6 _ _ ?_
      try clear hKK6 KK6
      refine Lwp_ret ?_
      simp only [LThen, LBlock, LPost, Try.results35]
      simp -dsimp only [go_sem, ↓reduceIte]
      exact ret_keep (hRR _ _ hp)
  · skip
    simp -dsimp only [go_sem, ↓reduceIte]
    refine hKK2 _ _ ?_
    try clear hKK2 KK2
    refine Lwp_cond (by simp only [go_sem, ↓reduceIte]; rfl) (fun ht => ?_) (fun hf => ?_)
    · skip
      cases ht
    · skip
      refine Lwp_skip ?_
      try simp -dsimp only [go_sem, ↓reduceIte]
      refine hKK1 _ _ ?_
      try clear hKK1 KK1
      refine Lwp_seq fun KK7 hKK7 => ?_
      refine LregionG [none, none, none, none] (by kernel_rfl) (by kernel_rfl) ?_
      simp -dsimp only [go_sem, ↓reduceIte]
      repeat with_reducible refine And.intro (by first | omega | decide | assumption) ?_
      refine PutR.apd (zs := b :: bs) (NewR.nil S) rfl (by simp only [go_sem]; rfl) (by simp only [go_sem]; first | exact ⟨rfl, rfl⟩ | exact ⟨rfl, rfl, rfl⟩ | rfl) (by simp only [go_sem]) (by first | exact trivial | simp only [go_sem, ↓reduceIte, hRR, Nat.zero_add, Nat.le_refl]) (by first | rfl | simp only [go_sem, ↓reduceIte, hRR, List.drop_zero, List.take_of_length_le, List.length_map, List.length_cons, List.length_nil, Nat.le_refl]) (by simp only [List.length_nil, List.length_cons] at hl ⊢; omega) ?_
      rintro r2 S2 hp
      simp only [List.nil_append] at hp
      simp -dsimp only [go_sem, ↓reduceIte]
      refine hKK7 _ _ ?_
      try clear hKK7 KK7
      refine Lwp_ret ?_
      simp only [LThen, LBlock, LPost, Try.results35]
      simp -dsimp only [go_sem, ↓reduceIte]
      exact ret_keep (hRR _ _ hp)
  · skip
    simp -dsimp only [go_sem, ↓reduceIte, List.length_cons, Nat.add_eq_zero_iff]
    refine hKK2 _ _ ?_
    try clear hKK2 KK2
    refine Lwp_cond (by simp only [go_sem, ↓reduceIte]; rfl) (fun ht => ?_) (fun hf => ?_)
    · skip
      cases ht
    · skip
      refine Lwp_skip ?_
      try simp -dsimp only [go_sem, ↓reduceIte]
      refine hKK1 _ _ ?_
      try clear hKK1 KK1
      refine Lwp_seq fun KK8 hKK8 => ?_
      refine LregionG [none, none, none, none] (by kernel_rfl) (by kernel_rfl) ?_
      simp -dsimp only [go_sem, ↓reduceIte]
      repeat with_reducible refine And.intro (by first | omega | decide | assumption) ?_
      refine PutR.apd (zs := b :: bs) (NewR.nil S) rfl (by simp only [go_sem]; rfl) (by simp only [go_sem]; first | exact ⟨rfl, rfl⟩ | exact ⟨rfl, rfl, rfl⟩ | rfl) (by simp only [go_sem]) (by first | exact trivial | simp only [go_sem, ↓reduceIte, LS.g, hid, Nat.zero_add, Nat.le_refl]) (by first | rfl | simp only [go_sem, ↓reduceIte, LS.g, hid, List.drop_zero, List.take_of_length_le, List.length_map, List.length_cons, List.length_nil, Nat.le_refl]) (by simp only [List.length_nil, List.length_cons] at hl ⊢; omega) ?_
      rintro r2 S2 hp
      simp only [List.nil_append] at hp
      simp -dsimp only [go_sem, ↓reduceIte]
      refine hKK8 _ _ ?_
      try clear hKK8 KK8
      refine Lwp_ret ?_
      simp only [LThen, LBlock, LPost, Try.results35]
      simp -dsimp only [go_sem, ↓reduceIte]
      exact ret_keep (hRR _ _ hp)

end Go.Proofs.Ytdhngmldmalbbaa
end
section
set_option linter.all false
namespace Go.Proofs.Ytdhngmldmalbbaa
open Go.Lift Go.RowKit Go.Store
set_option linter.unusedSimpArgs false
set_option linter.unusedVariables false

theorem head_u8 (bs : List UInt8) : ∀ (e : List LV), e ∈ (List.map u8c bs).head? → e.length = 1 := fun e he => by
  obtain ⟨y, _, rfl⟩ := List.mem_map.1 (List.mem_of_mem_head? he); rfl

set_option maxHeartbeats 400000 in
theorem Cut_ok {S : LS} (f : Bool) (bs : List UInt8) (n : Int) (hl : bs.length ≤ 140737488355328) : LCalls Try.prog 19 [.sl f (bs.map u8c), V n] S (NewR S (bs.take (bs.length - n.toNat))) := by
  refine LCalls_introK 0 Try.func19 rfl (by kernel_rfl) rfl fun RR hRR => ?_
  have e1 : IntKind.i64.wrap ((bs.length : Int) - if (bs.length : Int) < if 0 > n then 0 else n then (bs.length : Int) else if 0 > n then 0 else n) = ((bs.length - n.toNat : Nat) : Int) := by
    rw [w64 (by split <;> split <;> omega) (by split <;> split <;> omega)]
    split <;> split at * <;> omega
  refine Lwp_seq fun KK0 hKK0 => ?_
  refine LregionG [none] (by kernel_rfl) (by kernel_rfl) ?_
  simp -dsimp only [go_sem, ↓reduceIte]
  repeat with_reducible refine And.intro (by first | omega | decide) ?_
  refine hKK0 _ _ ?_
  try clear hKK0 KK0
  refine Lwp_seq fun KK1 hKK1 => ?_
  refine LregionG [none, none, none, none, none, none, none, none, none, none, none, none] (by kernel_rfl) (by kernel_rfl) ?_
  simp -dsimp only [go_sem, ↓reduceIte, e1]
  refine ⟨⟨by omega, head_u8 bs⟩, ?_⟩
  rw [show List.take (bs.length - n.toNat - 0) (List.map u8c bs) = List.map u8c (bs.take (bs.length - n.toNat)) by rw [Nat.sub_zero, List.map_take]]
  refine LCalls.k (Clone_ok (.inl ⟨_, rfl⟩) (by simp; omega)) ?_
  rintro r S1 hp
  simp -dsimp only [go_sem, ↓reduceIte]
  refine hKK1 _ _ ?_
  try clear hKK1 KK1
  refine Lwp_ret ?_
  simp only [LThen, LBlock, LPost, Try.results19]
  simp -dsimp only [go_sem, ↓reduceIte]
  exact ret_keep (hRR _ _ hp)


/-- what an entry becomes in a journal: an error, or its bytes. -/
def encO (us : List LV) : Int ⊕ List UInt8 :=
  match bodyE us with
  | some b => if b.length + 8 ≤ 1048576 then .inr (framed b) else .inl 2
  | none => .inl 4
def appO : List (List LV) → Int ⊕ List UInt8
  | [] => .inr []
  | us :: l => match encO us with
    | .inl e => .inl e
    | .inr b => match appO l with
      | .inl e => .inl e
      | .inr c => .inr (b ++ c)
def AppR (bs : List UInt8) (es : List (List LV)) (S : LS) (r : LV) (S' : LS) : Prop :=
  match appO es with
  | .inl e => r = .tup [.sl true [], V e] ∧ Keeps S S' []
  | .inr ys => ∃ u, r = .tup [u, V 0] ∧ NewR S (bs ++ ys) u S'
theorem encO_len {us : List LV} {b : List UInt8} (h : encO us = .inr b) : b.length ≤ 1048576 := by
  unfold encO at h
  split at h
  · split at h
    · cases h; rw [framed_len]; omega
    · cases h
  · cases h
theorem appO_len : ∀ {es : List (List LV)} {b : List UInt8}, appO es = .inr b → b.length ≤ es.length * 1048576
  | [], b, h => by cases h; simp
  | us :: l, b, h => by
    simp only [appO] at h
    split at h
    · cases h
    · rename_i c hc
      split at h
      · cases h
      · rename_i d hd
        cases h
        have := encO_len hc
        have := appO_len hd
        simp only [List.length_append, List.length_cons]; omega
theorem EncR.cs {us : List LV} {S S' : LS} {r : LV} (h : EncR us S r S') : (∃ e, encO us = .inl e ∧ e ≠ 0 ∧ r = .tup [.sl true [], V e] ∧ Keeps S S' []) ∨ ∃ b u, encO us = .inr b ∧ r = .tup [u, V 0] ∧ NewR S b u S' := by
  unfold EncR at h
  unfold encO
  cases hE : bodyE us with
  | none => rw [hE] at h; exact .inl ⟨4, rfl, by decide, h.1, h.2⟩
  | some b =>
    rw [hE] at h
    simp only [] at h ⊢
    by_cases hl : b.length + 8 ≤ 1048576
    · rw [if_pos hl] at h ⊢
      obtain ⟨u, rfl, hN⟩ := h
      exact .inr ⟨_, u, rfl, rfl, hN⟩
    · rw [if_neg hl] at h ⊢
      exact .inl ⟨2, rfl, by decide, h.1, h.2⟩
theorem NewR.keep {S S1 S2 : LS} {ys : List UInt8} {r : LV} (h : NewR S ys r S1) (hK : Keeps S1 S2 []) : NewR S ys r S2 :=
  ⟨RowS.mono h.1 (Nat.le_refl _) (fun id _ b hb => hK.get hb (by simp)), h.2.1.trans hK (fun j _ h => h.elim id (fun h => absurd h (by simp))), h.2.2.1, h.2.2.2⟩
theorem appO_snoc : ∀ {es : List (List LV)} {us : List LV} {ys : List UInt8}, appO es = .inr ys → appO (es ++ [us]) = match encO us with | .inl e => .inl e | .inr b => .inr (ys ++ b)
  | [], us, ys, h => by
    cases h
    cases he : encO us <;> simp [appO, he]
  | x :: l, us, ys, h => by
    simp only [appO] at h
    split at h
    · cases h
    · rename_i c hc
      split at h
      · cases h
      · rename_i d hd
        cases h
        simp only [List.cons_append, appO, hc, appO_snoc hd]
        cases encO us <;> simp [List.append_assoc]
theorem appO_err : ∀ {es l : List (List LV)} {e : Int}, appO es = .inl e → appO (es ++ l) = .inl e
  | [], l, e, h => by cases h
  | x :: es, l, e, h => by
    simp only [appO] at h
    simp only [List.cons_append, appO]
    cases hc : encO x with
    | inl e1 => rw [hc] at h; exact h
    | inr c =>
      rw [hc] at h
      simp only [] at h ⊢
      cases hd : appO es with
      | inl e2 => rw [hd] at h; rw [appO_err hd]; exact h
      | inr d => rw [hd] at h; cases h

set_option maxHeartbeats 400000 in
theorem Append_ok {S : LS} {u : LV} {bs : List UInt8} (hu : Rd S u bs) (f : Bool) (es : List (List LV)) (hes : ∀ e ∈ es, ok sLog e ∧ ∀ b, bodyE e = some b → b.length ≤ 1000000000) (hl : bs.length + es.length * 1048576 ≤ 140737488355328) : LCalls Try.prog 17 [u, .sl f es] S (AppR bs es S) := by
  refine LCalls_introK 0 Try.func17 rfl (by kernel_rfl) rfl fun RR hRR => ?_
  have hh : ∀ (e : List LV), e ∈ es.head? → e.length = 38 := fun e he => okLog_len (hes e (List.mem_of_mem_head? he)).1
  unfold AppR at hRR
  refine Lwp_seq fun KK0 hKK0 => ?_
  refine LregionG [none, none] (by kernel_rfl) (by kernel_rfl) ?_
  simp -dsimp only [go_sem, ↓reduceIte]
  repeat with_reducible refine And.intro (by first | omega | decide) ?_
  refine hKK0 _ _ ?_
  try clear hKK0 KK0
  refine Lwp_seq fun KK1 hKK1 => ?_
  refine LregionG [none, none, none] (by kernel_rfl) (by kernel_rfl) ?_
  simp -dsimp only [go_sem, ↓reduceIte]
  refine LCalls.k (Clone_ok hu (by omega)) ?_
  rintro r0 S0 hp0
  simp -dsimp only [go_sem, ↓reduceIte]
  refine hKK1 _ _ ?_
  try clear hKK1 KK1
  refine Lwp_seq fun KK2 hKK2 => ?_
  refine Lwp_seq fun KK3 hKK3 => ?_
  refine LregionG [none, none, none] (by kernel_rfl) (by kernel_rfl) ?_
  simp -dsimp only [go_sem, ↓reduceIte]
  repeat with_reducible refine And.intro (by first | omega | decide) ?_
  refine hKK3 _ _ ?_
  try clear hKK3 KK3
  refine Lwp_block ?_
  refine Lwp_loopK [6, 15, 13, 14] (fun m us S1 => ∃ (k : Nat) (r : LV) (ys : List UInt8), us = [r, V k, .sl f es, V es.length] ∧ k ≤ es.length ∧ appO (es.take k) = .inr ys ∧ NewR S (bs ++ ys) r S1 ∧ m = es.length - k) es.length rfl (⟨0, r0, [], by simp only [go_sem, ↓reduceIte]; rfl, Nat.zero_le _, rfl, by rw [List.append_nil]; exact hp0, rfl⟩) ?_
  rintro m us S2 ⟨k, r, ys, rfl, hk, hys, hp, hm⟩ II hII
  refine Lwp_seq fun KK4 hKK4 => ?_
  refine LregionG [none] (by kernel_rfl) (by kernel_rfl) ?_
  simp -dsimp only [go_sem, ↓reduceIte]
  repeat with_reducible refine And.intro (by first | omega | decide) ?_
  refine hKK4 _ _ ?_
  try clear hKK4 KK4
  refine Lwp_seq fun KK5 hKK5 => ?_
  refine Lwp_cond (by simp only [go_sem, ↓reduceIte]; rfl) (fun ht => ?_) (fun hf => ?_)
  · skip
    have hk' : k < es.length := by simpa using ht
    obtain ⟨x, hxe⟩ : ∃ x, x = es.getD k [] := ⟨_, rfl⟩
    have hmem : x ∈ es := by rw [hxe, List.getD_eq_getElem?_getD, List.getElem?_eq_getElem hk']; exact List.getElem_mem hk'
    obtain ⟨hok, hbl⟩ := hes x hmem
    have hlen := okLog_len hok
    have htk : x.take 38 = x := List.take_of_length_le (by omega)
    have hov : ∀ cs : List LV, cs.length = 38 → ovr cs 0 x = x := fun cs h => ovr_all (by rw [hlen, h])
    have hts : es.take (k + 1) = es.take k ++ [x] := by rw [List.take_succ_eq_append_getElem hk', hxe, List.getD_eq_getElem?_getD, List.getElem?_eq_getElem hk']; rfl
    have hdr : es = es.take (k + 1) ++ es.drop (k + 1) := (List.take_append_drop _ _).symm
    have e6 : IntKind.i64.wrap ((k : Int) + 1) = ((k + 1 : Nat) : Int) := by rw [w64 (by omega) (by omega)]; rfl
    have hyl := appO_len hys
    rw [List.length_take] at hyl
    have hap := appO_snoc (us := x) hys
    rw [← hts] at hap
    refine Lwp_skip ?_
    try simp -dsimp only [go_sem, ↓reduceIte]
    refine hKK5 _ _ ?_
    try clear hKK5 KK5
    refine Lwp_seq fun KK6 hKK6 => ?_
    refine Lwp_block ?_
    refine Lwp_seq fun KK7 hKK7 => ?_
    refine LregionG [none, none, none, none] (by kernel_rfl) (by kernel_rfl) ?_
    simp -dsimp only [go_sem, ↓reduceIte, ← hxe, hk', hlen, htk, hov, Nat.le_refl]
    refine hKK7 _ _ ?_
    try clear hKK7 KK7
    refine Lwp_seq fun KK8 hKK8 => ?_
    refine Lwp_boxed 8 38 x rfl hp (by simp only [go_sem, ↓reduceIte]) fun S3 hp3 => ?_
    refine LregionG [none, none, none, none, none, none, none] (by kernel_rfl) (by kernel_rfl) ?_
    simp -dsimp only [go_sem, ↓reduceIte, hlen, htk]
    refine LCalls.k (SEncode_ok x hok hbl) ?_
    rintro r1 S4 hr
    rcases hr.cs with ⟨e, hE, he0, rfl, hK4⟩ | ⟨b, u1, hE, rfl, hN⟩
    · skip
      rw [hE] at hap
      simp only [] at hap
      have hall := appO_err (l := es.drop (k + 1)) hap
      rw [← hdr] at hall
      rw [hall] at hRR
      simp -dsimp only [go_sem, ↓reduceIte]
      refine hKK8 _ _ ?_
      try clear hKK8 KK8
      refine Lwp_seq fun KK9 hKK9 => ?_
      refine Lwp_seq fun KK10 hKK10 => ?_
      refine LregionG [none, none] (by kernel_rfl) (by kernel_rfl) ?_
      simp -dsimp only [go_sem, ↓reduceIte]
      repeat with_reducible refine And.intro (by first | omega | decide) ?_
      refine hKK10 _ _ ?_
      try clear hKK10 KK10
      refine Lwp_cond (by simp only [go_sem, ↓reduceIte]; rfl) (fun ht => ?_) (fun hf => ?_)
      · skip
        refine Lwp_seq fun KK11 hKK11 => ?_
        refine LregionG [none, none, none] (by kernel_rfl) (by kernel_rfl) ?_
        simp -dsimp only [go_sem, ↓reduceIte]
        repeat with_reducible refine And.intro (by first | omega | decide) ?_
        refine hKK11 _ _ ?_
        try clear hKK11 KK11
        refine Lwp_ret ?_
        simp only [LThen, LBlock, LPost, Try.results17]
        simp -dsimp only [go_sem, ↓reduceIte]
        exact ret_keep (hRR _ _ ⟨rfl, hp3.2.1.trans hK4 (ids'' := []) (fun _ _ h => h.elim id id)⟩)
      · skip
        exact absurd (by simpa using hf) he0
    · skip
      rw [hE] at hap
      simp only [] at hap
      have hbl2 := encO_len hE
      have hp4 := NewR.keep (show NewR S (bs ++ ys) r S3 from hp3) hN.2.1
      have hrd := hN.acc.rd
      simp -dsimp only [go_sem, ↓reduceIte]
      refine hKK8 _ _ ?_
      try clear hKK8 KK8
      refine Lwp_seq fun KK12 hKK12 => ?_
      refine Lwp_seq fun KK13 hKK13 => ?_
      refine LregionG [none, none] (by kernel_rfl) (by kernel_rfl) ?_
      simp -dsimp only [go_sem, ↓reduceIte]
      repeat with_reducible refine And.intro (by first | omega | decide) ?_
      refine hKK13 _ _ ?_
      try clear hKK13 KK13
      refine Lwp_cond (by simp only [go_sem, ↓reduceIte]; rfl) (fun ht => ?_) (fun hf => ?_)
      · skip
        simp at ht
      · skip
        refine Lwp_skip ?_
        try simp -dsimp only [go_sem, ↓reduceIte]
        refine hKK12 _ _ ?_
        try clear hKK12 KK12
        refine LregionG [none, none, none, none] (by kernel_rfl) (by kernel_rfl) ?_
        simp -dsimp only [go_sem, ↓reduceIte]
        repeat with_reducible refine And.intro (by first | omega | decide | assumption) ?_
        refine PutR.apd (zs := b) hp4 rfl (by simp only [go_sem]; rfl) (by simp only [go_sem]; first | exact ⟨rfl, rfl⟩ | exact ⟨rfl, rfl, rfl⟩ | rfl) (by simp only [go_sem]) hrd.src.1 hrd.src.2 (by simp only [List.length_append, List.length_nil]; omega) ?_
        rintro r2 S5 hp5
        simp -dsimp only [go_sem, ↓reduceIte]
        refine hKK6 _ _ ?_
        try clear hKK6 KK6
        refine LregionG [none, none] (by kernel_rfl) (by kernel_rfl) ?_
        simp -dsimp only [go_sem, ↓reduceIte, e6]
        repeat with_reducible refine And.intro (by first | omega | decide) ?_
        exact hII (es.length - (k + 1)) _ _ (by omega) ⟨k + 1, r2, ys ++ b, rfl, hk', hap, by rw [← List.append_assoc]; exact hp5, rfl⟩
  · skip
    have hk2 : k = es.length := by simp at hf; omega
    subst hk2
    rw [List.take_of_length_le (Nat.le_refl _)] at hys
    rw [hys] at hRR
    refine Lwp_exit ?_
    simp -dsimp only [go_sem, ↓reduceIte]
    refine hKK2 _ _ ?_
    try clear hKK2 KK2
    refine Lwp_seq fun KK14 hKK14 => ?_
    refine LregionG [none, none, none] (by kernel_rfl) (by kernel_rfl) ?_
    simp -dsimp only [go_sem, ↓reduceIte]
    repeat with_reducible refine And.intro (by first | omega | decide) ?_
    refine hKK14 _ _ ?_
    try clear hKK14 KK14
    refine Lwp_ret ?_
    simp only [LThen, LBlock, LPost, Try.results17]
    simp -dsimp only [go_sem, ↓reduceIte]
    exact ret_keep (hRR _ _ ⟨_, rfl, hp⟩)

end Go.Proofs.Ytdhngmldmalbbaa
end
section
set_option linter.all false
namespace Go.Proofs.Ytdhngmldmalbbaa
open Go.Lift Go.RowKit Go.Store
set_option linter.unusedSimpArgs false
set_option linter.unusedVariables false

/-- a row of the call's own. -/
def NewRow (S S' : LS) (u : LV) (sz : Nat) (es : List (List LV)) : Prop := RowS S' S.length u sz es ∧ Keeps S S' []
theorem NewRow.nil {S S' : LS} {sz : Nat} (h : Keeps S S' []) : NewRow S S' (.sl true []) sz [] := ⟨RowS.nil, h⟩
theorem NewRow.keep {S S1 S2 : LS} {u : LV} {sz : Nat} {es : List (List LV)} {ids : List Nat} (h : NewRow S S1 u sz es) (hK : Keeps S1 S2 ids) (hd : ∀ id ∈ ids, S.length ≤ id) (hu : ∀ id ∈ rowIds u, id ∉ ids) : NewRow S S2 u sz es :=
  ⟨RowS.mono h.1 (Nat.le_refl _) (fun id hid b hb => hK.get hb (hu id hid)), h.2.trans hK (fun j hj h => h.elim (fun h => absurd h (by simp)) (fun h => by have := hd j h; omega))⟩
theorem NewRow.apd {S S' : LS} {u : LV} {sz b : Nat} {es fs : List (List LV)} {a x : Operand} {sT tx e : TypeId} {zc : List LV} {d : Option Tmp} {K : Env → LS → Prop} {env : Env} (hp : NewRow S S' u sz es) (hu : evalL env a = u) (h1 : elemT Try.prog sT = some e) (h2 : layE Try.prog e = some (sz, b, zc)) (h3 : srcT Try.prog tx = true)
    (h4 : srcC S'.g (evalL env x)) (h5 : srcG S'.g (evalL env x) = some fs) (h6 : ∀ f ∈ fs, f.length = sz) (h7 : fs ≠ []) (h8 : (es.length + fs.length) * b ≤ LIM)
    (hk : ∀ r S2, NewRow S S2 r sz (es ++ fs) → Keeps S' S2 (rowIds u) → (∀ id ∈ rowIds r, S'.length ≤ id) → S2.length = S'.length + 1 → K (env.putO d r) S2) :
    exeE Try.prog d K env S' (.call ⟨.builtin .append, #[a, x], #[sT, tx]⟩) := by
  refine append_row hp.1 hu h1 h2 h3 h4 h5 h6 (.inr h7) h8 fun S2 q1 q2 q3 => ?_
  have hlo := hp.1.lo
  refine hk _ _ ⟨RowS.mono q2 hp.2.1 (fun _ _ _ h => h), hp.2.trans q3 (fun j hj h => h.elim (fun h => h) (fun h => by have := (hlo j h).1; omega))⟩ q3 (fun id hid => by simp [rowIds] at hid; omega) q1
/-- what a journal gives, from its beginning. -/
inductive RdTo (bs : List UInt8) : Nat → List (List LV) → Prop
  | nil : RdTo bs 0 []
  | snoc {p n : Nat} {es : List (List LV)} {us : List LV} : RdTo bs p es → DecO (decS (bs.drop p)) (.tup [.agg us, V n, V 0]) → RdTo bs (p + n) (es ++ [us])
theorem decS_inl {bs : List UInt8} {e : Int} (h : decS bs = .inl e) : e ≠ 0 := by
  unfold decS at h
  by_cases h1 : bs.length < 4
  · rw [if_pos h1] at h; cases h; decide
  rw [if_neg h1] at h
  by_cases h2 : 1048576 < num (bs.take 4) + 8
  · rw [if_pos h2] at h; cases h; decide
  rw [if_neg h2] at h
  by_cases h3 : bs.length < num (bs.take 4) + 8
  · rw [if_pos h3] at h; cases h; decide
  rw [if_neg h3] at h
  by_cases h4 : chkN (bs.take (num (bs.take 4) + 4)) ≠ num ((bs.drop (num (bs.take 4) + 4)).take 4)
  · rw [if_pos h4] at h; cases h; decide
  rw [if_neg h4] at h
  by_cases h5 : num (bs.take 4) = 0
  · rw [if_pos h5] at h; cases h; decide
  rw [if_neg h5] at h
  split at h
  · cases h; decide
  · split at h
    · cases h; decide
    · cases h
theorem decS_inr {bs : List UInt8} {k : Int} {off n : Nat} {s : Sch} {p : List LV} (h : decS bs = .inr (k, off, s, p, n)) : 8 ≤ n ∧ n ≤ bs.length ∧ n ≤ 1048576 := by
  unfold decS at h
  by_cases h1 : bs.length < 4
  · rw [if_pos h1] at h; cases h
  rw [if_neg h1] at h
  by_cases h2 : 1048576 < num (bs.take 4) + 8
  · rw [if_pos h2] at h; cases h
  rw [if_neg h2] at h
  by_cases h3 : bs.length < num (bs.take 4) + 8
  · rw [if_pos h3] at h; cases h
  rw [if_neg h3] at h
  by_cases h4 : chkN (bs.take (num (bs.take 4) + 4)) ≠ num ((bs.drop (num (bs.take 4) + 4)).take 4)
  · rw [if_pos h4] at h; cases h
  rw [if_neg h4] at h
  by_cases h5 : num (bs.take 4) = 0
  · rw [if_pos h5] at h; cases h
  rw [if_neg h5] at h
  split at h
  · cases h
  · split at h
    · cases h
    · cases h; omega
theorem DecO.cs {bs : List UInt8} {r : LV} (h : DecO (decS bs) r) : (∃ e, decS bs = .inl e ∧ e ≠ 0 ∧ r = .tup [.agg (zs sLog), V 0, V e]) ∨
    ∃ (us : List LV) (n : Nat), r = .tup [.agg us, V n, V 0] ∧ ok sLog us ∧ 8 ≤ n ∧ n ≤ bs.length ∧ n ≤ 1048576 ∧ DecO (decS bs) (.tup [.agg us, V n, V 0]) := by
  have h0 := h
  unfold DecO at h
  split at h
  · rename_i e he; exact .inl ⟨e, he, decS_inl he, h⟩
  · rename_i k off s p n he
    obtain ⟨us, pre, u', post, rfl, hok, -⟩ := h
    obtain ⟨a, b, c⟩ := decS_inr he
    exact .inr ⟨us, n, rfl, hok, a, b, c, h0⟩
theorem RdTo.le {bs : List UInt8} {p : Nat} {es : List (List LV)} (h : RdTo bs p es) : p ≤ bs.length ∧ 8 * es.length ≤ p ∧ ∀ e ∈ es, ok sLog e := by
  induction h with
  | nil => simp
  | snoc h hd ih =>
    rcases hd.cs with ⟨e, -, he, h2⟩ | ⟨us, n, h2, hok, h8, hn, -, -⟩
    · simp only [LV.tup.injEq, List.cons.injEq, LV.int.injEq] at h2; exact absurd h2.2.2.1.2.symm he
    · simp only [LV.tup.injEq, List.cons.injEq, LV.int.injEq, LV.agg.injEq, true_and, and_true] at h2
      obtain ⟨rfl, h3⟩ := h2
      rw [List.length_drop] at hn
      refine ⟨by omega, by simp only [List.length_append, List.length_cons, List.length_nil]; omega, fun e he => ?_⟩
      rcases List.mem_append.1 he with he | he
      · exact ih.2.2 e he
      · rw [List.mem_singleton.1 he]; exact hok
/-- what 'Read' gives. -/
def ReadR (bs : List UInt8) (S : LS) (r : LV) (S' : LS) : Prop :=
  ∃ (u : LV) (es : List (List LV)) (p : Nat), r = .tup [u, V p] ∧ RdTo bs p es ∧ (∃ e, decS (bs.drop p) = .inl e) ∧ NewRow S S' u 38 es


theorem ovr_zs (cs : List LV) (h : cs.length = 38) : ovr cs 0 (zs sLog) = zs sLog := ovr_all (by rw [h]; rfl)
theorem take_zs : (zs sLog).take 38 = zs sLog := rfl
theorem len_zs : (zs sLog).length = 38 := rfl

set_option maxHeartbeats 400000 in
theorem Read_ok {S : LS} (f : Bool) (bs : List UInt8) (hl : bs.length ≤ 1099511627776) : LCalls Try.prog 18 [.sl f (bs.map u8c)] S (ReadR bs S) := by
  refine LCalls_introK 0 Try.func18 rfl (by kernel_rfl) rfl fun RR hRR => ?_
  refine Lwp_seq fun KK0 hKK0 => ?_
  refine LregionG [none, none] (by kernel_rfl) (by kernel_rfl) ?_
  simp -dsimp only [go_sem, ↓reduceIte]
  repeat with_reducible refine And.intro (by first | omega | decide) ?_
  refine hKK0 _ _ ?_
  try clear hKK0 KK0
  refine Lwp_seq fun KK1 hKK1 => ?_
  refine LregionG [none] (by kernel_rfl) (by kernel_rfl) ?_
  simp -dsimp only [go_sem, ↓reduceIte]
  repeat with_reducible refine And.intro (by first | omega | decide) ?_
  refine hKK1 _ _ ?_
  try clear hKK1 KK1
  refine Lwp_seq fun KK2 hKK2 => ?_
  refine LregionG [none] (by kernel_rfl) (by kernel_rfl) ?_
  simp -dsimp only [go_sem, ↓reduceIte]
  repeat with_reducible refine And.intro (by first | omega | decide) ?_
  refine hKK2 _ _ ?_
  try clear hKK2 KK2
  refine Lwp_block ?_
  refine Lwp_loopK [4, 5, 0] (fun m us S1 => ∃ (p : Nat) (u : LV) (es : List (List LV)), us = [u, V p, .sl f (bs.map u8c)] ∧ RdTo bs p es ∧ NewRow S S1 u 38 es ∧ m = bs.length - p) bs.length rfl (⟨0, .sl true [], [], by simp only [go_sem, ↓reduceIte]; rfl, .nil, NewRow.nil (Keeps.refl _ _), rfl⟩) ?_
  rintro m us S2 ⟨p, u, es, rfl, hrd, hN, hm⟩ II hII
  refine Lwp_block ?_
  refine Lwp_seq fun KK3 hKK3 => ?_
  refine LregionG [none, none, none, none, none, none, none, none, none, none, none, none] (by kernel_rfl) (by kernel_rfl) ?_
  simp -dsimp only [go_sem, ↓reduceIte]
  have hle := hrd.le
  refine ⟨⟨hle.1, Nat.le_refl _, head_u8 bs⟩, ?_⟩
  have ha : List.take (bs.length - p) (List.drop p (List.map u8c bs)) = List.map u8c (bs.drop p) := by
    rw [← List.map_drop, List.take_of_length_le (by simp)]
  rw [ha]
  clear ha
  refine LCalls.k (SDecode_ok (bs.drop p) f (by rw [List.length_drop]; omega)) ?_
  rintro r S3 ⟨hK3, hd⟩
  rcases hd.cs with ⟨e, he, he0, rfl⟩ | ⟨us, n, rfl, hok, h8, hn, hn2, hd⟩
  · skip
    skip
    simp -dsimp only [go_sem, ↓reduceIte, ovr_zs, take_zs, len_zs, List.length_cons, List.length_nil]
    refine hKK3 _ _ ?_
    try clear hKK3 KK3
    refine Lwp_seq fun KK4 hKK4 => ?_
    refine Lwp_seq fun KK5 hKK5 => ?_
    refine LregionG [none, none] (by kernel_rfl) (by kernel_rfl) ?_
    simp -dsimp only [go_sem, ↓reduceIte]
    repeat with_reducible refine And.intro (by first | omega | decide) ?_
    refine hKK5 _ _ ?_
    try clear hKK5 KK5
    refine Lwp_cond (by simp only [go_sem, ↓reduceIte]; rfl) (fun ht => ?_) (fun hf => ?_)
    · skip
      refine Lwp_seq fun KK6 hKK6 => ?_
      refine LregionG [none, none, none, none] (by kernel_rfl) (by kernel_rfl) ?_
      simp -dsimp only [go_sem, ↓reduceIte]
      repeat with_reducible refine And.intro (by first | omega | decide) ?_
      refine hKK6 _ _ ?_
      try clear hKK6 KK6
      refine Lwp_ret ?_
      simp only [LThen, LBlock, LPost, Try.results18]
      simp -dsimp only [go_sem, ↓reduceIte]
      exact ret_keep (hRR _ _ ⟨u, es, p, rfl, hrd, ⟨e, he⟩, (hN.keep hK3 (fun _ h => absurd h (by simp)) (fun _ _ h => absurd h (by simp))).keep (Keeps.app _ _ []) (fun _ h => absurd h (by simp)) (fun _ _ h => absurd h (by simp))⟩)
    · skip
      exact absurd (by simpa using hf) he0
  · skip
    have hlen := okLog_len hok
    have htk : us.take 38 = us := List.take_of_length_le (by omega)
    have hov : ∀ cs : List LV, cs.length = 38 → ovr cs 0 us = us := fun cs h => ovr_all (by rw [hlen, h])
    rw [List.length_drop] at hn
    have e6 : IntKind.i64.wrap ((p : Int) + (n : Int)) = ((p + n : Nat) : Int) := by rw [w64 (by omega) (by omega)]; rfl
    simp -dsimp only [go_sem, ↓reduceIte, hov, htk, hlen, List.length_cons, List.length_nil]
    refine hKK3 _ _ ?_
    try clear hKK3 KK3
    refine Lwp_seq fun KK7 hKK7 => ?_
    refine Lwp_seq fun KK8 hKK8 => ?_
    refine LregionG [none, none] (by kernel_rfl) (by kernel_rfl) ?_
    simp -dsimp only [go_sem, ↓reduceIte]
    repeat with_reducible refine And.intro (by first | omega | decide) ?_
    refine hKK8 _ _ ?_
    try clear hKK8 KK8
    refine Lwp_cond (by simp only [go_sem, ↓reduceIte]; rfl) (fun ht => ?_) (fun hf => ?_)
    · skip
      simp at ht
    · skip
      refine Lwp_skip ?_
      try simp -dsimp only [go_sem, ↓reduceIte]
      refine hKK7 _ _ ?_
      try clear hKK7 KK7
      refine Lwp_store (fun S4 => NewRow S S4 u 38 es ∧ S4[S3.length]? = some (some (38, [us]))) ⟨(hN.keep hK3 (fun _ h => absurd h (by simp)) (fun _ _ h => absurd h (by simp))).keep (Keeps.app _ _ []) (fun _ h => absurd h (by simp)) (fun _ _ h => absurd h (by simp)), by simp⟩ ?_
      rintro S4 ⟨hN4, hS4⟩
      refine LregionG [none, none, none, none, none, none, none, none, none] (by kernel_rfl) (by kernel_rfl) ?_
      simp -dsimp only [go_sem, ↓reduceIte, hS4, hlen, htk, e6]
      repeat with_reducible refine And.intro (by first | omega | decide | assumption) ?_
      refine NewRow.apd (fs := [us]) hN4 rfl (by simp only [go_sem]; rfl) (by simp only [go_sem]; first | exact ⟨rfl, rfl⟩ | exact ⟨rfl, rfl, rfl⟩ | rfl) (by simp only [go_sem]) (by simp only [go_sem, ↓reduceIte]) (by simp only [go_sem, ↓reduceIte]) (by simp [hlen]) (by simp) (by simp only [LIM, List.length_cons, List.length_nil]; omega) ?_
      rintro r S5 hN5 hK5 - -
      simp -dsimp only [go_sem, ↓reduceIte, e6]
      exact hII (bs.length - (p + n)) _ _ (by omega) ⟨p + n, r, es ++ [us], rfl, .snoc hrd hd, hN5, rfl⟩

end Go.Proofs.Ytdhngmldmalbbaa
end
section
set_option linter.all false
namespace Go.Proofs.Ytdhngmldmalbbaa
open Go.Lift Go.RowKit Go.Store
set_option linter.unusedSimpArgs false
set_option linter.unusedVariables false

/-! ### What is read of a journal -/
/-- entries and their bodies. -/
abbrev EL := List (List LV × List UInt8)
def jr (L : EL) : List UInt8 := L.flatMap fun p => framed p.2
def FitE (p : List LV × List UInt8) : Prop := ∃ k off s u, Fits p.1 k off s u p.2
/-- what was read for an entry. -/
def EqE (v : List LV) (p : List LV × List UInt8) : Prop := ok sLog v ∧ sameE v p.1 = true ∧ bodyE v = some p.2
theorem jr_nil : jr [] = [] := rfl
theorem jr_cons (p : List LV × List UInt8) (L : EL) : jr (p :: L) = framed p.2 ++ jr L := rfl
theorem jr_app (L M : EL) : jr (L ++ M) = jr L ++ jr M := by simp [jr]
theorem dec_fit {p : List LV × List UInt8} (h : FitE p) (rest : List UInt8) {us : List LV} {n : Int} (hd : DecO (decS (framed p.2 ++ rest)) (.tup [.agg us, V n, V 0])) : n = (framed p.2).length ∧ EqE us p := by
  obtain ⟨k, off, s, u, hF⟩ := h
  obtain ⟨vs, hr, hok, h1, h2, h3⟩ := dec_same hF hd
  simp only [LV.tup.injEq, List.cons.injEq, LV.int.injEq, LV.agg.injEq, true_and, and_true] at hr
  obtain ⟨rfl, rfl⟩ := hr
  exact ⟨rfl, hok, h2, h3⟩
theorem dec_fit_inl {p : List LV × List UInt8} (h : FitE p) (rest : List UInt8) {e : Int} : decS (framed p.2 ++ rest) ≠ .inl e := by
  obtain ⟨k, off, s, u, hok, g0, hks, hu, hb, -, hl⟩ := h
  rw [decS_framed hks hu hb (by omega)]
  simp
theorem DecO_inl {bs : List UInt8} {e : Int} (h : decS bs = .inl e) {us : List LV} {n : Int} : ¬ DecO (decS bs) (.tup [.agg us, V n, V 0]) := by
  intro hd
  have he := decS_inl h
  rw [h] at hd
  simp only [DecO, LV.tup.injEq, List.cons.injEq, LV.int.injEq] at hd
  exact he hd.2.2.1.2.symm
theorem RdTo.take {bs : List UInt8} {p : Nat} {es : List (List LV)} (h : RdTo bs p es) : ∀ m, m ≤ es.length → ∃ p', RdTo bs p' (es.take m) := by
  induction h with
  | nil => intro m hm; exact ⟨0, by simpa using RdTo.nil⟩
  | @snoc p n es us h hd ih =>
    intro m hm
    rw [List.length_append, List.length_cons, List.length_nil] at hm
    by_cases e : m = es.length + 1
    · exact ⟨p + n, by rw [List.take_of_length_le (by simp; omega)]; exact .snoc h hd⟩
    · obtain ⟨p', hp⟩ := ih m (by omega)
      exact ⟨p', by rw [List.take_append_of_le_length (by omega)]; exact hp⟩
theorem RdTo.last {bs : List UInt8} {p : Nat} {es : List (List LV)} {us : List LV} (h : RdTo bs p (es ++ [us])) : ∃ p' n : Nat, RdTo bs p' es ∧ p = p' + n ∧ DecO (decS (bs.drop p')) (.tup [.agg us, V n, V 0]) := by
  generalize hf : es ++ [us] = fs at h
  cases h with
  | nil => simp at hf
  | snoc h hd =>
    obtain ⟨rfl, h2⟩ := List.append_inj' hf rfl
    cases h2
    exact ⟨_, _, h, rfl, hd⟩
theorem getE {L : EL} {i : Nat} (h : i < L.length) : L.take (i + 1) = L.take i ++ [L.getD i ([], [])] := by
  rw [List.take_succ_eq_append_getElem h, List.getD_eq_getElem?_getD, List.getElem?_eq_getElem h]; rfl
theorem getE_mem {L : EL} {i : Nat} (h : i < L.length) : L.getD i ([], []) ∈ L := by
  rw [List.getD_eq_getElem?_getD, List.getElem?_eq_getElem h]; exact List.getElem_mem h
theorem dropE {L : EL} {i : Nat} (h : i < L.length) : L.drop i = L.getD i ([], []) :: L.drop (i + 1) := by
  rw [List.drop_eq_getElem_cons h, List.getD_eq_getElem?_getD, List.getElem?_eq_getElem h]; rfl
theorem jr_drop {L : EL} {i : Nat} (h : i < L.length) (rest : List UInt8) : (jr L ++ rest).drop (jr (L.take i)).length = framed (L.getD i ([], [])).2 ++ (jr (L.drop (i + 1)) ++ rest) := by
  have e : jr L = jr (L.take i) ++ (framed (L.getD i ([], [])).2 ++ jr (L.drop (i + 1))) := by
    rw [← jr_cons, ← dropE h, ← jr_app, List.take_append_drop]
  rw [e, List.append_assoc, List.drop_left, List.append_assoc]
theorem RdTo.jr_take {L : EL} (hL : ∀ p ∈ L, FitE p) {rest : List UInt8} {p : Nat} {es : List (List LV)} (h : RdTo (jr L ++ rest) p es) : es.length ≤ L.length → p = (jr (L.take es.length)).length ∧ ∀ i, i < es.length → EqE (es.getD i []) (L.getD i ([], [])) := by
  induction h with
  | nil => intro _; simp [jr_nil]
  | @snoc p n es us h hd ih =>
    intro hl
    rw [List.length_append, List.length_cons, List.length_nil] at hl
    obtain ⟨rfl, h2⟩ := ih (by omega)
    rw [jr_drop (by omega)] at hd
    obtain ⟨hn, hq⟩ := dec_fit (hL _ (getE_mem (by omega))) _ hd
    have hn' : n = (framed (L.getD es.length ([], [])).2).length := by omega
    refine ⟨?_, fun i hi => ?_⟩
    · rw [List.length_append, List.length_cons, List.length_nil, getE (by omega), jr_app, List.length_append, hn']
      simp [jr]
    · rw [List.length_append, List.length_cons, List.length_nil] at hi
      by_cases e : i = es.length
      · subst e
        rw [List.getD_eq_getElem?_getD, List.getElem?_append_right (by omega), Nat.sub_self]; exact hq
      · rw [List.getD_eq_getElem?_getD, List.getElem?_append_left (by omega), ← List.getD_eq_getElem?_getD]; exact h2 i (by omega)
/-- a journal whose first entries are whole. -/
theorem read_whole {L : EL} (hL : ∀ p ∈ L, FitE p) {rest : List UInt8} {p : Nat} {es : List (List LV)} (h : RdTo (jr L ++ rest) p es) (he : ∃ e, decS ((jr L ++ rest).drop p) = .inl e) :
    L.length ≤ es.length ∧ (∀ i, i < L.length → EqE (es.getD i []) (L.getD i ([], []))) ∧ ((∃ e, decS rest = .inl e) → es.length = L.length ∧ p = (jr L).length) := by
  have h1 : L.length ≤ es.length := by
    by_cases hlt : L.length ≤ es.length
    · exact hlt
    · obtain ⟨rfl, -⟩ := h.jr_take hL (by omega)
      rw [jr_drop (by omega)] at he
      obtain ⟨e, he⟩ := he
      exact absurd he (dec_fit_inl (hL _ (getE_mem (by omega))) _)
  refine ⟨h1, fun i hi => ?_, fun ⟨e, hr⟩ => ?_⟩
  · obtain ⟨p', hp⟩ := h.take L.length h1
    have := (hp.jr_take hL (by rw [List.length_take]; omega)).2 i (by rw [List.length_take]; omega)
    rwa [List.getD_eq_getElem?_getD, List.getElem?_take_of_lt hi, ← List.getD_eq_getElem?_getD] at this
  · have h2 : es.length = L.length := by
      by_cases hgt : es.length = L.length
      · exact hgt
      · obtain ⟨p', hp⟩ := h.take (L.length + 1) (by omega)
        rw [List.take_succ_eq_append_getElem (by omega)] at hp
        obtain ⟨p2, n, hp2, -, hd⟩ := hp.last
        obtain ⟨rfl, -⟩ := hp2.jr_take hL (by rw [List.length_take]; omega)
        rw [List.length_take, Nat.min_eq_left h1, List.take_of_length_le (Nat.le_refl _), List.drop_left] at hd
        exact absurd hd (DecO_inl hr)
    refine ⟨h2, ?_⟩
    obtain ⟨rfl, -⟩ := h.jr_take hL (by omega)
    rw [h2, List.take_of_length_le (Nat.le_refl _)]
theorem decS_nil : decS [] = .inl 11 := rfl
theorem decS_cut {p : List LV × List UInt8} (h : FitE p) {q : Nat} (hq : q < (framed p.2).length) : decS ((framed p.2).take q) = .inl 11 := by
  obtain ⟨k, off, s, u, hok, g0, hks, hu, hb, -, hl⟩ := h
  have hlen : ((framed p.2).take q).length = q := by rw [List.length_take]; omega
  unfold decS
  rw [hlen]
  by_cases h4 : q < 4
  · rw [if_pos h4]
  · rw [if_neg h4]
    have e4 : ((framed p.2).take q).take 4 = be 4 p.2.length := by
      rw [List.take_take, Nat.min_eq_left (by omega)]
      simp only [framed, List.append_assoc]; exact List.take_left' (be_length 4 _)
    rw [e4, num_be4 (by omega), if_neg (by omega), if_pos (by rw [framed_len] at hq; omega)]

end Go.Proofs.Ytdhngmldmalbbaa
end
section
set_option linter.all false
namespace Go.Proofs.Ytdhngmldmalbbaa
open Go.Lift Go.RowKit Go.Store
set_option linter.unusedSimpArgs false
set_option linter.unusedVariables false

/-- where the entries of a journal end. -/
def endsN (L : EL) : List Nat := (List.range (L.length + 1)).map fun i => (jr (L.take i)).length
theorem endsN_len {L : EL} : (endsN L).length = L.length + 1 := by simp [endsN]
theorem endsN_get {L : EL} {i : Nat} (h : i ≤ L.length) : (endsN L).getD i 0 = (jr (L.take i)).length := by
  rw [List.getD_eq_getElem?_getD, endsN, List.getElem?_map, List.getElem?_range (by omega)]; rfl
theorem endsN_snoc {L : EL} {p : List LV × List UInt8} : endsN (L ++ [p]) = endsN L ++ [(jr (L ++ [p])).length] := by
  unfold endsN
  rw [List.length_append, List.length_cons, List.length_nil, List.range_succ, List.map_append]
  congr 1
  · apply List.map_congr_left
    intro i hi
    rw [List.mem_range] at hi
    rw [List.take_append_of_le_length (by omega)]
  · simp only [List.map_cons, List.map_nil]
    rw [List.take_of_length_le (by simp)]
def nc (n : Nat) : List LV := [V n]
theorem nc_getD {l : List Nat} {i : Nat} (h : i < l.length) : (l.map nc).getD i [] = nc (l.getD i 0) := by
  simp only [List.getD_eq_getElem?_getD, List.getElem?_map, List.getElem?_eq_getElem h]; rfl
theorem jr_mono {L : EL} {i j : Nat} (h : i ≤ j) : (jr (L.take i)).length ≤ (jr (L.take j)).length := by
  have e : L.take j = L.take i ++ (L.take j).drop i := by
    have := (List.take_append_drop i (L.take j)).symm
    rwa [List.take_take, Nat.min_eq_left h] at this
  rw [e, jr_app, List.length_append]; omega
theorem jr_take_le {L : EL} {i : Nat} : (jr (L.take i)).length ≤ (jr L).length := by
  have := jr_mono (L := L) (i := min i L.length) (j := L.length) (by omega)
  rwa [List.take_of_length_le (Nat.le_refl L.length), ← List.take_eq_take_min] at this
theorem jr_take_lt {L : EL} {i : Nat} (h : i < L.length) : (jr (L.take i)).length + 8 ≤ (jr (L.take (i + 1))).length := by
  rw [getE h, jr_app, List.length_append]
  have : jr [L.getD i ([], [])] = framed (L.getD i ([], [])).2 := by simp [jr]
  rw [this, framed_len]; omega
/-- a journal that was cut. -/
theorem jr_cut {L : EL} (hL : ∀ p ∈ L, FitE p) {q w : Nat} (hw : w ≤ L.length) (h1 : (jr (L.take w)).length ≤ q) (h2 : ∀ i, w < i → i ≤ L.length → q < (jr (L.take i)).length) : ∃ rest, (jr L).take q = jr (L.take w) ++ rest ∧ ∃ e, decS rest = .inl e := by
  by_cases hk : w = L.length
  · subst hk
    rw [List.take_of_length_le (Nat.le_refl _)] at h1 ⊢
    exact ⟨[], by rw [List.append_nil, List.take_of_length_le h1], 11, decS_nil⟩
  · have hlt : w < L.length := by omega
    have hq := h2 (w + 1) (by omega) (by omega)
    have e : jr L = jr (L.take w) ++ (framed (L.getD w ([], [])).2 ++ jr (L.drop (w + 1))) := by
      rw [← jr_cons, ← dropE hlt, ← jr_app, List.take_append_drop]
    have e2 : (jr (L.take (w + 1))).length = (jr (L.take w)).length + (framed (L.getD w ([], [])).2).length := by
      rw [getE hlt, jr_app, List.length_append]; simp [jr]
    refine ⟨(framed (L.getD w ([], [])).2).take (q - (jr (L.take w)).length), ?_, 11, decS_cut (hL _ (getE_mem hlt)) (by omega)⟩
    rw [e, List.take_append, List.take_of_length_le h1, List.take_append_of_le_length (by omega)]
theorem jr_dam {L : EL} {i k : Nat} {b : UInt8} (h : (jr (L.take i)).length ≤ k) : ∃ rest, (jr L).set k b = jr (L.take i) ++ rest := by
  have e : jr L = jr (L.take i) ++ jr (L.drop i) := by rw [← jr_app, List.take_append_drop]
  rw [e]
  exact ⟨(jr (L.drop i)).set (k - (jr (L.take i)).length) b, by rw [List.set_append_right _ _ h]⟩
theorem map_set8 {bs : List UInt8} {k : Nat} {b : UInt8} : (bs.map u8c).set k (u8c b) = (bs.set k b).map u8c := (List.map_set ..).symm
theorem fit_ok {p : List LV × List UInt8} (h : FitE p) : ok sLog p.1 ∧ bodyE p.1 = some p.2 ∧ p.2.length ≤ 5000 := by
  obtain ⟨k, off, s, u, hok, -, -, -, -, hb, hl⟩ := h
  exact ⟨hok, hb, hl⟩
theorem fit_enc {p : List LV × List UInt8} (h : FitE p) : encO p.1 = .inr (framed p.2) := by
  obtain ⟨-, hb, hl⟩ := fit_ok h
  unfold encO
  rw [hb]
  simp only []
  rw [if_pos (by omega)]
theorem jr_len {L : EL} (hL : ∀ p ∈ L, FitE p) : (jr L).length ≤ 5008 * L.length := by
  have := fm_max (f := fun p : List LV × List UInt8 => framed p.2) (m := 5008) (es := L) (fun p hp => by
    have := (fit_ok (hL p hp)).2.2
    rw [framed_len]; omega)
  exact this


theorem u8_wrap_ex (n : Int) : ∃ b : UInt8, IntKind.u8.wrap n = (b.toNat : Int) := ⟨UInt8.ofNat (n % 256).toNat, by rw [wu8m]; simp; omega⟩
/-- the variables of the law while the journal is made. -/
structure JI (S : LS) (pc : Nat) (S1 : LS) (l e : LV) (L : EL) : Prop where
  codes : ∃ fl xs a, xs.length ≤ 1000000 ∧ S1[pc]? = some (some (cb fl xs a))
  hpc : S.length ≤ pc
  keep : Keeps S S1 []
  rl : RowS S1 S.length l 38 (L.map (·.1))
  re : RowS S1 S.length e 1 ((endsN L).map nc)
  dl : pc ∉ rowIds l
  de : pc ∉ rowIds e
  dle : ∀ id ∈ rowIds l, id ∉ rowIds e
  fit : ∀ p ∈ L, FitE p
section
variable {S S1 S2 : LS} {pc : Nat} {l e : LV} {L : EL}
theorem JI.keeps {ids : List Nat} (h : JI S pc S1 l e L) (hK : Keeps S1 S2 ids) (h0 : ∀ id ∈ ids, S1.length ≤ id) : JI S pc S2 l e L := by
  obtain ⟨fl, xs, a, hx, hp⟩ := h.codes
  have ll := fun id hid => (h.rl.lo id hid).2
  have le := fun id hid => (h.re.lo id hid).2
  have lp := lt_of_get hp
  exact ⟨⟨fl, xs, a, hx, hK.get hp (fun hm => by have := h0 _ hm; omega)⟩, h.hpc, h.keep.trans hK (fun j hj hm => hm.elim (fun h => absurd h (by simp)) (fun hm => by have := h0 _ hm; have := h.keep.1; omega)),
    RowS.mono h.rl (Nat.le_refl _) (fun id hid b hb => hK.get hb (fun hm => by have := h0 _ hm; have := ll _ hid; omega)), RowS.mono h.re (Nat.le_refl _) (fun id hid b hb => hK.get hb (fun hm => by have := h0 _ hm; have := le _ hid; omega)), h.dl, h.de, h.dle, h.fit⟩
theorem JI.set {fl : Bool} {xs : List UInt8} {a : Nat} (h : JI S pc S1 l e L) (hx : xs.length ≤ 1000000) : JI S pc (S1.set pc (some (cb fl xs a))) l e L := by
  obtain ⟨_, _, _, _, hp⟩ := h.codes
  have hK : Keeps S1 (S1.set pc (some (cb fl xs a))) [pc] := Keeps.set _ (by simp)
  exact ⟨⟨fl, xs, a, hx, List.getElem?_set_self (lt_of_get hp)⟩, h.hpc, h.keep.trans hK (fun j hj hm => hm.elim (fun h => h) (fun hm => by have := h.hpc; simp at hm; omega)),
    RowS.mono h.rl (Nat.le_refl _) (fun id hid b hb => hK.get hb (fun hm => h.dl (by simp at hm; exact hm ▸ hid))), RowS.mono h.re (Nat.le_refl _) (fun id hid b hb => hK.get hb (fun hm => h.de (by simp at hm; exact hm ▸ hid))), h.dl, h.de, h.dle, h.fit⟩
end
theorem JI.snoc {S S6 S7 S8 : LS} {pc n1 n2 : Nat} {l e : LV} {L : EL} {p : List LV × List UInt8} (h : JI S pc S6 l e L) (hp : FitE p) (hK7 : Keeps S6 S7 (rowIds l)) (hl7 : S7.length = S6.length + 1)
    (hr7 : RowS S7 S6.length (.ref S6.length 0 n1) 38 (L.map (·.1) ++ [p.1])) (hK8 : Keeps S7 S8 (rowIds e)) (hr8 : RowS S8 S7.length (.ref S7.length 0 n2) 1 ((endsN L).map nc ++ [nc (jr (L ++ [p])).length])) :
    JI S pc S8 (.ref S6.length 0 n1) (.ref S7.length 0 n2) (L ++ [p]) := by
  obtain ⟨fl, xs, a, hx, hc⟩ := h.codes
  have lc := lt_of_get hc
  have k6 := h.keep.1
  have ll := fun id hid => h.rl.lo id hid
  have le := fun id hid => h.re.lo id hid
  have hK := h.keep.trans (ids'' := []) hK7 (fun j hj hm => hm.elim (fun h => h) (fun hm => by have := (ll j hm).1; omega))
  have hK' := hK.trans (ids'' := []) hK8 (fun j hj hm => hm.elim (fun h => h) (fun hm => by have := (le j hm).1; omega))
  refine ⟨⟨fl, xs, a, hx, hK8.get (hK7.get hc h.dl) h.de⟩, h.hpc, hK', ?_, ?_, by simp [rowIds]; omega, by simp [rowIds]; omega, by simp [rowIds]; omega, ?_⟩
  · rw [List.map_append]
    exact RowS.mono hr7 k6 (fun id hid b hb => hK8.get hb (fun hm => by simp [rowIds] at hid; have := (le id hm).2; omega))
  · rw [endsN_snoc, List.map_append]
    exact RowS.mono hr8 (by omega) (fun _ _ _ h => h)
  · intro q hq
    rcases List.mem_append.1 hq with hq | hq
    · exact h.fit q hq
    · rw [List.mem_singleton.1 hq]; exact hp
theorem keeps_kill {X : LS} {n : Nat} {b v : Option Blk} (h : X.length ≤ n) : Keeps X ((X ++ [b]).set n v) [] := ⟨by simp, fun j hj _ => by rw [List.getElem?_set_ne (by omega), List.getElem?_append_left hj]⟩
theorem log_take {us : List LV} (h : ok sLog us) : us.take 38 = us ∧ (∀ cs : List LV, cs.length = 38 → ovr cs 0 us = us) :=
  ⟨List.take_of_length_le (by have := okLog_len h; omega), fun cs hc => ovr_all (by rw [okLog_len h, hc])⟩

set_option maxHeartbeats 400000 in
theorem Crashes_ok {S : LS} (f0 : Bool) (xs : List UInt8) (c1 c2 c3 : Int) (h1 : 0 ≤ c1 ∧ c1 < 65536) (h2 : 0 ≤ c2 ∧ c2 < 65536) (h3 : 0 ≤ c3 ∧ c3 < 256) : LCalls Try.prog 5 [.sl f0 (xs.map u8c), .int .u16 c1, .int .u16 c2, .int .u8 c3] S (fun r S' => r = .bool true) := by
  refine LCalls_introK 0 Try.func5 rfl (by kernel_rfl) rfl fun RR hRR => ?_
  refine Lwp_seq fun KK0 hKK0 => ?_
  refine LregionG [none] (by kernel_rfl) (by kernel_rfl) ?_
  simp -dsimp only [go_sem, ↓reduceIte]
  repeat with_reducible refine And.intro (by first | omega | decide) ?_
  refine hKK0 _ _ ?_
  try clear hKK0 KK0
  refine Lwp_seq fun KK1 hKK1 => ?_
  refine Lwp_seq fun KK2 hKK2 => ?_
  refine LregionG [none, none] (by kernel_rfl) (by kernel_rfl) ?_
  simp -dsimp only [go_sem, ↓reduceIte]
  refine LCalls.k Awake_ok ?_
  rintro _ S1 ⟨rfl, hK1⟩
  simp -dsimp only [go_sem, ↓reduceIte]
  refine hKK2 _ _ ?_
  try clear hKK2 KK2
  refine Lwp_cond (by simp only [go_sem, ↓reduceIte]; rfl) (fun ht => ?_) (fun hf => ?_)
  · skip
    cases ht
  · skip
    refine Lwp_skip ?_
    try simp -dsimp only [go_sem, ↓reduceIte]
    refine hKK1 _ _ ?_
    try clear hKK1 KK1
    refine Lwp_seq fun KK3 hKK3 => ?_
    refine LregionG [none, none, none] (by kernel_rfl) (by kernel_rfl) ?_
    simp -dsimp only [go_sem, ↓reduceIte]
    refine LCalls.k (New_ok f0 xs 300 (by decide)) ?_
    rintro _ _ ⟨fn, ns, hns, rfl, rfl⟩
    simp -dsimp only [go_sem, ↓reduceIte]
    refine hKK3 _ _ ?_
    try clear hKK3 KK3
    refine Lwp_seq fun KK4 hKK4 => ?_
    refine LregionG [none] (by kernel_rfl) (by kernel_rfl) ?_
    simp -dsimp only [go_sem, ↓reduceIte]
    repeat with_reducible refine And.intro (by first | omega | decide) ?_
    refine hKK4 _ _ ?_
    try clear hKK4 KK4
    refine Lwp_seq fun KK5 hKK5 => ?_
    refine LregionG [none, none] (by kernel_rfl) (by kernel_rfl) ?_
    simp -dsimp only [go_sem, ↓reduceIte]
    repeat with_reducible refine And.intro (by first | omega | decide) ?_
    refine hKK5 _ _ ?_
    try clear hKK5 KK5
    refine Lwp_seq fun KK6 hKK6 => ?_
    refine LregionG [none] (by kernel_rfl) (by kernel_rfl) ?_
    simp -dsimp only [go_sem, ↓reduceIte]
    repeat with_reducible refine And.intro (by first | omega | decide) ?_
    refine hKK6 _ _ ?_
    try clear hKK6 KK6
    refine Lwp_seq fun KK7 hKK7 => ?_
    refine Lwp_seq fun KK8 hKK8 => ?_
    refine LregionG [none, none, none, none] (by kernel_rfl) (by kernel_rfl) ?_
    simp -dsimp only [go_sem, ↓reduceIte]
    refine LCalls.k ((NextC 4 (by omega)) _ S1.length fn ns 0 hns (by simp)) ?_
    rintro _ _ ⟨a1, rfl, v, rfl, hv0, -, hv1, -⟩
    have hv2 := hv1 (by omega)
    obtain ⟨K, hKv⟩ : ∃ K : Nat, K = (1 + v).toNat := ⟨_, rfl⟩
    have e1 : IntKind.i64.wrap (1 + v) = (K : Int) := by rw [w64 (by omega) (by omega)]; omega
    have hK4 : 1 ≤ K ∧ K ≤ 4 := by omega
    simp -dsimp only [go_sem, ↓reduceIte, e1]
    refine hKK8 _ _ ?_
    try clear hKK8 KK8
    refine Lwp_block ?_
    have hJ0 : JI S S1.length (S1 ++ [some (cb fn ns a1)]) (.sl true []) (.sl true [[V 0]]) [] :=
      ⟨⟨fn, ns, a1, hns, by simp⟩, hK1.1, hK1.trans (Keeps.app _ _ []) (fun _ _ h => h.elim id id), RowS.nil, ⟨by simp [endsN, nc], .inl rfl⟩, by simp [rowIds], by simp [rowIds], by simp [rowIds], by simp⟩
    refine Lwp_loopK [9, 10, 11, 12, 13, 1, 2, 3] (fun m us S3 => ∃ (k : Nat) (f : Bool) (l e : LV) (L : EL), us = [.ptr S1.length 0 0, .sl f ((jr L).map u8c), e, l, V (k : Int), .int .u16 c1, .int .u16 c2, .int .u8 c3] ∧ L.length + k = K ∧ JI S S1.length S3 l e L ∧ m = k) K rfl (⟨K, true, .sl true [], .sl true [[V 0]], [], by simp only [go_sem, ↓reduceIte, jr_nil, List.map_nil], by simp, hJ0, rfl⟩) ?_
    rintro m us S2 ⟨k, f, l, e, L, rfl, hLk, hJ, hm⟩ II hII
    refine Lwp_seq fun KK9 hKK9 => ?_
    refine Lwp_seq fun KK10 hKK10 => ?_
    refine LregionG [none, none] (by kernel_rfl) (by kernel_rfl) ?_
    simp -dsimp only [go_sem, ↓reduceIte]
    repeat with_reducible refine And.intro (by first | omega | decide) ?_
    refine hKK10 _ _ ?_
    try clear hKK10 KK10
    refine Lwp_cond (by simp only [go_sem, ↓reduceIte]; rfl) (fun ht => ?_) (fun hf => ?_)
    · skip
      have hk0 : 0 < k := by simp at ht; omega
      obtain ⟨fl, xs2, a2, hx2, hpcS⟩ := hJ.codes
      refine Lwp_skip ?_
      try simp -dsimp only [go_sem, ↓reduceIte]
      refine hKK9 _ _ ?_
      try clear hKK9 KK9
      refine Lwp_seq fun KK11 hKK11 => ?_
      refine Lwp_block ?_
      refine Lwp_seq fun KK12 hKK12 => ?_
      refine LregionG [none, none, none, none] (by kernel_rfl) (by kernel_rfl) ?_
      simp -dsimp only [go_sem, ↓reduceIte]
      refine LCalls.k (EntryC _ S1.length fl xs2 a2 hx2 hpcS) ?_
      rintro _ _ ⟨a3, rfl, us, rfl, hEnt⟩
      obtain ⟨kk, off, s, u, body, hF⟩ := ent_fits hEnt
      have hfit : FitE (us, body) := ⟨kk, off, s, u, hF⟩
      obtain ⟨hok, hbE, hbl⟩ := fit_ok hfit
      obtain ⟨htk, hov⟩ := log_take hok
      have hlen := okLog_len hok
      have hJ2 := hJ.set (fl := fl) (a := a3) hx2
      clear hF
      simp -dsimp only [go_sem, ↓reduceIte, hlen, htk, hov, List.length_cons, List.length_nil]
      refine hKK12 _ _ ?_
      try clear hKK12 KK12
      refine Lwp_seq fun KK13 hKK13 => ?_
      refine Lwp_freezeP 14 (S2.length) 0 0 38 [us] us rfl (by simp only [go_sem, ↓reduceIte]) (by simp) rfl ?_
      refine Lwp_store (fun S4 => JI S S1.length S4 l e L) (hJ2.keeps (ids := []) (keeps_kill (by simp)) (by simp)) ?_
      rintro S4 hJ4
      have hjl := jr_len hJ.fit
      have hjn : jr (L ++ [(us, body)]) = jr L ++ framed body := by rw [jr_app]; simp [jr]
      refine LregionG [none, none, none, none, none, none, none, none, none] (by kernel_rfl) (by kernel_rfl) ?_
      simp -dsimp only [go_sem, ↓reduceIte, htk, hlen]
      refine LCalls.k (Append_ok (u := .sl f ((jr L).map u8c)) (.inl ⟨_, rfl⟩) true [us] (by simp only [List.mem_singleton, forall_eq]; exact ⟨hok, fun b hb => by rw [hbE] at hb; cases hb; omega⟩) (by simp only [List.length_cons, List.length_nil]; omega)) ?_
      rintro r S5 hr
      have hao : appO [us] = .inr (framed body) := by simp only [appO, fit_enc hfit, List.append_nil]
      unfold AppR at hr
      rw [hao] at hr
      obtain ⟨u5, rfl, hN5⟩ := hr
      rw [← hjn] at hN5
      have hJ5 := hJ4.keeps (ids := []) hN5.2.1 (by simp)
      have h5 : ∀ id ∈ rowIds u5, S4.length ≤ id := fun id hid => (hN5.2.2.1 id hid).elim (fun h => by simp [rowIds] at h) (fun h => h)
      simp -dsimp only [go_sem, ↓reduceIte]
      refine hKK13 _ _ ?_
      try clear hKK13 KK13
      refine Lwp_seq fun KK14 hKK14 => ?_
      refine Lwp_seq fun KK15 hKK15 => ?_
      refine rdRow hN5.acc.rd _ _ _ _ 15 rfl (by simp only [go_sem, ↓reduceIte]) fun full S6 hl6 hK6 => ?_
      have hlt : ¬ ((jr (L ++ [(us, body)])).length : Int) ≤ (jr L).length := by
        rw [hjn, List.length_append, framed_len]; omega
      have hJ6 := hJ4.keeps (S2 := S6) (ids := []) ⟨by have := hN5.2.1.1; omega, fun j hj _ => (hK6 j (fun h => by have := h5 j h; omega)).trans (hN5.2.1.2 j hj (by simp [rowIds]))⟩ (by simp)
      have hel := endsN_len (L := L)
      refine LregionG [none, none, none, some (52, false), some (52, false), some (52, false), some (52, false), some (52, false), none] (by kernel_rfl) (by kernel_rfl) ?_
      simp -dsimp only [go_sem, ↓reduceIte, hlt]
      repeat with_reducible refine And.intro (by first | omega | decide) ?_
      refine hKK15 _ _ ?_
      try clear hKK15 KK15
      refine Lwp_cond (by simp only [go_sem, ↓reduceIte]; rfl) (fun ht => ?_) (fun hf => ?_)
      · skip
        cases ht
      · skip
        refine Lwp_skip ?_
        try simp -dsimp only [go_sem, ↓reduceIte]
        refine hKK14 _ _ ?_
        try clear hKK14 KK14
        refine LregionG [none, none, none, none, none, none, none, none, none, none, none, none, none] (by kernel_rfl) (by kernel_rfl) ?_
        simp -dsimp only [go_sem, ↓reduceIte, htk, hlen]
        repeat with_reducible refine And.intro (by first | omega | decide | assumption) ?_
        refine append_row (fs := [us]) hJ6.rl rfl (by simp only [go_sem]; rfl) (by simp only [go_sem]; first | exact ⟨rfl, rfl⟩ | exact ⟨rfl, rfl, rfl⟩ | rfl) (by simp only [go_sem]) (by simp only [go_sem, ↓reduceIte]) (by simp only [go_sem, ↓reduceIte, htk]) (by simp [hlen]) (.inr (by simp)) (by simp only [LIM, List.length_cons, List.length_nil, List.length_map]; omega) fun S7 hl7 hr7 hK7 => ?_
        have he7 : RowS S7 S.length e 1 ((endsN L).map nc) := RowS.mono hJ6.re (Nat.le_refl _) (fun id hid b hb => hK7.get hb (fun hm => hJ6.dle _ hm hid))
        simp -dsimp only [go_sem, ↓reduceIte]
        repeat with_reducible refine And.intro (by first | omega | decide | assumption) ?_
        refine append_row (fs := [nc (jr (L ++ [(us, body)])).length]) he7 rfl (by simp only [go_sem]; rfl) (by simp only [go_sem]; first | exact ⟨rfl, rfl⟩ | exact ⟨rfl, rfl, rfl⟩ | rfl) (by simp only [go_sem]) (by simp only [go_sem, ↓reduceIte]) (by simp only [go_sem, ↓reduceIte]; rfl) (by simp [nc]) (.inr (by simp)) (by simp only [LIM, List.length_cons, List.length_nil, List.length_map]; omega) fun S8 hl8 hr8 hK8 => ?_
        have e9 : IntKind.i64.wrap ((k : Int) - 1) = ((k - 1 : Nat) : Int) := by rw [w64 (by omega) (by omega)]; omega
        simp -dsimp only [go_sem, ↓reduceIte]
        refine hKK11 _ _ ?_
        try clear hKK11 KK11
        refine LregionG [none, none, none] (by kernel_rfl) (by kernel_rfl) ?_
        simp -dsimp only [go_sem, ↓reduceIte, e9]
        repeat with_reducible refine And.intro (by first | omega | decide) ?_
        exact hII (k - 1) _ _ (by omega) ⟨k - 1, full, _, _, L ++ [(us, body)], rfl, by simp only [List.length_append, List.length_cons, List.length_nil]; omega, hJ6.snoc hfit hK7 hl7 (by simpa only [List.length_map, List.length_cons, List.length_nil, Nat.zero_add] using hr7) hK8 (by simpa only [List.length_map, List.length_cons, List.length_nil, Nat.zero_add] using hr8), rfl⟩
    · skip
      have hk0 : k = 0 := by simp at hf; omega
      subst hk0
      have hLK : L.length = K := by omega
      have hjl := jr_len hJ.fit
      have hfit := hJ.fit
      obtain ⟨N, hNe⟩ : ∃ N, N = (jr L).length := ⟨_, rfl⟩
      have hmapl : (List.map u8c (jr L)).length = N := by rw [List.length_map, hNe]
      obtain ⟨n, hn, hne⟩ : ∃ n : Nat, n ≤ N ∧ c1.tmod ((N : Int) + 1) = (n : Int) := by
        refine ⟨(c1.tmod ((N : Int) + 1)).toNat, ?_, ?_⟩
        · have h5 := Int.tmod_lt_of_pos c1 (show (0 : Int) < (N : Int) + 1 by omega)
          omega
        · have h5 := Int.tmod_nonneg ((N : Int) + 1) h1.1
          omega
      have e1 : IntKind.i64.wrap c1 = c1 := w64 (by omega) (by omega)
      have e2 : IntKind.i64.wrap ((N : Int) + 1) = (N : Int) + 1 := w64 (by omega) (by omega)
      have e3 : ¬ ((N : Int) + 1 = 0) := by omega
      obtain ⟨q, hq⟩ : ∃ q, q = N - n := ⟨_, rfl⟩
      have e4 : IntKind.i64.wrap ((N : Int) - (n : Int)) = (q : Int) := by rw [w64 (by omega) (by omega)]; omega
      have hel := endsN_len (L := L)
      have helm : (List.map nc (endsN L)).length = K + 1 := by rw [List.length_map, hel, hLK]
      have hlm : (List.map (fun x : List LV × List UInt8 => x.1) L).length = K := by rw [List.length_map, hLK]
      refine Lwp_exit ?_
      simp -dsimp only [go_sem, ↓reduceIte]
      refine hKK7 _ _ ?_
      try clear hKK7 KK7
      refine Lwp_seq fun KK16 hKK16 => ?_
      refine Lwp_frzRowS 11 e rfl (by simp only [go_sem, ↓reduceIte]) hJ.re fun fe S4 hl4 hK4' => ?_
      have hrl := RowS.mono (S' := S4) hJ.rl (Nat.le_refl _) (fun id hid b hb => by rw [hK4' id (fun h => hJ.dle id hid h)]; exact hb)
      refine Lwp_frzRowS 12 l rfl (by simp only [go_sem, ↓reduceIte]) hrl fun fl3 S5 hl5 hK5 => ?_
      clear hK5 hl5 hrl hK4' hl4 hJ hII hJ0
      refine LregionG [none, none, none, none, none, none, none] (by kernel_rfl) (by kernel_rfl) ?_
      simp -dsimp only [go_sem, ↓reduceIte, ← hNe, e1, e2, e3, hne]
      repeat with_reducible refine And.intro (by first | omega | decide) ?_
      refine hKK16 _ _ ?_
      try clear hKK16 KK16
      refine Lwp_seq fun KK17 hKK17 => ?_
      refine LregionG [none] (by kernel_rfl) (by kernel_rfl) ?_
      simp -dsimp only [go_sem, ↓reduceIte]
      repeat with_reducible refine And.intro (by first | omega | decide) ?_
      refine hKK17 _ _ ?_
      try clear hKK17 KK17
      refine Lwp_seq fun KK18 hKK18 => ?_
      refine Lwp_seq fun KK19 hKK19 => ?_
      refine LregionG [none, none, none] (by kernel_rfl) (by kernel_rfl) ?_
      simp -dsimp only [go_sem, ↓reduceIte, helm]
      repeat with_reducible refine And.intro (by first | omega | decide) ?_
      refine hKK19 _ _ ?_
      try clear hKK19 KK19
      refine Lwp_block ?_
      refine Lwp_loopK [77, 76, 18, 10, 11, 17, 12, 2, 3] (fun m us S3 => ∃ (i w : Nat), us = [V (i : Int), V ((K + 1 : Nat) : Int), V (w : Int), .sl f ((jr L).map u8c), .sl fe ((endsN L).map nc), V (n : Int), .sl fl3 (L.map (·.1)), .int .u16 c2, .int .u8 c3] ∧ i ≤ K + 1 ∧ (i = 0 ∧ w = 0 ∨ w < i ∧ (jr (L.take w)).length ≤ q ∧ ∀ j, w < j → j < i → q < (jr (L.take j)).length) ∧ m = K + 1 - i) (K + 1) rfl (⟨0, 0, rfl, Nat.zero_le _, .inl ⟨rfl, rfl⟩, rfl⟩) ?_
      rintro m us S2 ⟨i, w, rfl, hi, hw, hm⟩ II hII
      refine Lwp_seq fun KK20 hKK20 => ?_
      refine LregionG [none] (by kernel_rfl) (by kernel_rfl) ?_
      simp -dsimp only [go_sem, ↓reduceIte]
      repeat with_reducible refine And.intro (by first | omega | decide) ?_
      refine hKK20 _ _ ?_
      try clear hKK20 KK20
      refine Lwp_seq fun KK21 hKK21 => ?_
      refine Lwp_cond (by simp only [go_sem, ↓reduceIte]; rfl) (fun ht => ?_) (fun hf => ?_)
      · skip
        have hi1 : i < K + 1 := by simp at ht; omega
        have hgi : (List.map nc (endsN L)).getD i [] = [V ((jr (L.take i)).length : Int)] := by
          rw [nc_getD (by omega), endsN_get (by omega)]; rfl
        have e5 : IntKind.i64.wrap ((i : Int) + 1) = ((i + 1 : Nat) : Int) := by rw [w64 (by omega) (by omega)]; rfl
        have hil : i < (endsN L).length := by omega
        refine Lwp_skip ?_
        try simp -dsimp only [go_sem, ↓reduceIte]
        refine hKK21 _ _ ?_
        try clear hKK21 KK21
        refine Lwp_seq fun KK22 hKK22 => ?_
        refine Lwp_block ?_
        refine Lwp_seq fun KK23 hKK23 => ?_
        refine LregionG [none, none] (by kernel_rfl) (by kernel_rfl) ?_
        simp -dsimp only [go_sem, ↓reduceIte]
        repeat with_reducible refine And.intro (by first | omega | decide) ?_
        refine hKK23 _ _ ?_
        try clear hKK23 KK23
        refine Lwp_seq fun KK24 hKK24 => ?_
        refine LregionG [none, none, none, none, none, none, none, none, none] (by kernel_rfl) (by kernel_rfl) ?_
        simp -dsimp only [go_sem, ↓reduceIte, hgi, hel, ← hNe, e4, hil]
        repeat with_reducible refine And.intro (by first | omega | (refine ⟨by omega, ?_⟩; rfl) | decide) ?_
        refine hKK24 _ _ ?_
        try clear hKK24 KK24
        refine Lwp_cond (by simp only [go_sem, ↓reduceIte]; rfl) (fun ht => ?_) (fun hf => ?_)
        · skip
          have hle : (jr (L.take i)).length ≤ q := by simp at ht; omega
          refine LregionG [none, none] (by kernel_rfl) (by kernel_rfl) ?_
          simp -dsimp only [go_sem, ↓reduceIte]
          repeat with_reducible refine And.intro (by first | omega | decide) ?_
          refine hKK22 _ _ ?_
          try clear hKK22 KK22
          refine LregionG [none, none] (by kernel_rfl) (by kernel_rfl) ?_
          simp -dsimp only [go_sem, ↓reduceIte, e5]
          repeat with_reducible refine And.intro (by first | omega | decide) ?_
          first
          | exact hII (K + 1 - (i + 1)) _ _ (by omega) ⟨i + 1, i, rfl, by omega, .inr ⟨by omega, hle, fun j h1 h2 => by omega⟩, rfl⟩
          | exact hII (K + 1 - (i + 1)) _ _ (by omega) ⟨i + 1, w, rfl, by omega, .inr (by
              rcases hw with ⟨rfl, rfl⟩ | ⟨w1, w2, w3⟩
              · exact absurd (by simp [jr_nil]) hle
              · refine ⟨by omega, w2, fun j h1 h2 => ?_⟩
                by_cases hj : j = i
                · subst hj; omega
                · exact w3 j h1 (by omega)), rfl⟩
        · skip
          have hle : ¬ (jr (L.take i)).length ≤ q := by simp at hf; omega
          refine Lwp_skip ?_
          try simp -dsimp only [go_sem, ↓reduceIte]
          refine hKK22 _ _ ?_
          try clear hKK22 KK22
          refine LregionG [none, none] (by kernel_rfl) (by kernel_rfl) ?_
          simp -dsimp only [go_sem, ↓reduceIte, e5]
          repeat with_reducible refine And.intro (by first | omega | decide) ?_
          first
          | exact hII (K + 1 - (i + 1)) _ _ (by omega) ⟨i + 1, i, rfl, by omega, .inr ⟨by omega, hle, fun j h1 h2 => by omega⟩, rfl⟩
          | exact hII (K + 1 - (i + 1)) _ _ (by omega) ⟨i + 1, w, rfl, by omega, .inr (by
              rcases hw with ⟨rfl, rfl⟩ | ⟨w1, w2, w3⟩
              · exact absurd (by simp [jr_nil]) hle
              · refine ⟨by omega, w2, fun j h1 h2 => ?_⟩
                by_cases hj : j = i
                · subst hj; omega
                · exact w3 j h1 (by omega)), rfl⟩
      · skip
        have hi2 : i = K + 1 := by simp at hf; omega
        subst hi2
        obtain ⟨w1, w2, w3⟩ : w < K + 1 ∧ (jr (L.take w)).length ≤ q ∧ ∀ j, w < j → j < K + 1 → q < (jr (L.take j)).length := by
          rcases hw with ⟨h, -⟩ | h
          · omega
          · exact h
        have hgw : (List.map nc (endsN L)).getD w [] = [V ((jr (L.take w)).length : Int)] := by
          rw [nc_getD (by omega), endsN_get (by omega)]; rfl
        obtain ⟨rest, hcut, hre⟩ := jr_cut hfit (q := q) (w := w) (by omega) w2 (fun i a b => w3 i a (by omega))
        have htq : (jr L).take ((jr L).length - ((n : Int)).toNat) = jr (L.take w) ++ rest := by
          rw [← hNe, Int.toNat_natCast, ← hq, hcut]
        have hfw : ∀ p ∈ L.take w, FitE p := fun p hp => hfit p (List.mem_of_mem_take hp)
        clear hw w3 hcut hm hII
        refine Lwp_exit ?_
        simp -dsimp only [go_sem, ↓reduceIte]
        refine hKK18 _ _ ?_
        try clear hKK18 KK18
        refine Lwp_seq fun KK25 hKK25 => ?_
        refine LregionG [none, none, none, none, none, none, none, none, none] (by kernel_rfl) (by kernel_rfl) ?_
        simp -dsimp only [go_sem, ↓reduceIte]
        refine LCalls.k (Cut_ok f (jr L) (n : Int) (by omega)) ?_
        rintro r1 S3 hN3
        rw [htq] at hN3
        have hjrl : (jr (L.take w) ++ rest).length ≤ N := by rw [← htq, List.length_take]; omega
        simp -dsimp only [go_sem, ↓reduceIte]
        refine LCalls.k (LCalls_bytes (R := fun r S' => ∃ (u : LV) (es : List (List LV)) (p : Nat), r = .tup [u, V p] ∧ RdTo (jr (L.take w) ++ rest) p es ∧ (∃ e, decS ((jr (L.take w) ++ rest).drop p) = .inl e) ∧ RowS S' 0 u 38 es) hN3.acc.rd (fun fl S4 _ _ => (Read_ok fl _ (by omega)).mono fun r S' ⟨u, es, p, g1, g2, g3, g4⟩ => ⟨u, es, p, g1, g2, g3, RowS.mono g4.1 (Nat.zero_le _) (fun _ _ _ h => h)⟩)) ?_
        rintro _ S4 ⟨u4, ms, p4, rfl, hrd4, hre4, hrow4⟩
        obtain ⟨-, hEq4, hend4⟩ := read_whole hfw hrd4 hre4
        obtain ⟨hml, hpl⟩ := hend4 hre
        rw [List.length_take, Nat.min_eq_left (show w ≤ L.length by omega)] at hml hEq4
        clear hN3 hrd4 hre4 hend4
        simp -dsimp only [go_sem, ↓reduceIte]
        refine hKK25 _ _ ?_
        try clear hKK25 KK25
        refine Lwp_seq fun KK26 hKK26 => ?_
        refine Lwp_seq fun KK27 hKK27 => ?_
        refine Lwp_frzRowS 20 u4 rfl (by simp only [go_sem, ↓reduceIte]) hrow4 fun fm S5 hl5 hK5 => ?_
        clear hK5 hl5 hrow4
        refine LregionG [none, none, none, none, none, some (102, false), some (102, false), some (102, false), some (102, false), some (102, false), some (102, false), none] (by kernel_rfl) (by kernel_rfl) ?_
        simp -dsimp only [go_sem, ↓reduceIte, hml, hpl, hgw]
        repeat with_reducible refine And.intro (by first | omega | decide) ?_
        refine hKK27 _ _ ?_
        try clear hKK27 KK27
        refine Lwp_cond (by simp only [go_sem, ↓reduceIte]; rfl) (fun ht => ?_) (fun hf => ?_)
        · skip
          simp at ht
        · skip
          refine Lwp_skip ?_
          try simp -dsimp only [go_sem, ↓reduceIte]
          refine hKK26 _ _ ?_
          try clear hKK26 KK26
          refine Lwp_seq fun KK28 hKK28 => ?_
          refine Lwp_seq fun KK29 hKK29 => ?_
          refine LregionG [none, none, none] (by kernel_rfl) (by kernel_rfl) ?_
          simp -dsimp only [go_sem, ↓reduceIte, hml]
          repeat with_reducible refine And.intro (by first | omega | decide) ?_
          refine hKK29 _ _ ?_
          try clear hKK29 KK29
          refine Lwp_block ?_
          refine Lwp_loopK [112, 111, 20, 12, 10, 11, 2, 3] (fun m us S3 => ∃ (i : Nat), us = [V (i : Int), V (w : Int), .sl fm ms, .sl fl3 (L.map (·.1)), .sl f ((jr L).map u8c), .sl fe ((endsN L).map nc), .int .u16 c2, .int .u8 c3] ∧ i ≤ w ∧ m = w - i) w rfl (⟨0, rfl, Nat.zero_le _, rfl⟩) ?_
          rintro m us S2 ⟨i, rfl, hi, hm⟩ II hII
          refine Lwp_seq fun KK30 hKK30 => ?_
          refine LregionG [none] (by kernel_rfl) (by kernel_rfl) ?_
          simp -dsimp only [go_sem, ↓reduceIte]
          repeat with_reducible refine And.intro (by first | omega | decide) ?_
          refine hKK30 _ _ ?_
          try clear hKK30 KK30
          refine Lwp_seq fun KK31 hKK31 => ?_
          refine Lwp_cond (by simp only [go_sem, ↓reduceIte]; rfl) (fun ht => ?_) (fun hf => ?_)
          · skip
            have hi1 : i < w := by simp at ht; omega
            obtain ⟨hqo, hqs, hqb⟩ := hEq4 i hi1
            have hgt : (L.take w).getD i ([], []) = L.getD i ([], []) := by
              simp only [List.getD_eq_getElem?_getD, List.getElem?_take_of_lt hi1]
            rw [hgt] at hqs hqb
            obtain ⟨hyo, hyb, hyl⟩ := fit_ok (hfit _ (getE_mem (L := L) (i := i) (by omega)))
            have hgl : (List.map (fun x : List LV × List UInt8 => x.1) L).getD i [] = (L.getD i ([], [])).1 := by
              simp only [List.getD_eq_getElem?_getD, List.getElem?_map, List.getElem?_eq_getElem (show i < L.length by omega)]; rfl
            have ex := okLog_len hqo
            have ey := okLog_len hyo
            obtain ⟨tx, -⟩ := log_take hqo
            obtain ⟨ty, -⟩ := log_take hyo
            have hil : i < L.length := by omega
            have e5 : IntKind.i64.wrap ((i : Int) + 1) = ((i + 1 : Nat) : Int) := by rw [w64 (by omega) (by omega)]; rfl
            refine Lwp_skip ?_
            try simp -dsimp only [go_sem, ↓reduceIte]
            refine hKK31 _ _ ?_
            try clear hKK31 KK31
            refine Lwp_seq fun KK32 hKK32 => ?_
            refine Lwp_block ?_
            refine Lwp_seq fun KK33 hKK33 => ?_
            refine LregionG [none, none] (by kernel_rfl) (by kernel_rfl) ?_
            simp -dsimp only [go_sem, ↓reduceIte]
            repeat with_reducible refine And.intro (by first | omega | decide) ?_
            refine hKK33 _ _ ?_
            try clear hKK33 KK33
            refine Lwp_seq fun KK34 hKK34 => ?_
            refine LdrawE [0,1,2,3,4,5,6,7,8,9] [] none (by kernel_rfl) (by kernel_rfl) (by kernel_rfl) (by kernel_rfl) (by simp [Watch.holds]) ?_
            simp -dsimp only [go_sem, ↓reduceIte, hgl, hml, hil, hi1, ex, ey, tx, ty]
            refine LCalls.k (SSame_ok _ _ hqo hyo (fun b hb => by rw [hqb] at hb; cases hb; omega) (fun b hb => by rw [hyb] at hb; cases hb; omega)) ?_
            rintro _ S3 ⟨rfl, -⟩
            simp -dsimp only [go_sem, ↓reduceIte, hqs]
            refine hKK34 _ _ ?_
            try clear hKK34 KK34
            refine Lwp_cond (by simp only [go_sem, ↓reduceIte]; rfl) (fun ht => ?_) (fun hf => ?_)
            · skip
              cases ht
            · skip
              refine Lwp_skip ?_
              try simp -dsimp only [go_sem, ↓reduceIte]
              refine hKK32 _ _ ?_
              try clear hKK32 KK32
              refine LregionG [none, none] (by kernel_rfl) (by kernel_rfl) ?_
              simp -dsimp only [go_sem, ↓reduceIte, e5]
              repeat with_reducible refine And.intro (by first | omega | decide) ?_
              exact hII (w - (i + 1)) _ _ (by omega) ⟨i + 1, rfl, by omega, rfl⟩
          · skip
            clear hEq4 hml hpl hgw hm hII
            obtain ⟨la, hla⟩ : ∃ x, x = (jr (L.take (K - 1))).length := ⟨_, rfl⟩
            have hg2 : (List.map nc (endsN L)).getD (K - 1) [] = [V (la : Int)] := by
              rw [nc_getD (by omega), endsN_get (by omega), hla]; rfl
            have hla2 : la + 8 ≤ N := by
              have h5 := jr_take_lt (L := L) (i := K - 1) (by omega)
              have h6 := jr_take_le (L := L) (i := K - 1 + 1)
              omega
            have e6 : IntKind.i64.wrap (((L.length + 1 : Nat) : Int) - 2) = ((K - 1 : Nat) : Int) := by rw [w64 (by omega) (by omega)]; omega
            have e7 : IntKind.i64.wrap c2 = c2 := w64 (by omega) (by omega)
            have e8 : IntKind.i64.wrap ((N : Int) - (la : Int)) = ((N - la : Nat) : Int) := by rw [w64 (by omega) (by omega)]; omega
            obtain ⟨g, hg, hge⟩ : ∃ g : Nat, g < N - la ∧ c2.tmod ((N - la : Nat) : Int) = (g : Int) := by
              have h5 := Int.tmod_lt_of_pos c2 (show (0 : Int) < ((N - la : Nat) : Int) by omega)
              have h6 := Int.tmod_nonneg ((N - la : Nat) : Int) h2.1
              exact ⟨(c2.tmod ((N - la : Nat) : Int)).toNat, by omega, by omega⟩
            have e9 : IntKind.i64.wrap ((la : Int) + (g : Int)) = ((la + g : Nat) : Int) := by rw [w64 (by omega) (by omega)]; rfl
            have e10 : ¬ ((N - la : Nat) : Int) = 0 := by omega
            obtain ⟨kx, hkx⟩ : ∃ x, x = la + g := ⟨_, rfl⟩
            rw [← hkx] at e9
            have hk1 : K - 1 < (endsN L).length := by omega
            refine Lwp_exit ?_
            simp -dsimp only [go_sem, ↓reduceIte]
            refine hKK28 _ _ ?_
            try clear hKK28 KK28
            refine Lwp_seq fun KK35 hKK35 => ?_
            refine LregionG [none, none, none, none, none, none, none] (by kernel_rfl) (by kernel_rfl) ?_
            simp -dsimp only [go_sem, ↓reduceIte, hel, e6, hg2, hk1]
            repeat with_reducible refine And.intro (by first | omega | decide) ?_
            refine hKK35 _ _ ?_
            try clear hKK35 KK35
            refine Lwp_seq fun KK36 hKK36 => ?_
            refine LregionG [none, none, none, none, none, none, none, none, none, none] (by kernel_rfl) (by kernel_rfl) ?_
            simp -dsimp only [go_sem, ↓reduceIte, ← hNe, e7, e8, hge, e9, e10]
            repeat with_reducible refine And.intro (by first | omega | decide) ?_
            refine hKK36 _ _ ?_
            try clear hKK36 KK36
            refine Lwp_seq fun KK37 hKK37 => ?_
            refine LregionG [none, none, none] (by kernel_rfl) (by kernel_rfl) ?_
            simp -dsimp only [go_sem, ↓reduceIte]
            repeat with_reducible refine And.intro (by first | omega | decide | assumption) ?_
            refine append_row (lo := 0) (es := []) (fs := (jr L).map u8c) RowS.nil rfl (by simp only [go_sem]; rfl) (by simp only [go_sem]; first | exact ⟨rfl, rfl⟩ | exact ⟨rfl, rfl, rfl⟩ | rfl) (by simp only [go_sem]) (by simp only [go_sem, ↓reduceIte]) (by simp only [go_sem, ↓reduceIte]) (fun e he => by
              obtain ⟨y, _, rfl⟩ := List.mem_map.1 he; rfl) (.inl rfl) (by simp only [LIM, List.length_nil, List.length_map]; omega) fun S3 hl3 hr3 hK3 => ?_
            simp only [List.nil_append, List.length_nil, Nat.zero_add, List.length_map, ← hNe] at hr3 hl3 ⊢
            obtain ⟨-, hr3⟩ := hr3
            have hS3 : S3[S2.length]? = some (some (1, List.map u8c (jr L))) := by
              rcases hr3 with h | ⟨id, -, h, h'⟩
              · cases h
              · cases h; exact h'
            have hkb : (List.map u8c (jr L)).getD kx [] = [.int .u8 ((jr L).getD kx 0).toNat] := u8c_getD (by omega)
            have hkl : kx < (jr L).length := by omega
            have hkN : kx < N := by omega
            have hkg : (List.map u8c (jr L))[kx]? = some [.int .u8 ((jr L).getD kx 0).toNat] := by
              rw [List.getElem?_map, List.getD_eq_getElem?_getD, List.getElem?_eq_getElem hkl]; rfl
            clear hr3 hK3
            simp -dsimp only [go_sem, ↓reduceIte]
            refine hKK37 _ _ ?_
            try clear hKK37 KK37
            refine Lwp_seq fun KK38 hKK38 => ?_
            refine LregionG [none, none, none, none, none, none, none, none] (by kernel_rfl) (by kernel_rfl) ?_
            simp -dsimp only [go_sem, ↓reduceIte, hS3, hkb, Nat.zero_add, hkl, hkN, hkg]
            repeat with_reducible refine And.intro (by first | omega | decide) ?_
            refine hKK38 _ _ ?_
            try clear hKK38 KK38
            refine Lwp_seq fun KK39 hKK39 => ?_
            refine LregionG [none, none, none, none, none, none, none] (by kernel_rfl) (by kernel_rfl) ?_
            simp -dsimp only [go_sem, ↓reduceIte]
            obtain ⟨bx, hbx⟩ := u8_wrap_ex ((BitVec.ofInt IntKind.u8.bits (((jr L).getD kx 0).toNat : Int) ^^^ BitVec.ofInt IntKind.u8.bits c3).toNat : Int)
            rw [hbx, show [LV.int IntKind.u8 (bx.toNat : Int)] = u8c bx from rfl, map_set8]
            obtain ⟨rest2, hdam⟩ := jr_dam (L := L) (i := K - 1) (k := kx) (b := bx) (by omega)
            rw [hdam]
            have hdl : (jr (L.take (K - 1)) ++ rest2).length = N := by rw [← hdam, List.length_set, hNe]
            have hfk : ∀ p ∈ L.take (K - 1), FitE p := fun p hp => hfit p (List.mem_of_mem_take hp)
            have hrd : Rd (S3.set S2.length (some (1, List.map u8c (jr (L.take (K - 1)) ++ rest2)))) (.ref S2.length 0 N) (jr (L.take (K - 1)) ++ rest2) := .inr ⟨S2.length, by rw [hdl], List.getElem?_set_self (lt_of_get hS3)⟩
            clear hS3 hkb hkg hdam
            refine LCalls.k (LCalls_bytes (R := fun r S' => ∃ (u : LV) (es : List (List LV)) (p : Nat), r = .tup [u, V p] ∧ RdTo (jr (L.take (K - 1)) ++ rest2) p es ∧ (∃ e, decS ((jr (L.take (K - 1)) ++ rest2).drop p) = .inl e) ∧ RowS S' 0 u 38 es) hrd (fun fl S4 _ _ => (Read_ok fl _ (by omega)).mono fun r S' ⟨u, es, p, g1, g2, g3, g4⟩ => ⟨u, es, p, g1, g2, g3, RowS.mono g4.1 (Nat.zero_le _) (fun _ _ _ h => h)⟩)) ?_
            rintro _ S4 ⟨u4, ms, p4, rfl, hrd4, hre4, hrow4⟩
            obtain ⟨hml, hEq4, -⟩ := read_whole hfk hrd4 hre4
            rw [List.length_take, Nat.min_eq_left (show K - 1 ≤ L.length by omega)] at hml hEq4
            clear hrd4 hre4 hrd
            have e11 : IntKind.i64.wrap ((L.length : Int) - 1) = ((K - 1 : Nat) : Int) := by rw [w64 (by omega) (by omega)]; omega
            simp -dsimp only [go_sem, ↓reduceIte]
            refine hKK39 _ _ ?_
            try clear hKK39 KK39
            refine Lwp_seq fun KK40 hKK40 => ?_
            refine Lwp_seq fun KK41 hKK41 => ?_
            refine Lwp_frzRowS 26 u4 rfl (by simp only [go_sem, ↓reduceIte]) hrow4 fun fm2 S5 hl5 hK5 => ?_
            clear hK5 hl5 hrow4
            have hm1 : ¬ ms.length < K - 1 := by omega
            refine LregionG [none, none, none, none, none, none] (by kernel_rfl) (by kernel_rfl) ?_
            simp -dsimp only [go_sem, ↓reduceIte, e11, hm1]
            repeat with_reducible refine And.intro (by first | omega | decide) ?_
            refine hKK41 _ _ ?_
            try clear hKK41 KK41
            refine Lwp_cond (by simp only [go_sem, ↓reduceIte]; rfl) (fun ht => ?_) (fun hf => ?_)
            · skip
              cases ht
            · skip
              refine Lwp_skip ?_
              try simp -dsimp only [go_sem, ↓reduceIte]
              refine hKK40 _ _ ?_
              try clear hKK40 KK40
              refine Lwp_seq fun KK42 hKK42 => ?_
              refine Lwp_seq fun KK43 hKK43 => ?_
              refine LregionG [none] (by kernel_rfl) (by kernel_rfl) ?_
              simp -dsimp only [go_sem, ↓reduceIte]
              repeat with_reducible refine And.intro (by first | omega | decide) ?_
              refine hKK43 _ _ ?_
              try clear hKK43 KK43
              refine Lwp_block ?_
              refine Lwp_loopK [28, 26, 12] (fun m us S3 => ∃ (i : Nat), us = [V (i : Int), .sl fm2 ms, .sl fl3 (L.map (·.1))] ∧ i ≤ K - 1 ∧ m = K - 1 - i) (K - 1) rfl (⟨0, rfl, Nat.zero_le _, rfl⟩) ?_
              rintro m us S2 ⟨i, rfl, hi, hm⟩ II hII
              refine Lwp_seq fun KK44 hKK44 => ?_
              refine Lwp_seq fun KK45 hKK45 => ?_
              refine LregionG [none, none, none, none, none] (by kernel_rfl) (by kernel_rfl) ?_
              simp -dsimp only [go_sem, ↓reduceIte, e11]
              repeat with_reducible refine And.intro (by first | omega | decide) ?_
              refine hKK45 _ _ ?_
              try clear hKK45 KK45
              refine Lwp_cond (by simp only [go_sem, ↓reduceIte]; rfl) (fun ht => ?_) (fun hf => ?_)
              · skip
                have hi1 : i < K - 1 := by simp at ht; omega
                obtain ⟨hqo, hqs, hqb⟩ := hEq4 i hi1
                have hgt : (L.take (K - 1)).getD i ([], []) = L.getD i ([], []) := by
                  simp only [List.getD_eq_getElem?_getD, List.getElem?_take_of_lt hi1]
                rw [hgt] at hqs hqb
                obtain ⟨hyo, hyb, hyl⟩ := fit_ok (hfit _ (getE_mem (L := L) (i := i) (by omega)))
                have hgl : (List.map (fun x : List LV × List UInt8 => x.1) L).getD i [] = (L.getD i ([], [])).1 := by
                  simp only [List.getD_eq_getElem?_getD, List.getElem?_map, List.getElem?_eq_getElem (show i < L.length by omega)]; rfl
                have ex := okLog_len hqo
                have ey := okLog_len hyo
                obtain ⟨tx, -⟩ := log_take hqo
                obtain ⟨ty, -⟩ := log_take hyo
                have hil : i < L.length := by omega
                have him : i < ms.length := by omega
                have e5 : IntKind.i64.wrap ((i : Int) + 1) = ((i + 1 : Nat) : Int) := by rw [w64 (by omega) (by omega)]; rfl
                refine Lwp_skip ?_
                try simp -dsimp only [go_sem, ↓reduceIte]
                refine hKK44 _ _ ?_
                try clear hKK44 KK44
                refine Lwp_seq fun KK46 hKK46 => ?_
                refine Lwp_block ?_
                refine Lwp_seq fun KK47 hKK47 => ?_
                refine LdrawE [0,1,2,3,4,5,6,7,8,9] [] none (by kernel_rfl) (by kernel_rfl) (by kernel_rfl) (by kernel_rfl) (by simp [Watch.holds]) ?_
                simp -dsimp only [go_sem, ↓reduceIte, hgl, him, hil, ex, ey, tx, ty]
                refine LCalls.k (SSame_ok _ _ hqo hyo (fun b hb => by rw [hqb] at hb; cases hb; omega) (fun b hb => by rw [hyb] at hb; cases hb; omega)) ?_
                rintro _ S3 ⟨rfl, -⟩
                simp -dsimp only [go_sem, ↓reduceIte, hqs]
                refine hKK47 _ _ ?_
                try clear hKK47 KK47
                refine Lwp_cond (by simp only [go_sem, ↓reduceIte]; rfl) (fun ht => ?_) (fun hf => ?_)
                · skip
                  cases ht
                · skip
                  refine Lwp_skip ?_
                  try simp -dsimp only [go_sem, ↓reduceIte]
                  refine hKK46 _ _ ?_
                  try clear hKK46 KK46
                  refine LregionG [none, none, none] (by kernel_rfl) (by kernel_rfl) ?_
                  simp -dsimp only [go_sem, ↓reduceIte, e5]
                  repeat with_reducible refine And.intro (by first | omega | decide) ?_
                  exact hII (K - 1 - (i + 1)) _ _ (by omega) ⟨i + 1, rfl, by omega, rfl⟩
              · skip
                refine Lwp_exit ?_
                simp -dsimp only [go_sem, ↓reduceIte]
                refine hKK42 _ _ ?_
                try clear hKK42 KK42
                refine Lwp_seq fun KK48 hKK48 => ?_
                refine LregionG [none] (by kernel_rfl) (by kernel_rfl) ?_
                simp -dsimp only [go_sem, ↓reduceIte]
                repeat with_reducible refine And.intro (by first | omega | decide) ?_
                refine hKK48 _ _ ?_
                try clear hKK48 KK48
                refine Lwp_ret ?_
                simp only [LThen, LBlock, LPost, Try.results5]
                simp -dsimp only [go_sem, ↓reduceIte]
                exact ret_keep (hRR _ _ rfl)

end Go.Proofs.Ytdhngmldmalbbaa
end
section
set_option linter.all false
namespace Go.Proofs.Ytdhngmldmalbbaa
open Go.Lift Go.RowKit Go.Store
set_option linter.unusedSimpArgs false
set_option linter.unusedVariables false

set_option maxRecDepth 100000
open Go.ChangeShapes Go.WideShapes Go.ChangeAt
theorem bulk_len {H : Type} : ∀ (ls : List (DataW H)), ls.length ≤ Rows.uptoBulkAll ls
  | [] => Nat.zero_le _
  | d :: r => by
    have h := bulk_len r
    have h1 : 1 ≤ Rows.uptoBulk d := by
      cases d <;> try (simp [Rows.uptoBulk]; done)
      rename_i l
      cases l <;> simp [Rows.uptoBulk]
    simp only [Rows.uptoBulkAll, List.length_cons]; omega
section
variable {H : Type} {enc : TypeId × Value → H} {P : Program}
/-- a call that makes new blocks, frozen ones among them, and leaves those that were there. -/
theorem post_of_below {f : Func} {s : ChangeSpec} {apart fresh handsOn again : Bool} {W W' : World} {args : Array Value} {v : Value} {ds gs : List (DataW H)} {before pa pv : List MemPlace}
    (hW : DataW.Whole enc P f.params.toList s.vars apart W args.toList ds gs before) (hB : Below W.heap.size W W')
    (hres : ∀ (b : Nat) (sp : Nat → Bool) (hd : Bool), DataW.TrodAll enc P W' b sp hd f.resultTypes.toList (v.resultList f.resultTypes.size) (s.fn H (ds ++ gs)).results [])
    (hargs : ∀ sp : Nat → Bool, (∀ p ∈ before, sp p.block = true) → DataW.TrodAll enc P W' 0 sp true f.params.toList args.toList (s.fn H (ds ++ gs)).args pa)
    (hvars : ∀ sp : Nat → Bool, (∀ p ∈ before, sp p.block = true) → DataW.TrodVars enc P W' sp s.vars (s.fn H (ds ++ gs)).vars pv)
    (hps : before = pa ++ pv)
    (hok : ∀ (j : Nat) (t : TypeId) (r : Value), f.resultTypes[j]? = some t → (v.resultList f.resultTypes.size)[j]? = some r → Value.okWide P W' .any 0 t r) :
    s.post enc P f apart fresh handsOn again W args v W' := by
  have hold : ∀ p ∈ before, (fun b => decide (b < W.heap.size)) p.block = true := fun p hp => by simpa using hW.lt p hp
  refine ⟨ds, gs, before, [], pa, pv, hW, hres _ _ _, hargs _ hold, hvars _ hold, World.keptBut_mono (fun p hp => ⟨hp, ?_⟩) (hB.frame (· ∈ before)), fun _ => ?_⟩
  · rw [hps, List.mem_append] at hp
    exact Or.inr hp
  · have hlt := hW.lt
    obtain ⟨_, _, _, _, _, hz, hn⟩ := hW
    refine ⟨hok, _, _, ([] ++ pa) ++ pv, ⟨[] ++ pa, pv, trodAll_append (hargs _ (fun _ _ => rfl)) (hres _ _ _), hvars _ (fun _ _ => rfl), rfl, ?_, ?_⟩, ?_⟩
    · intro b off hp
      have hp' : MemPlace.cell b off ∈ before := by rw [hps]; simpa using hp
      rw [hB.frozen (show (⟨b, off, none⟩ : Addr).block < _ from hlt _ hp')]
      exact hz b off hp'
    · intro ha
      have := hn ha
      rw [hps] at this
      simpa using this
    · intro p hp _
      rw [hps]
      simpa using hp
end
theorem own : ownKnob Try.prog.godebug = none := by kernel_rfl

end Go.Proofs.Ytdhngmldmalbbaa
end
section
set_option linter.all false
namespace Go.Proofs.Ytdhngmldmalbbaa
open Go.Lift Go.RowKit Go.Store
set_option linter.unusedSimpArgs false
set_option linter.unusedVariables false
set_option maxRecDepth 100000
open Go.ChangeShapes Go.WideShapes Go.ChangeAt
theorem storeCrashes_contract (H : Type) (enc : TypeId × Value → H) (W : World) (base : Nat) (args : Array Value) (ds gs : List (DataW H)) (before : List MemPlace)
    (hval : ∀ (j : Nat) t v, Try.f5.params[j]? = some t → args[j]? = some v → Value.okWide Try.prog W .any base t v)
    (hW : DataW.Whole enc Try.prog Try.f5.params.toList Rows.storeCrashesSpec.vars false W args.toList ds gs before) :
    Calls Try.prog 5 args W fun e W' => ∃ v, e = .returned v ∧ Rows.storeCrashesSpec.post enc Try.prog Try.f5 false true false false W args v W' := by
  have hW' := hW
  obtain ⟨p, q, hA0, hV, rfl, hfz, hnd⟩ := hW
  have hA : DataW.TrodAll enc Try.prog W 0 (fun _ => true) true Try.f5.params.toList args.toList ds p := hA0
  rw [Try.params5] at hA hval
  obtain ⟨v0, vs0, d0, ds0, p0, q0, hargs, rfl, rfl, h0, r0⟩ := trodAll_cons hA
  obtain ⟨v1, vs1, d1, ds1, p1, q1, rfl, rfl, rfl, h1, r1⟩ := trodAll_cons r0
  obtain ⟨v2, vs2, d2, ds2, p2, q2, rfl, rfl, rfl, h2, r2⟩ := trodAll_cons r1
  obtain ⟨v3, vs3, d3, ds3, p3, q3, rfl, rfl, rfl, h3, r3⟩ := trodAll_cons r2
  obtain ⟨rfl, rfl, rfl⟩ := trodAll_nil r3
  obtain rfl : args = #[v0, v1, v2, v3] := by cases args; simp_all
  obtain ⟨rfl, rfl⟩ := trodVars_none hV
  obtain ⟨f0, xs0, hr0, hd0⟩ := open_bytes (hval 0 22 v0 rfl rfl) h0
  obtain ⟨n1, rfl, rfl, rfl, w1⟩ := open_int Try.underlying23 (hval 1 23 v1 rfl rfl) h1
  have hn1 := w1
  simp only [Lit.wf, IntKind.min, IntKind.max, IntKind.signed, IntKind.bits, Bool.and_eq_true, decide_eq_true_eq] at hn1
  simp at hn1
  obtain ⟨n2, rfl, rfl, rfl, w2⟩ := open_int Try.underlying23 (hval 2 23 v2 rfl rfl) h2
  have hn2 := w2
  simp only [Lit.wf, IntKind.min, IntKind.max, IntKind.signed, IntKind.bits, Bool.and_eq_true, decide_eq_true_eq] at hn2
  simp at hn2
  obtain ⟨n3, rfl, rfl, rfl, w3⟩ := open_int Try.underlying5 (hval 3 5 v3 rfl rfl) h3
  have hn3 := w3
  simp only [Lit.wf, IntKind.min, IntKind.max, IntKind.signed, IntKind.bits, Bool.and_eq_true, decide_eq_true_eq] at hn3
  simp at hn3
  have hlt : ∀ x ∈ p0 ++ (([] : List MemPlace) ++ (([] : List MemPlace) ++ (([] : List MemPlace) ++ ([])))), x.block < W.heap.size := fun x hx => hW'.lt x (by simpa using hx)
  refine (LCalls.true (Crashes_ok f0 xs0 n1 n2 n3 (by omega) (by omega) (by omega)) (.cons hr0 (.cons (.int _ _) (.cons (.int _ _) (.cons (.int _ _) .nil))))).mono fun e W' ⟨he, hB⟩ => ?_
  subst he
  exact ⟨_, rfl, post_of_below (pa := p0 ++ (([] : List MemPlace) ++ (([] : List MemPlace) ++ (([] : List MemPlace) ++ ([]))))) (pv := []) hW' hB (fun _ _ _ => trodAll_cons_mk (shut_bool Try.underlying4 _) trodAll_mk0)
    (fun sp hsp => (trodAll_cons_mk (WideElems.Trod_stays (by kernel_rfl) (by kernel_rfl) (by decide) h0 (fun x hx => hB.same (hlt x (by simp [hx]))) (fun x hx => hsp x (by simp [hx]))) (trodAll_cons_mk (shut_int Try.underlying23 w1) (trodAll_cons_mk (shut_int Try.underlying23 w2) (trodAll_cons_mk (shut_int Try.underlying5 w3) trodAll_mk0))))) (fun _ _ => rfl) (by simp)
    (ok_one (by kernel_rfl) rfl (okWide_bool_mk Try.underlying4 _))⟩
theorem storeCrashes_lifted (os : Os) (started : os.Started) (H : Type) (enc : TypeId × Value → H) :
    ReturnsInHanded {} Try.checked os 5 .any (Rows.storeCrashesSpec.pre6 enc Try.prog Try.f5 Rows.storeCrashesRow.domain false) (Rows.storeCrashesSpec.post enc Try.prog Try.f5 false true false false) := by
  refine returnsInHanded_of_change (C := Try.checked) own started (by kernel_rfl) Try.func5
    (ChangeSpec.witness6 (enc := enc) (C := Try.checked) false ⟨#[], #[.slice none 0 0, .int .u16 0, .int .u16 0, .int .u8 0], []⟩ 8 (by kernel_rfl) (by kernel_rfl) (by kernel_rfl) (by kernel_rfl)) ?_
  intro W base args ds gs before hval hW _ _
  exact storeCrashes_contract H enc W base args ds gs before hval hW
theorem storeCrashes_proved : Rows.StoreCrashesSaid :=
  OpenClaim.holds_of_wide 5 Try.f5 rfl rfl rfl rfl rfl rfl rfl ⟨rfl, rfl, rfl, rfl, rfl⟩ rfl rfl rfl rfl rfl (by kernel_rfl) Try.func5 (by kernel_rfl)
    (of_decide_eq_true (by kernel_rfl)) (by unfold Func.isWrapper; first | (rw [if_pos (by decide +kernel)]; kernel_rfl) | (rw [if_neg (by decide +kernel)]; exact ⟨rfl, rfl⟩))
    (fun os started H enc _ => storeCrashes_lifted os started H enc)
end Go.Proofs.Ytdhngmldmalbbaa
end
