/-
  StoreCodes answers true for all bytes, codes, places and kinds, where the arguments together hold at most 1048576 values (the bound of the UptoSaid statement).
-/
import Derived.Test.YtdhngmldmalbbaaR6
import Derived.RowKitTokens
section
set_option linter.all false
namespace Go.Proofs.Ytdhngmldmalbbaa
open Go.Lift Go.RowKit Go.Store
set_option linter.unusedSimpArgs false
set_option linter.unusedVariables false

def zL (k : Int) : List LV := V k :: (zs sLog).tail
theorem ok_zL {k : Int} (h : isI k) : ok sLog (zL k) := ⟨rfl, h.1, h.2, (ok_zs (s := sLog)).2.2.2⟩
/-- what 'rest' gives for a kind. -/
def RestR (f : Bool) (bs : List UInt8) (p : Nat) (o : Bool) (k : Int) (off : Nat) (s : Sch) (r : LV) : Prop :=
  ∃ (p' : Nat) (o' : Bool) (us pre u' post : List LV), r = .tup [rdr f bs p' o', .agg us] ∧ p' ≤ bs.length ∧ ok sLog us ∧ us.getD 0 .any = V k ∧ us = pre ++ (u' ++ post) ∧ pre.length = off ∧ ok s u' ∧ GetO s (bs.drop p) o u' (bs.drop p') o'
theorem RestR.mk {f : Bool} {bs : List UInt8} {p : Nat} {o : Bool} {k : Int} {off : Nat} {s : Sch} {p' : Nat} {o' : Bool} {us u' : List LV} (hk : kSch k = some (off, s)) (hus : us = (zL k).take off ++ (u' ++ (zL k).drop (off + s.n))) (hp : p' ≤ bs.length) (hok : ok s u') (hG : GetO s (bs.drop p) o u' (bs.drop p') o') : RestR f bs p o k off s (.tup [rdr f bs p' o', .agg us]) := by
  have hkI : isI k := by rcases kSch_off hk with ⟨rfl, -, -⟩ | ⟨rfl, -, -⟩ | ⟨rfl, -, -⟩ | ⟨rfl, -, -⟩ <;> exact ⟨by decide, by decide⟩
  obtain ⟨pre, u, post, hcells, hpre, hu, -, -⟩ := log_split (ok_zL hkI) (off := off) (s := s) hk
  have h1 : pre = (zL k).take off := by rw [hcells, ← hpre, List.take_left]
  have h2 : post = (zL k).drop (off + s.n) := by rw [hcells, ← hpre, ← ok_len hu, ← List.drop_drop, List.drop_left, List.drop_left]
  rw [← h1, ← h2] at hus
  refine ⟨p', o', us, pre, u', post, rfl, hp, ?_, ?_, hus, hpre, hok, hG⟩
  · rw [hus]; exact log_repl hk (ok_zL hkI) hcells hpre hu hok
  · rw [hus, head_pre hcells hpre (kSch_pos hk)]; rfl

set_option maxHeartbeats 1000000 in
theorem Rest1 (f : Bool) (bs : List UInt8) (p : Nat) (o : Bool) (hb : bs.length ≤ 1048576) (hp : p ≤ bs.length) : Pc 33 [rdr f bs p o, V 1] (RestR f bs p o 1 1 sI) := by
  refine Pc_intro 1 Try.func33 rfl (by kernel_rfl) rfl fun S RR hRR => ?_
  refine Lwp_seq fun KK0 hKK0 => ?_
  refine LregionG [none, none, none] (by kernel_rfl) (by kernel_rfl) ?_
  simp -dsimp only [go_sem, ↓reduceIte, rdr]
  repeat with_reducible refine And.intro (by first | omega | decide) ?_
  refine hKK0 _ _ ?_
  try clear hKK0 KK0
  refine Lwp_seq fun KK1 hKK1 => ?_
  refine LregionG [none, none, none, none] (by kernel_rfl) (by kernel_rfl) ?_
  simp -dsimp only [go_sem, ↓reduceIte, rdr]
  repeat with_reducible refine And.intro (by first | omega | decide) ?_
  refine hKK1 _ _ ?_
  try clear hKK1 KK1
  refine Lwp_seq fun KK2 hKK2 => ?_
  refine Lwp_seq fun KK3 hKK3 => ?_
  refine LregionG [none] (by kernel_rfl) (by kernel_rfl) ?_
  simp -dsimp only [go_sem, ↓reduceIte, rdr]
  repeat with_reducible refine And.intro (by first | omega | decide) ?_
  refine hKK3 _ _ ?_
  try clear hKK3 KK3
  refine Lwp_block ?_
  refine Lwp_seq fun KK4 hKK4 => ?_
  refine LregionG [none, none] (by kernel_rfl) (by kernel_rfl) ?_
  simp -dsimp only [go_sem, ↓reduceIte, rdr]
  repeat with_reducible refine And.intro (by first | omega | decide) ?_
  refine hKK4 _ _ ?_
  try clear hKK4 KK4
  refine Lwp_cond (by simp only [go_sem, ↓reduceIte, rdr]; rfl) (fun ht => ?_) (fun hf => ?_)
  · skip
    refine LregionG [none, none, none, none, none, none, none, none] (by kernel_rfl) (by kernel_rfl) ?_
    simp -dsimp only [go_sem, ↓reduceIte, rdr]
    refine Pc.k' (GetInt_ok f bs p o hb hp) ?_
    rintro _ ⟨p1, o1, us1, rfl, hp1, hok1, hG1⟩
    obtain ⟨w1, us', rfl, hw1, hok'⟩ := ok_int hok1
    obtain rfl := ok_nil hok'
    have G1 := hG1
    have K1 := hok1
    simp -dsimp only [go_sem, ↓reduceIte, rdr, hd1, List.headD_cons]
    refine hKK2 _ _ ?_
    try clear hKK2 KK2
    refine Lwp_seq fun KK5 hKK5 => ?_
    refine LdrawE [0,1,2,3] [(S.length, (3, [[.sl f (bs.map u8c), V p1, .bool o1]])), (S.length + 3, (38, [[V 1, V w1, V 0, .str ⟨#[]⟩, V 0, V 0, V 0, V 0, V 0, .sl true [], V 0, V 0, V 0, .str ⟨#[]⟩, V 0, .bool false, V 0, V 0, V 0, V 0, .sl true [], V 0, V 0, V 0, .sl true [], .sl true [], .sl true [], .sl true [], V 0, .int .u64 0, V 0, V 0, V 0, V 0, .sl true [], .sl true [], .sl true [], .sl true []]]))] none (by kernel_rfl) (by kernel_rfl) (by kernel_rfl) (by kernel_rfl) (by simp [Watch.holds]) ?_
    simp -dsimp only [go_sem, ↓reduceIte, rdr, List.mem_cons, forall_eq_or_imp, Nat.add_eq_left]
    repeat with_reducible refine And.intro (by first | omega | decide) ?_
    refine hKK5 _ _ ?_
    try clear hKK5 KK5
    refine Lwp_ret ?_
    simp only [LThen, LBlock, LPost, Try.results33]
    simp -dsimp only [go_sem, ↓reduceIte, rdr]
    refine ret_app (by simp only [go_sem, ↓reduceIte, LV.lt, lt_u8c, ltL, ltLL, Bool.and_self]) ?_
    simp only [go_sem, ↓reduceIte]
    exact hRR _ (RestR.mk (us := [V 1, V w1, V 0, .str ⟨#[]⟩, V 0, V 0, V 0, V 0, V 0, .sl true [], V 0, V 0, V 0, .str ⟨#[]⟩, V 0, .bool false, V 0, V 0, V 0, V 0, .sl true [], V 0, V 0, V 0, .sl true [], .sl true [], .sl true [], .sl true [], V 0, .int .u64 0, V 0, V 0, V 0, V 0, .sl true [], .sl true [], .sl true [], .sl true []]) (u' := [V w1]) rfl rfl hp1 K1 G1)
  · skip
    cases hf

set_option maxHeartbeats 1000000 in
theorem Rest2 (f : Bool) (bs : List UInt8) (p : Nat) (o : Bool) (hb : bs.length ≤ 1048576) (hp : p ≤ bs.length) : Pc 33 [rdr f bs p o, V 2] (RestR f bs p o 2 2 sItem) := by
  refine Pc_intro 1 Try.func33 rfl (by kernel_rfl) rfl fun S RR hRR => ?_
  refine Lwp_seq fun KK0 hKK0 => ?_
  refine LregionG [none, none, none] (by kernel_rfl) (by kernel_rfl) ?_
  simp -dsimp only [go_sem, ↓reduceIte, rdr]
  repeat with_reducible refine And.intro (by first | omega | decide) ?_
  refine hKK0 _ _ ?_
  try clear hKK0 KK0
  refine Lwp_seq fun KK1 hKK1 => ?_
  refine LregionG [none, none, none, none] (by kernel_rfl) (by kernel_rfl) ?_
  simp -dsimp only [go_sem, ↓reduceIte, rdr]
  repeat with_reducible refine And.intro (by first | omega | decide) ?_
  refine hKK1 _ _ ?_
  try clear hKK1 KK1
  refine Lwp_seq fun KK2 hKK2 => ?_
  refine Lwp_seq fun KK3 hKK3 => ?_
  refine LregionG [none] (by kernel_rfl) (by kernel_rfl) ?_
  simp -dsimp only [go_sem, ↓reduceIte, rdr]
  repeat with_reducible refine And.intro (by first | omega | decide) ?_
  refine hKK3 _ _ ?_
  try clear hKK3 KK3
  refine Lwp_block ?_
  refine Lwp_seq fun KK4 hKK4 => ?_
  refine LregionG [none, none] (by kernel_rfl) (by kernel_rfl) ?_
  simp -dsimp only [go_sem, ↓reduceIte, rdr]
  repeat with_reducible refine And.intro (by first | omega | decide) ?_
  refine hKK4 _ _ ?_
  try clear hKK4 KK4
  refine Lwp_cond (by simp only [go_sem, ↓reduceIte, rdr]; rfl) (fun ht => ?_) (fun hf => ?_)
  · skip
    cases ht
  · skip
    refine Lwp_seq fun KK5 hKK5 => ?_
    refine LregionG [none, none] (by kernel_rfl) (by kernel_rfl) ?_
    simp -dsimp only [go_sem, ↓reduceIte, rdr]
    repeat with_reducible refine And.intro (by first | omega | decide) ?_
    refine hKK5 _ _ ?_
    try clear hKK5 KK5
    refine Lwp_cond (by simp only [go_sem, ↓reduceIte, rdr]; rfl) (fun ht => ?_) (fun hf => ?_)
    · skip
      refine Lwp_seq fun KK6 hKK6 => ?_
      refine LregionG [none, none, none, none, none, none, none, none, none] (by kernel_rfl) (by kernel_rfl) ?_
      simp -dsimp only [go_sem, ↓reduceIte, rdr]
      refine Pc.k' (GetRep_ok f bs p o hb hp) ?_
      rintro _ ⟨p1, o1, us1, rfl, hp1, hok1, hG1⟩
      obtain ⟨r1, u1, rfl, hr1, hx1⟩ := ok_int hok1
      obtain ⟨r2, u2, rfl, hr2, hx2⟩ := ok_str hx1
      obtain ⟨r3, u3, rfl, hr3, hx3⟩ := ok_int hx2
      obtain ⟨r4, u4, rfl, hr4, hx4⟩ := ok_int hx3
      obtain ⟨r5, u5, rfl, hr5, hx5⟩ := ok_int hx4
      obtain ⟨r6, u6, rfl, hr6, hx6⟩ := ok_int hx5
      obtain ⟨r7, u7, rfl, hr7, hx7⟩ := ok_int hx6
      obtain ⟨fr, es, u8, rfl, hl8, ho8, hx8⟩ := ok_sl hx7
      obtain rfl := ok_nil hx8
      have hltr : ltLL S.length es = true := lt_int fun e he => ok_lt (ho8 e he)
      have G1 := hG1
      have K1 := hok1
      simp -dsimp only [go_sem, ↓reduceIte, rdr]
      refine hKK6 _ _ ?_
      try clear hKK6 KK6
      refine Lwp_seq fun KK7 hKK7 => ?_
      refine LregionG [none, none, none, none, none, none, none, none, none] (by kernel_rfl) (by kernel_rfl) ?_
      simp -dsimp only [go_sem, ↓reduceIte, rdr]
      refine Pc.k' (GetInt_ok f bs p1 o1 hb hp1) ?_
      rintro _ ⟨p2, o2, us2, rfl, hp2, hok2, hG2⟩
      obtain ⟨w2, us', rfl, hw2, hok'⟩ := ok_int hok2
      obtain rfl := ok_nil hok'
      have G2 := G1.app hG2 K1
      have K2 := app_ok K1 hok2
      simp -dsimp only [go_sem, ↓reduceIte, rdr, hd1, List.headD_cons]
      refine hKK7 _ _ ?_
      try clear hKK7 KK7
      refine LregionG [none, none, none, none, none, none, none, none, none] (by kernel_rfl) (by kernel_rfl) ?_
      simp -dsimp only [go_sem, ↓reduceIte, rdr]
      refine Pc.k' (GetInt_ok f bs p2 o2 hb hp2) ?_
      rintro _ ⟨p3, o3, us3, rfl, hp3, hok3, hG3⟩
      obtain ⟨w3, us', rfl, hw3, hok'⟩ := ok_int hok3
      obtain rfl := ok_nil hok'
      have G3 := G2.app hG3 K2
      have K3 := app_ok K2 hok3
      simp -dsimp only [go_sem, ↓reduceIte, rdr, hd1, List.headD_cons]
      refine hKK2 _ _ ?_
      try clear hKK2 KK2
      refine Lwp_seq fun KK8 hKK8 => ?_
      refine LdrawE [0,1,2,3] [(S.length, (3, [[.sl f (bs.map u8c), V p3, .bool o3]])), (S.length + 3, (38, [[V 2, V 0, V r1, .str r2, V r3, V r4, V r5, V r6, V r7, .sl fr es, V w2, V w3, V 0, .str ⟨#[]⟩, V 0, .bool false, V 0, V 0, V 0, V 0, .sl true [], V 0, V 0, V 0, .sl true [], .sl true [], .sl true [], .sl true [], V 0, .int .u64 0, V 0, V 0, V 0, V 0, .sl true [], .sl true [], .sl true [], .sl true []]]))] none (by kernel_rfl) (by kernel_rfl) (by kernel_rfl) (by kernel_rfl) (by simp [Watch.holds]) ?_
      simp -dsimp only [go_sem, ↓reduceIte, rdr, List.mem_cons, forall_eq_or_imp, Nat.add_eq_left]
      repeat with_reducible refine And.intro (by first | omega | decide) ?_
      refine hKK8 _ _ ?_
      try clear hKK8 KK8
      refine Lwp_ret ?_
      simp only [LThen, LBlock, LPost, Try.results33]
      simp -dsimp only [go_sem, ↓reduceIte, rdr]
      refine ret_app (by simp only [go_sem, ↓reduceIte, LV.lt, lt_u8c, ltL, ltLL, Bool.and_self, hltr]) ?_
      simp only [go_sem, ↓reduceIte]
      exact hRR _ (RestR.mk (us := [V 2, V 0, V r1, .str r2, V r3, V r4, V r5, V r6, V r7, .sl fr es, V w2, V w3, V 0, .str ⟨#[]⟩, V 0, .bool false, V 0, V 0, V 0, V 0, .sl true [], V 0, V 0, V 0, .sl true [], .sl true [], .sl true [], .sl true [], V 0, .int .u64 0, V 0, V 0, V 0, V 0, .sl true [], .sl true [], .sl true [], .sl true []]) (u' := [V r1, .str r2, V r3, V r4, V r5, V r6, V r7, .sl fr es, V w2, V w3]) rfl rfl hp3 K3 G3)
    · skip
      cases hf

set_option maxHeartbeats 1000000 in
theorem Rest3 (f : Bool) (bs : List UInt8) (p : Nat) (o : Bool) (hb : bs.length ≤ 1048576) (hp : p ≤ bs.length) : Pc 33 [rdr f bs p o, V 3] (RestR f bs p o 3 12 (.int (.str sPer))) := by
  refine Pc_intro 1 Try.func33 rfl (by kernel_rfl) rfl fun S RR hRR => ?_
  refine Lwp_seq fun KK0 hKK0 => ?_
  refine LregionG [none, none, none] (by kernel_rfl) (by kernel_rfl) ?_
  simp -dsimp only [go_sem, ↓reduceIte, rdr]
  repeat with_reducible refine And.intro (by first | omega | decide) ?_
  refine hKK0 _ _ ?_
  try clear hKK0 KK0
  refine Lwp_seq fun KK1 hKK1 => ?_
  refine LregionG [none, none, none, none] (by kernel_rfl) (by kernel_rfl) ?_
  simp -dsimp only [go_sem, ↓reduceIte, rdr]
  repeat with_reducible refine And.intro (by first | omega | decide) ?_
  refine hKK1 _ _ ?_
  try clear hKK1 KK1
  refine Lwp_seq fun KK2 hKK2 => ?_
  refine Lwp_seq fun KK3 hKK3 => ?_
  refine LregionG [none] (by kernel_rfl) (by kernel_rfl) ?_
  simp -dsimp only [go_sem, ↓reduceIte, rdr]
  repeat with_reducible refine And.intro (by first | omega | decide) ?_
  refine hKK3 _ _ ?_
  try clear hKK3 KK3
  refine Lwp_block ?_
  refine Lwp_seq fun KK4 hKK4 => ?_
  refine LregionG [none, none] (by kernel_rfl) (by kernel_rfl) ?_
  simp -dsimp only [go_sem, ↓reduceIte, rdr]
  repeat with_reducible refine And.intro (by first | omega | decide) ?_
  refine hKK4 _ _ ?_
  try clear hKK4 KK4
  refine Lwp_cond (by simp only [go_sem, ↓reduceIte, rdr]; rfl) (fun ht => ?_) (fun hf => ?_)
  · skip
    cases ht
  · skip
    refine Lwp_seq fun KK5 hKK5 => ?_
    refine LregionG [none, none] (by kernel_rfl) (by kernel_rfl) ?_
    simp -dsimp only [go_sem, ↓reduceIte, rdr]
    repeat with_reducible refine And.intro (by first | omega | decide) ?_
    refine hKK5 _ _ ?_
    try clear hKK5 KK5
    refine Lwp_cond (by simp only [go_sem, ↓reduceIte, rdr]; rfl) (fun ht => ?_) (fun hf => ?_)
    · skip
      cases ht
    · skip
      refine Lwp_seq fun KK6 hKK6 => ?_
      refine LregionG [none, none] (by kernel_rfl) (by kernel_rfl) ?_
      simp -dsimp only [go_sem, ↓reduceIte, rdr]
      repeat with_reducible refine And.intro (by first | omega | decide) ?_
      refine hKK6 _ _ ?_
      try clear hKK6 KK6
      refine Lwp_cond (by simp only [go_sem, ↓reduceIte, rdr]; rfl) (fun ht => ?_) (fun hf => ?_)
      · skip
        refine Lwp_seq fun KK7 hKK7 => ?_
        refine LregionG [none, none, none, none, none, none, none, none] (by kernel_rfl) (by kernel_rfl) ?_
        simp -dsimp only [go_sem, ↓reduceIte, rdr]
        refine Pc.k' (GetInt_ok f bs p o hb hp) ?_
        rintro _ ⟨p1, o1, us1, rfl, hp1, hok1, hG1⟩
        obtain ⟨w1, us', rfl, hw1, hok'⟩ := ok_int hok1
        obtain rfl := ok_nil hok'
        have G1 := hG1
        have K1 := hok1
        simp -dsimp only [go_sem, ↓reduceIte, rdr, hd1, List.headD_cons]
        refine hKK7 _ _ ?_
        try clear hKK7 KK7
        refine Lwp_seq fun KK8 hKK8 => ?_
        refine LregionG [none, none, none, none, none, none, none, none] (by kernel_rfl) (by kernel_rfl) ?_
        simp -dsimp only [go_sem, ↓reduceIte, rdr]
        refine Pc.k' (GetStr_ok f bs p1 o1 hb hp1) ?_
        rintro _ ⟨p2, o2, us2, rfl, hp2, hok2, hG2⟩
        obtain ⟨w2, us', rfl, hw2, hok'⟩ := ok_str hok2
        obtain rfl := ok_nil hok'
        have G2 := G1.app hG2 K1
        have K2 := app_ok K1 hok2
        simp -dsimp only [go_sem, ↓reduceIte, rdr, hd1, List.headD_cons]
        refine hKK8 _ _ ?_
        try clear hKK8 KK8
        refine LregionG [none, none, none, none, none, none, none, none] (by kernel_rfl) (by kernel_rfl) ?_
        simp -dsimp only [go_sem, ↓reduceIte, rdr]
        refine Pc.k' (GetPer_ok f bs p2 o2 hb hp2) ?_
        rintro _ ⟨p3, o3, us3, rfl, hp3, hok3, hG3⟩
        obtain ⟨r1, u1, rfl, hr1, hx1⟩ := ok_int hok3
        obtain ⟨r2, u2, rfl, hx2⟩ := ok_bool hx1
        obtain ⟨r3, u3, rfl, hr3, hx3⟩ := ok_int hx2
        obtain ⟨r4, u4, rfl, hr4, hx4⟩ := ok_int hx3
        obtain ⟨r5, u5, rfl, hr5, hx5⟩ := ok_int hx4
        obtain ⟨r6, u6, rfl, hr6, hx6⟩ := ok_int hx5
        obtain ⟨fr, es, u8, rfl, hl8, ho8, hx8⟩ := ok_sl hx6
        obtain rfl := ok_nil hx8
        have hltr : ltLL S.length es = true := lt_int fun e he => ok_lt (ho8 e he)
        have G3 := G2.app hG3 K2
        have K3 := app_ok K2 hok3
        simp -dsimp only [go_sem, ↓reduceIte, rdr]
        refine hKK2 _ _ ?_
        try clear hKK2 KK2
        refine Lwp_seq fun KK9 hKK9 => ?_
        refine LdrawE [0,1,2,3] [(S.length, (3, [[.sl f (bs.map u8c), V p3, .bool o3]])), (S.length + 3, (38, [[V 3, V 0, V 0, .str ⟨#[]⟩, V 0, V 0, V 0, V 0, V 0, .sl true [], V 0, V 0, V w1, .str w2, V r1, .bool r2, V r3, V r4, V r5, V r6, .sl fr es, V 0, V 0, V 0, .sl true [], .sl true [], .sl true [], .sl true [], V 0, .int .u64 0, V 0, V 0, V 0, V 0, .sl true [], .sl true [], .sl true [], .sl true []]]))] none (by kernel_rfl) (by kernel_rfl) (by kernel_rfl) (by kernel_rfl) (by simp [Watch.holds]) ?_
        simp -dsimp only [go_sem, ↓reduceIte, rdr, List.mem_cons, forall_eq_or_imp, Nat.add_eq_left]
        repeat with_reducible refine And.intro (by first | omega | decide) ?_
        refine hKK9 _ _ ?_
        try clear hKK9 KK9
        refine Lwp_ret ?_
        simp only [LThen, LBlock, LPost, Try.results33]
        simp -dsimp only [go_sem, ↓reduceIte, rdr]
        refine ret_app (by simp only [go_sem, ↓reduceIte, LV.lt, lt_u8c, ltL, ltLL, Bool.and_self, hltr]) ?_
        simp only [go_sem, ↓reduceIte]
        exact hRR _ (RestR.mk (us := [V 3, V 0, V 0, .str ⟨#[]⟩, V 0, V 0, V 0, V 0, V 0, .sl true [], V 0, V 0, V w1, .str w2, V r1, .bool r2, V r3, V r4, V r5, V r6, .sl fr es, V 0, V 0, V 0, .sl true [], .sl true [], .sl true [], .sl true [], V 0, .int .u64 0, V 0, V 0, V 0, V 0, .sl true [], .sl true [], .sl true [], .sl true []]) (u' := [V w1, .str w2, V r1, .bool r2, V r3, V r4, V r5, V r6, .sl fr es]) rfl rfl hp3 K3 G3)
      · skip
        cases hf

set_option maxHeartbeats 1000000 in
theorem Rest4 (f : Bool) (bs : List UInt8) (p : Nat) (o : Bool) (hb : bs.length ≤ 1048576) (hp : p ≤ bs.length) : Pc 33 [rdr f bs p o, V 4] (RestR f bs p o 4 21 sCyc) := by
  refine Pc_intro 1 Try.func33 rfl (by kernel_rfl) rfl fun S RR hRR => ?_
  refine Lwp_seq fun KK0 hKK0 => ?_
  refine LregionG [none, none, none] (by kernel_rfl) (by kernel_rfl) ?_
  simp -dsimp only [go_sem, ↓reduceIte, rdr]
  repeat with_reducible refine And.intro (by first | omega | decide) ?_
  refine hKK0 _ _ ?_
  try clear hKK0 KK0
  refine Lwp_seq fun KK1 hKK1 => ?_
  refine LregionG [none, none, none, none] (by kernel_rfl) (by kernel_rfl) ?_
  simp -dsimp only [go_sem, ↓reduceIte, rdr]
  repeat with_reducible refine And.intro (by first | omega | decide) ?_
  refine hKK1 _ _ ?_
  try clear hKK1 KK1
  refine Lwp_seq fun KK2 hKK2 => ?_
  refine Lwp_seq fun KK3 hKK3 => ?_
  refine LregionG [none] (by kernel_rfl) (by kernel_rfl) ?_
  simp -dsimp only [go_sem, ↓reduceIte, rdr]
  repeat with_reducible refine And.intro (by first | omega | decide) ?_
  refine hKK3 _ _ ?_
  try clear hKK3 KK3
  refine Lwp_block ?_
  refine Lwp_seq fun KK4 hKK4 => ?_
  refine LregionG [none, none] (by kernel_rfl) (by kernel_rfl) ?_
  simp -dsimp only [go_sem, ↓reduceIte, rdr]
  repeat with_reducible refine And.intro (by first | omega | decide) ?_
  refine hKK4 _ _ ?_
  try clear hKK4 KK4
  refine Lwp_cond (by simp only [go_sem, ↓reduceIte, rdr]; rfl) (fun ht => ?_) (fun hf => ?_)
  · skip
    cases ht
  · skip
    refine Lwp_seq fun KK5 hKK5 => ?_
    refine LregionG [none, none] (by kernel_rfl) (by kernel_rfl) ?_
    simp -dsimp only [go_sem, ↓reduceIte, rdr]
    repeat with_reducible refine And.intro (by first | omega | decide) ?_
    refine hKK5 _ _ ?_
    try clear hKK5 KK5
    refine Lwp_cond (by simp only [go_sem, ↓reduceIte, rdr]; rfl) (fun ht => ?_) (fun hf => ?_)
    · skip
      cases ht
    · skip
      refine Lwp_seq fun KK6 hKK6 => ?_
      refine LregionG [none, none] (by kernel_rfl) (by kernel_rfl) ?_
      simp -dsimp only [go_sem, ↓reduceIte, rdr]
      repeat with_reducible refine And.intro (by first | omega | decide) ?_
      refine hKK6 _ _ ?_
      try clear hKK6 KK6
      refine Lwp_cond (by simp only [go_sem, ↓reduceIte, rdr]; rfl) (fun ht => ?_) (fun hf => ?_)
      · skip
        cases ht
      · skip
        refine Lwp_seq fun KK7 hKK7 => ?_
        refine LregionG [none, none] (by kernel_rfl) (by kernel_rfl) ?_
        simp -dsimp only [go_sem, ↓reduceIte, rdr]
        repeat with_reducible refine And.intro (by first | omega | decide) ?_
        refine hKK7 _ _ ?_
        try clear hKK7 KK7
        refine Lwp_cond (by simp only [go_sem, ↓reduceIte, rdr]; rfl) (fun ht => ?_) (fun hf => ?_)
        · skip
          refine LregionG [none, none, none, none, none, none, none, none] (by kernel_rfl) (by kernel_rfl) ?_
          simp -dsimp only [go_sem, ↓reduceIte, rdr]
          refine Pc.k' (GetCyc_ok f bs p o hb hp) ?_
          rintro _ ⟨p1, o1, us1, rfl, hp1, hok1, hG1⟩
          obtain ⟨c1, u1, rfl, hc1, hx1⟩ := ok_int hok1
          obtain ⟨c2, u2, rfl, hc2, hx2⟩ := ok_int hx1
          obtain ⟨c3, u3, rfl, hc3, hx3⟩ := ok_int hx2
          obtain ⟨f4, c4, u4, rfl, hl4, ho4, hx4⟩ := ok_sl hx3
          obtain ⟨f5, c5, u5, rfl, hl5, ho5, hx5⟩ := ok_sl hx4
          obtain ⟨f6, c6, u6, rfl, hl6, ho6, hx6⟩ := ok_sl hx5
          obtain ⟨f7, c7, u7, rfl, hl7, ho7, hx7⟩ := ok_sl hx6
          obtain ⟨c8, u8, rfl, hc8, hx8⟩ := ok_int hx7
          obtain ⟨c9, u9, rfl, hc9, hx9⟩ := ok_word hx8
          obtain ⟨c10, u10, rfl, hc10, hx10⟩ := ok_int hx9
          obtain ⟨c11, u11, rfl, hc11, hx11⟩ := ok_int hx10
          obtain ⟨c12, u12, rfl, hc12, hx12⟩ := ok_int hx11
          obtain ⟨c13, u13, rfl, hc13, hx13⟩ := ok_int hx12
          obtain ⟨f14, c14, u14, rfl, hl14, ho14, hx14⟩ := ok_sl hx13
          obtain ⟨f15, c15, u15, rfl, hl15, ho15, hx15⟩ := ok_sl hx14
          obtain ⟨f16, c16, u16, rfl, hl16, ho16, hx16⟩ := ok_sl hx15
          obtain ⟨f17, c17, u17, rfl, hl17, ho17, hx17⟩ := ok_sl hx16
          obtain rfl := ok_nil hx17
          have hlt4 : ltLL S.length c4 = true := lt_int fun e he => ok_lt (ho4 e he)
          have hlt5 : ltLL S.length c5 = true := lt_int fun e he => ok_lt (ho5 e he)
          have hlt6 : ltLL S.length c6 = true := lt_int fun e he => ok_lt (ho6 e he)
          have hlt7 : ltLL S.length c7 = true := lt_int fun e he => ok_lt (ho7 e he)
          have hlt14 : ltLL S.length c14 = true := lt_int fun e he => ok_lt (ho14 e he)
          have hlt15 : ltLL S.length c15 = true := lt_int fun e he => ok_lt (ho15 e he)
          have hlt16 : ltLL S.length c16 = true := lt_int fun e he => ok_lt (ho16 e he)
          have hlt17 : ltLL S.length c17 = true := lt_int fun e he => ok_lt (ho17 e he)
          have G1 := hG1
          have K1 := hok1
          simp -dsimp only [go_sem, ↓reduceIte, rdr]
          refine hKK2 _ _ ?_
          try clear hKK2 KK2
          refine Lwp_seq fun KK8 hKK8 => ?_
          refine LdrawE [0,1,2,3] [(S.length, (3, [[.sl f (bs.map u8c), V p1, .bool o1]])), (S.length + 3, (38, [[V 4, V 0, V 0, .str ⟨#[]⟩, V 0, V 0, V 0, V 0, V 0, .sl true [], V 0, V 0, V 0, .str ⟨#[]⟩, V 0, .bool false, V 0, V 0, V 0, V 0, .sl true [], V c1, V c2, V c3, .sl f4 c4, .sl f5 c5, .sl f6 c6, .sl f7 c7, V c8, .int .u64 c9, V c10, V c11, V c12, V c13, .sl f14 c14, .sl f15 c15, .sl f16 c16, .sl f17 c17]]))] none (by kernel_rfl) (by kernel_rfl) (by kernel_rfl) (by kernel_rfl) (by simp [Watch.holds]) ?_
          simp -dsimp only [go_sem, ↓reduceIte, rdr, List.mem_cons, forall_eq_or_imp, Nat.add_eq_left]
          repeat with_reducible refine And.intro (by first | omega | decide) ?_
          refine hKK8 _ _ ?_
          try clear hKK8 KK8
          refine Lwp_ret ?_
          simp only [LThen, LBlock, LPost, Try.results33]
          simp -dsimp only [go_sem, ↓reduceIte, rdr]
          refine ret_app (by simp only [go_sem, ↓reduceIte, LV.lt, lt_u8c, ltL, ltLL, Bool.and_self, hlt4, hlt5, hlt6, hlt7, hlt14, hlt15, hlt16, hlt17]) ?_
          simp only [go_sem, ↓reduceIte]
          exact hRR _ (RestR.mk (us := [V 4, V 0, V 0, .str ⟨#[]⟩, V 0, V 0, V 0, V 0, V 0, .sl true [], V 0, V 0, V 0, .str ⟨#[]⟩, V 0, .bool false, V 0, V 0, V 0, V 0, .sl true [], V c1, V c2, V c3, .sl f4 c4, .sl f5 c5, .sl f6 c6, .sl f7 c7, V c8, .int .u64 c9, V c10, V c11, V c12, V c13, .sl f14 c14, .sl f15 c15, .sl f16 c16, .sl f17 c17]) (u' := [V c1, V c2, V c3, .sl f4 c4, .sl f5 c5, .sl f6 c6, .sl f7 c7, V c8, .int .u64 c9, V c10, V c11, V c12, V c13, .sl f14 c14, .sl f15 c15, .sl f16 c16, .sl f17 c17]) rfl rfl hp1 K1 G1)
        · skip
          cases hf

end Go.Proofs.Ytdhngmldmalbbaa
end
section
set_option linter.all false
namespace Go.Proofs.Ytdhngmldmalbbaa
open Go.Lift Go.RowKit Go.Store
set_option linter.unusedSimpArgs false
set_option linter.unusedVariables false

theorem Rest_ok {k : Int} {off : Nat} {s : Sch} (hk : kSch k = some (off, s)) (f : Bool) (bs : List UInt8) (p : Nat) (o : Bool) (hb : bs.length ≤ 1048576) (hp : p ≤ bs.length) : Pc 33 [rdr f bs p o, V k] (RestR f bs p o k off s) := by
  rcases kSch_off hk with ⟨rfl, rfl, rfl⟩ | ⟨rfl, rfl, rfl⟩ | ⟨rfl, rfl, rfl⟩ | ⟨rfl, rfl, rfl⟩
  · exact Rest1 f bs p o hb hp
  · exact Rest2 f bs p o hb hp
  · exact Rest3 f bs p o hb hp
  · exact Rest4 f bs p o hb hp

set_option maxHeartbeats 1000000 in
theorem Decode_ok : ∀ (bs : List UInt8) (f : Bool), bs.length ≤ 140737488355328 → Pc 15 [.sl f (bs.map u8c)] (DecO (decS bs)) := by
  intro bs f hb
  refine Pc_intro 1 Try.func15 rfl (by kernel_rfl) rfl fun S RR hRR => ?_
  unfold DecO decS at hRR
  refine Lwp_seq fun KK0 hKK0 => ?_
  refine LregionG [none, none, none] (by kernel_rfl) (by kernel_rfl) ?_
  simp -dsimp only [go_sem, ↓reduceIte, rdr]
  repeat with_reducible refine And.intro (by first | omega | decide) ?_
  refine hKK0 _ _ ?_
  try clear hKK0 KK0
  refine Lwp_seq fun KK1 hKK1 => ?_
  refine Lwp_seq fun KK2 hKK2 => ?_
  refine LregionG [none, none, none] (by kernel_rfl) (by kernel_rfl) ?_
  simp -dsimp only [go_sem, ↓reduceIte, rdr]
  repeat with_reducible refine And.intro (by first | omega | decide) ?_
  refine hKK2 _ _ ?_
  try clear hKK2 KK2
  refine Lwp_cond (by simp only [go_sem, ↓reduceIte, rdr]; rfl) (fun ht => ?_) (fun hf => ?_)
  · skip
    have h4 : bs.length < 4 := by simp at ht; omega
    simp only [h4, if_true] at hRR
    refine Lwp_seq fun KK3 hKK3 => ?_
    refine LregionG [none, none, none, none] (by kernel_rfl) (by kernel_rfl) ?_
    simp -dsimp only [go_sem, ↓reduceIte, rdr]
    repeat with_reducible refine And.intro (by first | omega | decide) ?_
    refine hKK3 _ _ ?_
    try clear hKK3 KK3
    refine Lwp_ret ?_
    simp only [LThen, LBlock, LPost, Try.results15]
    simp -dsimp only [go_sem, ↓reduceIte, rdr]
    refine ret_frame (Keeps.app _ _ _) (by simp only [go_sem, ↓reduceIte, LV.lt, ltL, ltLL, Bool.and_self]) ?_
    simp only [go_sem, ↓reduceIte]
    exact hRR _ rfl
  · skip
    have h4 : ¬ bs.length < 4 := by simp at hf; omega
    simp only [h4, if_false] at hRR
    have h4l : (bs.take 4).length ≤ 8 := by simp; omega
    refine Lwp_skip ?_
    try simp -dsimp only [go_sem, ↓reduceIte, rdr]
    refine hKK1 _ _ ?_
    try clear hKK1 KK1
    refine Lwp_seq fun KK4 hKK4 => ?_
    refine LregionG [none, none, none, none, none, none, none, none, none] (by kernel_rfl) (by kernel_rfl) ?_
    simp -dsimp only [go_sem, ↓reduceIte, rdr]
    refine Pc.k' (Get_ok f bs 0 4 true hb (Nat.zero_le _) (by omega)) ?_
    rintro _ ⟨p1, o1, v, rfl, -, hN⟩
    obtain ⟨rfl, rfl, rfl⟩ : o1 = true ∧ p1 = 4 ∧ v = num (bs.take 4) := by
      rcases hN with ⟨a, -, -, b, c⟩ | ⟨-, -, -, h | h⟩
      · exact ⟨a, by omega, c⟩
      · cases h
      · rw [List.drop_zero] at h; omega
    obtain ⟨N, hNe⟩ : ∃ N, N = num (bs.take 4) := ⟨_, rfl⟩
    rw [← hNe] at hRR ⊢
    have hN4 : N < 4294967296 := by
      have := num_lt (bs.take 4)
      rw [List.length_take, Nat.min_eq_left (by omega)] at this
      omega
    have e1 : IntKind.u64.wrap ((N : Int) + 8) = ((N + 8 : Nat) : Int) := by rw [wu64 (by omega) (by omega)]; rfl
    have e2 : IntKind.u64.wrap (bs.length : Int) = (bs.length : Int) := wu64 (by omega) (by omega)
    have e3 : IntKind.i64.wrap (N : Int) = (N : Int) := w64 (by omega) (by omega)
    have e4 : IntKind.i64.wrap (4 + (N : Int)) = ((N + 4 : Nat) : Int) := by rw [w64 (by omega) (by omega)]; omega
    simp -dsimp only [go_sem, ↓reduceIte, rdr, rdr]
    refine hKK4 _ _ ?_
    try clear hKK4 KK4
    refine Lwp_seq fun KK5 hKK5 => ?_
    refine Lwp_seq fun KK6 hKK6 => ?_
    refine LregionG [none, none, none] (by kernel_rfl) (by kernel_rfl) ?_
    simp -dsimp only [go_sem, ↓reduceIte, rdr, e1]
    repeat with_reducible refine And.intro (by first | omega | decide) ?_
    refine hKK6 _ _ ?_
    try clear hKK6 KK6
    refine Lwp_cond (by simp only [go_sem, ↓reduceIte, rdr]; rfl) (fun ht => ?_) (fun hf => ?_)
    · skip
      have hbig : 1048576 < N + 8 := by simp at ht; omega
      simp only [hbig, if_true] at hRR
      refine Lwp_seq fun KK7 hKK7 => ?_
      refine LregionG [none, none, none, none] (by kernel_rfl) (by kernel_rfl) ?_
      simp -dsimp only [go_sem, ↓reduceIte, rdr]
      repeat with_reducible refine And.intro (by first | omega | decide) ?_
      refine hKK7 _ _ ?_
      try clear hKK7 KK7
      refine Lwp_ret ?_
      simp only [LThen, LBlock, LPost, Try.results15]
      simp -dsimp only [go_sem, ↓reduceIte, rdr]
      refine ret_frame (Keeps.app _ _ _) (by simp only [go_sem, ↓reduceIte, LV.lt, ltL, ltLL, Bool.and_self]) ?_
      simp only [go_sem, ↓reduceIte]
      exact hRR _ rfl
    · skip
      have hbig : ¬ 1048576 < N + 8 := by simp at hf; omega
      simp only [hbig, if_false] at hRR
      refine Lwp_skip ?_
      try simp -dsimp only [go_sem, ↓reduceIte, rdr]
      refine hKK5 _ _ ?_
      try clear hKK5 KK5
      refine Lwp_seq fun KK8 hKK8 => ?_
      refine Lwp_seq fun KK9 hKK9 => ?_
      refine LregionG [none, none, none, none, none, none] (by kernel_rfl) (by kernel_rfl) ?_
      simp -dsimp only [go_sem, ↓reduceIte, rdr, e1, e2]
      repeat with_reducible refine And.intro (by first | omega | decide) ?_
      refine hKK9 _ _ ?_
      try clear hKK9 KK9
      refine Lwp_cond (by simp only [go_sem, ↓reduceIte, rdr]; rfl) (fun ht => ?_) (fun hf => ?_)
      · skip
        have hsh : bs.length < N + 8 := by simp at ht; omega
        simp only [hsh, if_true] at hRR
        refine Lwp_seq fun KK10 hKK10 => ?_
        refine LregionG [none, none, none, none] (by kernel_rfl) (by kernel_rfl) ?_
        simp -dsimp only [go_sem, ↓reduceIte, rdr]
        repeat with_reducible refine And.intro (by first | omega | decide) ?_
        refine hKK10 _ _ ?_
        try clear hKK10 KK10
        refine Lwp_ret ?_
        simp only [LThen, LBlock, LPost, Try.results15]
        simp -dsimp only [go_sem, ↓reduceIte, rdr]
        refine ret_frame (Keeps.app _ _ _) (by simp only [go_sem, ↓reduceIte, LV.lt, ltL, ltLL, Bool.and_self]) ?_
        simp only [go_sem, ↓reduceIte]
        exact hRR _ rfl
      · skip
        have hsh : ¬ bs.length < N + 8 := by simp at hf; omega
        simp only [hsh, if_false] at hRR
        refine Lwp_skip ?_
        try simp -dsimp only [go_sem, ↓reduceIte, rdr]
        refine hKK8 _ _ ?_
        try clear hKK8 KK8
        refine Lwp_seq fun KK11 hKK11 => ?_
        refine LregionG [none, none, none, none] (by kernel_rfl) (by kernel_rfl) ?_
        simp -dsimp only [go_sem, ↓reduceIte, rdr, e3, e4]
        repeat with_reducible refine And.intro (by first | omega | decide) ?_
        refine hKK11 _ _ ?_
        try clear hKK11 KK11
        refine Lwp_seq fun KK12 hKK12 => ?_
        refine Lwp_seq fun KK13 hKK13 => ?_
        refine LregionG [none, none, none, none, none, none, none, none, none, none] (by kernel_rfl) (by kernel_rfl) ?_
        simp -dsimp only [go_sem, ↓reduceIte, rdr]
        refine Pc.k' (Get_ok f bs (N + 4) 4 true hb (by omega) (by omega)) ?_
        rintro _ ⟨p1, o1, v, rfl, -, hM⟩
        obtain ⟨rfl, rfl, rfl⟩ : o1 = true ∧ p1 = N + 4 + 4 ∧ v = num ((bs.drop (N + 4)).take 4) := by
          rcases hM with ⟨a, -, -, b, c⟩ | ⟨-, -, -, h | h⟩
          · exact ⟨a, b, c⟩
          · cases h
          · rw [List.length_drop] at h; omega
        have hm5 : List.take (N + 4 - 0) (List.map u8c bs) = List.map u8c (bs.take (N + 4)) := List.map_take.symm
        have hle : N + 4 ≤ bs.length := by omega
        have htl : (bs.take (N + 4)).length = N + 4 := by rw [List.length_take]; omega
        simp -dsimp only [go_sem, ↓reduceIte, rdr]
        refine hKK13 _ _ ?_
        try clear hKK13 KK13
        refine Lwp_seq fun KK14 hKK14 => ?_
        refine LregionG [none, none, none, none, none, none] (by kernel_rfl) (by kernel_rfl) ?_
        simp -dsimp only [go_sem, ↓reduceIte, rdr]
        refine ⟨⟨hle, head_u8 bs⟩, ?_⟩
        rw [hm5]
        refine LCalls.k (Chk_ok (.inl ⟨_, rfl⟩) (by omega)) ?_
        rintro _ _ ⟨rfl, rfl⟩
        simp -dsimp only [go_sem, ↓reduceIte, rdr]
        refine hKK14 _ _ ?_
        try clear hKK14 KK14
        refine Lwp_cond (by simp only [go_sem, ↓reduceIte, rdr]; rfl) (fun ht => ?_) (fun hf => ?_)
        · skip
          have hne : chkN (bs.take (N + 4)) ≠ num ((bs.drop (N + 4)).take 4) := by simp at ht; omega
          rw [if_pos hne] at hRR
          refine Lwp_seq fun KK15 hKK15 => ?_
          refine LregionG [none, none, none, none] (by kernel_rfl) (by kernel_rfl) ?_
          simp -dsimp only [go_sem, ↓reduceIte, rdr]
          repeat with_reducible refine And.intro (by first | omega | decide) ?_
          refine hKK15 _ _ ?_
          try clear hKK15 KK15
          refine Lwp_ret ?_
          simp only [LThen, LBlock, LPost, Try.results15]
          simp -dsimp only [go_sem, ↓reduceIte, rdr]
          refine ret_frame (Keeps.app _ _ _) (by simp only [go_sem, ↓reduceIte, LV.lt, ltL, ltLL, Bool.and_self]) ?_
          simp only [go_sem, ↓reduceIte]
          exact hRR _ rfl
        · skip
          have hne : ¬ chkN (bs.take (N + 4)) ≠ num ((bs.drop (N + 4)).take 4) := by simp at hf; omega
          rw [if_neg hne] at hRR
          refine Lwp_skip ?_
          try simp -dsimp only [go_sem, ↓reduceIte, rdr]
          refine hKK12 _ _ ?_
          try clear hKK12 KK12
          refine Lwp_seq fun KK16 hKK16 => ?_
          refine LregionG [none, none, none, none, none, none, none, none, none, none, none] (by kernel_rfl) (by kernel_rfl) ?_
          simp -dsimp only [go_sem, ↓reduceIte, rdr]
          refine ⟨⟨hle, head_u8 bs⟩, ?_⟩
          rw [hm5]
          obtain ⟨g, hg⟩ : ∃ g : Bool, (f && ((N + 4 : Nat) : Int) == (bs.length : Int)) = g := ⟨_, rfl⟩
          rw [hg]
          refine Pc.k' (Get_ok g (bs.take (N + 4)) 4 1 true (by omega) (by omega) (by omega)) ?_
          rintro _ ⟨p2, o2, kv, rfl, hp2, hKd⟩
          have hcase : (kv = 0 ∧ N = 0) ∨ (N ≠ 0 ∧ kv = (bs.getD 4 0).toNat ∧ o2 = true ∧ p2 = 5) := by
            rcases hKd with ⟨a, -, h1, b, c⟩ | ⟨-, -, c, h | h⟩
            · rw [List.length_drop, htl] at h1
              refine .inr ⟨by omega, ?_, a, b⟩
              rw [c, List.drop_take, List.take_take, Nat.min_eq_left (by omega)]
              have h4b : 4 < bs.length := by omega
              have e41 : List.take 1 (List.drop 4 bs) = [bs[4]] := by rw [List.drop_eq_getElem_cons h4b]; rfl
              rw [e41, List.getD_eq_getElem?_getD, List.getElem?_eq_getElem h4b]
              show 0 * 256 + (bs[4]).toNat = (bs[4]).toNat
              omega
            · cases h
            · rw [List.length_drop, htl] at h; exact .inl ⟨c, by omega⟩
          have hcase4 : (kv = 0 ∧ N = 0) ∨ (N ≠ 0 ∧ kv = (bs.getD 4 0).toNat ∧ kv < 1) ∨ (N ≠ 0 ∧ kv = (bs.getD 4 0).toNat ∧ ¬ kv < 1 ∧ 4 < kv) ∨ (N ≠ 0 ∧ kv = (bs.getD 4 0).toNat ∧ o2 = true ∧ p2 = 5 ∧ ¬ kv < 1 ∧ ¬ 4 < kv) := by
            rcases hcase with h | ⟨a, b, c, d⟩
            · exact .inl h
            · by_cases h1 : kv < 1
              · exact .inr (.inl ⟨a, b, h1⟩)
              · by_cases h2 : 4 < kv
                · exact .inr (.inr (.inl ⟨a, b, h1, h2⟩))
                · exact .inr (.inr (.inr ⟨a, b, c, d, h1, h2⟩))
          clear hcase hKd
          rcases hcase4 with ⟨rfl, hz⟩ | ⟨hz, hkv, hk1⟩ | ⟨hz, hkv, hk1, hk5⟩ | ⟨hz, hkv, rfl, rfl, hk1, hk5⟩
          · skip
            rw [if_pos hz] at hRR
            simp -dsimp only [go_sem, ↓reduceIte, rdr]
            refine hKK16 _ _ ?_
            try clear hKK16 KK16
            refine Lwp_seq fun KK17 hKK17 => ?_
            refine Lwp_seq fun KK18 hKK18 => ?_
            refine LregionG [none, none, none, some (61, false), some (61, false), none] (by kernel_rfl) (by kernel_rfl) ?_
            simp -dsimp only [go_sem, ↓reduceIte, rdr, Int.natCast_zero]
            repeat with_reducible refine And.intro (by first | omega | decide) ?_
            refine hKK18 _ _ ?_
            try clear hKK18 KK18
            refine Lwp_cond (by simp only [go_sem, ↓reduceIte, rdr]; rfl) (fun ht => ?_) (fun hf => ?_)
            · skip
              refine Lwp_seq fun KK19 hKK19 => ?_
              refine LregionG [none, none, none, none] (by kernel_rfl) (by kernel_rfl) ?_
              simp -dsimp only [go_sem, ↓reduceIte, rdr]
              repeat with_reducible refine And.intro (by first | omega | decide) ?_
              refine hKK19 _ _ ?_
              try clear hKK19 KK19
              refine Lwp_ret ?_
              simp only [LThen, LBlock, LPost, Try.results15]
              simp -dsimp only [go_sem, ↓reduceIte, rdr]
              refine ret_frame (Keeps.app _ _ _) (by simp only [go_sem, ↓reduceIte, LV.lt, ltL, ltLL, Bool.and_self]) ?_
              simp only [go_sem, ↓reduceIte]
              exact hRR _ rfl
            · skip
              cases hf
          · skip
            rw [if_neg hz, ← hkv] at hRR
            have hks : kSch (kv : Int) = none := by unfold kSch; rw [if_neg (by omega), if_neg (by omega), if_neg (by omega), if_neg (by omega)]
            rw [hks] at hRR
            have hk1i : (kv : Int) < 1 := by omega
            simp -dsimp only [go_sem, ↓reduceIte, rdr]
            refine hKK16 _ _ ?_
            try clear hKK16 KK16
            refine Lwp_seq fun KK20 hKK20 => ?_
            refine Lwp_seq fun KK21 hKK21 => ?_
            refine LregionG [none, none, none, some (61, false), some (61, false), none] (by kernel_rfl) (by kernel_rfl) ?_
            simp -dsimp only [go_sem, ↓reduceIte, rdr, hk1i, hk1]
            repeat with_reducible refine And.intro (by first | omega | decide) ?_
            refine hKK21 _ _ ?_
            try clear hKK21 KK21
            refine Lwp_cond (by simp only [go_sem, ↓reduceIte, rdr]; rfl) (fun ht => ?_) (fun hf => ?_)
            · skip
              refine Lwp_seq fun KK22 hKK22 => ?_
              refine LregionG [none, none, none, none] (by kernel_rfl) (by kernel_rfl) ?_
              simp -dsimp only [go_sem, ↓reduceIte, rdr]
              repeat with_reducible refine And.intro (by first | omega | decide) ?_
              refine hKK22 _ _ ?_
              try clear hKK22 KK22
              refine Lwp_ret ?_
              simp only [LThen, LBlock, LPost, Try.results15]
              simp -dsimp only [go_sem, ↓reduceIte, rdr]
              refine ret_frame (Keeps.app _ _ _) (by simp only [go_sem, ↓reduceIte, LV.lt, ltL, ltLL, Bool.and_self]) ?_
              simp only [go_sem, ↓reduceIte]
              exact hRR _ rfl
            · skip
              cases hf
          · skip
            rw [if_neg hz, ← hkv] at hRR
            have hks : kSch (kv : Int) = none := by unfold kSch; rw [if_neg (by omega), if_neg (by omega), if_neg (by omega), if_neg (by omega)]
            rw [hks] at hRR
            have hk1i : ¬ (kv : Int) < 1 := by omega
            have hk5i : (4 : Int) < kv := by omega
            simp -dsimp only [go_sem, ↓reduceIte, rdr]
            refine hKK16 _ _ ?_
            try clear hKK16 KK16
            refine Lwp_seq fun KK23 hKK23 => ?_
            refine Lwp_seq fun KK24 hKK24 => ?_
            refine LregionG [none, none, none, some (61, false), some (61, false), none] (by kernel_rfl) (by kernel_rfl) ?_
            simp -dsimp only [go_sem, ↓reduceIte, rdr, hk1i, hk5i, hk1, hk5]
            repeat with_reducible refine And.intro (by first | omega | decide) ?_
            refine hKK24 _ _ ?_
            try clear hKK24 KK24
            refine Lwp_cond (by simp only [go_sem, ↓reduceIte, rdr]; rfl) (fun ht => ?_) (fun hf => ?_)
            · skip
              refine Lwp_seq fun KK25 hKK25 => ?_
              refine LregionG [none, none, none, none] (by kernel_rfl) (by kernel_rfl) ?_
              simp -dsimp only [go_sem, ↓reduceIte, rdr]
              repeat with_reducible refine And.intro (by first | omega | decide) ?_
              refine hKK25 _ _ ?_
              try clear hKK25 KK25
              refine Lwp_ret ?_
              simp only [LThen, LBlock, LPost, Try.results15]
              simp -dsimp only [go_sem, ↓reduceIte, rdr]
              refine ret_frame (Keeps.app _ _ _) (by simp only [go_sem, ↓reduceIte, LV.lt, ltL, ltLL, Bool.and_self]) ?_
              simp only [go_sem, ↓reduceIte]
              exact hRR _ rfl
            · skip
              cases hf
          · skip
            rw [if_neg hz, ← hkv] at hRR
            obtain ⟨off, s, hks⟩ : ∃ off s, kSch (kv : Int) = some (off, s) := by
              unfold kSch
              by_cases a1 : (kv : Int) = 1
              · rw [if_pos a1]; exact ⟨_, _, rfl⟩
              · rw [if_neg a1]
                by_cases a2 : (kv : Int) = 2
                · rw [if_pos a2]; exact ⟨_, _, rfl⟩
                · rw [if_neg a2]
                  by_cases a3 : (kv : Int) = 3
                  · rw [if_pos a3]; exact ⟨_, _, rfl⟩
                  · rw [if_neg a3, if_pos (by omega)]; exact ⟨_, _, rfl⟩
            rw [hks] at hRR
            simp only [] at hRR
            have hk1i : ¬ (kv : Int) < 1 := by omega
            have hk5i : ¬ (4 : Int) < kv := by omega
            have e5 : IntKind.i64.wrap (kv : Int) = (kv : Int) := w64 (by omega) (by omega)
            have e6 : IntKind.i64.wrap (((N + 4 : Nat) : Int) + 4) = ((N + 8 : Nat) : Int) := by rw [w64 (by omega) (by omega)]; omega
            simp -dsimp only [go_sem, ↓reduceIte, rdr]
            refine hKK16 _ _ ?_
            try clear hKK16 KK16
            refine Lwp_seq fun KK26 hKK26 => ?_
            refine Lwp_seq fun KK27 hKK27 => ?_
            refine LregionG [none, none, none, some (61, false), some (61, false), none] (by kernel_rfl) (by kernel_rfl) ?_
            simp -dsimp only [go_sem, ↓reduceIte, rdr, hk1i, hk5i, hk1, hk5]
            repeat with_reducible refine And.intro (by first | omega | decide) ?_
            refine hKK27 _ _ ?_
            try clear hKK27 KK27
            refine Lwp_cond (by simp only [go_sem, ↓reduceIte, rdr]; rfl) (fun ht => ?_) (fun hf => ?_)
            · skip
              cases ht
            · skip
              refine Lwp_skip ?_
              try simp -dsimp only [go_sem, ↓reduceIte, rdr]
              refine hKK26 _ _ ?_
              try clear hKK26 KK26
              refine Lwp_seq fun KK28 hKK28 => ?_
              refine LregionG [none, none, none, none, none, none, none, none, none, none] (by kernel_rfl) (by kernel_rfl) ?_
              simp -dsimp only [go_sem, ↓reduceIte, rdr, e5]
              refine Pc.k' (Rest_ok hks g (bs.take (N + 4)) 5 true (by omega) (by omega)) ?_
              rintro _ ⟨p3, o3, us, pre, u', post, rfl, hp3, hokL, hg0, hus, hpre, hok, hG⟩
              have hlen := okLog_len hokL
              obtain ⟨htk, hov⟩ := log_take hokL
              have hW := walR_dec (s := s) (us := zs s) (bs := (bs.take (N + 4)).drop 5) ok_zs (wf_kSch hks)
              rw [htl] at hp3
              simp -dsimp only [go_sem, ↓reduceIte, rdr, rdr, hlen, hov, List.length_cons, List.length_nil]
              refine hKK28 _ _ ?_
              try clear hKK28 KK28
              refine Lwp_seq fun KK29 hKK29 => ?_
              refine Lwp_seq fun KK30 hKK30 => ?_
              refine LregionG [none, none, none, none, some (76, false), some (76, false), some (76, false), some (76, false), none] (by kernel_rfl) (by kernel_rfl) ?_
              simp -dsimp only [go_sem, ↓reduceIte, rdr]
              cases o3
              · skip
                simp -dsimp only [go_sem, ↓reduceIte]
                have hd : dec s ((bs.take (N + 4)).drop 5) = none := by
                  rcases hG with ⟨h, -⟩ | ⟨-, h | h⟩
                  · cases h
                  · cases h
                  · exact h
                rw [hd] at hW
                rw [if_pos (.inl hW)] at hRR
                refine hKK30 _ _ ?_
                try clear hKK30 KK30
                refine Lwp_cond (by simp only [go_sem, ↓reduceIte, rdr]; rfl) (fun ht => ?_) (fun hf => ?_)
                · skip
                  refine Lwp_seq fun KK31 hKK31 => ?_
                  refine LregionG [none, none, none, none] (by kernel_rfl) (by kernel_rfl) ?_
                  simp -dsimp only [go_sem, ↓reduceIte, rdr]
                  repeat with_reducible refine And.intro (by first | omega | decide) ?_
                  refine hKK31 _ _ ?_
                  try clear hKK31 KK31
                  refine Lwp_ret ?_
                  simp only [LThen, LBlock, LPost, Try.results15]
                  simp -dsimp only [go_sem, ↓reduceIte, rdr]
                  refine ret_frame (Keeps.app _ _ _) (by simp only [go_sem, ↓reduceIte, LV.lt, ltL, ltLL, Bool.and_self]) ?_
                  simp only [go_sem, ↓reduceIte]
                  exact hRR _ rfl
                · skip
                  cases hf
              · skip
                simp -dsimp only [go_sem, ↓reduceIte]
                have hd : dec s ((bs.take (N + 4)).drop 5) = some (nz s u', (bs.take (N + 4)).drop p3) := by
                  rcases hG with ⟨-, -, h⟩ | ⟨h, -⟩
                  · exact h
                  · cases h
                rw [hd] at hW
                have hW' : wal rR s (zs s) (((bs.take (N + 4)).drop 5, false) : List UInt8 × Bool) = (nz s u', (((bs.take (N + 4)).drop p3, false) : List UInt8 × Bool)) := hW
                rw [hW'] at hRR
                have hrl : ((bs.take (N + 4)).drop p3).length = N + 4 - p3 := by rw [List.length_drop, htl]
                refine hKK30 _ _ ?_
                try clear hKK30 KK30
                refine Lwp_cond (by simp only [go_sem, ↓reduceIte, rdr]; rfl) (fun ht => ?_) (fun hf => ?_)
                · skip
                  have hne2 : p3 ≠ N + 4 := by simp at ht; omega
                  rw [if_pos (.inr (by rw [hrl]; omega))] at hRR
                  refine Lwp_seq fun KK32 hKK32 => ?_
                  refine LregionG [none, none, none, none] (by kernel_rfl) (by kernel_rfl) ?_
                  simp -dsimp only [go_sem, ↓reduceIte, rdr]
                  repeat with_reducible refine And.intro (by first | omega | decide) ?_
                  refine hKK32 _ _ ?_
                  try clear hKK32 KK32
                  refine Lwp_ret ?_
                  simp only [LThen, LBlock, LPost, Try.results15]
                  simp -dsimp only [go_sem, ↓reduceIte, rdr]
                  refine ret_frame (Keeps.app _ _ _) (by simp only [go_sem, ↓reduceIte, LV.lt, ltL, ltLL, Bool.and_self]) ?_
                  simp only [go_sem, ↓reduceIte]
                  exact hRR _ rfl
                · skip
                  have he2 : p3 = N + 4 := by simp at hf; omega
                  rw [if_neg (by rw [hrl]; rintro (h | h); cases h; omega)] at hRR
                  refine Lwp_skip ?_
                  try simp -dsimp only [go_sem, ↓reduceIte, rdr]
                  refine hKK29 _ _ ?_
                  try clear hKK29 KK29
                  refine Lwp_seq fun KK33 hKK33 => ?_
                  refine LregionG [none, none, none, none, none, none] (by kernel_rfl) (by kernel_rfl) ?_
                  simp -dsimp only [go_sem, ↓reduceIte, rdr, e6, hlen, htk, hov, List.length_cons, List.length_nil]
                  repeat with_reducible refine And.intro (by first | omega | decide) ?_
                  refine hKK33 _ _ ?_
                  try clear hKK33 KK33
                  refine Lwp_ret ?_
                  simp only [LThen, LBlock, LPost, Try.results15]
                  simp -dsimp only [go_sem, ↓reduceIte, rdr]
                  refine ⟨by omega, ?_⟩
                  rw [htk]
                  refine ret_frame (Keeps.app _ _ _) (by simp only [go_sem, ↓reduceIte, LV.lt, ltL, ok_frz hokL, ok_lt hokL, hlen, htk, Bool.and_self]) ?_
                  simp only [go_sem, ↓reduceIte, ok_frz hokL, hlen, htk]
                  exact hRR _ ⟨us, pre, u', post, rfl, hokL, hg0, hus, hpre, hok, rfl⟩

end Go.Proofs.Ytdhngmldmalbbaa
end
section
set_option linter.all false
namespace Go.Proofs.Ytdhngmldmalbbaa
open Go.Lift Go.RowKit Go.Store
set_option linter.unusedSimpArgs false
set_option linter.unusedVariables false

/-! ### Two readings of the same bytes -/
theorem decN_enc {e : Sch} (he : ∀ (bs : List UInt8) (us : List LV) (r : List UInt8), dec e bs = some (us, r) → (enc e us).length + r.length = bs.length) : ∀ (n : Nat) (bs : List UInt8) (xs : List (List LV)) (r : List UInt8), decN (dec e) n bs = some (xs, r) → (xs.flatMap (enc e)).length + r.length = bs.length
  | 0, bs, xs, r, h => by simp only [decN, Option.some.injEq, Prod.mk.injEq] at h; obtain ⟨rfl, rfl⟩ := h; simp
  | n + 1, bs, xs, r, h => by
    simp only [decN] at h
    cases h1 : dec e bs with
    | none => rw [h1] at h; cases h
    | some p =>
      obtain ⟨x, b⟩ := p
      rw [h1] at h
      simp only [] at h
      cases h2 : decN (dec e) n b with
      | none => rw [h2] at h; cases h
      | some q =>
        obtain ⟨ys, b2⟩ := q
        rw [h2] at h
        simp only [Option.some.injEq, Prod.mk.injEq] at h
        obtain ⟨rfl, rfl⟩ := h
        have a1 := he _ _ _ h1
        have a2 := decN_enc he n b ys b2 h2
        simp only [List.flatMap_cons, List.length_append]; omega
theorem dec_enc : ∀ {s : Sch} {bs : List UInt8} {us : List LV} {r : List UInt8}, dec s bs = some (us, r) → (enc s us).length + r.length = bs.length
  | .nil, bs, us, r, h => by simp only [dec, Option.some.injEq, Prod.mk.injEq] at h; obtain ⟨rfl, rfl⟩ := h; simp [enc]
  | .int t, bs, us, r, h => by
    by_cases hb : 8 ≤ bs.length
    · simp only [dec, take'_some hb] at h
      obtain ⟨vs, h1, rfl⟩ := cons'_len h
      have := dec_enc h1
      rw [List.length_drop] at this; simp only [enc, List.length_append, be_length]; omega
    · simp only [dec, take'_none (by omega : bs.length < 8)] at h; cases h
  | .word t, bs, us, r, h => by
    by_cases hb : 8 ≤ bs.length
    · simp only [dec, take'_some hb] at h
      obtain ⟨vs, h1, rfl⟩ := cons'_len h
      have := dec_enc h1
      rw [List.length_drop] at this; simp only [enc, List.length_append, be_length]; omega
    · simp only [dec, take'_none (by omega : bs.length < 8)] at h; cases h
  | .bool t, bs, us, r, h => by
    by_cases hb : 1 ≤ bs.length
    · simp only [dec, take'_some hb] at h
      split at h
      · obtain ⟨vs, h1, rfl⟩ := cons'_len h
        have := dec_enc h1
        rw [List.length_drop] at this; simp only [enc, List.length_cons]; omega
      · cases h
    · simp only [dec, take'_none (by omega : bs.length < 1)] at h; cases h
  | .str t, bs, us, r, h => by
    by_cases hb : 4 ≤ bs.length
    · simp only [dec, take'_some hb] at h
      by_cases hc : num (bs.take 4) ≤ (bs.drop 4).length
      · simp only [take'_some hc] at h
        obtain ⟨vs, h1, rfl⟩ := cons'_len h
        have := dec_enc h1
        have e : (strOf ((bs.drop 4).take (num (bs.take 4)))).data.toList.length = num (bs.take 4) := by simp only [strOf]; rw [List.length_take]; omega
        rw [List.length_drop, List.length_drop] at this
        rw [List.length_drop] at hc
        simp only [enc, List.length_append, be_length, e]; omega
      · simp only [take'_none (by omega : (bs.drop 4).length < num (bs.take 4))] at h; cases h
    · simp only [dec, take'_none (by omega : bs.length < 4)] at h; cases h
  | .sl e t, bs, us, r, h => by
    by_cases hb : 4 ≤ bs.length
    · simp only [dec, take'_some hb] at h
      cases h1 : decN (dec e) (num (bs.take 4)) (bs.drop 4) with
      | none => rw [h1] at h; cases h
      | some p =>
        obtain ⟨xs, b⟩ := p
        rw [h1] at h
        obtain ⟨vs, h2, rfl⟩ := cons'_len h
        have a1 := decN_enc (fun _ _ _ h => dec_enc h) _ _ _ _ h1
        have a2 := dec_enc h2
        rw [List.length_drop] at a1; simp only [enc, List.length_append, be_length]; omega
    · simp only [dec, take'_none (by omega : bs.length < 4)] at h; cases h
theorem decS_inr2 {bs : List UInt8} {k : Int} {off n : Nat} {s : Sch} {p : List LV} (h : decS bs = .inr (k, off, s, p, n)) : kSch k = some (off, s) ∧ (enc s p).length ≤ 1048576 := by
  unfold decS at h
  by_cases h1 : bs.length < 4
  · rw [if_pos h1] at h; cases h
  rw [if_neg h1] at h
  by_cases h2 : 1048576 < num (bs.take 4) + 8
  · rw [if_pos h2] at h; cases h
  rw [if_neg h2] at h
  by_cases h3 : bs.length < num (bs.take 4) + 8
  · rw [if_pos h3] at h; cases h
  rw [if_neg h3] at h
  by_cases h4 : chkN (bs.take (num (bs.take 4) + 4)) ≠ num ((bs.drop (num (bs.take 4) + 4)).take 4)
  · rw [if_pos h4] at h; cases h
  rw [if_neg h4] at h
  by_cases h5 : num (bs.take 4) = 0
  · rw [if_pos h5] at h; cases h
  rw [if_neg h5] at h
  split at h
  · cases h
  · rename_i off' s' hks
    split at h
    · cases h
    · rename_i hnb
      simp only [Sum.inr.injEq, Prod.mk.injEq] at h
      obtain ⟨rfl, rfl, rfl, rfl, rfl⟩ := h
      refine ⟨hks, ?_⟩
      have hW := walR_dec (s := s') (us := zs s') (bs := (bs.take (num (bs.take 4) + 4)).drop 5) ok_zs (wf_kSch hks)
      cases hd : dec s' ((bs.take (num (bs.take 4) + 4)).drop 5) with
      | none => rw [hd] at hW; exact absurd (.inl hW) hnb
      | some q =>
        obtain ⟨us, rest⟩ := q
        rw [hd] at hW
        have hW' : wal rR s' (zs s') (((bs.take (num (bs.take 4) + 4)).drop 5, false) : List UInt8 × Bool) = (us, ((rest, false) : List UInt8 × Bool)) := hW
        rw [hW']
        have := dec_enc hd
        rw [List.length_drop, List.length_take] at this
        show (enc s' us).length ≤ _
        omega
/-- what two readings of the same bytes give. -/
theorem dec_two {bs : List UInt8} {r1 r2 : LV} (h1 : DecO (decS bs) r1) (h2 : DecO (decS bs) r2) : ∃ (us vs : List LV) (n e : Int), r1 = .tup [.agg us, V n, V e] ∧ r2 = .tup [.agg vs, V n, V e] ∧ ok sLog us ∧ ok sLog vs ∧ sameE us vs = true ∧ (∀ b, bodyE us = some b → b.length ≤ 1048577) ∧ (∀ b, bodyE vs = some b → b.length ≤ 1048577) ∧ (e = 0 → 8 ≤ n ∧ n ≤ bs.length) ∧ (e = 0 ∨ ∃ e', decS bs = .inl e') := by
  cases hd : decS bs with
  | inl e =>
    rw [hd] at h1 h2
    have hz : bodyE (zs sLog) = none := bodyE_none (k := 0) rfl rfl
    refine ⟨zs sLog, zs sLog, 0, e, h1, h2, ok_zs, ok_zs, ?_, (fun b hb => by rw [hz] at hb; cases hb), (fun b hb => by rw [hz] at hb; cases hb), fun h => absurd h (decS_inl hd), .inr ⟨e, rfl⟩⟩
    unfold sameE; rw [hz]; rfl
  | inr q =>
    obtain ⟨k, off, s, p, n⟩ := q
    obtain ⟨hks, hl⟩ := decS_inr2 hd
    obtain ⟨hn8, hn, -⟩ := decS_inr hd
    rw [hd] at h1 h2
    obtain ⟨us, pre, u', post, rfl, hok, hg, hus, hpre, hu, hz⟩ := h1
    obtain ⟨vs, pre2, v', post2, rfl, hok2, hg2, hvs, hpre2, hv, hz2⟩ := h2
    have e1 : bodyE us = some (b8 k :: enc s p) := by rw [bodyE_some hg hks hus hpre hu, ← hz, enc_nz hu]
    have e2 : bodyE vs = some (b8 k :: enc s p) := by rw [bodyE_some hg2 hks hvs hpre2 hv, ← hz2, enc_nz hv]
    refine ⟨us, vs, n, 0, rfl, rfl, hok, hok2, ?_, (fun b hb => by rw [e1] at hb; cases hb; simp; omega), (fun b hb => by rw [e2] at hb; cases hb; simp; omega), fun _ => ⟨by omega, by omega⟩, .inl rfl⟩
    unfold sameE; rw [e1, e2, hg, hg2]; simp
/-- an entry that was made, under another kind. -/
theorem ent_kind {us : List LV} (h : EntOk us) {k : Int} (hk : isI k) : ok sLog (V k :: us.drop 1) ∧ ∀ b, bodyE (V k :: us.drop 1) = some b → b.length ≤ 5000 := by
  obtain ⟨k0, now, st, nm, it, pe, cy, rfl, h0, h1⟩ := h
  have hE : ∀ k' : Int, 1 ≤ k' ∧ k' ≤ 4 → EntOk ([V k', V now] ++ it ++ [V st, .str nm] ++ pe ++ cy) := fun k' hk' => ⟨k', now, st, nm, it, pe, cy, rfl, hk', h1⟩
  have e0 : ∀ k' : Int, V k' :: ([V k0, V now] ++ it ++ [V st, .str nm] ++ pe ++ cy).drop 1 = [V k', V now] ++ it ++ [V st, .str nm] ++ pe ++ cy := fun k' => by simp
  rw [e0]
  have hok0 := EntOk_ok (hE 1 ⟨by decide, by decide⟩)
  refine ⟨?_, fun b hb => ?_⟩
  · have : [V 1, V now] ++ it ++ [V st, .str nm] ++ pe ++ cy = V 1 :: (V now :: it ++ [V st, .str nm] ++ pe ++ cy) := by simp
    rw [this] at hok0
    have e2 : [V k, V now] ++ it ++ [V st, .str nm] ++ pe ++ cy = V k :: (V now :: it ++ [V st, .str nm] ++ pe ++ cy) := by simp
    rw [e2]
    exact ⟨rfl, hk.1, hk.2, hok0.2.2.2⟩
  · by_cases hr : 1 ≤ k ∧ k ≤ 4
    · obtain ⟨body, hb2, hl⟩ := ent_body (hE k hr)
      rw [hb2] at hb; cases hb; exact hl
    · have hn : bodyE ([V k, V now] ++ it ++ [V st, .str nm] ++ pe ++ cy) = none := bodyE_none (k := k) rfl (by unfold kSch; rw [if_neg (by omega), if_neg (by omega), if_neg (by omega), if_neg (by omega)])
      rw [hn] at hb; cases hb

end Go.Proofs.Ytdhngmldmalbbaa
end
section
set_option linter.all false
namespace Go.Proofs.Ytdhngmldmalbbaa
open Go.Lift Go.RowKit Go.Store
set_option linter.unusedSimpArgs false
set_option linter.unusedVariables false

theorem ovr_head {us : List LV} {u : LV} (h : us.length = 38) : ovr us 0 [u] = u :: us.drop 1 := by
  rw [ovr_eq us 0 [u] (by simp; omega)]; rfl
theorem mem_getD {α : Type} {l : List α} {i : Nat} {d : α} (h : i < l.length) : l.getD i d ∈ l := by
  rw [List.getD_eq_getElem?_getD, List.getElem?_eq_getElem h]; exact List.getElem_mem h

set_option maxHeartbeats 1000000 in
theorem Codes_ok {S : LS} (fr : Bool) (raw : List UInt8) (f0 : Bool) (xs : List UInt8) (c2 c3 kd : Int) (hraw : raw.length ≤ 1048576) (h2 : 0 ≤ c2 ∧ c2 < 65536) (h3 : 0 ≤ c3 ∧ c3 < 256) (hkd : isI kd) : LCalls Try.prog 3 [.sl fr (raw.map u8c), .sl f0 (xs.map u8c), .int .u16 c2, .int .u8 c3, V kd] S (fun r S' => r = .bool true) := by
  refine LCalls_introK 0 Try.func3 rfl (by kernel_rfl) rfl fun RR hRR => ?_
  refine Lwp_seq fun KK0 hKK0 => ?_
  refine LregionG [none] (by kernel_rfl) (by kernel_rfl) ?_
  simp -dsimp only [go_sem, ↓reduceIte]
  repeat with_reducible refine And.intro (by first | omega | decide) ?_
  refine hKK0 _ _ ?_
  try clear hKK0 KK0
  refine Lwp_seq fun KK1 hKK1 => ?_
  refine Lwp_seq fun KK2 hKK2 => ?_
  refine LregionG [none, none] (by kernel_rfl) (by kernel_rfl) ?_
  simp -dsimp only [go_sem, ↓reduceIte]
  refine LCalls.k Awake_ok ?_
  rintro _ S1 ⟨rfl, hK1⟩
  simp -dsimp only [go_sem, ↓reduceIte]
  refine hKK2 _ _ ?_
  try clear hKK2 KK2
  refine Lwp_cond (by simp only [go_sem, ↓reduceIte]; rfl) (fun ht => ?_) (fun hf => ?_)
  · skip
    cases ht
  · skip
    refine Lwp_skip ?_
    try simp -dsimp only [go_sem, ↓reduceIte]
    refine hKK1 _ _ ?_
    try clear hKK1 KK1
    refine Lwp_seq fun KK3 hKK3 => ?_
    refine LregionG [none, none, none] (by kernel_rfl) (by kernel_rfl) ?_
    simp -dsimp only [go_sem, ↓reduceIte]
    refine LCalls.k (New_ok f0 xs 200 (by decide)) ?_
    rintro _ _ ⟨fn, ns, hns, rfl, rfl⟩
    simp -dsimp only [go_sem, ↓reduceIte]
    refine hKK3 _ _ ?_
    try clear hKK3 KK3
    refine Lwp_seq fun KK4 hKK4 => ?_
    refine LregionG [none, none, none, none, none, none, none, none] (by kernel_rfl) (by kernel_rfl) ?_
    simp -dsimp only [go_sem, ↓reduceIte]
    refine LCalls.k (EntryC _ S1.length fn ns 0 hns (by simp)) ?_
    rintro _ _ ⟨a2, rfl, us, rfl, hEu⟩
    simp -dsimp only [go_sem, ↓reduceIte]
    refine LCalls.k (EntryC _ S1.length fn ns a2 hns (by simp)) ?_
    rintro _ _ ⟨a3, rfl, vs, rfl, hEv⟩
    obtain ⟨k1, off1, s1, u1, body, hF⟩ := ent_fits hEu
    have hfit : FitE (us, body) := ⟨k1, off1, s1, u1, hF⟩
    obtain ⟨hok, hbE, hbl0⟩ := fit_ok hfit
    have hbl : body.length ≤ 5000 := hbl0
    obtain ⟨htk, hov⟩ := log_take hok
    have hlen := okLog_len hok
    have hokv := EntOk_ok hEv
    obtain ⟨bodyv, hbv, hblv⟩ := ent_body hEv
    obtain ⟨htkv, hovv⟩ := log_take hokv
    have hlenv := okLog_len hokv
    have hodd := ent_kind hEu hkd
    have hovh := ovr_head (u := V kd) hlen
    have hlo : (V kd :: us.drop 1).length = 38 := by simp; omega
    have htko : (V kd :: us.drop 1).take 38 = V kd :: us.drop 1 := List.take_of_length_le (by omega)
    clear hF
    simp -dsimp only [go_sem, ↓reduceIte, hlen, htk, hov, hlenv, htkv, hovv, List.length_cons, List.length_nil]
    refine hKK4 _ _ ?_
    try clear hKK4 KK4
    refine Lwp_seq fun KK5 hKK5 => ?_
    refine Lwp_freezeP 12 (S1.length + 1) 0 0 38 [us] us rfl (by simp only [go_sem, ↓reduceIte]) (by simp) rfl ?_
    refine Lwp_freezeP 13 (S1.length + 2) 0 0 38 [vs] vs rfl (by simp only [go_sem, ↓reduceIte]) (by simp) rfl ?_
    refine Lwp_store (fun _ => True) trivial ?_
    rintro S2 -
    refine LregionG [none, none, none] (by kernel_rfl) (by kernel_rfl) ?_
    simp -dsimp only [go_sem, ↓reduceIte, hlen, htk, hov, List.length_cons, List.length_nil]
    repeat with_reducible refine And.intro (by first | omega | decide) ?_
    refine hKK5 _ _ ?_
    try clear hKK5 KK5
    refine Lwp_seq fun KK6 hKK6 => ?_
    refine LregionG [none, none, none] (by kernel_rfl) (by kernel_rfl) ?_
    simp -dsimp only [go_sem, ↓reduceIte, hlen, hovh, Nat.add_zero]
    repeat with_reducible refine And.intro (by first | omega | decide) ?_
    refine hKK6 _ _ ?_
    try clear hKK6 KK6
    refine Lwp_seq fun KK7 hKK7 => ?_
    refine Lwp_seq fun KK8 hKK8 => ?_
    refine Lwp_freezeP 14 S2.length 0 0 38 [V kd :: us.drop 1] (V kd :: us.drop 1) rfl (by simp only [go_sem, ↓reduceIte]) (by simp) rfl ?_
    refine Lwp_store (fun _ => True) trivial ?_
    rintro S3 -
    refine LregionG [none, none, none, none, none, none] (by kernel_rfl) (by kernel_rfl) ?_
    simp -dsimp only [go_sem, ↓reduceIte, hlen, htk, hlo, htko]
    repeat with_reducible refine And.intro (by first | omega | decide) ?_
    refine hKK8 _ _ ?_
    try clear hKK8 KK8
    refine Lwp_block ?_
    have hzz : bodyE (zs sLog) = none := bodyE_none (k := 0) rfl rfl
    obtain ⟨L3, hL3e⟩ : ∃ L3 : List (List LV), L3 = [us, V kd :: us.drop 1, zs sLog] := ⟨_, rfl⟩
    have hL3 : ∀ z ∈ L3, ok sLog z ∧ ∀ b, bodyE z = some b → b.length ≤ 5000 := by
      rw [hL3e]
      intro z hz
      simp only [List.mem_cons, List.not_mem_nil, or_false] at hz
      rcases hz with rfl | rfl | rfl
      · exact ⟨hok, fun b hb => by rw [hbE] at hb; cases hb; exact hbl⟩
      · exact hodd
      · exact ⟨ok_zs, fun b hb => by rw [hzz] at hb; cases hb⟩
    have hl3 : L3.length = 3 := by rw [hL3e]; rfl
    refine Lwp_loopK [51, 49, 50, 12, 13, 0, 2, 3] (fun m ss S3 => ∃ (i : Nat), ss = [V (i : Int), .sl true L3, V 3, .eptr us 0, .eptr vs 0, .sl fr (raw.map u8c), .int .u16 c2, .int .u8 c3] ∧ i ≤ 3 ∧ m = 3 - i) 3 rfl (⟨0, by rw [hL3e]; simp only [go_sem, ↓reduceIte]; rfl, Nat.zero_le _, rfl⟩) ?_
    rintro m ss S4 ⟨i, rfl, hi, hm⟩ II hII
    refine Lwp_seq fun KK9 hKK9 => ?_
    refine LregionG [none] (by kernel_rfl) (by kernel_rfl) ?_
    simp -dsimp only [go_sem, ↓reduceIte]
    repeat with_reducible refine And.intro (by first | omega | decide) ?_
    refine hKK9 _ _ ?_
    try clear hKK9 KK9
    refine Lwp_seq fun KK10 hKK10 => ?_
    refine Lwp_cond (by simp only [go_sem, ↓reduceIte]; rfl) (fun ht => ?_) (fun hf => ?_)
    · skip
      have hi1 : i < 3 := by simp at ht; omega
      obtain ⟨z, hze⟩ : ∃ z, z = L3.getD i [] := ⟨_, rfl⟩
      obtain ⟨hzo, hzb⟩ := hL3 z (by rw [hze]; exact mem_getD (by omega))
      have hlenz := okLog_len hzo
      obtain ⟨htkz, hovz⟩ := log_take hzo
      have hil : i < L3.length := by omega
      have e1 : IntKind.i64.wrap ((i : Int) + 1) = ((i + 1 : Nat) : Int) := by rw [w64 (by omega) (by omega)]; rfl
      refine Lwp_skip ?_
      try simp -dsimp only [go_sem, ↓reduceIte]
      refine hKK10 _ _ ?_
      try clear hKK10 KK10
      refine Lwp_seq fun KK11 hKK11 => ?_
      refine Lwp_block ?_
      refine Lwp_seq fun KK12 hKK12 => ?_
      refine LregionG [none, none, none, none] (by kernel_rfl) (by kernel_rfl) ?_
      simp -dsimp only [go_sem, ↓reduceIte, ← hze, hil, hlenz, htkz, hovz, List.length_cons, List.length_nil]
      repeat with_reducible refine And.intro (by first | omega | decide) ?_
      refine hKK12 _ _ ?_
      try clear hKK12 KK12
      refine Lwp_seq fun KK13 hKK13 => ?_
      refine Lwp_freezeP 16 S4.length 0 0 38 [z] z rfl (by simp only [go_sem, ↓reduceIte]) (by simp) rfl ?_
      refine Lwp_store (fun _ => True) trivial ?_
      rintro S5 -
      refine LregionG [none, none, none, none, none, none, none] (by kernel_rfl) (by kernel_rfl) ?_
      simp -dsimp only [go_sem, ↓reduceIte, hlenz, htkz]
      refine LCalls.k (SEncode_ok z hzo (fun b hb => by have := hzb b hb; omega)) ?_
      rintro r1 S6 hr1
      rcases hr1.cs with ⟨e, hE, he0, rfl, hK6⟩ | ⟨b, u1, hE, rfl, hN1⟩
      · skip
        skip
        simp -dsimp only [go_sem, ↓reduceIte]
        refine hKK13 _ _ ?_
        try clear hKK13 KK13
        refine Lwp_seq fun KK14 hKK14 => ?_
        refine LregionG [none, none, none, none, none, none, none] (by kernel_rfl) (by kernel_rfl) ?_
        simp -dsimp only [go_sem, ↓reduceIte, hlenz, htkz]
        refine LCalls.k (Encode_ok z hzo (fun b hb => by have := hzb b hb; omega)) ?_
        rintro r2 S7 hr2
        obtain rfl : r2 = .tup [.sl true [], V e] := by
          rcases hr2.cs with ⟨e2, hE2, -, rfl, -⟩ | ⟨b2, u2, hE2, -⟩
          · rw [hE] at hE2; cases hE2; rfl
          · rw [hE] at hE2; cases hE2
        simp -dsimp only [go_sem, ↓reduceIte]
        refine hKK14 _ _ ?_
        try clear hKK14 KK14
        refine Lwp_seq fun KK15 hKK15 => ?_
        refine LdrawE [0,1,2,3,4,5,6,7,8,9,10,11,12,14,15,13,16,17,18,19,20,21,23,24,22,25,26,27] [] none (by kernel_rfl) (by kernel_rfl) (by kernel_rfl) (by kernel_rfl) (by simp [Watch.holds]) ?_
        simp -dsimp only [go_sem, ↓reduceIte, hlenz, htkz, hlen, htk, hlenv, htkv, Nat.le_refl]
        refine ⟨⟨[], rfl⟩, ⟨[], rfl⟩, ?_⟩
        repeat with_reducible refine And.intro (by first | omega | decide | assumption) ?_
        refine LCalls.k (SSame_ok us z hok hzo (fun b hb => by rw [hbE] at hb; cases hb; omega) (fun b hb => by have := hzb b hb; omega)) ?_
        rintro _ SX ⟨rfl, -⟩
        simp -dsimp only [go_sem, ↓reduceIte, hlenz, htkz, hlen, htk, hlenv, htkv, Nat.le_refl]
        repeat with_reducible refine And.intro (by first | omega | decide | assumption) ?_
        refine LCalls.k (Same_ok us z hok hzo (fun b hb => by rw [hbE] at hb; cases hb; omega) (fun b hb => by have := hzb b hb; omega)) ?_
        rintro _ SX ⟨rfl, -⟩
        simp -dsimp only [go_sem, ↓reduceIte, hlenz, htkz, hlen, htk, hlenv, htkv, Nat.le_refl]
        repeat with_reducible refine And.intro (by first | omega | decide | assumption) ?_
        refine LCalls.k (SSame_ok z vs hzo hokv (fun b hb => by have := hzb b hb; omega) (fun b hb => by rw [hbv] at hb; cases hb; omega)) ?_
        rintro _ SX ⟨rfl, -⟩
        simp -dsimp only [go_sem, ↓reduceIte, hlenz, htkz, hlen, htk, hlenv, htkv, Nat.le_refl]
        repeat with_reducible refine And.intro (by first | omega | decide | assumption) ?_
        refine LCalls.k (Same_ok z vs hzo hokv (fun b hb => by have := hzb b hb; omega) (fun b hb => by rw [hbv] at hb; cases hb; omega)) ?_
        rintro _ SX ⟨rfl, -⟩
        simp -dsimp only [go_sem, ↓reduceIte]
        refine hKK15 _ _ ?_
        try clear hKK15 KK15
        refine Lwp_cond (by simp only [go_sem, ↓reduceIte]; rfl) (fun ht => ?_) (fun hf => ?_)
        · skip
          cases ht
        · skip
          refine Lwp_skip ?_
          try simp -dsimp only [go_sem, ↓reduceIte]
          refine hKK11 _ _ ?_
          try clear hKK11 KK11
          refine LregionG [none, none] (by kernel_rfl) (by kernel_rfl) ?_
          simp -dsimp only [go_sem, ↓reduceIte, e1]
          repeat with_reducible refine And.intro (by first | omega | decide) ?_
          exact hII (3 - (i + 1)) _ _ (by omega) ⟨i + 1, rfl, by omega, rfl⟩
      · skip
        skip
        simp -dsimp only [go_sem, ↓reduceIte]
        refine hKK13 _ _ ?_
        try clear hKK13 KK13
        refine Lwp_seq fun KK16 hKK16 => ?_
        refine LregionG [none, none, none, none, none, none, none] (by kernel_rfl) (by kernel_rfl) ?_
        simp -dsimp only [go_sem, ↓reduceIte, hlenz, htkz]
        refine LCalls.k (Encode_ok z hzo (fun b hb => by have := hzb b hb; omega)) ?_
        rintro r2 S7 hr2
        obtain ⟨u2, rfl, hN2⟩ : ∃ u2, r2 = .tup [u2, V 0] ∧ NewR S6 b u2 S7 := by
          rcases hr2.cs with ⟨e2, hE2, -⟩ | ⟨b2, u2, hE2, rfl, hN2⟩
          · rw [hE] at hE2; cases hE2
          · rw [hE] at hE2; cases hE2; exact ⟨u2, rfl, hN2⟩
        have hrd1 : Rd S7 u1 b := hN1.acc.rd.keep hN2.2.1 (fun id _ h => absurd h (by simp [rowIds]))
        have hrd2 := hN2.acc.rd
        have h1l : ∀ id ∈ rowIds u1, id < S6.length := fun id hid => (RowS.lo hN1.acc id hid).2
        have h2l : ∀ id ∈ rowIds u2, S6.length ≤ id := fun id hid => (hN2.2.2.1 id hid).elim (fun h => by simp [rowIds] at h) (fun h => h)
        simp -dsimp only [go_sem, ↓reduceIte]
        refine hKK16 _ _ ?_
        try clear hKK16 KK16
        refine Lwp_seq fun KK17 hKK17 => ?_
        refine rdRow hrd1 _ _ _ _ 17 rfl (by simp only [go_sem, ↓reduceIte]) fun g1 S8 hl8 hK8 => ?_
        have hrd2b : Rd S8 u2 b := hrd2.keep (ids := rowIds u1) ⟨by omega, fun j _ h => hK8 j h⟩ (fun id hid h => by have := h1l id h; have := h2l id hid; omega)
        refine rdRow hrd2b _ _ _ _ 19 rfl (by simp only [go_sem, ↓reduceIte]) fun g2 S9 hl9 hK9 => ?_
        refine LdrawE [0,1,2,3,4,5,6,7,8,9,10,11,12,14,15,13,16,17,18,19,20,21,23,24,22,25,26,27] [] none (by kernel_rfl) (by kernel_rfl) (by kernel_rfl) (by kernel_rfl) (by simp [Watch.holds]) ?_
        simp -dsimp only [go_sem, ↓reduceIte, hlenz, htkz, hlen, htk, hlenv, htkv, Nat.le_refl]
        refine ⟨⟨_, rfl⟩, ⟨_, rfl⟩, ?_⟩
        repeat with_reducible refine And.intro (by first | omega | decide | assumption) ?_
        refine LCalls.k (SSame_ok us z hok hzo (fun b hb => by rw [hbE] at hb; cases hb; omega) (fun b hb => by have := hzb b hb; omega)) ?_
        rintro _ SX ⟨rfl, -⟩
        simp -dsimp only [go_sem, ↓reduceIte, hlenz, htkz, hlen, htk, hlenv, htkv, Nat.le_refl]
        repeat with_reducible refine And.intro (by first | omega | decide | assumption) ?_
        refine LCalls.k (Same_ok us z hok hzo (fun b hb => by rw [hbE] at hb; cases hb; omega) (fun b hb => by have := hzb b hb; omega)) ?_
        rintro _ SX ⟨rfl, -⟩
        simp -dsimp only [go_sem, ↓reduceIte, hlenz, htkz, hlen, htk, hlenv, htkv, Nat.le_refl]
        repeat with_reducible refine And.intro (by first | omega | decide | assumption) ?_
        refine LCalls.k (SSame_ok z vs hzo hokv (fun b hb => by have := hzb b hb; omega) (fun b hb => by rw [hbv] at hb; cases hb; omega)) ?_
        rintro _ SX ⟨rfl, -⟩
        simp -dsimp only [go_sem, ↓reduceIte, hlenz, htkz, hlen, htk, hlenv, htkv, Nat.le_refl]
        repeat with_reducible refine And.intro (by first | omega | decide | assumption) ?_
        refine LCalls.k (Same_ok z vs hzo hokv (fun b hb => by have := hzb b hb; omega) (fun b hb => by rw [hbv] at hb; cases hb; omega)) ?_
        rintro _ SX ⟨rfl, -⟩
        simp -dsimp only [go_sem, ↓reduceIte]
        refine hKK17 _ _ ?_
        try clear hKK17 KK17
        refine Lwp_cond (by simp only [go_sem, ↓reduceIte]; rfl) (fun ht => ?_) (fun hf => ?_)
        · skip
          cases ht
        · skip
          refine Lwp_skip ?_
          try simp -dsimp only [go_sem, ↓reduceIte]
          refine hKK11 _ _ ?_
          try clear hKK11 KK11
          refine LregionG [none, none] (by kernel_rfl) (by kernel_rfl) ?_
          simp -dsimp only [go_sem, ↓reduceIte, e1]
          repeat with_reducible refine And.intro (by first | omega | decide) ?_
          exact hII (3 - (i + 1)) _ _ (by omega) ⟨i + 1, rfl, by omega, rfl⟩
    · skip
      refine Lwp_exit ?_
      simp -dsimp only [go_sem, ↓reduceIte]
      refine hKK7 _ _ ?_
      try clear hKK7 KK7
      refine Lwp_seq fun KK18 hKK18 => ?_
      refine LregionG [none, none, none, none, none, none, none] (by kernel_rfl) (by kernel_rfl) ?_
      simp -dsimp only [go_sem, ↓reduceIte, hlen, htk]
      refine LCalls.k (Encode_ok us hok (fun b hb => by rw [hbE] at hb; cases hb; omega)) ?_
      rintro r S5 hr
      obtain ⟨u1, rfl, hN⟩ : ∃ u1, r = .tup [u1, V 0] ∧ NewR S4 (framed body) u1 S5 := by
        rcases hr.cs with ⟨e, hE, -⟩ | ⟨b, u, hE, rfl, hN⟩
        · rw [fit_enc hfit] at hE; cases hE
        · rw [fit_enc hfit] at hE; cases hE; exact ⟨u, rfl, hN⟩
      have hrd := hN.acc.rd
      obtain ⟨fb, hfb⟩ : ∃ x, x = framed body := ⟨_, rfl⟩
      have hfl : fb.length = body.length + 8 := by rw [hfb, framed_len]
      rw [← hfb] at hrd
      obtain ⟨N, hNl⟩ : ∃ N, N = fb.length := ⟨_, rfl⟩
      simp -dsimp only [go_sem, ↓reduceIte]
      refine hKK18 _ _ ?_
      try clear hKK18 KK18
      refine Lwp_seq fun KK19 hKK19 => ?_
      refine rdRow hrd _ _ _ _ 21 rfl (by simp only [go_sem, ↓reduceIte]) fun gb S6 _ _ => ?_
      refine LregionG [none, none, none] (by kernel_rfl) (by kernel_rfl) ?_
      simp -dsimp only [go_sem, ↓reduceIte]
      repeat with_reducible refine And.intro (by first | omega | decide | assumption) ?_
      refine append_row (lo := 0) (es := []) (fs := fb.map u8c) RowS.nil rfl (by simp only [go_sem]; rfl) (by simp only [go_sem]; first | exact ⟨rfl, rfl⟩ | exact ⟨rfl, rfl, rfl⟩ | rfl) (by simp only [go_sem]) (by simp only [go_sem, ↓reduceIte]) (by simp only [go_sem, ↓reduceIte]) (fun e he => by
        obtain ⟨y, _, rfl⟩ := List.mem_map.1 he; rfl) (.inl rfl) (by simp only [LIM, List.length_nil, List.length_map]; omega) fun S7 hl7 hr7 hK7 => ?_
      simp only [List.nil_append, List.length_nil, Nat.zero_add, List.length_map, ← hNl] at hr7 hl7 ⊢
      have hS7 : S7[S6.length]? = some (some (1, List.map u8c fb)) := by
        rcases hr7.2 with h | ⟨id, -, h, h'⟩
        · cases h
        · cases h; exact h'
      have e1 : IntKind.i64.wrap c2 = c2 := w64 (by omega) (by omega)
      obtain ⟨g, hg, hge⟩ : ∃ g : Nat, g < N ∧ c2.tmod (N : Int) = (g : Int) := by
        have h5 := Int.tmod_lt_of_pos c2 (show (0 : Int) < (N : Int) by omega)
        have h6 := Int.tmod_nonneg (N : Int) h2.1
        exact ⟨(c2.tmod (N : Int)).toNat, by omega, by omega⟩
      have e3 : ¬ ((N : Int) = 0) := by omega
      have hkl : g < fb.length := by omega
      have hkb : (List.map u8c fb).getD g [] = [.int .u8 (fb.getD g 0).toNat] := u8c_getD hkl
      have hkg : (List.map u8c fb)[g]? = some [.int .u8 (fb.getD g 0).toNat] := by
        rw [List.getElem?_map, List.getD_eq_getElem?_getD, List.getElem?_eq_getElem hkl]; rfl
      clear hr7 hK7
      simp -dsimp only [go_sem, ↓reduceIte]
      refine hKK19 _ _ ?_
      try clear hKK19 KK19
      refine Lwp_seq fun KK20 hKK20 => ?_
      refine LregionG [none, none, none, none, none, none, none, none, none, none, none, none] (by kernel_rfl) (by kernel_rfl) ?_
      simp -dsimp only [go_sem, ↓reduceIte, e1, e3, hge, hS7, Nat.zero_add, hkl, hg, hkb, hkg]
      repeat with_reducible refine And.intro (by first | omega | decide) ?_
      refine hKK20 _ _ ?_
      try clear hKK20 KK20
      refine Lwp_seq fun KK21 hKK21 => ?_
      obtain ⟨bx, hbx⟩ := u8_wrap_ex ((BitVec.ofInt IntKind.u8.bits ((fb.getD g 0).toNat : Int) ^^^ BitVec.ofInt IntKind.u8.bits c3).toNat : Int)
      rw [hbx, show [LV.int IntKind.u8 (bx.toNat : Int)] = u8c bx from rfl, map_set8]
      obtain ⟨ch, hch⟩ : ∃ ch, ch = fb.set g bx := ⟨_, rfl⟩
      have hcl : ch.length = N := by rw [hch, List.length_set, hNl]
      rw [← hch]
      have hrdc : Rd (S7.set S6.length (some (1, List.map u8c ch))) (.ref S6.length 0 N) ch := .inr ⟨S6.length, by rw [hcl], List.getElem?_set_self (lt_of_get hS7)⟩
      clear hS7 hkb hkg
      refine rdRow hrdc _ _ _ _ 23 rfl (by simp only [go_sem, ↓reduceIte]) fun gc S8 _ _ => ?_
      have e4 : IntKind.i64.wrap ((N : Int) - 4) = ((N - 4 : Nat) : Int) := by rw [w64 (by omega) (by omega)]; omega
      refine LregionG [none, none, none, none] (by kernel_rfl) (by kernel_rfl) ?_
      simp -dsimp only [go_sem, ↓reduceIte, hcl, e4]
      repeat with_reducible refine And.intro (by first | omega | decide) ?_
      refine hKK21 _ _ ?_
      try clear hKK21 KK21
      refine Lwp_seq fun KK22 hKK22 => ?_
      refine LregionG [none, none, none, none, none] (by kernel_rfl) (by kernel_rfl) ?_
      simp -dsimp only [go_sem, ↓reduceIte, hcl]
      have hm5 : List.take (N - 4 - 0) (List.map u8c ch) = List.map u8c (ch.take (N - 4)) := by rw [Nat.sub_zero, List.map_take]
      refine ⟨⟨by omega, head_u8 ch⟩, ?_⟩
      rw [hm5]
      refine LCalls.k (Chk_ok (.inl ⟨_, rfl⟩) (by simp; omega)) ?_
      rintro _ S8b ⟨rfl, hS8b⟩
      subst hS8b
      obtain ⟨y1, hy1⟩ := u8_wrap_ex (((chkN (ch.take (N - 4)) : Nat) : Int).fdiv 16777216)
      obtain ⟨y2, hy2⟩ := u8_wrap_ex (((chkN (ch.take (N - 4)) : Nat) : Int).fdiv 65536)
      obtain ⟨y3, hy3⟩ := u8_wrap_ex (((chkN (ch.take (N - 4)) : Nat) : Int).fdiv 256)
      obtain ⟨y4, hy4⟩ := u8_wrap_ex ((chkN (ch.take (N - 4)) : Nat) : Int)
      obtain ⟨sm, hsm⟩ : ∃ sm, sm = chkN (ch.take (N - 4)) := ⟨_, rfl⟩
      rw [← hsm] at hy1 hy2 hy3 hy4 ⊢
      have hn4 : N - 4 ≤ N := by omega
      have hctl : (ch.take (N - 4)).length = N - 4 := by rw [List.length_take]; omega
      simp -dsimp only [go_sem, ↓reduceIte]
      refine hKK22 _ _ ?_
      try clear hKK22 KK22
      refine Lwp_seq fun KK23 hKK23 => ?_
      refine LregionG [none, none, none, none, none, none, none, none, none, none, none, none, none, none, none, none, none, none] (by kernel_rfl) (by kernel_rfl) ?_
      simp -dsimp only [go_sem, ↓reduceIte, hcl, hm5, hn4]
      refine ⟨head_u8 ch, ?_⟩
      repeat with_reducible refine And.intro (by first | omega | decide | assumption) ?_
      refine append_row (lo := 0) (es := []) (fs := (ch.take (N - 4)).map u8c) RowS.nil rfl (by simp only [go_sem]; rfl) (by simp only [go_sem]; first | exact ⟨rfl, rfl⟩ | exact ⟨rfl, rfl, rfl⟩ | rfl) (by simp only [go_sem]) (by simp only [go_sem, ↓reduceIte]) (by simp only [go_sem, ↓reduceIte]) (fun e he => by
        obtain ⟨y, _, rfl⟩ := List.mem_map.1 he; rfl) (.inl rfl) (by simp only [LIM, List.length_nil, List.length_map, hctl]; omega) fun S9 hl9 hr9 hK9 => ?_
      simp only [List.nil_append, List.length_nil, Nat.zero_add, List.length_map, hctl] at hr9 hl9 ⊢
      simp -dsimp only [go_sem, ↓reduceIte, hy1, hy2, hy3, hy4]
      repeat with_reducible refine And.intro (by first | omega | decide | assumption) ?_
      refine append_row (lo := S8b.length) (es := (ch.take (N - 4)).map u8c) (fs := [u8c y1, u8c y2, u8c y3, u8c y4]) hr9 (by simp only [go_sem, ↓reduceIte, List.length_map, hctl]) (by simp only [go_sem]; rfl) (by simp only [go_sem]; first | exact ⟨rfl, rfl⟩ | exact ⟨rfl, rfl, rfl⟩ | rfl) (by simp only [go_sem]) (by simp only [go_sem, ↓reduceIte]) (by simp only [go_sem, ↓reduceIte]; rfl) (by simp [u8c]) (.inr (by simp)) (by simp only [LIM, List.length_cons, List.length_nil, List.length_map, hctl]; omega) fun S10 hl10 hr10 hK10 => ?_
      obtain ⟨rt, hrt⟩ : ∃ rt, rt = ch.take (N - 4) ++ [y1, y2, y3, y4] := ⟨_, rfl⟩
      have hrtm : List.map u8c (ch.take (N - 4)) ++ [u8c y1, u8c y2, u8c y3, u8c y4] = List.map u8c rt := by rw [hrt, List.map_append]; rfl
      have hrtl : rt.length = N - 4 + 4 := by rw [hrt, List.length_append, hctl]; rfl
      rw [hrtm] at hr10
      have hrdr : Rd S10 (.ref S9.length 0 ((List.map u8c (ch.take (N - 4))).length + [u8c y1, u8c y2, u8c y3, u8c y4].length)) rt := by
        rcases hr10.2 with h | ⟨id, -, h, h'⟩
        · cases h
        · simp only [List.length_map] at h ⊢
          exact .inr ⟨id, h, h'⟩
      simp -dsimp only [go_sem, ↓reduceIte]
      refine hKK23 _ _ ?_
      try clear hKK23 KK23
      refine Lwp_seq fun KK24 hKK24 => ?_
      refine Lwp_seq fun KK25 hKK25 => ?_
      refine rdRow hrdr _ _ _ _ 26 rfl (by simp only [go_sem, ↓reduceIte]) fun gr S11 _ _ => ?_
      clear hr10 hrdr hr9
      have e5 : IntKind.i64.wrap ((N : Int) + 1) = (N : Int) + 1 := w64 (by omega) (by omega)
      have e6 : ¬ ((N : Int) + 1 = 0) := by omega
      obtain ⟨q, hq, hqe⟩ : ∃ q : Nat, q ≤ N ∧ c2.tmod ((N : Int) + 1) = (q : Int) := by
        have h5 := Int.tmod_lt_of_pos c2 (show (0 : Int) < (N : Int) + 1 by omega)
        have h6 := Int.tmod_nonneg ((N : Int) + 1) h2.1
        exact ⟨(c2.tmod ((N : Int) + 1)).toNat, by omega, by omega⟩
      have hm7 : List.take (q - 0) (List.map u8c fb) = List.map u8c (fb.take q) := by rw [Nat.sub_zero, List.map_take]
      refine LdrawE [0,1,2,3,4,5,6,7,8,9,10,11,12,14,18,13,15,16,17] [] none (by kernel_rfl) (by kernel_rfl) (by kernel_rfl) (by kernel_rfl) (by simp [Watch.holds]) ?_
      simp -dsimp only [go_sem, ↓reduceIte, ← hNl, e1, e5, e6, hqe, hm7, hq]
      refine ⟨head_u8 fb, ?_⟩
      repeat with_reducible refine And.intro (by first | omega | decide | assumption) ?_
      refine append_row (lo := 0) (es := []) (fs := fb.map u8c) RowS.nil (by simp only [go_sem, ↓reduceIte, List.length_map]) (by simp only [go_sem]; rfl) (by simp only [go_sem]; first | exact ⟨rfl, rfl⟩ | exact ⟨rfl, rfl, rfl⟩ | rfl) (by simp only [go_sem]) (by simp only [go_sem, ↓reduceIte]) (by simp only [go_sem, ↓reduceIte]) (fun e he => by
        obtain ⟨y, _, rfl⟩ := List.mem_map.1 he; rfl) (.inl rfl) (by simp only [LIM, List.length_nil, List.length_map]; omega) fun S12 hl12 hr12 hK12 => ?_
      simp only [List.nil_append, List.length_nil, Nat.zero_add, List.length_map] at hr12 hl12 ⊢
      refine And.intro (by simp only [go_sem, ↓reduceIte]) ?_
      simp -dsimp only [go_sem, ↓reduceIte]
      repeat with_reducible refine And.intro (by first | omega | decide | assumption) ?_
      have hS12 : S12[S11.length]? = some (some (1, List.map u8c fb)) := by
        rcases hr12.2 with h | ⟨id, -, h, h'⟩
        · cases h
        · rw [← (LV.ref.inj h).1] at h'; exact h'
      refine append_ref (es := fb.map u8c) (fs := raw.map u8c) hS12 (fun e he => by
        obtain ⟨y, _, rfl⟩ := List.mem_map.1 he; rfl) (by simp only [go_sem, ↓reduceIte, List.length_map]) (by simp only [go_sem]; rfl) (by simp only [go_sem]; first | exact ⟨rfl, rfl⟩ | exact ⟨rfl, rfl, rfl⟩ | rfl) (by simp only [go_sem]) (by simp only [go_sem, ↓reduceIte]) (by simp only [go_sem, ↓reduceIte]) (fun e he => by
        obtain ⟨y, _, rfl⟩ := List.mem_map.1 he; rfl) (by simp only [LIM, List.length_map]; omega) fun S13 hl13 hr13 hK13 => ?_
      rw [← List.map_append] at hr13
      have hS13 : S13[S12.length]? = some (some (1, List.map u8c (fb ++ raw))) := by
        rcases hr13.2 with h | ⟨id, -, h, h'⟩
        · cases h
        · rw [← (LV.ref.inj h).1] at h'; exact h'
      simp only [List.length_map] at hr13 ⊢
      refine And.intro (by simp only [go_sem, ↓reduceIte]) ?_
      clear hr13 hK13 hr12 hK12 hS12
      simp -dsimp only [go_sem, ↓reduceIte]
      obtain ⟨c6, hc6⟩ : ∃ c6, c6 = S12.length := ⟨_, rfl⟩
      rw [← hc6] at hS13 ⊢
      refine hKK25 _ _ ?_
      try clear hKK25 KK25
      refine Lwp_block ?_
      obtain ⟨f5, hf5⟩ : ∃ f5 : Bool, (gb && (q : Int) == (N : Int)) = f5 := ⟨_, rfl⟩
      obtain ⟨L6, hL6e⟩ : ∃ L6 : List (List LV), L6 = [[.sl fr (raw.map u8c)], [.sl gb (fb.map u8c)], [.sl gc (ch.map u8c)], [.sl gr (rt.map u8c)], [.sl f5 ((fb.take q).map u8c)], [.ref c6 0 (N + raw.length)]] := ⟨_, rfl⟩
      refine Lwp_loopK [154, 152, 153] (fun m ss S4 => ∃ (i : Nat), ss = [V (i : Int), .sl true L6, V 6] ∧ i ≤ 6 ∧ (i ≤ 5 → S4[c6]? = some (some (1, List.map u8c (fb ++ raw)))) ∧ m = 6 - i) 6 rfl (⟨0, by rw [hL6e]; simp only [go_sem, ↓reduceIte, hf5, ← hNl]; rfl, Nat.zero_le _, fun _ => hS13, rfl⟩) ?_
      rintro m ss S4 ⟨i, rfl, hi, hrow, hm⟩ II hII
      refine Lwp_seq fun KK26 hKK26 => ?_
      refine LregionG [none] (by kernel_rfl) (by kernel_rfl) ?_
      simp -dsimp only [go_sem, ↓reduceIte]
      repeat with_reducible refine And.intro (by first | omega | decide) ?_
      refine hKK26 _ _ ?_
      try clear hKK26 KK26
      refine Lwp_seq fun KK27 hKK27 => ?_
      refine Lwp_cond (by simp only [go_sem, ↓reduceIte]; rfl) (fun ht => ?_) (fun hf => ?_)
      · skip
        have hi1 : i < 6 := by simp at ht; omega
        have hi5 := hrow (by omega)
        obtain ⟨u, bz, hui, hrdu, hbz, hids⟩ : ∃ (u : LV) (bz : List UInt8), L6.getD i [] = [u] ∧ Rd S4 u bz ∧ bz.length ≤ 2000000 ∧ (i < 5 → rowIds u = []) := by
          rw [hL6e]
          match i, hi1 with
          | 0, _ => exact ⟨_, raw, rfl, .inl ⟨_, rfl⟩, by omega, fun _ => rfl⟩
          | 1, _ => exact ⟨_, fb, rfl, .inl ⟨_, rfl⟩, by omega, fun _ => rfl⟩
          | 2, _ => exact ⟨_, ch, rfl, .inl ⟨_, rfl⟩, by omega, fun _ => rfl⟩
          | 3, _ => exact ⟨_, rt, rfl, .inl ⟨_, rfl⟩, by omega, fun _ => rfl⟩
          | 4, _ => exact ⟨_, fb.take q, rfl, .inl ⟨_, rfl⟩, by rw [List.length_take]; omega, fun _ => rfl⟩
          | 5, _ => exact ⟨_, fb ++ raw, rfl, .inr ⟨c6, by rw [List.length_append, ← hNl], hi5⟩, by rw [List.length_append]; omega, fun h => by omega⟩
        have hl6 : L6.length = 6 := by rw [hL6e]; rfl
        have hil : i < L6.length := by omega
        have e7 : IntKind.i64.wrap ((i : Int) + 1) = ((i + 1 : Nat) : Int) := by rw [w64 (by omega) (by omega)]; rfl
        refine Lwp_skip ?_
        try simp -dsimp only [go_sem, ↓reduceIte]
        refine hKK27 _ _ ?_
        try clear hKK27 KK27
        refine Lwp_seq fun KK28 hKK28 => ?_
        refine Lwp_block ?_
        refine Lwp_seq fun KK29 hKK29 => ?_
        refine LregionG [none, none, none] (by kernel_rfl) (by kernel_rfl) ?_
        simp -dsimp only [go_sem, ↓reduceIte, hui, hil]
        repeat with_reducible refine And.intro (by first | omega | decide) ?_
        refine hKK29 _ _ ?_
        try clear hKK29 KK29
        refine Lwp_seq fun KK30 hKK30 => ?_
        refine rdRow hrdu _ _ _ _ 28 rfl (by simp only [go_sem, ↓reduceIte]) fun fz S5 hl5 hK5 => ?_
        have hrow5 : i < 5 → S5[c6]? = some (some (1, List.map u8c (fb ++ raw))) := fun h => by rw [hK5 c6 (by rw [hids h]; simp)]; exact hi5
        refine LregionG [none, none, none, none, none, none, none, none, none, none] (by kernel_rfl) (by kernel_rfl) ?_
        simp -dsimp only [go_sem, ↓reduceIte]
        refine LCalls.k (SDecode_ok bz fz (by omega)) ?_
        rintro r1 S6 ⟨hK6, hd⟩
        obtain ⟨us1, _, n1, er1, rfl, -, hok1, -⟩ := dec_two hd hd
        have hlen1 := okLog_len hok1
        obtain ⟨htk1, hov1⟩ := log_take hok1
        simp -dsimp only [go_sem, ↓reduceIte, hlen1, hov1, List.length_cons, List.length_nil]
        refine hKK30 _ _ ?_
        try clear hKK30 KK30
        refine Lwp_seq fun KK31 hKK31 => ?_
        refine Lwp_freezeP 29 S6.length 0 0 38 [us1] us1 rfl (by simp only [go_sem, ↓reduceIte]) (by simp) rfl ?_
        refine Lwp_store (fun S7 => i < 5 → S7[c6]? = some (some (1, List.map u8c (fb ++ raw)))) (fun h => by
          have h6 := hK6.get (hrow5 h) (by simp)
          have hlt6 := lt_of_get h6
          rw [List.getElem?_set_ne (by omega), List.getElem?_append_left hlt6]; exact h6) ?_
        rintro S7 hrow7
        refine LregionG [none, none, none, none, none, none, none, none, none, none] (by kernel_rfl) (by kernel_rfl) ?_
        simp -dsimp only [go_sem, ↓reduceIte]
        refine Pc.k' (Decode_ok bz fz (by omega)) ?_
        rintro r2 hd2
        obtain ⟨us3, vs2, n3, er3, h31, rfl, -, hok2, hsm, hb1, hb2, -⟩ := dec_two hd hd2
        simp only [LV.tup.injEq, List.cons.injEq, LV.agg.injEq, LV.int.injEq, true_and, and_true] at h31
        obtain ⟨rfl, rfl, rfl⟩ := h31
        have hlen2 := okLog_len hok2
        obtain ⟨htk2, hov2⟩ := log_take hok2
        simp -dsimp only [go_sem, ↓reduceIte, hlen2, hov2, List.length_cons, List.length_nil]
        refine hKK31 _ _ ?_
        try clear hKK31 KK31
        refine Lwp_seq fun KK32 hKK32 => ?_
        refine Lwp_freezeP 32 S7.length 0 0 38 [vs2] vs2 rfl (by simp only [go_sem, ↓reduceIte]) (by simp) rfl ?_
        refine Lwp_store (fun S8 => i < 5 → S8[c6]? = some (some (1, List.map u8c (fb ++ raw)))) (fun h => by
          have h6 := hrow7 h
          have hlt6 := lt_of_get h6
          rw [List.getElem?_set_ne (by omega), List.getElem?_append_left hlt6]; exact h6) ?_
        rintro S8 hrow8
        refine LregionG [none, none, none, none, some (173, false), some (173, false), some (173, false), none, none, some (178, false), some (178, false), some (178, false), some (178, false), none] (by kernel_rfl) (by kernel_rfl) ?_
        simp -dsimp only [go_sem, ↓reduceIte, hlen1, htk1, hlen2, htk2, Nat.le_refl]
        repeat with_reducible refine And.intro (by first | omega | decide | assumption) ?_
        refine LCalls.k (Same_ok us1 vs2 hok1 hok2 (fun b hb => by have := hb1 b hb; omega) (fun b hb => by have := hb2 b hb; omega)) ?_
        rintro _ S9 ⟨rfl, hK9⟩
        simp -dsimp only [go_sem, ↓reduceIte, hsm]
        refine hKK32 _ _ ?_
        try clear hKK32 KK32
        refine Lwp_cond (by simp only [go_sem, ↓reduceIte]; rfl) (fun ht => ?_) (fun hf => ?_)
        · skip
          cases ht
        · skip
          refine Lwp_skip ?_
          try simp -dsimp only [go_sem, ↓reduceIte]
          refine hKK28 _ _ ?_
          try clear hKK28 KK28
          refine LregionG [none, none] (by kernel_rfl) (by kernel_rfl) ?_
          simp -dsimp only [go_sem, ↓reduceIte, e7]
          repeat with_reducible refine And.intro (by first | omega | decide) ?_
          exact hII (6 - (i + 1)) _ _ (by omega) ⟨i + 1, rfl, by omega, fun h => hK9.get (hrow8 (by omega)) (by simp), rfl⟩
      · skip
        refine Lwp_exit ?_
        simp -dsimp only [go_sem, ↓reduceIte]
        refine hKK24 _ _ ?_
        try clear hKK24 KK24
        refine Lwp_seq fun KK33 hKK33 => ?_
        refine LregionG [none] (by kernel_rfl) (by kernel_rfl) ?_
        simp -dsimp only [go_sem, ↓reduceIte]
        repeat with_reducible refine And.intro (by first | omega | decide) ?_
        refine hKK33 _ _ ?_
        try clear hKK33 KK33
        refine Lwp_ret ?_
        simp only [LThen, LBlock, LPost, Try.results3]
        simp -dsimp only [go_sem, ↓reduceIte]
        exact ret_keep (hRR _ _ rfl)

end Go.Proofs.Ytdhngmldmalbbaa
end
section
set_option linter.all false
namespace Go.Proofs.Ytdhngmldmalbbaa
open Go.Lift Go.RowKit Go.Store
set_option linter.unusedSimpArgs false
set_option linter.unusedVariables false

set_option maxRecDepth 100000
open Go.ChangeShapes Go.WideShapes Go.ChangeAt
theorem bulk_len {H : Type} : ∀ (ls : List (DataW H)), ls.length ≤ Rows.uptoBulkAll ls
  | [] => Nat.zero_le _
  | d :: r => by
    have h := bulk_len r
    have h1 : 1 ≤ Rows.uptoBulk d := by
      cases d <;> try (simp [Rows.uptoBulk]; done)
      rename_i l
      cases l <;> simp [Rows.uptoBulk]
    simp only [Rows.uptoBulkAll, List.length_cons]; omega
section
variable {H : Type} {enc : TypeId × Value → H} {P : Program}
/-- a call that makes new blocks, frozen ones among them, and leaves those that were there. -/
theorem post_of_below {f : Func} {s : ChangeSpec} {apart fresh handsOn again : Bool} {W W' : World} {args : Array Value} {v : Value} {ds gs : List (DataW H)} {before pa pv : List MemPlace}
    (hW : DataW.Whole enc P f.params.toList s.vars apart W args.toList ds gs before) (hB : Below W.heap.size W W')
    (hres : ∀ (b : Nat) (sp : Nat → Bool) (hd : Bool), DataW.TrodAll enc P W' b sp hd f.resultTypes.toList (v.resultList f.resultTypes.size) (s.fn H (ds ++ gs)).results [])
    (hargs : ∀ sp : Nat → Bool, (∀ p ∈ before, sp p.block = true) → DataW.TrodAll enc P W' 0 sp true f.params.toList args.toList (s.fn H (ds ++ gs)).args pa)
    (hvars : ∀ sp : Nat → Bool, (∀ p ∈ before, sp p.block = true) → DataW.TrodVars enc P W' sp s.vars (s.fn H (ds ++ gs)).vars pv)
    (hps : before = pa ++ pv)
    (hok : ∀ (j : Nat) (t : TypeId) (r : Value), f.resultTypes[j]? = some t → (v.resultList f.resultTypes.size)[j]? = some r → Value.okWide P W' .any 0 t r) :
    s.post enc P f apart fresh handsOn again W args v W' := by
  have hold : ∀ p ∈ before, (fun b => decide (b < W.heap.size)) p.block = true := fun p hp => by simpa using hW.lt p hp
  refine ⟨ds, gs, before, [], pa, pv, hW, hres _ _ _, hargs _ hold, hvars _ hold, World.keptBut_mono (fun p hp => ⟨hp, ?_⟩) (hB.frame (· ∈ before)), fun _ => ?_⟩
  · rw [hps, List.mem_append] at hp
    exact Or.inr hp
  · have hlt := hW.lt
    obtain ⟨_, _, _, _, _, hz, hn⟩ := hW
    refine ⟨hok, _, _, ([] ++ pa) ++ pv, ⟨[] ++ pa, pv, trodAll_append (hargs _ (fun _ _ => rfl)) (hres _ _ _), hvars _ (fun _ _ => rfl), rfl, ?_, ?_⟩, ?_⟩
    · intro b off hp
      have hp' : MemPlace.cell b off ∈ before := by rw [hps]; simpa using hp
      rw [hB.frozen (show (⟨b, off, none⟩ : Addr).block < _ from hlt _ hp')]
      exact hz b off hp'
    · intro ha
      have := hn ha
      rw [hps] at this
      simpa using this
    · intro p hp _
      rw [hps]
      simpa using hp
end
theorem own : ownKnob Try.prog.godebug = none := by kernel_rfl

end Go.Proofs.Ytdhngmldmalbbaa
end
section
set_option linter.all false
namespace Go.Proofs.Ytdhngmldmalbbaa
open Go.Lift Go.RowKit Go.Store
set_option linter.unusedSimpArgs false
set_option linter.unusedVariables false
set_option maxRecDepth 100000
open Go.ChangeShapes Go.WideShapes Go.ChangeAt
theorem storeCodes_contract (H : Type) (enc : TypeId × Value → H) (W : World) (base : Nat) (args : Array Value) (ds gs : List (DataW H)) (before : List MemPlace)
    (hval : ∀ (j : Nat) t v, Try.f3.params[j]? = some t → args[j]? = some v → Value.okWide Try.prog W .any base t v)
    (hW : DataW.Whole enc Try.prog Try.f3.params.toList Rows.storeCodesSpec.vars false W args.toList ds gs before) (hk : Rows.uptoSmall H (ds ++ gs) = true) :
    Calls Try.prog 3 args W fun e W' => ∃ v, e = .returned v ∧ Rows.storeCodesSpec.post enc Try.prog Try.f3 false true false false W args v W' := by
  have hW' := hW
  obtain ⟨p, q, hA0, hV, rfl, hfz, hnd⟩ := hW
  have hA : DataW.TrodAll enc Try.prog W 0 (fun _ => true) true Try.f3.params.toList args.toList ds p := hA0
  rw [Try.params3] at hA hval
  obtain ⟨v0, vs0, d0, ds0, p0, q0, hargs, rfl, rfl, h0, r0⟩ := trodAll_cons hA
  obtain ⟨v1, vs1, d1, ds1, p1, q1, rfl, rfl, rfl, h1, r1⟩ := trodAll_cons r0
  obtain ⟨v2, vs2, d2, ds2, p2, q2, rfl, rfl, rfl, h2, r2⟩ := trodAll_cons r1
  obtain ⟨v3, vs3, d3, ds3, p3, q3, rfl, rfl, rfl, h3, r3⟩ := trodAll_cons r2
  obtain ⟨v4, vs4, d4, ds4, p4, q4, rfl, rfl, rfl, h4, r4⟩ := trodAll_cons r3
  obtain ⟨rfl, rfl, rfl⟩ := trodAll_nil r4
  obtain rfl : args = #[v0, v1, v2, v3, v4] := by cases args; simp_all
  obtain ⟨rfl, rfl⟩ := trodVars_none hV
  obtain ⟨f0, xs0, hr0, hd0⟩ := open_bytes (hval 0 22 v0 rfl rfl) h0
  obtain ⟨f1, xs1, hr1, hd1⟩ := open_bytes (hval 1 22 v1 rfl rfl) h1
  obtain ⟨n2, rfl, rfl, rfl, w2⟩ := open_int Try.underlying23 (hval 2 23 v2 rfl rfl) h2
  have hn2 := w2
  simp only [Lit.wf, IntKind.min, IntKind.max, IntKind.signed, IntKind.bits, Bool.and_eq_true, decide_eq_true_eq] at hn2
  simp at hn2
  obtain ⟨n3, rfl, rfl, rfl, w3⟩ := open_int Try.underlying5 (hval 3 5 v3 rfl rfl) h3
  have hn3 := w3
  simp only [Lit.wf, IntKind.min, IntKind.max, IntKind.signed, IntKind.bits, Bool.and_eq_true, decide_eq_true_eq] at hn3
  simp at hn3
  obtain ⟨n4, rfl, rfl, rfl, w4⟩ := open_int Try.underlying3 (hval 4 3 v4 rfl rfl) h4
  have hn4 := w4
  simp only [Lit.wf, IntKind.min, IntKind.max, IntKind.signed, IntKind.bits, Bool.and_eq_true, decide_eq_true_eq] at hn4
  simp at hn4
  have hk1 : Rows.uptoBulkAll [d0, d1, .lit (.int .u16 n2), .lit (.int .u8 n3), .lit (.int .i64 n4)] ≤ 1048576 := of_decide_eq_true hk
  have hy : xs0.length ≤ 1048576 := by
    simp only [Rows.uptoBulkAll] at hk1
    rcases hd0 with ⟨-, rfl⟩ | ⟨ls, sp, rfl, hl⟩
    · simp
    · have := bulk_len ls
      simp only [Rows.uptoBulk] at hk1
      omega
  have hlt : ∀ x ∈ p0 ++ (p1 ++ (([] : List MemPlace) ++ (([] : List MemPlace) ++ (([] : List MemPlace) ++ ([]))))), x.block < W.heap.size := fun x hx => hW'.lt x (by simpa using hx)
  refine (LCalls.true (Codes_ok f0 xs0 f1 xs1 n2 n3 n4 hy (by omega) (by omega) ⟨by omega, by omega⟩) (.cons hr0 (.cons hr1 (.cons (.int _ _) (.cons (.int _ _) (.cons (.int _ _) .nil)))))).mono fun e W' ⟨he, hB⟩ => ?_
  subst he
  exact ⟨_, rfl, post_of_below (pa := p0 ++ (p1 ++ (([] : List MemPlace) ++ (([] : List MemPlace) ++ (([] : List MemPlace) ++ ([])))))) (pv := []) hW' hB (fun _ _ _ => trodAll_cons_mk (shut_bool Try.underlying4 _) trodAll_mk0)
    (fun sp hsp => (trodAll_cons_mk (WideElems.Trod_stays (by kernel_rfl) (by kernel_rfl) (by decide) h0 (fun x hx => hB.same (hlt x (by simp [hx]))) (fun x hx => hsp x (by simp [hx]))) (trodAll_cons_mk (WideElems.Trod_stays (by kernel_rfl) (by kernel_rfl) (by decide) h1 (fun x hx => hB.same (hlt x (by simp [hx]))) (fun x hx => hsp x (by simp [hx]))) (trodAll_cons_mk (shut_int Try.underlying23 w2) (trodAll_cons_mk (shut_int Try.underlying5 w3) (trodAll_cons_mk (shut_int Try.underlying3 w4) trodAll_mk0)))))) (fun _ _ => rfl) (by simp)
    (ok_one (by kernel_rfl) rfl (okWide_bool_mk Try.underlying4 _))⟩
theorem storeCodes_lifted (os : Os) (started : os.Started) (H : Type) (enc : TypeId × Value → H) (F : Stop.Interp) :
    ReturnsInHanded {} Try.checked os 3 .any ((Rows.OpenSpec.upto Rows.storeCodesSpec).pre6 enc Try.prog Try.f3 Rows.storeCodesUptoRow.domain false) (((Rows.OpenSpec.upto Rows.storeCodesSpec).at F).post enc Try.prog Try.f3 false true false false) := by
  refine returnsInHanded_of_cond (C := Try.checked) (s := (Rows.OpenSpec.upto Rows.storeCodesSpec)) (k := Rows.uptoSmall) rfl own started (by kernel_rfl) Try.func3
    (OpenSpec.witness (enc := enc) (C := Try.checked) (s := (Rows.OpenSpec.upto Rows.storeCodesSpec)) (k := Rows.uptoSmall) rfl false ⟨#[], #[.slice none 0 0, .slice none 0 0, .int .u16 0, .int .u8 0, .int .i64 0], []⟩ 8 (by kernel_rfl) (by kernel_rfl) (by kernel_rfl)
      (x := ([.nil, .nil, .lit (.int .u16 0), .lit (.int .u8 0), .lit (.int .i64 0)], [], [])) (by kernel_rfl) rfl (by kernel_rfl)) ?_
  intro W base args ds gs before hval hW _ hk _
  exact storeCodes_contract H enc W base args ds gs before hval hW hk
theorem storeCodes_proved : Rows.StoreCodesUptoSaid :=
  OpenClaim.holds_of_cond 3 Try.f3 rfl rfl rfl rfl rfl rfl rfl ⟨rfl, rfl, rfl, rfl, rfl⟩ rfl rfl rfl rfl rfl (by kernel_rfl) Try.func3 (by kernel_rfl)
    (of_decide_eq_true (by kernel_rfl)) (by unfold Func.isWrapper; first | (rw [if_pos (by decide +kernel)]; kernel_rfl) | (rw [if_neg (by decide +kernel)]; exact ⟨rfl, rfl⟩))
    (fun os started H enc _ F => storeCodes_lifted os started H enc F)
end Go.Proofs.Ytdhngmldmalbbaa
end
