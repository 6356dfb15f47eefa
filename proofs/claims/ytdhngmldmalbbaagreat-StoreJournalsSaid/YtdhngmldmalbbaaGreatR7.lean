/-
  StoreJournals answers true for all codes, bytes and numbers, without conditions.
-/
import Derived.Test.YtdhngmldmalbbaaGreatR6
import Derived.RowKitTokens
section
set_option linter.all false
namespace Go.Proofs.YtdhngmldmalbbaaGreat
open Go.Lift Go.RowKit Go.Store
set_option linter.unusedSimpArgs false
set_option linter.unusedVariables false

def zL (k : Int) : List LV := V k :: (zs sLog).tail
theorem ok_zL {k : Int} (h : isI k) : ok sLog (zL k) := ⟨rfl, h.1, h.2, (ok_zs (s := sLog)).2.2.2⟩
/-- what 'rest' gives for a kind. -/
def RestR (f : Bool) (bs : List UInt8) (p : Nat) (o : Bool) (k : Int) (off : Nat) (s : Sch) (r : LV) : Prop :=
  ∃ (p' : Nat) (o' : Bool) (us pre u' post : List LV), r = .tup [rdr f bs p' o', .agg us] ∧ p' ≤ bs.length ∧ ok sLog us ∧ us.getD 0 .any = V k ∧ us = pre ++ (u' ++ post) ∧ pre.length = off ∧ ok s u' ∧ GetO s (bs.drop p) o u' (bs.drop p') o'
theorem RestR.mk {f : Bool} {bs : List UInt8} {p : Nat} {o : Bool} {k : Int} {off : Nat} {s : Sch} {p' : Nat} {o' : Bool} {us u' : List LV} (hk : kSch k = some (off, s)) (hus : us = (zL k).take off ++ (u' ++ (zL k).drop (off + s.n))) (hp : p' ≤ bs.length) (hok : ok s u') (hG : GetO s (bs.drop p) o u' (bs.drop p') o') : RestR f bs p o k off s (.tup [rdr f bs p' o', .agg us]) := by
  have hkI : isI k := by rcases kSch_off hk with ⟨rfl, -, -⟩ | ⟨rfl, -, -⟩ | ⟨rfl, -, -⟩ | ⟨rfl, -, -⟩ <;> exact ⟨by decide, by decide⟩
  obtain ⟨pre, u, post, hcells, hpre, hu, -, -⟩ := log_split (ok_zL hkI) (off := off) (s := s) hk
  have h1 : pre = (zL k).take off := by rw [hcells, ← hpre, List.take_left]
  have h2 : post = (zL k).drop (off + s.n) := by rw [hcells, ← hpre, ← ok_len hu, ← List.drop_drop, List.drop_left, List.drop_left]
  rw [← h1, ← h2] at hus
  refine ⟨p', o', us, pre, u', post, rfl, hp, ?_, ?_, hus, hpre, hok, hG⟩
  · rw [hus]; exact log_repl hk (ok_zL hkI) hcells hpre hu hok
  · rw [hus, head_pre hcells hpre (kSch_pos hk)]; rfl

set_option maxHeartbeats 1000000 in
theorem Rest1 (f : Bool) (bs : List UInt8) (p : Nat) (o : Bool) (hb : bs.length ≤ 1048576) (hp : p ≤ bs.length) : Pc 37 [rdr f bs p o, V 1] (RestR f bs p o 1 1 sI) := by
  refine Pc_intro 1 Tryz.func37 rfl (by kernel_rfl) rfl fun S RR hRR => ?_
  refine Lwp_seq fun KK0 hKK0 => ?_
  refine LregionG [none, none, none] (by kernel_rfl) (by kernel_rfl) ?_
  simp -dsimp only [go_sem, ↓reduceIte, rdr]
  repeat with_reducible refine And.intro (by first | omega | decide) ?_
  refine hKK0 _ _ ?_
  try clear hKK0 KK0
  refine Lwp_seq fun KK1 hKK1 => ?_
  refine LregionG [none, none, none, none] (by kernel_rfl) (by kernel_rfl) ?_
  simp -dsimp only [go_sem, ↓reduceIte, rdr]
  repeat with_reducible refine And.intro (by first | omega | decide) ?_
  refine hKK1 _ _ ?_
  try clear hKK1 KK1
  refine Lwp_seq fun KK2 hKK2 => ?_
  refine Lwp_seq fun KK3 hKK3 => ?_
  refine LregionG [none] (by kernel_rfl) (by kernel_rfl) ?_
  simp -dsimp only [go_sem, ↓reduceIte, rdr]
  repeat with_reducible refine And.intro (by first | omega | decide) ?_
  refine hKK3 _ _ ?_
  try clear hKK3 KK3
  refine Lwp_block ?_
  refine Lwp_seq fun KK4 hKK4 => ?_
  refine LregionG [none, none] (by kernel_rfl) (by kernel_rfl) ?_
  simp -dsimp only [go_sem, ↓reduceIte, rdr]
  repeat with_reducible refine And.intro (by first | omega | decide) ?_
  refine hKK4 _ _ ?_
  try clear hKK4 KK4
  refine Lwp_cond (by simp only [go_sem, ↓reduceIte, rdr]; rfl) (fun ht => ?_) (fun hf => ?_)
  · skip
    refine LregionG [none, none, none, none, none, none, none, none] (by kernel_rfl) (by kernel_rfl) ?_
    simp -dsimp only [go_sem, ↓reduceIte, rdr]
    refine Pc.k' (GetInt_ok f bs p o hb hp) ?_
    rintro _ ⟨p1, o1, us1, rfl, hp1, hok1, hG1⟩
    obtain ⟨w1, us', rfl, hw1, hok'⟩ := ok_int hok1
    obtain rfl := ok_nil hok'
    have G1 := hG1
    have K1 := hok1
    simp -dsimp only [go_sem, ↓reduceIte, rdr, hd1, List.headD_cons]
    refine hKK2 _ _ ?_
    try clear hKK2 KK2
    refine Lwp_seq fun KK5 hKK5 => ?_
    refine LdrawE [0,1,2,3] [(S.length, (3, [[.sl f (bs.map u8c), V p1, .bool o1]])), (S.length + 3, (38, [[V 1, V w1, V 0, .str ⟨#[]⟩, V 0, V 0, V 0, V 0, V 0, .sl true [], V 0, V 0, V 0, .str ⟨#[]⟩, V 0, .bool false, V 0, V 0, V 0, V 0, .sl true [], V 0, V 0, V 0, .sl true [], .sl true [], .sl true [], .sl true [], V 0, .int .u64 0, V 0, V 0, V 0, V 0, .sl true [], .sl true [], .sl true [], .sl true []]]))] none (by kernel_rfl) (by kernel_rfl) (by kernel_rfl) (by kernel_rfl) (by simp [Watch.holds]) ?_
    simp -dsimp only [go_sem, ↓reduceIte, rdr, List.mem_cons, forall_eq_or_imp, Nat.add_eq_left]
    repeat with_reducible refine And.intro (by first | omega | decide) ?_
    refine hKK5 _ _ ?_
    try clear hKK5 KK5
    refine Lwp_ret ?_
    simp only [LThen, LBlock, LPost, Tryz.results37]
    simp -dsimp only [go_sem, ↓reduceIte, rdr]
    refine ret_app (by simp only [go_sem, ↓reduceIte, LV.lt, lt_u8c, ltL, ltLL, Bool.and_self]) ?_
    simp only [go_sem, ↓reduceIte]
    exact hRR _ (RestR.mk (us := [V 1, V w1, V 0, .str ⟨#[]⟩, V 0, V 0, V 0, V 0, V 0, .sl true [], V 0, V 0, V 0, .str ⟨#[]⟩, V 0, .bool false, V 0, V 0, V 0, V 0, .sl true [], V 0, V 0, V 0, .sl true [], .sl true [], .sl true [], .sl true [], V 0, .int .u64 0, V 0, V 0, V 0, V 0, .sl true [], .sl true [], .sl true [], .sl true []]) (u' := [V w1]) rfl rfl hp1 K1 G1)
  · skip
    cases hf

set_option maxHeartbeats 1000000 in
theorem Rest2 (f : Bool) (bs : List UInt8) (p : Nat) (o : Bool) (hb : bs.length ≤ 1048576) (hp : p ≤ bs.length) : Pc 37 [rdr f bs p o, V 2] (RestR f bs p o 2 2 sItem) := by
  refine Pc_intro 1 Tryz.func37 rfl (by kernel_rfl) rfl fun S RR hRR => ?_
  refine Lwp_seq fun KK0 hKK0 => ?_
  refine LregionG [none, none, none] (by kernel_rfl) (by kernel_rfl) ?_
  simp -dsimp only [go_sem, ↓reduceIte, rdr]
  repeat with_reducible refine And.intro (by first | omega | decide) ?_
  refine hKK0 _ _ ?_
  try clear hKK0 KK0
  refine Lwp_seq fun KK1 hKK1 => ?_
  refine LregionG [none, none, none, none] (by kernel_rfl) (by kernel_rfl) ?_
  simp -dsimp only [go_sem, ↓reduceIte, rdr]
  repeat with_reducible refine And.intro (by first | omega | decide) ?_
  refine hKK1 _ _ ?_
  try clear hKK1 KK1
  refine Lwp_seq fun KK2 hKK2 => ?_
  refine Lwp_seq fun KK3 hKK3 => ?_
  refine LregionG [none] (by kernel_rfl) (by kernel_rfl) ?_
  simp -dsimp only [go_sem, ↓reduceIte, rdr]
  repeat with_reducible refine And.intro (by first | omega | decide) ?_
  refine hKK3 _ _ ?_
  try clear hKK3 KK3
  refine Lwp_block ?_
  refine Lwp_seq fun KK4 hKK4 => ?_
  refine LregionG [none, none] (by kernel_rfl) (by kernel_rfl) ?_
  simp -dsimp only [go_sem, ↓reduceIte, rdr]
  repeat with_reducible refine And.intro (by first | omega | decide) ?_
  refine hKK4 _ _ ?_
  try clear hKK4 KK4
  refine Lwp_cond (by simp only [go_sem, ↓reduceIte, rdr]; rfl) (fun ht => ?_) (fun hf => ?_)
  · skip
    cases ht
  · skip
    refine Lwp_seq fun KK5 hKK5 => ?_
    refine LregionG [none, none] (by kernel_rfl) (by kernel_rfl) ?_
    simp -dsimp only [go_sem, ↓reduceIte, rdr]
    repeat with_reducible refine And.intro (by first | omega | decide) ?_
    refine hKK5 _ _ ?_
    try clear hKK5 KK5
    refine Lwp_cond (by simp only [go_sem, ↓reduceIte, rdr]; rfl) (fun ht => ?_) (fun hf => ?_)
    · skip
      refine Lwp_seq fun KK6 hKK6 => ?_
      refine LregionG [none, none, none, none, none, none, none, none, none] (by kernel_rfl) (by kernel_rfl) ?_
      simp -dsimp only [go_sem, ↓reduceIte, rdr]
      refine Pc.k' (GetRep_ok f bs p o hb hp) ?_
      rintro _ ⟨p1, o1, us1, rfl, hp1, hok1, hG1⟩
      obtain ⟨r1, u1, rfl, hr1, hx1⟩ := ok_int hok1
      obtain ⟨r2, u2, rfl, hr2, hx2⟩ := ok_str hx1
      obtain ⟨r3, u3, rfl, hr3, hx3⟩ := ok_int hx2
      obtain ⟨r4, u4, rfl, hr4, hx4⟩ := ok_int hx3
      obtain ⟨r5, u5, rfl, hr5, hx5⟩ := ok_int hx4
      obtain ⟨r6, u6, rfl, hr6, hx6⟩ := ok_int hx5
      obtain ⟨r7, u7, rfl, hr7, hx7⟩ := ok_int hx6
      obtain ⟨fr, es, u8, rfl, hl8, ho8, hx8⟩ := ok_sl hx7
      obtain rfl := ok_nil hx8
      have hltr : ltLL S.length es = true := lt_int fun e he => ok_lt (ho8 e he)
      have G1 := hG1
      have K1 := hok1
      simp -dsimp only [go_sem, ↓reduceIte, rdr]
      refine hKK6 _ _ ?_
      try clear hKK6 KK6
      refine Lwp_seq fun KK7 hKK7 => ?_
      refine LregionG [none, none, none, none, none, none, none, none, none] (by kernel_rfl) (by kernel_rfl) ?_
      simp -dsimp only [go_sem, ↓reduceIte, rdr]
      refine Pc.k' (GetInt_ok f bs p1 o1 hb hp1) ?_
      rintro _ ⟨p2, o2, us2, rfl, hp2, hok2, hG2⟩
      obtain ⟨w2, us', rfl, hw2, hok'⟩ := ok_int hok2
      obtain rfl := ok_nil hok'
      have G2 := G1.app hG2 K1
      have K2 := app_ok K1 hok2
      simp -dsimp only [go_sem, ↓reduceIte, rdr, hd1, List.headD_cons]
      refine hKK7 _ _ ?_
      try clear hKK7 KK7
      refine LregionG [none, none, none, none, none, none, none, none, none] (by kernel_rfl) (by kernel_rfl) ?_
      simp -dsimp only [go_sem, ↓reduceIte, rdr]
      refine Pc.k' (GetInt_ok f bs p2 o2 hb hp2) ?_
      rintro _ ⟨p3, o3, us3, rfl, hp3, hok3, hG3⟩
      obtain ⟨w3, us', rfl, hw3, hok'⟩ := ok_int hok3
      obtain rfl := ok_nil hok'
      have G3 := G2.app hG3 K2
      have K3 := app_ok K2 hok3
      simp -dsimp only [go_sem, ↓reduceIte, rdr, hd1, List.headD_cons]
      refine hKK2 _ _ ?_
      try clear hKK2 KK2
      refine Lwp_seq fun KK8 hKK8 => ?_
      refine LdrawE [0,1,2,3] [(S.length, (3, [[.sl f (bs.map u8c), V p3, .bool o3]])), (S.length + 3, (38, [[V 2, V 0, V r1, .str r2, V r3, V r4, V r5, V r6, V r7, .sl fr es, V w2, V w3, V 0, .str ⟨#[]⟩, V 0, .bool false, V 0, V 0, V 0, V 0, .sl true [], V 0, V 0, V 0, .sl true [], .sl true [], .sl true [], .sl true [], V 0, .int .u64 0, V 0, V 0, V 0, V 0, .sl true [], .sl true [], .sl true [], .sl true []]]))] none (by kernel_rfl) (by kernel_rfl) (by kernel_rfl) (by kernel_rfl) (by simp [Watch.holds]) ?_
      simp -dsimp only [go_sem, ↓reduceIte, rdr, List.mem_cons, forall_eq_or_imp, Nat.add_eq_left]
      repeat with_reducible refine And.intro (by first | omega | decide) ?_
      refine hKK8 _ _ ?_
      try clear hKK8 KK8
      refine Lwp_ret ?_
      simp only [LThen, LBlock, LPost, Tryz.results37]
      simp -dsimp only [go_sem, ↓reduceIte, rdr]
      refine ret_app (by simp only [go_sem, ↓reduceIte, LV.lt, lt_u8c, ltL, ltLL, Bool.and_self, hltr]) ?_
      simp only [go_sem, ↓reduceIte]
      exact hRR _ (RestR.mk (us := [V 2, V 0, V r1, .str r2, V r3, V r4, V r5, V r6, V r7, .sl fr es, V w2, V w3, V 0, .str ⟨#[]⟩, V 0, .bool false, V 0, V 0, V 0, V 0, .sl true [], V 0, V 0, V 0, .sl true [], .sl true [], .sl true [], .sl true [], V 0, .int .u64 0, V 0, V 0, V 0, V 0, .sl true [], .sl true [], .sl true [], .sl true []]) (u' := [V r1, .str r2, V r3, V r4, V r5, V r6, V r7, .sl fr es, V w2, V w3]) rfl rfl hp3 K3 G3)
    · skip
      cases hf

set_option maxHeartbeats 1000000 in
theorem Rest3 (f : Bool) (bs : List UInt8) (p : Nat) (o : Bool) (hb : bs.length ≤ 1048576) (hp : p ≤ bs.length) : Pc 37 [rdr f bs p o, V 3] (RestR f bs p o 3 12 (.int (.str sPer))) := by
  refine Pc_intro 1 Tryz.func37 rfl (by kernel_rfl) rfl fun S RR hRR => ?_
  refine Lwp_seq fun KK0 hKK0 => ?_
  refine LregionG [none, none, none] (by kernel_rfl) (by kernel_rfl) ?_
  simp -dsimp only [go_sem, ↓reduceIte, rdr]
  repeat with_reducible refine And.intro (by first | omega | decide) ?_
  refine hKK0 _ _ ?_
  try clear hKK0 KK0
  refine Lwp_seq fun KK1 hKK1 => ?_
  refine LregionG [none, none, none, none] (by kernel_rfl) (by kernel_rfl) ?_
  simp -dsimp only [go_sem, ↓reduceIte, rdr]
  repeat with_reducible refine And.intro (by first | omega | decide) ?_
  refine hKK1 _ _ ?_
  try clear hKK1 KK1
  refine Lwp_seq fun KK2 hKK2 => ?_
  refine Lwp_seq fun KK3 hKK3 => ?_
  refine LregionG [none] (by kernel_rfl) (by kernel_rfl) ?_
  simp -dsimp only [go_sem, ↓reduceIte, rdr]
  repeat with_reducible refine And.intro (by first | omega | decide) ?_
  refine hKK3 _ _ ?_
  try clear hKK3 KK3
  refine Lwp_block ?_
  refine Lwp_seq fun KK4 hKK4 => ?_
  refine LregionG [none, none] (by kernel_rfl) (by kernel_rfl) ?_
  simp -dsimp only [go_sem, ↓reduceIte, rdr]
  repeat with_reducible refine And.intro (by first | omega | decide) ?_
  refine hKK4 _ _ ?_
  try clear hKK4 KK4
  refine Lwp_cond (by simp only [go_sem, ↓reduceIte, rdr]; rfl) (fun ht => ?_) (fun hf => ?_)
  · skip
    cases ht
  · skip
    refine Lwp_seq fun KK5 hKK5 => ?_
    refine LregionG [none, none] (by kernel_rfl) (by kernel_rfl) ?_
    simp -dsimp only [go_sem, ↓reduceIte, rdr]
    repeat with_reducible refine And.intro (by first | omega | decide) ?_
    refine hKK5 _ _ ?_
    try clear hKK5 KK5
    refine Lwp_cond (by simp only [go_sem, ↓reduceIte, rdr]; rfl) (fun ht => ?_) (fun hf => ?_)
    · skip
      cases ht
    · skip
      refine Lwp_seq fun KK6 hKK6 => ?_
      refine LregionG [none, none] (by kernel_rfl) (by kernel_rfl) ?_
      simp -dsimp only [go_sem, ↓reduceIte, rdr]
      repeat with_reducible refine And.intro (by first | omega | decide) ?_
      refine hKK6 _ _ ?_
      try clear hKK6 KK6
      refine Lwp_cond (by simp only [go_sem, ↓reduceIte, rdr]; rfl) (fun ht => ?_) (fun hf => ?_)
      · skip
        refine Lwp_seq fun KK7 hKK7 => ?_
        refine LregionG [none, none, none, none, none, none, none, none] (by kernel_rfl) (by kernel_rfl) ?_
        simp -dsimp only [go_sem, ↓reduceIte, rdr]
        refine Pc.k' (GetInt_ok f bs p o hb hp) ?_
        rintro _ ⟨p1, o1, us1, rfl, hp1, hok1, hG1⟩
        obtain ⟨w1, us', rfl, hw1, hok'⟩ := ok_int hok1
        obtain rfl := ok_nil hok'
        have G1 := hG1
        have K1 := hok1
        simp -dsimp only [go_sem, ↓reduceIte, rdr, hd1, List.headD_cons]
        refine hKK7 _ _ ?_
        try clear hKK7 KK7
        refine Lwp_seq fun KK8 hKK8 => ?_
        refine LregionG [none, none, none, none, none, none, none, none] (by kernel_rfl) (by kernel_rfl) ?_
        simp -dsimp only [go_sem, ↓reduceIte, rdr]
        refine Pc.k' (GetStr_ok f bs p1 o1 hb hp1) ?_
        rintro _ ⟨p2, o2, us2, rfl, hp2, hok2, hG2⟩
        obtain ⟨w2, us', rfl, hw2, hok'⟩ := ok_str hok2
        obtain rfl := ok_nil hok'
        have G2 := G1.app hG2 K1
        have K2 := app_ok K1 hok2
        simp -dsimp only [go_sem, ↓reduceIte, rdr, hd1, List.headD_cons]
        refine hKK8 _ _ ?_
        try clear hKK8 KK8
        refine LregionG [none, none, none, none, none, none, none, none] (by kernel_rfl) (by kernel_rfl) ?_
        simp -dsimp only [go_sem, ↓reduceIte, rdr]
        refine Pc.k' (GetPer_ok f bs p2 o2 hb hp2) ?_
        rintro _ ⟨p3, o3, us3, rfl, hp3, hok3, hG3⟩
        obtain ⟨r1, u1, rfl, hr1, hx1⟩ := ok_int hok3
        obtain ⟨r2, u2, rfl, hx2⟩ := ok_bool hx1
        obtain ⟨r3, u3, rfl, hr3, hx3⟩ := ok_int hx2
        obtain ⟨r4, u4, rfl, hr4, hx4⟩ := ok_int hx3
        obtain ⟨r5, u5, rfl, hr5, hx5⟩ := ok_int hx4
        obtain ⟨r6, u6, rfl, hr6, hx6⟩ := ok_int hx5
        obtain ⟨fr, es, u8, rfl, hl8, ho8, hx8⟩ := ok_sl hx6
        obtain rfl := ok_nil hx8
        have hltr : ltLL S.length es = true := lt_int fun e he => ok_lt (ho8 e he)
        have G3 := G2.app hG3 K2
        have K3 := app_ok K2 hok3
        simp -dsimp only [go_sem, ↓reduceIte, rdr]
        refine hKK2 _ _ ?_
        try clear hKK2 KK2
        refine Lwp_seq fun KK9 hKK9 => ?_
        refine LdrawE [0,1,2,3] [(S.length, (3, [[.sl f (bs.map u8c), V p3, .bool o3]])), (S.length + 3, (38, [[V 3, V 0, V 0, .str ⟨#[]⟩, V 0, V 0, V 0, V 0, V 0, .sl true [], V 0, V 0, V w1, .str w2, V r1, .bool r2, V r3, V r4, V r5, V r6, .sl fr es, V 0, V 0, V 0, .sl true [], .sl true [], .sl true [], .sl true [], V 0, .int .u64 0, V 0, V 0, V 0, V 0, .sl true [], .sl true [], .sl true [], .sl true []]]))] none (by kernel_rfl) (by kernel_rfl) (by kernel_rfl) (by kernel_rfl) (by simp [Watch.holds]) ?_
        simp -dsimp only [go_sem, ↓reduceIte, rdr, List.mem_cons, forall_eq_or_imp, Nat.add_eq_left]
        repeat with_reducible refine And.intro (by first | omega | decide) ?_
        refine hKK9 _ _ ?_
        try clear hKK9 KK9
        refine Lwp_ret ?_
        simp only [LThen, LBlock, LPost, Tryz.results37]
        simp -dsimp only [go_sem, ↓reduceIte, rdr]
        refine ret_app (by simp only [go_sem, ↓reduceIte, LV.lt, lt_u8c, ltL, ltLL, Bool.and_self, hltr]) ?_
        simp only [go_sem, ↓reduceIte]
        exact hRR _ (RestR.mk (us := [V 3, V 0, V 0, .str ⟨#[]⟩, V 0, V 0, V 0, V 0, V 0, .sl true [], V 0, V 0, V w1, .str w2, V r1, .bool r2, V r3, V r4, V r5, V r6, .sl fr es, V 0, V 0, V 0, .sl true [], .sl true [], .sl true [], .sl true [], V 0, .int .u64 0, V 0, V 0, V 0, V 0, .sl true [], .sl true [], .sl true [], .sl true []]) (u' := [V w1, .str w2, V r1, .bool r2, V r3, V r4, V r5, V r6, .sl fr es]) rfl rfl hp3 K3 G3)
      · skip
        cases hf

set_option maxHeartbeats 1000000 in
theorem Rest4 (f : Bool) (bs : List UInt8) (p : Nat) (o : Bool) (hb : bs.length ≤ 1048576) (hp : p ≤ bs.length) : Pc 37 [rdr f bs p o, V 4] (RestR f bs p o 4 21 sCyc) := by
  refine Pc_intro 1 Tryz.func37 rfl (by kernel_rfl) rfl fun S RR hRR => ?_
  refine Lwp_seq fun KK0 hKK0 => ?_
  refine LregionG [none, none, none] (by kernel_rfl) (by kernel_rfl) ?_
  simp -dsimp only [go_sem, ↓reduceIte, rdr]
  repeat with_reducible refine And.intro (by first | omega | decide) ?_
  refine hKK0 _ _ ?_
  try clear hKK0 KK0
  refine Lwp_seq fun KK1 hKK1 => ?_
  refine LregionG [none, none, none, none] (by kernel_rfl) (by kernel_rfl) ?_
  simp -dsimp only [go_sem, ↓reduceIte, rdr]
  repeat with_reducible refine And.intro (by first | omega | decide) ?_
  refine hKK1 _ _ ?_
  try clear hKK1 KK1
  refine Lwp_seq fun KK2 hKK2 => ?_
  refine Lwp_seq fun KK3 hKK3 => ?_
  refine LregionG [none] (by kernel_rfl) (by kernel_rfl) ?_
  simp -dsimp only [go_sem, ↓reduceIte, rdr]
  repeat with_reducible refine And.intro (by first | omega | decide) ?_
  refine hKK3 _ _ ?_
  try clear hKK3 KK3
  refine Lwp_block ?_
  refine Lwp_seq fun KK4 hKK4 => ?_
  refine LregionG [none, none] (by kernel_rfl) (by kernel_rfl) ?_
  simp -dsimp only [go_sem, ↓reduceIte, rdr]
  repeat with_reducible refine And.intro (by first | omega | decide) ?_
  refine hKK4 _ _ ?_
  try clear hKK4 KK4
  refine Lwp_cond (by simp only [go_sem, ↓reduceIte, rdr]; rfl) (fun ht => ?_) (fun hf => ?_)
  · skip
    cases ht
  · skip
    refine Lwp_seq fun KK5 hKK5 => ?_
    refine LregionG [none, none] (by kernel_rfl) (by kernel_rfl) ?_
    simp -dsimp only [go_sem, ↓reduceIte, rdr]
    repeat with_reducible refine And.intro (by first | omega | decide) ?_
    refine hKK5 _ _ ?_
    try clear hKK5 KK5
    refine Lwp_cond (by simp only [go_sem, ↓reduceIte, rdr]; rfl) (fun ht => ?_) (fun hf => ?_)
    · skip
      cases ht
    · skip
      refine Lwp_seq fun KK6 hKK6 => ?_
      refine LregionG [none, none] (by kernel_rfl) (by kernel_rfl) ?_
      simp -dsimp only [go_sem, ↓reduceIte, rdr]
      repeat with_reducible refine And.intro (by first | omega | decide) ?_
      refine hKK6 _ _ ?_
      try clear hKK6 KK6
      refine Lwp_cond (by simp only [go_sem, ↓reduceIte, rdr]; rfl) (fun ht => ?_) (fun hf => ?_)
      · skip
        cases ht
      · skip
        refine Lwp_seq fun KK7 hKK7 => ?_
        refine LregionG [none, none] (by kernel_rfl) (by kernel_rfl) ?_
        simp -dsimp only [go_sem, ↓reduceIte, rdr]
        repeat with_reducible refine And.intro (by first | omega | decide) ?_
        refine hKK7 _ _ ?_
        try clear hKK7 KK7
        refine Lwp_cond (by simp only [go_sem, ↓reduceIte, rdr]; rfl) (fun ht => ?_) (fun hf => ?_)
        · skip
          refine LregionG [none, none, none, none, none, none, none, none] (by kernel_rfl) (by kernel_rfl) ?_
          simp -dsimp only [go_sem, ↓reduceIte, rdr]
          refine Pc.k' (GetCyc_ok f bs p o hb hp) ?_
          rintro _ ⟨p1, o1, us1, rfl, hp1, hok1, hG1⟩
          obtain ⟨c1, u1, rfl, hc1, hx1⟩ := ok_int hok1
          obtain ⟨c2, u2, rfl, hc2, hx2⟩ := ok_int hx1
          obtain ⟨c3, u3, rfl, hc3, hx3⟩ := ok_int hx2
          obtain ⟨f4, c4, u4, rfl, hl4, ho4, hx4⟩ := ok_sl hx3
          obtain ⟨f5, c5, u5, rfl, hl5, ho5, hx5⟩ := ok_sl hx4
          obtain ⟨f6, c6, u6, rfl, hl6, ho6, hx6⟩ := ok_sl hx5
          obtain ⟨f7, c7, u7, rfl, hl7, ho7, hx7⟩ := ok_sl hx6
          obtain ⟨c8, u8, rfl, hc8, hx8⟩ := ok_int hx7
          obtain ⟨c9, u9, rfl, hc9, hx9⟩ := ok_word hx8
          obtain ⟨c10, u10, rfl, hc10, hx10⟩ := ok_int hx9
          obtain ⟨c11, u11, rfl, hc11, hx11⟩ := ok_int hx10
          obtain ⟨c12, u12, rfl, hc12, hx12⟩ := ok_int hx11
          obtain ⟨c13, u13, rfl, hc13, hx13⟩ := ok_int hx12
          obtain ⟨f14, c14, u14, rfl, hl14, ho14, hx14⟩ := ok_sl hx13
          obtain ⟨f15, c15, u15, rfl, hl15, ho15, hx15⟩ := ok_sl hx14
          obtain ⟨f16, c16, u16, rfl, hl16, ho16, hx16⟩ := ok_sl hx15
          obtain ⟨f17, c17, u17, rfl, hl17, ho17, hx17⟩ := ok_sl hx16
          obtain rfl := ok_nil hx17
          have hlt4 : ltLL S.length c4 = true := lt_int fun e he => ok_lt (ho4 e he)
          have hlt5 : ltLL S.length c5 = true := lt_int fun e he => ok_lt (ho5 e he)
          have hlt6 : ltLL S.length c6 = true := lt_int fun e he => ok_lt (ho6 e he)
          have hlt7 : ltLL S.length c7 = true := lt_int fun e he => ok_lt (ho7 e he)
          have hlt14 : ltLL S.length c14 = true := lt_int fun e he => ok_lt (ho14 e he)
          have hlt15 : ltLL S.length c15 = true := lt_int fun e he => ok_lt (ho15 e he)
          have hlt16 : ltLL S.length c16 = true := lt_int fun e he => ok_lt (ho16 e he)
          have hlt17 : ltLL S.length c17 = true := lt_int fun e he => ok_lt (ho17 e he)
          have G1 := hG1
          have K1 := hok1
          simp -dsimp only [go_sem, ↓reduceIte, rdr]
          refine hKK2 _ _ ?_
          try clear hKK2 KK2
          refine Lwp_seq fun KK8 hKK8 => ?_
          refine LdrawE [0,1,2,3] [(S.length, (3, [[.sl f (bs.map u8c), V p1, .bool o1]])), (S.length + 3, (38, [[V 4, V 0, V 0, .str ⟨#[]⟩, V 0, V 0, V 0, V 0, V 0, .sl true [], V 0, V 0, V 0, .str ⟨#[]⟩, V 0, .bool false, V 0, V 0, V 0, V 0, .sl true [], V c1, V c2, V c3, .sl f4 c4, .sl f5 c5, .sl f6 c6, .sl f7 c7, V c8, .int .u64 c9, V c10, V c11, V c12, V c13, .sl f14 c14, .sl f15 c15, .sl f16 c16, .sl f17 c17]]))] none (by kernel_rfl) (by kernel_rfl) (by kernel_rfl) (by kernel_rfl) (by simp [Watch.holds]) ?_
          simp -dsimp only [go_sem, ↓reduceIte, rdr, List.mem_cons, forall_eq_or_imp, Nat.add_eq_left]
          repeat with_reducible refine And.intro (by first | omega | decide) ?_
          refine hKK8 _ _ ?_
          try clear hKK8 KK8
          refine Lwp_ret ?_
          simp only [LThen, LBlock, LPost, Tryz.results37]
          simp -dsimp only [go_sem, ↓reduceIte, rdr]
          refine ret_app (by simp only [go_sem, ↓reduceIte, LV.lt, lt_u8c, ltL, ltLL, Bool.and_self, hlt4, hlt5, hlt6, hlt7, hlt14, hlt15, hlt16, hlt17]) ?_
          simp only [go_sem, ↓reduceIte]
          exact hRR _ (RestR.mk (us := [V 4, V 0, V 0, .str ⟨#[]⟩, V 0, V 0, V 0, V 0, V 0, .sl true [], V 0, V 0, V 0, .str ⟨#[]⟩, V 0, .bool false, V 0, V 0, V 0, V 0, .sl true [], V c1, V c2, V c3, .sl f4 c4, .sl f5 c5, .sl f6 c6, .sl f7 c7, V c8, .int .u64 c9, V c10, V c11, V c12, V c13, .sl f14 c14, .sl f15 c15, .sl f16 c16, .sl f17 c17]) (u' := [V c1, V c2, V c3, .sl f4 c4, .sl f5 c5, .sl f6 c6, .sl f7 c7, V c8, .int .u64 c9, V c10, V c11, V c12, V c13, .sl f14 c14, .sl f15 c15, .sl f16 c16, .sl f17 c17]) rfl rfl hp1 K1 G1)
        · skip
          cases hf

end Go.Proofs.YtdhngmldmalbbaaGreat
end
section
set_option linter.all false
namespace Go.Proofs.YtdhngmldmalbbaaGreat
open Go.Lift Go.RowKit Go.Store
set_option linter.unusedSimpArgs false
set_option linter.unusedVariables false

theorem Rest_ok {k : Int} {off : Nat} {s : Sch} (hk : kSch k = some (off, s)) (f : Bool) (bs : List UInt8) (p : Nat) (o : Bool) (hb : bs.length ≤ 1048576) (hp : p ≤ bs.length) : Pc 37 [rdr f bs p o, V k] (RestR f bs p o k off s) := by
  rcases kSch_off hk with ⟨rfl, rfl, rfl⟩ | ⟨rfl, rfl, rfl⟩ | ⟨rfl, rfl, rfl⟩ | ⟨rfl, rfl, rfl⟩
  · exact Rest1 f bs p o hb hp
  · exact Rest2 f bs p o hb hp
  · exact Rest3 f bs p o hb hp
  · exact Rest4 f bs p o hb hp

set_option maxHeartbeats 1000000 in
theorem Decode_ok : ∀ (bs : List UInt8) (f : Bool), bs.length ≤ 140737488355328 → Pc 26 [.sl f (bs.map u8c)] (DecO (decS bs)) := by
  intro bs f hb
  refine Pc_intro 1 Tryz.func26 rfl (by kernel_rfl) rfl fun S RR hRR => ?_
  unfold DecO decS at hRR
  refine Lwp_seq fun KK0 hKK0 => ?_
  refine LregionG [none, none, none] (by kernel_rfl) (by kernel_rfl) ?_
  simp -dsimp only [go_sem, ↓reduceIte, rdr]
  repeat with_reducible refine And.intro (by first | omega | decide) ?_
  refine hKK0 _ _ ?_
  try clear hKK0 KK0
  refine Lwp_seq fun KK1 hKK1 => ?_
  refine Lwp_seq fun KK2 hKK2 => ?_
  refine LregionG [none, none, none] (by kernel_rfl) (by kernel_rfl) ?_
  simp -dsimp only [go_sem, ↓reduceIte, rdr]
  repeat with_reducible refine And.intro (by first | omega | decide) ?_
  refine hKK2 _ _ ?_
  try clear hKK2 KK2
  refine Lwp_cond (by simp only [go_sem, ↓reduceIte, rdr]; rfl) (fun ht => ?_) (fun hf => ?_)
  · skip
    have h4 : bs.length < 4 := by simp at ht; omega
    simp only [h4, if_true] at hRR
    refine Lwp_seq fun KK3 hKK3 => ?_
    refine LregionG [none, none, none, none] (by kernel_rfl) (by kernel_rfl) ?_
    simp -dsimp only [go_sem, ↓reduceIte, rdr]
    repeat with_reducible refine And.intro (by first | omega | decide) ?_
    refine hKK3 _ _ ?_
    try clear hKK3 KK3
    refine Lwp_ret ?_
    simp only [LThen, LBlock, LPost, Tryz.results26]
    simp -dsimp only [go_sem, ↓reduceIte, rdr]
    refine ret_frame (Keeps.app _ _ _) (by simp only [go_sem, ↓reduceIte, LV.lt, ltL, ltLL, Bool.and_self]) ?_
    simp only [go_sem, ↓reduceIte]
    exact hRR _ rfl
  · skip
    have h4 : ¬ bs.length < 4 := by simp at hf; omega
    simp only [h4, if_false] at hRR
    have h4l : (bs.take 4).length ≤ 8 := by simp; omega
    refine Lwp_skip ?_
    try simp -dsimp only [go_sem, ↓reduceIte, rdr]
    refine hKK1 _ _ ?_
    try clear hKK1 KK1
    refine Lwp_seq fun KK4 hKK4 => ?_
    refine LregionG [none, none, none, none, none, none, none, none, none] (by kernel_rfl) (by kernel_rfl) ?_
    simp -dsimp only [go_sem, ↓reduceIte, rdr]
    refine Pc.k' (Get_ok f bs 0 4 true hb (Nat.zero_le _) (by omega)) ?_
    rintro _ ⟨p1, o1, v, rfl, -, hN⟩
    obtain ⟨rfl, rfl, rfl⟩ : o1 = true ∧ p1 = 4 ∧ v = num (bs.take 4) := by
      rcases hN with ⟨a, -, -, b, c⟩ | ⟨-, -, -, h | h⟩
      · exact ⟨a, by omega, c⟩
      · cases h
      · rw [List.drop_zero] at h; omega
    obtain ⟨N, hNe⟩ : ∃ N, N = num (bs.take 4) := ⟨_, rfl⟩
    rw [← hNe] at hRR ⊢
    have hN4 : N < 4294967296 := by
      have := num_lt (bs.take 4)
      rw [List.length_take, Nat.min_eq_left (by omega)] at this
      omega
    have e1 : IntKind.u64.wrap ((N : Int) + 8) = ((N + 8 : Nat) : Int) := by rw [wu64 (by omega) (by omega)]; rfl
    have e2 : IntKind.u64.wrap (bs.length : Int) = (bs.length : Int) := wu64 (by omega) (by omega)
    have e3 : IntKind.i64.wrap (N : Int) = (N : Int) := w64 (by omega) (by omega)
    have e4 : IntKind.i64.wrap (4 + (N : Int)) = ((N + 4 : Nat) : Int) := by rw [w64 (by omega) (by omega)]; omega
    simp -dsimp only [go_sem, ↓reduceIte, rdr, rdr]
    refine hKK4 _ _ ?_
    try clear hKK4 KK4
    refine Lwp_seq fun KK5 hKK5 => ?_
    refine Lwp_seq fun KK6 hKK6 => ?_
    refine LregionG [none, none, none] (by kernel_rfl) (by kernel_rfl) ?_
    simp -dsimp only [go_sem, ↓reduceIte, rdr, e1]
    repeat with_reducible refine And.intro (by first | omega | decide) ?_
    refine hKK6 _ _ ?_
    try clear hKK6 KK6
    refine Lwp_cond (by simp only [go_sem, ↓reduceIte, rdr]; rfl) (fun ht => ?_) (fun hf => ?_)
    · skip
      have hbig : 1048576 < N + 8 := by simp at ht; omega
      simp only [hbig, if_true] at hRR
      refine Lwp_seq fun KK7 hKK7 => ?_
      refine LregionG [none, none, none, none] (by kernel_rfl) (by kernel_rfl) ?_
      simp -dsimp only [go_sem, ↓reduceIte, rdr]
      repeat with_reducible refine And.intro (by first | omega | decide) ?_
      refine hKK7 _ _ ?_
      try clear hKK7 KK7
      refine Lwp_ret ?_
      simp only [LThen, LBlock, LPost, Tryz.results26]
      simp -dsimp only [go_sem, ↓reduceIte, rdr]
      refine ret_frame (Keeps.app _ _ _) (by simp only [go_sem, ↓reduceIte, LV.lt, ltL, ltLL, Bool.and_self]) ?_
      simp only [go_sem, ↓reduceIte]
      exact hRR _ rfl
    · skip
      have hbig : ¬ 1048576 < N + 8 := by simp at hf; omega
      simp only [hbig, if_false] at hRR
      refine Lwp_skip ?_
      try simp -dsimp only [go_sem, ↓reduceIte, rdr]
      refine hKK5 _ _ ?_
      try clear hKK5 KK5
      refine Lwp_seq fun KK8 hKK8 => ?_
      refine Lwp_seq fun KK9 hKK9 => ?_
      refine LregionG [none, none, none, none, none, none] (by kernel_rfl) (by kernel_rfl) ?_
      simp -dsimp only [go_sem, ↓reduceIte, rdr, e1, e2]
      repeat with_reducible refine And.intro (by first | omega | decide) ?_
      refine hKK9 _ _ ?_
      try clear hKK9 KK9
      refine Lwp_cond (by simp only [go_sem, ↓reduceIte, rdr]; rfl) (fun ht => ?_) (fun hf => ?_)
      · skip
        have hsh : bs.length < N + 8 := by simp at ht; omega
        simp only [hsh, if_true] at hRR
        refine Lwp_seq fun KK10 hKK10 => ?_
        refine LregionG [none, none, none, none] (by kernel_rfl) (by kernel_rfl) ?_
        simp -dsimp only [go_sem, ↓reduceIte, rdr]
        repeat with_reducible refine And.intro (by first | omega | decide) ?_
        refine hKK10 _ _ ?_
        try clear hKK10 KK10
        refine Lwp_ret ?_
        simp only [LThen, LBlock, LPost, Tryz.results26]
        simp -dsimp only [go_sem, ↓reduceIte, rdr]
        refine ret_frame (Keeps.app _ _ _) (by simp only [go_sem, ↓reduceIte, LV.lt, ltL, ltLL, Bool.and_self]) ?_
        simp only [go_sem, ↓reduceIte]
        exact hRR _ rfl
      · skip
        have hsh : ¬ bs.length < N + 8 := by simp at hf; omega
        simp only [hsh, if_false] at hRR
        refine Lwp_skip ?_
        try simp -dsimp only [go_sem, ↓reduceIte, rdr]
        refine hKK8 _ _ ?_
        try clear hKK8 KK8
        refine Lwp_seq fun KK11 hKK11 => ?_
        refine LregionG [none, none, none, none] (by kernel_rfl) (by kernel_rfl) ?_
        simp -dsimp only [go_sem, ↓reduceIte, rdr, e3, e4]
        repeat with_reducible refine And.intro (by first | omega | decide) ?_
        refine hKK11 _ _ ?_
        try clear hKK11 KK11
        refine Lwp_seq fun KK12 hKK12 => ?_
        refine Lwp_seq fun KK13 hKK13 => ?_
        refine LregionG [none, none, none, none, none, none, none, none, none, none] (by kernel_rfl) (by kernel_rfl) ?_
        simp -dsimp only [go_sem, ↓reduceIte, rdr]
        refine Pc.k' (Get_ok f bs (N + 4) 4 true hb (by omega) (by omega)) ?_
        rintro _ ⟨p1, o1, v, rfl, -, hM⟩
        obtain ⟨rfl, rfl, rfl⟩ : o1 = true ∧ p1 = N + 4 + 4 ∧ v = num ((bs.drop (N + 4)).take 4) := by
          rcases hM with ⟨a, -, -, b, c⟩ | ⟨-, -, -, h | h⟩
          · exact ⟨a, b, c⟩
          · cases h
          · rw [List.length_drop] at h; omega
        have hm5 : List.take (N + 4 - 0) (List.map u8c bs) = List.map u8c (bs.take (N + 4)) := List.map_take.symm
        have hle : N + 4 ≤ bs.length := by omega
        have htl : (bs.take (N + 4)).length = N + 4 := by rw [List.length_take]; omega
        simp -dsimp only [go_sem, ↓reduceIte, rdr]
        refine hKK13 _ _ ?_
        try clear hKK13 KK13
        refine Lwp_seq fun KK14 hKK14 => ?_
        refine LregionG [none, none, none, none, none, none] (by kernel_rfl) (by kernel_rfl) ?_
        simp -dsimp only [go_sem, ↓reduceIte, rdr]
        refine ⟨⟨hle, head_u8 bs⟩, ?_⟩
        rw [hm5]
        refine LCalls.k (Chk_ok (.inl ⟨_, rfl⟩) (by omega)) ?_
        rintro _ _ ⟨rfl, rfl⟩
        simp -dsimp only [go_sem, ↓reduceIte, rdr]
        refine hKK14 _ _ ?_
        try clear hKK14 KK14
        refine Lwp_cond (by simp only [go_sem, ↓reduceIte, rdr]; rfl) (fun ht => ?_) (fun hf => ?_)
        · skip
          have hne : chkN (bs.take (N + 4)) ≠ num ((bs.drop (N + 4)).take 4) := by simp at ht; omega
          rw [if_pos hne] at hRR
          refine Lwp_seq fun KK15 hKK15 => ?_
          refine LregionG [none, none, none, none] (by kernel_rfl) (by kernel_rfl) ?_
          simp -dsimp only [go_sem, ↓reduceIte, rdr]
          repeat with_reducible refine And.intro (by first | omega | decide) ?_
          refine hKK15 _ _ ?_
          try clear hKK15 KK15
          refine Lwp_ret ?_
          simp only [LThen, LBlock, LPost, Tryz.results26]
          simp -dsimp only [go_sem, ↓reduceIte, rdr]
          refine ret_frame (Keeps.app _ _ _) (by simp only [go_sem, ↓reduceIte, LV.lt, ltL, ltLL, Bool.and_self]) ?_
          simp only [go_sem, ↓reduceIte]
          exact hRR _ rfl
        · skip
          have hne : ¬ chkN (bs.take (N + 4)) ≠ num ((bs.drop (N + 4)).take 4) := by simp at hf; omega
          rw [if_neg hne] at hRR
          refine Lwp_skip ?_
          try simp -dsimp only [go_sem, ↓reduceIte, rdr]
          refine hKK12 _ _ ?_
          try clear hKK12 KK12
          refine Lwp_seq fun KK16 hKK16 => ?_
          refine LregionG [none, none, none, none, none, none, none, none, none, none, none] (by kernel_rfl) (by kernel_rfl) ?_
          simp -dsimp only [go_sem, ↓reduceIte, rdr]
          refine ⟨⟨hle, head_u8 bs⟩, ?_⟩
          rw [hm5]
          obtain ⟨g, hg⟩ : ∃ g : Bool, (f && ((N + 4 : Nat) : Int) == (bs.length : Int)) = g := ⟨_, rfl⟩
          rw [hg]
          refine Pc.k' (Get_ok g (bs.take (N + 4)) 4 1 true (by omega) (by omega) (by omega)) ?_
          rintro _ ⟨p2, o2, kv, rfl, hp2, hKd⟩
          have hcase : (kv = 0 ∧ N = 0) ∨ (N ≠ 0 ∧ kv = (bs.getD 4 0).toNat ∧ o2 = true ∧ p2 = 5) := by
            rcases hKd with ⟨a, -, h1, b, c⟩ | ⟨-, -, c, h | h⟩
            · rw [List.length_drop, htl] at h1
              refine .inr ⟨by omega, ?_, a, b⟩
              rw [c, List.drop_take, List.take_take, Nat.min_eq_left (by omega)]
              have h4b : 4 < bs.length := by omega
              have e41 : List.take 1 (List.drop 4 bs) = [bs[4]] := by rw [List.drop_eq_getElem_cons h4b]; rfl
              rw [e41, List.getD_eq_getElem?_getD, List.getElem?_eq_getElem h4b]
              show 0 * 256 + (bs[4]).toNat = (bs[4]).toNat
              omega
            · cases h
            · rw [List.length_drop, htl] at h; exact .inl ⟨c, by omega⟩
          have hcase4 : (kv = 0 ∧ N = 0) ∨ (N ≠ 0 ∧ kv = (bs.getD 4 0).toNat ∧ kv < 1) ∨ (N ≠ 0 ∧ kv = (bs.getD 4 0).toNat ∧ ¬ kv < 1 ∧ 4 < kv) ∨ (N ≠ 0 ∧ kv = (bs.getD 4 0).toNat ∧ o2 = true ∧ p2 = 5 ∧ ¬ kv < 1 ∧ ¬ 4 < kv) := by
            rcases hcase with h | ⟨a, b, c, d⟩
            · exact .inl h
            · by_cases h1 : kv < 1
              · exact .inr (.inl ⟨a, b, h1⟩)
              · by_cases h2 : 4 < kv
                · exact .inr (.inr (.inl ⟨a, b, h1, h2⟩))
                · exact .inr (.inr (.inr ⟨a, b, c, d, h1, h2⟩))
          clear hcase hKd
          rcases hcase4 with ⟨rfl, hz⟩ | ⟨hz, hkv, hk1⟩ | ⟨hz, hkv, hk1, hk5⟩ | ⟨hz, hkv, rfl, rfl, hk1, hk5⟩
          · skip
            rw [if_pos hz] at hRR
            simp -dsimp only [go_sem, ↓reduceIte, rdr]
            refine hKK16 _ _ ?_
            try clear hKK16 KK16
            refine Lwp_seq fun KK17 hKK17 => ?_
            refine Lwp_seq fun KK18 hKK18 => ?_
            refine LregionG [none, none, none, some (61, false), some (61, false), none] (by kernel_rfl) (by kernel_rfl) ?_
            simp -dsimp only [go_sem, ↓reduceIte, rdr, Int.natCast_zero]
            repeat with_reducible refine And.intro (by first | omega | decide) ?_
            refine hKK18 _ _ ?_
            try clear hKK18 KK18
            refine Lwp_cond (by simp only [go_sem, ↓reduceIte, rdr]; rfl) (fun ht => ?_) (fun hf => ?_)
            · skip
              refine Lwp_seq fun KK19 hKK19 => ?_
              refine LregionG [none, none, none, none] (by kernel_rfl) (by kernel_rfl) ?_
              simp -dsimp only [go_sem, ↓reduceIte, rdr]
              repeat with_reducible refine And.intro (by first | omega | decide) ?_
              refine hKK19 _ _ ?_
              try clear hKK19 KK19
              refine Lwp_ret ?_
              simp only [LThen, LBlock, LPost, Tryz.results26]
              simp -dsimp only [go_sem, ↓reduceIte, rdr]
              refine ret_frame (Keeps.app _ _ _) (by simp only [go_sem, ↓reduceIte, LV.lt, ltL, ltLL, Bool.and_self]) ?_
              simp only [go_sem, ↓reduceIte]
              exact hRR _ rfl
            · skip
              cases hf
          · skip
            rw [if_neg hz, ← hkv] at hRR
            have hks : kSch (kv : Int) = none := by unfold kSch; rw [if_neg (by omega), if_neg (by omega), if_neg (by omega), if_neg (by omega)]
            rw [hks] at hRR
            have hk1i : (kv : Int) < 1 := by omega
            simp -dsimp only [go_sem, ↓reduceIte, rdr]
            refine hKK16 _ _ ?_
            try clear hKK16 KK16
            refine Lwp_seq fun KK20 hKK20 => ?_
            refine Lwp_seq fun KK21 hKK21 => ?_
            refine LregionG [none, none, none, some (61, false), some (61, false), none] (by kernel_rfl) (by kernel_rfl) ?_
            simp -dsimp only [go_sem, ↓reduceIte, rdr, hk1i, hk1]
            repeat with_reducible refine And.intro (by first | omega | decide) ?_
            refine hKK21 _ _ ?_
            try clear hKK21 KK21
            refine Lwp_cond (by simp only [go_sem, ↓reduceIte, rdr]; rfl) (fun ht => ?_) (fun hf => ?_)
            · skip
              refine Lwp_seq fun KK22 hKK22 => ?_
              refine LregionG [none, none, none, none] (by kernel_rfl) (by kernel_rfl) ?_
              simp -dsimp only [go_sem, ↓reduceIte, rdr]
              repeat with_reducible refine And.intro (by first | omega | decide) ?_
              refine hKK22 _ _ ?_
              try clear hKK22 KK22
              refine Lwp_ret ?_
              simp only [LThen, LBlock, LPost, Tryz.results26]
              simp -dsimp only [go_sem, ↓reduceIte, rdr]
              refine ret_frame (Keeps.app _ _ _) (by simp only [go_sem, ↓reduceIte, LV.lt, ltL, ltLL, Bool.and_self]) ?_
              simp only [go_sem, ↓reduceIte]
              exact hRR _ rfl
            · skip
              cases hf
          · skip
            rw [if_neg hz, ← hkv] at hRR
            have hks : kSch (kv : Int) = none := by unfold kSch; rw [if_neg (by omega), if_neg (by omega), if_neg (by omega), if_neg (by omega)]
            rw [hks] at hRR
            have hk1i : ¬ (kv : Int) < 1 := by omega
            have hk5i : (4 : Int) < kv := by omega
            simp -dsimp only [go_sem, ↓reduceIte, rdr]
            refine hKK16 _ _ ?_
            try clear hKK16 KK16
            refine Lwp_seq fun KK23 hKK23 => ?_
            refine Lwp_seq fun KK24 hKK24 => ?_
            refine LregionG [none, none, none, some (61, false), some (61, false), none] (by kernel_rfl) (by kernel_rfl) ?_
            simp -dsimp only [go_sem, ↓reduceIte, rdr, hk1i, hk5i, hk1, hk5]
            repeat with_reducible refine And.intro (by first | omega | decide) ?_
            refine hKK24 _ _ ?_
            try clear hKK24 KK24
            refine Lwp_cond (by simp only [go_sem, ↓reduceIte, rdr]; rfl) (fun ht => ?_) (fun hf => ?_)
            · skip
              refine Lwp_seq fun KK25 hKK25 => ?_
              refine LregionG [none, none, none, none] (by kernel_rfl) (by kernel_rfl) ?_
              simp -dsimp only [go_sem, ↓reduceIte, rdr]
              repeat with_reducible refine And.intro (by first | omega | decide) ?_
              refine hKK25 _ _ ?_
              try clear hKK25 KK25
              refine Lwp_ret ?_
              simp only [LThen, LBlock, LPost, Tryz.results26]
              simp -dsimp only [go_sem, ↓reduceIte, rdr]
              refine ret_frame (Keeps.app _ _ _) (by simp only [go_sem, ↓reduceIte, LV.lt, ltL, ltLL, Bool.and_self]) ?_
              simp only [go_sem, ↓reduceIte]
              exact hRR _ rfl
            · skip
              cases hf
          · skip
            rw [if_neg hz, ← hkv] at hRR
            obtain ⟨off, s, hks⟩ : ∃ off s, kSch (kv : Int) = some (off, s) := by
              unfold kSch
              by_cases a1 : (kv : Int) = 1
              · rw [if_pos a1]; exact ⟨_, _, rfl⟩
              · rw [if_neg a1]
                by_cases a2 : (kv : Int) = 2
                · rw [if_pos a2]; exact ⟨_, _, rfl⟩
                · rw [if_neg a2]
                  by_cases a3 : (kv : Int) = 3
                  · rw [if_pos a3]; exact ⟨_, _, rfl⟩
                  · rw [if_neg a3, if_pos (by omega)]; exact ⟨_, _, rfl⟩
            rw [hks] at hRR
            simp only [] at hRR
            have hk1i : ¬ (kv : Int) < 1 := by omega
            have hk5i : ¬ (4 : Int) < kv := by omega
            have e5 : IntKind.i64.wrap (kv : Int) = (kv : Int) := w64 (by omega) (by omega)
            have e6 : IntKind.i64.wrap (((N + 4 : Nat) : Int) + 4) = ((N + 8 : Nat) : Int) := by rw [w64 (by omega) (by omega)]; omega
            simp -dsimp only [go_sem, ↓reduceIte, rdr]
            refine hKK16 _ _ ?_
            try clear hKK16 KK16
            refine Lwp_seq fun KK26 hKK26 => ?_
            refine Lwp_seq fun KK27 hKK27 => ?_
            refine LregionG [none, none, none, some (61, false), some (61, false), none] (by kernel_rfl) (by kernel_rfl) ?_
            simp -dsimp only [go_sem, ↓reduceIte, rdr, hk1i, hk5i, hk1, hk5]
            repeat with_reducible refine And.intro (by first | omega | decide) ?_
            refine hKK27 _ _ ?_
            try clear hKK27 KK27
            refine Lwp_cond (by simp only [go_sem, ↓reduceIte, rdr]; rfl) (fun ht => ?_) (fun hf => ?_)
            · skip
              cases ht
            · skip
              refine Lwp_skip ?_
              try simp -dsimp only [go_sem, ↓reduceIte, rdr]
              refine hKK26 _ _ ?_
              try clear hKK26 KK26
              refine Lwp_seq fun KK28 hKK28 => ?_
              refine LregionG [none, none, none, none, none, none, none, none, none, none] (by kernel_rfl) (by kernel_rfl) ?_
              simp -dsimp only [go_sem, ↓reduceIte, rdr, e5]
              refine Pc.k' (Rest_ok hks g (bs.take (N + 4)) 5 true (by omega) (by omega)) ?_
              rintro _ ⟨p3, o3, us, pre, u', post, rfl, hp3, hokL, hg0, hus, hpre, hok, hG⟩
              have hlen := okLog_len hokL
              obtain ⟨htk, hov⟩ := log_take hokL
              have hW := walR_dec (s := s) (us := zs s) (bs := (bs.take (N + 4)).drop 5) ok_zs (wf_kSch hks)
              rw [htl] at hp3
              simp -dsimp only [go_sem, ↓reduceIte, rdr, rdr, hlen, hov, List.length_cons, List.length_nil]
              refine hKK28 _ _ ?_
              try clear hKK28 KK28
              refine Lwp_seq fun KK29 hKK29 => ?_
              refine Lwp_seq fun KK30 hKK30 => ?_
              refine LregionG [none, none, none, none, some (76, false), some (76, false), some (76, false), some (76, false), none] (by kernel_rfl) (by kernel_rfl) ?_
              simp -dsimp only [go_sem, ↓reduceIte, rdr]
              cases o3
              · skip
                simp -dsimp only [go_sem, ↓reduceIte]
                have hd : dec s ((bs.take (N + 4)).drop 5) = none := by
                  rcases hG with ⟨h, -⟩ | ⟨-, h | h⟩
                  · cases h
                  · cases h
                  · exact h
                rw [hd] at hW
                rw [if_pos (.inl hW)] at hRR
                refine hKK30 _ _ ?_
                try clear hKK30 KK30
                refine Lwp_cond (by simp only [go_sem, ↓reduceIte, rdr]; rfl) (fun ht => ?_) (fun hf => ?_)
                · skip
                  refine Lwp_seq fun KK31 hKK31 => ?_
                  refine LregionG [none, none, none, none] (by kernel_rfl) (by kernel_rfl) ?_
                  simp -dsimp only [go_sem, ↓reduceIte, rdr]
                  repeat with_reducible refine And.intro (by first | omega | decide) ?_
                  refine hKK31 _ _ ?_
                  try clear hKK31 KK31
                  refine Lwp_ret ?_
                  simp only [LThen, LBlock, LPost, Tryz.results26]
                  simp -dsimp only [go_sem, ↓reduceIte, rdr]
                  refine ret_frame (Keeps.app _ _ _) (by simp only [go_sem, ↓reduceIte, LV.lt, ltL, ltLL, Bool.and_self]) ?_
                  simp only [go_sem, ↓reduceIte]
                  exact hRR _ rfl
                · skip
                  cases hf
              · skip
                simp -dsimp only [go_sem, ↓reduceIte]
                have hd : dec s ((bs.take (N + 4)).drop 5) = some (nz s u', (bs.take (N + 4)).drop p3) := by
                  rcases hG with ⟨-, -, h⟩ | ⟨h, -⟩
                  · exact h
                  · cases h
                rw [hd] at hW
                have hW' : wal rR s (zs s) (((bs.take (N + 4)).drop 5, false) : List UInt8 × Bool) = (nz s u', (((bs.take (N + 4)).drop p3, false) : List UInt8 × Bool)) := hW
                rw [hW'] at hRR
                have hrl : ((bs.take (N + 4)).drop p3).length = N + 4 - p3 := by rw [List.length_drop, htl]
                refine hKK30 _ _ ?_
                try clear hKK30 KK30
                refine Lwp_cond (by simp only [go_sem, ↓reduceIte, rdr]; rfl) (fun ht => ?_) (fun hf => ?_)
                · skip
                  have hne2 : p3 ≠ N + 4 := by simp at ht; omega
                  rw [if_pos (.inr (by rw [hrl]; omega))] at hRR
                  refine Lwp_seq fun KK32 hKK32 => ?_
                  refine LregionG [none, none, none, none] (by kernel_rfl) (by kernel_rfl) ?_
                  simp -dsimp only [go_sem, ↓reduceIte, rdr]
                  repeat with_reducible refine And.intro (by first | omega | decide) ?_
                  refine hKK32 _ _ ?_
                  try clear hKK32 KK32
                  refine Lwp_ret ?_
                  simp only [LThen, LBlock, LPost, Tryz.results26]
                  simp -dsimp only [go_sem, ↓reduceIte, rdr]
                  refine ret_frame (Keeps.app _ _ _) (by simp only [go_sem, ↓reduceIte, LV.lt, ltL, ltLL, Bool.and_self]) ?_
                  simp only [go_sem, ↓reduceIte]
                  exact hRR _ rfl
                · skip
                  have he2 : p3 = N + 4 := by simp at hf; omega
                  rw [if_neg (by rw [hrl]; rintro (h | h); cases h; omega)] at hRR
                  refine Lwp_skip ?_
                  try simp -dsimp only [go_sem, ↓reduceIte, rdr]
                  refine hKK29 _ _ ?_
                  try clear hKK29 KK29
                  refine Lwp_seq fun KK33 hKK33 => ?_
                  refine LregionG [none, none, none, none, none, none] (by kernel_rfl) (by kernel_rfl) ?_
                  simp -dsimp only [go_sem, ↓reduceIte, rdr, e6, hlen, htk, hov, List.length_cons, List.length_nil]
                  repeat with_reducible refine And.intro (by first | omega | decide) ?_
                  refine hKK33 _ _ ?_
                  try clear hKK33 KK33
                  refine Lwp_ret ?_
                  simp only [LThen, LBlock, LPost, Tryz.results26]
                  simp -dsimp only [go_sem, ↓reduceIte, rdr]
                  refine ⟨by omega, ?_⟩
                  rw [htk]
                  refine ret_frame (Keeps.app _ _ _) (by simp only [go_sem, ↓reduceIte, LV.lt, ltL, ok_frz hokL, ok_lt hokL, hlen, htk, Bool.and_self]) ?_
                  simp only [go_sem, ↓reduceIte, ok_frz hokL, hlen, htk]
                  exact hRR _ ⟨us, pre, u', post, rfl, hokL, hg0, hus, hpre, hok, rfl⟩

end Go.Proofs.YtdhngmldmalbbaaGreat
end
section
set_option linter.all false
namespace Go.Proofs.YtdhngmldmalbbaaGreat
open Go.Lift Go.RowKit Go.Store
set_option linter.unusedSimpArgs false
set_option linter.unusedVariables false

/-! ### Two readings of the same bytes -/
theorem decN_enc {e : Sch} (he : ∀ (bs : List UInt8) (us : List LV) (r : List UInt8), dec e bs = some (us, r) → (enc e us).length + r.length = bs.length) : ∀ (n : Nat) (bs : List UInt8) (xs : List (List LV)) (r : List UInt8), decN (dec e) n bs = some (xs, r) → (xs.flatMap (enc e)).length + r.length = bs.length
  | 0, bs, xs, r, h => by simp only [decN, Option.some.injEq, Prod.mk.injEq] at h; obtain ⟨rfl, rfl⟩ := h; simp
  | n + 1, bs, xs, r, h => by
    simp only [decN] at h
    cases h1 : dec e bs with
    | none => rw [h1] at h; cases h
    | some p =>
      obtain ⟨x, b⟩ := p
      rw [h1] at h
      simp only [] at h
      cases h2 : decN (dec e) n b with
      | none => rw [h2] at h; cases h
      | some q =>
        obtain ⟨ys, b2⟩ := q
        rw [h2] at h
        simp only [Option.some.injEq, Prod.mk.injEq] at h
        obtain ⟨rfl, rfl⟩ := h
        have a1 := he _ _ _ h1
        have a2 := decN_enc he n b ys b2 h2
        simp only [List.flatMap_cons, List.length_append]; omega
theorem dec_enc : ∀ {s : Sch} {bs : List UInt8} {us : List LV} {r : List UInt8}, dec s bs = some (us, r) → (enc s us).length + r.length = bs.length
  | .nil, bs, us, r, h => by simp only [dec, Option.some.injEq, Prod.mk.injEq] at h; obtain ⟨rfl, rfl⟩ := h; simp [enc]
  | .int t, bs, us, r, h => by
    by_cases hb : 8 ≤ bs.length
    · simp only [dec, take'_some hb] at h
      obtain ⟨vs, h1, rfl⟩ := cons'_len h
      have := dec_enc h1
      rw [List.length_drop] at this; simp only [enc, List.length_append, be_length]; omega
    · simp only [dec, take'_none (by omega : bs.length < 8)] at h; cases h
  | .word t, bs, us, r, h => by
    by_cases hb : 8 ≤ bs.length
    · simp only [dec, take'_some hb] at h
      obtain ⟨vs, h1, rfl⟩ := cons'_len h
      have := dec_enc h1
      rw [List.length_drop] at this; simp only [enc, List.length_append, be_length]; omega
    · simp only [dec, take'_none (by omega : bs.length < 8)] at h; cases h
  | .bool t, bs, us, r, h => by
    by_cases hb : 1 ≤ bs.length
    · simp only [dec, take'_some hb] at h
      split at h
      · obtain ⟨vs, h1, rfl⟩ := cons'_len h
        have := dec_enc h1
        rw [List.length_drop] at this; simp only [enc, List.length_cons]; omega
      · cases h
    · simp only [dec, take'_none (by omega : bs.length < 1)] at h; cases h
  | .str t, bs, us, r, h => by
    by_cases hb : 4 ≤ bs.length
    · simp only [dec, take'_some hb] at h
      by_cases hc : num (bs.take 4) ≤ (bs.drop 4).length
      · simp only [take'_some hc] at h
        obtain ⟨vs, h1, rfl⟩ := cons'_len h
        have := dec_enc h1
        have e : (strOf ((bs.drop 4).take (num (bs.take 4)))).data.toList.length = num (bs.take 4) := by simp only [strOf]; rw [List.length_take]; omega
        rw [List.length_drop, List.length_drop] at this
        rw [List.length_drop] at hc
        simp only [enc, List.length_append, be_length, e]; omega
      · simp only [take'_none (by omega : (bs.drop 4).length < num (bs.take 4))] at h; cases h
    · simp only [dec, take'_none (by omega : bs.length < 4)] at h; cases h
  | .sl e t, bs, us, r, h => by
    by_cases hb : 4 ≤ bs.length
    · simp only [dec, take'_some hb] at h
      cases h1 : decN (dec e) (num (bs.take 4)) (bs.drop 4) with
      | none => rw [h1] at h; cases h
      | some p =>
        obtain ⟨xs, b⟩ := p
        rw [h1] at h
        obtain ⟨vs, h2, rfl⟩ := cons'_len h
        have a1 := decN_enc (fun _ _ _ h => dec_enc h) _ _ _ _ h1
        have a2 := dec_enc h2
        rw [List.length_drop] at a1; simp only [enc, List.length_append, be_length]; omega
    · simp only [dec, take'_none (by omega : bs.length < 4)] at h; cases h
theorem decS_inr2 {bs : List UInt8} {k : Int} {off n : Nat} {s : Sch} {p : List LV} (h : decS bs = .inr (k, off, s, p, n)) : kSch k = some (off, s) ∧ (enc s p).length ≤ 1048576 := by
  unfold decS at h
  by_cases h1 : bs.length < 4
  · rw [if_pos h1] at h; cases h
  rw [if_neg h1] at h
  by_cases h2 : 1048576 < num (bs.take 4) + 8
  · rw [if_pos h2] at h; cases h
  rw [if_neg h2] at h
  by_cases h3 : bs.length < num (bs.take 4) + 8
  · rw [if_pos h3] at h; cases h
  rw [if_neg h3] at h
  by_cases h4 : chkN (bs.take (num (bs.take 4) + 4)) ≠ num ((bs.drop (num (bs.take 4) + 4)).take 4)
  · rw [if_pos h4] at h; cases h
  rw [if_neg h4] at h
  by_cases h5 : num (bs.take 4) = 0
  · rw [if_pos h5] at h; cases h
  rw [if_neg h5] at h
  split at h
  · cases h
  · rename_i off' s' hks
    split at h
    · cases h
    · rename_i hnb
      simp only [Sum.inr.injEq, Prod.mk.injEq] at h
      obtain ⟨rfl, rfl, rfl, rfl, rfl⟩ := h
      refine ⟨hks, ?_⟩
      have hW := walR_dec (s := s') (us := zs s') (bs := (bs.take (num (bs.take 4) + 4)).drop 5) ok_zs (wf_kSch hks)
      cases hd : dec s' ((bs.take (num (bs.take 4) + 4)).drop 5) with
      | none => rw [hd] at hW; exact absurd (.inl hW) hnb
      | some q =>
        obtain ⟨us, rest⟩ := q
        rw [hd] at hW
        have hW' : wal rR s' (zs s') (((bs.take (num (bs.take 4) + 4)).drop 5, false) : List UInt8 × Bool) = (us, ((rest, false) : List UInt8 × Bool)) := hW
        rw [hW']
        have := dec_enc hd
        rw [List.length_drop, List.length_take] at this
        show (enc s' us).length ≤ _
        omega
/-- what two readings of the same bytes give. -/
theorem dec_two {bs : List UInt8} {r1 r2 : LV} (h1 : DecO (decS bs) r1) (h2 : DecO (decS bs) r2) : ∃ (us vs : List LV) (n e : Int), r1 = .tup [.agg us, V n, V e] ∧ r2 = .tup [.agg vs, V n, V e] ∧ ok sLog us ∧ ok sLog vs ∧ sameE us vs = true ∧ (∀ b, bodyE us = some b → b.length ≤ 1048577) ∧ (∀ b, bodyE vs = some b → b.length ≤ 1048577) ∧ (e = 0 → 8 ≤ n ∧ n ≤ bs.length) ∧ (e = 0 ∨ ∃ e', decS bs = .inl e') := by
  cases hd : decS bs with
  | inl e =>
    rw [hd] at h1 h2
    have hz : bodyE (zs sLog) = none := bodyE_none (k := 0) rfl rfl
    refine ⟨zs sLog, zs sLog, 0, e, h1, h2, ok_zs, ok_zs, ?_, (fun b hb => by rw [hz] at hb; cases hb), (fun b hb => by rw [hz] at hb; cases hb), fun h => absurd h (decS_inl hd), .inr ⟨e, rfl⟩⟩
    unfold sameE; rw [hz]; rfl
  | inr q =>
    obtain ⟨k, off, s, p, n⟩ := q
    obtain ⟨hks, hl⟩ := decS_inr2 hd
    obtain ⟨hn8, hn, -⟩ := decS_inr hd
    rw [hd] at h1 h2
    obtain ⟨us, pre, u', post, rfl, hok, hg, hus, hpre, hu, hz⟩ := h1
    obtain ⟨vs, pre2, v', post2, rfl, hok2, hg2, hvs, hpre2, hv, hz2⟩ := h2
    have e1 : bodyE us = some (b8 k :: enc s p) := by rw [bodyE_some hg hks hus hpre hu, ← hz, enc_nz hu]
    have e2 : bodyE vs = some (b8 k :: enc s p) := by rw [bodyE_some hg2 hks hvs hpre2 hv, ← hz2, enc_nz hv]
    refine ⟨us, vs, n, 0, rfl, rfl, hok, hok2, ?_, (fun b hb => by rw [e1] at hb; cases hb; simp; omega), (fun b hb => by rw [e2] at hb; cases hb; simp; omega), fun _ => ⟨by omega, by omega⟩, .inl rfl⟩
    unfold sameE; rw [e1, e2, hg, hg2]; simp
/-- an entry that was made, under another kind. -/
theorem ent_kind {us : List LV} (h : EntOk us) {k : Int} (hk : isI k) : ok sLog (V k :: us.drop 1) ∧ ∀ b, bodyE (V k :: us.drop 1) = some b → b.length ≤ 5000 := by
  obtain ⟨k0, now, st, nm, it, pe, cy, rfl, h0, h1⟩ := h
  have hE : ∀ k' : Int, 1 ≤ k' ∧ k' ≤ 4 → EntOk ([V k', V now] ++ it ++ [V st, .str nm] ++ pe ++ cy) := fun k' hk' => ⟨k', now, st, nm, it, pe, cy, rfl, hk', h1⟩
  have e0 : ∀ k' : Int, V k' :: ([V k0, V now] ++ it ++ [V st, .str nm] ++ pe ++ cy).drop 1 = [V k', V now] ++ it ++ [V st, .str nm] ++ pe ++ cy := fun k' => by simp
  rw [e0]
  have hok0 := EntOk_ok (hE 1 ⟨by decide, by decide⟩)
  refine ⟨?_, fun b hb => ?_⟩
  · have : [V 1, V now] ++ it ++ [V st, .str nm] ++ pe ++ cy = V 1 :: (V now :: it ++ [V st, .str nm] ++ pe ++ cy) := by simp
    rw [this] at hok0
    have e2 : [V k, V now] ++ it ++ [V st, .str nm] ++ pe ++ cy = V k :: (V now :: it ++ [V st, .str nm] ++ pe ++ cy) := by simp
    rw [e2]
    exact ⟨rfl, hk.1, hk.2, hok0.2.2.2⟩
  · by_cases hr : 1 ≤ k ∧ k ≤ 4
    · obtain ⟨body, hb2, hl⟩ := ent_body (hE k hr)
      rw [hb2] at hb; cases hb; exact hl
    · have hn : bodyE ([V k, V now] ++ it ++ [V st, .str nm] ++ pe ++ cy) = none := bodyE_none (k := k) rfl (by unfold kSch; rw [if_neg (by omega), if_neg (by omega), if_neg (by omega), if_neg (by omega)])
      rw [hn] at hb; cases hb

end Go.Proofs.YtdhngmldmalbbaaGreat
end
section
set_option linter.all false
namespace Go.Proofs.YtdhngmldmalbbaaGreat
open Go.Lift Go.RowKit Go.Store
set_option linter.unusedSimpArgs false
set_option linter.unusedVariables false

/-- a new row where a call ends that keeps nothing. -/
theorem NewR.ret {S S' : LS} {bs : List UInt8} {u : LV} {R : LV → LS → Prop} (h : NewR S bs u S') (hR : ∀ g, R (.sl g (bs.map u8c)) S) : RetOk 1 S R S' u := by
  refine ret_frame h.2.1 ?_ ?_ <;> rcases h.acc.rd with ⟨g, rfl⟩ | ⟨id, rfl, hid⟩
  · simp only [frz_sl, LV.lt]; exact lt_u8c _
  · have hid' : ¬ id < S.length := by have := (h.2.2.1 id (by simp [rowIds])).elim (fun h => by simp [rowIds] at h) (fun h => h); omega
    rw [frz_ref, if_neg hid', hid]
    simp only [Nat.zero_add, List.length_map, Nat.le_refl, if_true, List.drop_zero]
    rw [List.take_of_length_le (by simp), map_frz0]
    simp only [LV.lt]; exact lt_u8c _
  · simp only [frz_sl]; exact hR g
  · have hid' : ¬ id < S.length := by have := (h.2.2.1 id (by simp [rowIds])).elim (fun h => by simp [rowIds] at h) (fun h => h); omega
    rw [frz_ref, if_neg hid', hid]
    simp only [Nat.zero_add, List.length_map, Nat.le_refl, if_true, List.drop_zero]
    rw [List.take_of_length_le (by simp), map_frz0]
    exact hR false

set_option maxHeartbeats 400000 in
theorem CutP (f : Bool) (bs : List UInt8) (n : Int) (hl : bs.length ≤ 140737488355328) : Pc 10 [.sl f (bs.map u8c), V n] (fun r => ∃ g, r = .sl g ((bs.take (bs.length - n.toNat)).map u8c)) := by
  refine Pc_intro 1 Tryz.func10 rfl (by kernel_rfl) rfl fun S RR hRR => ?_
  have e1 : IntKind.i64.wrap ((bs.length : Int) - if (bs.length : Int) < if 0 > n then 0 else n then (bs.length : Int) else if 0 > n then 0 else n) = ((bs.length - n.toNat : Nat) : Int) := by
    rw [w64 (by split <;> split <;> omega) (by split <;> split <;> omega)]
    split <;> split at * <;> omega
  refine Lwp_seq fun KK0 hKK0 => ?_
  refine LregionG [none] (by kernel_rfl) (by kernel_rfl) ?_
  simp -dsimp only [go_sem, ↓reduceIte]
  repeat with_reducible refine And.intro (by first | omega | decide) ?_
  refine hKK0 _ _ ?_
  try clear hKK0 KK0
  refine Lwp_seq fun KK1 hKK1 => ?_
  refine LregionG [none, none, none, none, none, none, none, none, none, none, none, none] (by kernel_rfl) (by kernel_rfl) ?_
  simp -dsimp only [go_sem, ↓reduceIte, e1]
  refine ⟨⟨by omega, head_u8 bs⟩, ?_⟩
  rw [show List.take (bs.length - n.toNat - 0) (List.map u8c bs) = List.map u8c (bs.take (bs.length - n.toNat)) by rw [Nat.sub_zero, List.map_take]]
  refine LCalls.k (Clone_ok (.inl ⟨_, rfl⟩) (by simp; omega)) ?_
  rintro r S1 hp
  simp -dsimp only [go_sem, ↓reduceIte]
  refine hKK1 _ _ ?_
  try clear hKK1 KK1
  refine Lwp_ret ?_
  simp only [LThen, LBlock, LPost, Tryz.results10]
  simp -dsimp only [go_sem, ↓reduceIte]
  exact hp.ret fun g => hRR _ ⟨g, rfl⟩

set_option maxHeartbeats 400000 in
theorem RCutP (f : Bool) (bs : List UInt8) (n : Int) (hn : isI n) (hl : bs.length ≤ 140737488355328) : Pc 15 [.sl f (bs.map u8c), V n] (fun r => ∃ g, r = .sl g ((bs.take (bs.length - n.toNat)).map u8c)) := by
  refine Pc_intro 1 Tryz.func15 rfl (by kernel_rfl) rfl fun S RR hRR => ?_
  refine Lwp_seq fun KK0 hKK0 => ?_
  refine LregionG [none] (by kernel_rfl) (by kernel_rfl) ?_
  simp -dsimp only [go_sem, ↓reduceIte]
  repeat with_reducible refine And.intro (by first | omega | decide) ?_
  refine hKK0 _ _ ?_
  try clear hKK0 KK0
  refine Lwp_seq fun KK1 hKK1 => ?_
  refine Lwp_seq fun KK2 hKK2 => ?_
  refine LregionG [none, none] (by kernel_rfl) (by kernel_rfl) ?_
  simp -dsimp only [go_sem, ↓reduceIte]
  repeat with_reducible refine And.intro (by first | omega | decide) ?_
  refine hKK2 _ _ ?_
  try clear hKK2 KK2
  refine Lwp_cond (by simp only [go_sem, ↓reduceIte]; rfl) (fun ht => ?_) (fun hf => ?_)
  · skip
    have h1 : n < 1 := by simpa using ht
    have e0 : bs.take (bs.length - n.toNat) = bs := List.take_of_length_le (by omega)
    rw [e0] at hRR
    refine Lwp_seq fun KK3 hKK3 => ?_
    refine LregionG [none, none, none] (by kernel_rfl) (by kernel_rfl) ?_
    simp -dsimp only [go_sem, ↓reduceIte]
    repeat with_reducible refine And.intro (by first | omega | decide | assumption) ?_
    refine PutR.apd (zs := bs) (NewR.nil S) rfl (by simp only [go_sem]; rfl) (by simp only [go_sem]; first | exact ⟨rfl, rfl⟩ | exact ⟨rfl, rfl, rfl⟩ | rfl) (by simp only [go_sem]) (by simp only [go_sem, ↓reduceIte]) (by simp only [go_sem, ↓reduceIte]) (by simp only [List.length_nil, List.length_take]; omega) ?_
    rintro r1 S1 hp
    simp -dsimp only [go_sem, ↓reduceIte]
    refine hKK3 _ _ ?_
    try clear hKK3 KK3
    refine Lwp_ret ?_
    simp only [LThen, LBlock, LPost, Tryz.results15]
    simp -dsimp only [go_sem, ↓reduceIte]
    exact NewR.ret hp fun g => hRR _ ⟨g, rfl⟩
  · skip
    have h1 : ¬ n < 1 := by simpa using hf
    refine Lwp_skip ?_
    try simp -dsimp only [go_sem, ↓reduceIte]
    refine hKK1 _ _ ?_
    try clear hKK1 KK1
    refine Lwp_seq fun KK4 hKK4 => ?_
    refine Lwp_seq fun KK5 hKK5 => ?_
    refine LregionG [none, none, none, none] (by kernel_rfl) (by kernel_rfl) ?_
    simp -dsimp only [go_sem, ↓reduceIte]
    repeat with_reducible refine And.intro (by first | omega | decide) ?_
    refine hKK5 _ _ ?_
    try clear hKK5 KK5
    refine Lwp_cond (by simp only [go_sem, ↓reduceIte]; rfl) (fun ht => ?_) (fun hf => ?_)
    · skip
      have h2 : (bs.length : Int) < n := by simpa using ht
      have e0 : bs.take (bs.length - n.toNat) = [] := by rw [show bs.length - n.toNat = 0 by omega]; rfl
      rw [e0] at hRR
      refine Lwp_seq fun KK6 hKK6 => ?_
      refine LregionG [none] (by kernel_rfl) (by kernel_rfl) ?_
      simp -dsimp only [go_sem, ↓reduceIte]
      repeat with_reducible refine And.intro (by first | omega | decide) ?_
      refine hKK6 _ _ ?_
      try clear hKK6 KK6
      refine Lwp_ret ?_
      simp only [LThen, LBlock, LPost, Tryz.results15]
      simp -dsimp only [go_sem, ↓reduceIte]
      refine ret_self (by simp only [go_sem, ↓reduceIte, LV.lt, ltLL]) ?_
      simp only [go_sem, ↓reduceIte]
      exact hRR _ ⟨true, rfl⟩
    · skip
      have h2 : ¬ (bs.length : Int) < n := by simpa using hf
      have e1 : IntKind.i64.wrap ((bs.length : Int) - n) = ((bs.length - n.toNat : Nat) : Int) := by
        obtain ⟨a, b⟩ := hn
        rw [w64 (by omega) (by omega)]; omega
      refine Lwp_skip ?_
      try simp -dsimp only [go_sem, ↓reduceIte]
      refine hKK4 _ _ ?_
      try clear hKK4 KK4
      refine Lwp_seq fun KK7 hKK7 => ?_
      refine LregionG [none, none, none, none, none, none, none, none] (by kernel_rfl) (by kernel_rfl) ?_
      simp -dsimp only [go_sem, ↓reduceIte, e1]
      refine ⟨⟨by omega, head_u8 bs⟩, ?_⟩
      rw [show List.take (bs.length - n.toNat - 0) (List.map u8c bs) = List.map u8c (bs.take (bs.length - n.toNat)) by rw [Nat.sub_zero, List.map_take]]
      repeat with_reducible refine And.intro (by first | omega | decide | assumption) ?_
      refine PutR.apd (zs := bs.take (bs.length - n.toNat)) (NewR.nil S) rfl (by simp only [go_sem]; rfl) (by simp only [go_sem]; first | exact ⟨rfl, rfl⟩ | exact ⟨rfl, rfl, rfl⟩ | rfl) (by simp only [go_sem]) (by simp only [go_sem, ↓reduceIte]) (by simp only [go_sem, ↓reduceIte]) (by simp only [List.length_nil, List.length_take]; omega) ?_
      rintro r1 S1 hp
      simp -dsimp only [go_sem, ↓reduceIte]
      refine hKK7 _ _ ?_
      try clear hKK7 KK7
      refine Lwp_ret ?_
      simp only [LThen, LBlock, LPost, Tryz.results15]
      simp -dsimp only [go_sem, ↓reduceIte]
      exact NewR.ret hp fun g => hRR _ ⟨g, rfl⟩

set_option maxHeartbeats 400000 in
theorem ModP (x n : Int) (hx : isI x) (hn : 1 ≤ n ∧ n ≤ 1000000000) : Pc 11 [V x, V n] (fun r => ∃ v, r = V v ∧ 0 ≤ v ∧ v < n) := by
  refine Pc_intro 1 Tryz.func11 rfl (by kernel_rfl) rfl fun S RR hRR => ?_
  have h1 : ¬ n < 1 := by omega
  have h0 : ¬ n = 0 := by omega
  have ht1 := Int.tmod_lt_of_pos x (show 0 < n by omega)
  have ht2 := Int.tmod_lt_of_pos (-x) (show 0 < n by omega)
  rw [Int.neg_tmod] at ht2
  refine Lwp_seq fun KK0 hKK0 => ?_
  refine LregionG [none] (by kernel_rfl) (by kernel_rfl) ?_
  simp -dsimp only [go_sem, ↓reduceIte]
  repeat with_reducible refine And.intro (by first | omega | decide) ?_
  refine hKK0 _ _ ?_
  try clear hKK0 KK0
  refine Lwp_seq fun KK1 hKK1 => ?_
  refine Lwp_seq fun KK2 hKK2 => ?_
  refine LregionG [none, none] (by kernel_rfl) (by kernel_rfl) ?_
  simp -dsimp only [go_sem, ↓reduceIte, h1]
  repeat with_reducible refine And.intro (by first | omega | decide) ?_
  refine hKK2 _ _ ?_
  try clear hKK2 KK2
  refine Lwp_cond (by simp only [go_sem, ↓reduceIte]; rfl) (fun ht => ?_) (fun hf => ?_)
  · skip
    cases ht
  · skip
    refine Lwp_skip ?_
    try simp -dsimp only [go_sem, ↓reduceIte]
    refine hKK1 _ _ ?_
    try clear hKK1 KK1
    refine Lwp_seq fun KK3 hKK3 => ?_
    refine LregionG [none, none, none, none] (by kernel_rfl) (by kernel_rfl) ?_
    simp -dsimp only [go_sem, ↓reduceIte, h0]
    repeat with_reducible refine And.intro (by first | omega | decide) ?_
    refine hKK3 _ _ ?_
    try clear hKK3 KK3
    refine Lwp_seq fun KK4 hKK4 => ?_
    refine Lwp_seq fun KK5 hKK5 => ?_
    refine LregionG [none, none] (by kernel_rfl) (by kernel_rfl) ?_
    simp -dsimp only [go_sem, ↓reduceIte]
    repeat with_reducible refine And.intro (by first | omega | decide) ?_
    refine hKK5 _ _ ?_
    try clear hKK5 KK5
    refine Lwp_cond (by simp only [go_sem, ↓reduceIte]; rfl) (fun ht => ?_) (fun hf => ?_)
    · skip
      have h2 : x.tmod n < 0 := by simpa using ht
      have e1 : IntKind.i64.wrap (x.tmod n + n) = x.tmod n + n := w64 (by omega) (by omega)
      refine LregionG [none, none, none, none] (by kernel_rfl) (by kernel_rfl) ?_
      simp -dsimp only [go_sem, ↓reduceIte, e1]
      repeat with_reducible refine And.intro (by first | omega | decide) ?_
      refine hKK4 _ _ ?_
      try clear hKK4 KK4
      refine Lwp_seq fun KK6 hKK6 => ?_
      refine LregionG [none, none] (by kernel_rfl) (by kernel_rfl) ?_
      simp -dsimp only [go_sem, ↓reduceIte]
      repeat with_reducible refine And.intro (by first | omega | decide) ?_
      refine hKK6 _ _ ?_
      try clear hKK6 KK6
      refine Lwp_ret ?_
      simp only [LThen, LBlock, LPost, Tryz.results11]
      simp -dsimp only [go_sem, ↓reduceIte]
      refine ret_self (by simp only [go_sem, ↓reduceIte, LV.lt]) ?_
      simp only [go_sem, ↓reduceIte]
      exact hRR _ ⟨_, rfl, by omega, by omega⟩
    · skip
      have h2 : ¬ x.tmod n < 0 := by simpa using hf
      refine Lwp_skip ?_
      try simp -dsimp only [go_sem, ↓reduceIte]
      refine hKK4 _ _ ?_
      try clear hKK4 KK4
      refine Lwp_seq fun KK7 hKK7 => ?_
      refine LregionG [none, none] (by kernel_rfl) (by kernel_rfl) ?_
      simp -dsimp only [go_sem, ↓reduceIte]
      repeat with_reducible refine And.intro (by first | omega | decide) ?_
      refine hKK7 _ _ ?_
      try clear hKK7 KK7
      refine Lwp_ret ?_
      simp only [LThen, LBlock, LPost, Tryz.results11]
      simp -dsimp only [go_sem, ↓reduceIte]
      refine ret_self (by simp only [go_sem, ↓reduceIte, LV.lt]) ?_
      simp only [go_sem, ↓reduceIte]
      exact hRR _ ⟨_, rfl, by omega, by omega⟩

end Go.Proofs.YtdhngmldmalbbaaGreat
end
section
set_option linter.all false
namespace Go.Proofs.YtdhngmldmalbbaaGreat
open Go.Lift Go.RowKit Go.Store
set_option linter.unusedSimpArgs false
set_option linter.unusedVariables false
set_option maxHeartbeats 400000 in
theorem RAppend_ok {S : LS} (g : Bool) (bs : List UInt8) (f : Bool) (es : List (List LV)) (hes : ∀ e ∈ es, ok sLog e ∧ ∀ b, bodyE e = some b → b.length ≤ 1000000000) (hl : bs.length + es.length * 1048576 ≤ 140737488355328) : LCalls Tryz.prog 9 [.sl g (bs.map u8c), .sl f es] S (AppR bs es S) := by
  refine LCalls_introK 0 Tryz.func9 rfl (by kernel_rfl) rfl fun RR hRR => ?_
  unfold AppR at hRR
  refine Lwp_seq fun KK0 hKK0 => ?_
  refine LregionG [none, none] (by kernel_rfl) (by kernel_rfl) ?_
  simp -dsimp only [go_sem, ↓reduceIte]
  repeat with_reducible refine And.intro (by first | omega | decide) ?_
  refine hKK0 _ _ ?_
  try clear hKK0 KK0
  refine Lwp_seq fun KK1 hKK1 => ?_
  refine LregionG [none, none, none] (by kernel_rfl) (by kernel_rfl) ?_
  simp -dsimp only [go_sem, ↓reduceIte]
  repeat with_reducible refine And.intro (by first | omega | decide | assumption) ?_
  refine PutR.apd (zs := bs) (NewR.nil S) rfl (by simp only [go_sem]; rfl) (by simp only [go_sem]; first | exact ⟨rfl, rfl⟩ | exact ⟨rfl, rfl, rfl⟩ | rfl) (by simp only [go_sem]) (by simp only [go_sem, ↓reduceIte]) (by simp only [go_sem, ↓reduceIte]) (by simp only [List.length_nil]; omega) ?_
  rintro r0 S0 hp0
  simp only [List.nil_append] at hp0
  simp -dsimp only [go_sem, ↓reduceIte]
  refine hKK1 _ _ ?_
  try clear hKK1 KK1
  refine Lwp_seq fun KK2 hKK2 => ?_
  refine Lwp_seq fun KK3 hKK3 => ?_
  refine LregionG [none] (by kernel_rfl) (by kernel_rfl) ?_
  simp -dsimp only [go_sem, ↓reduceIte]
  repeat with_reducible refine And.intro (by first | omega | decide) ?_
  refine hKK3 _ _ ?_
  try clear hKK3 KK3
  refine Lwp_block ?_
  refine Lwp_loopK [6, 7, 1] (fun m us S1 => ∃ (k : Nat) (r : LV) (ys : List UInt8), us = [r, V k, .sl f es] ∧ k ≤ es.length ∧ appO (es.take k) = .inr ys ∧ NewR S (bs ++ ys) r S1 ∧ m = es.length - k) es.length rfl (⟨0, r0, [], by simp only [go_sem, ↓reduceIte]; rfl, Nat.zero_le _, rfl, by rw [List.append_nil]; exact hp0, rfl⟩) ?_
  rintro m us S2 ⟨k, r, ys, rfl, hk, hys, hp, hm⟩ II hII
  refine Lwp_seq fun KK4 hKK4 => ?_
  refine Lwp_seq fun KK5 hKK5 => ?_
  refine LregionG [none, none, none, none] (by kernel_rfl) (by kernel_rfl) ?_
  simp -dsimp only [go_sem, ↓reduceIte]
  repeat with_reducible refine And.intro (by first | omega | decide) ?_
  refine hKK5 _ _ ?_
  try clear hKK5 KK5
  refine Lwp_cond (by simp only [go_sem, ↓reduceIte]; rfl) (fun ht => ?_) (fun hf => ?_)
  · skip
    have hk' : k < es.length := by simpa using ht
    obtain ⟨x, hxe⟩ : ∃ x, x = es.getD k [] := ⟨_, rfl⟩
    have hmem : x ∈ es := by rw [hxe, List.getD_eq_getElem?_getD, List.getElem?_eq_getElem hk']; exact List.getElem_mem hk'
    obtain ⟨hok, hbl⟩ := hes x hmem
    have hlen := okLog_len hok
    have htk : x.take 38 = x := List.take_of_length_le (by omega)
    have hts : es.take (k + 1) = es.take k ++ [x] := by rw [List.take_succ_eq_append_getElem hk', hxe, List.getD_eq_getElem?_getD, List.getElem?_eq_getElem hk']; rfl
    have hdr : es = es.take (k + 1) ++ es.drop (k + 1) := (List.take_append_drop _ _).symm
    have e6 : IntKind.i64.wrap ((k : Int) + 1) = ((k + 1 : Nat) : Int) := by rw [w64 (by omega) (by omega)]; rfl
    have hyl := appO_len hys
    rw [List.length_take] at hyl
    have hap := appO_snoc (us := x) hys
    rw [← hts] at hap
    refine Lwp_skip ?_
    try simp -dsimp only [go_sem, ↓reduceIte]
    refine hKK4 _ _ ?_
    try clear hKK4 KK4
    refine Lwp_seq fun KK6 hKK6 => ?_
    refine Lwp_block ?_
    refine Lwp_seq fun KK7 hKK7 => ?_
    refine LregionG [none, none, none, none, none, none, none, none, none, none] (by kernel_rfl) (by kernel_rfl) ?_
    simp -dsimp only [go_sem, ↓reduceIte, ← hxe, hk', hlen, htk, Nat.le_refl]
    refine LCalls.k (Encode_ok x hok (fun b hb => by have := hbl b hb; omega)) ?_
    rintro r1 S4 hr
    rcases hr.cs with ⟨e, hE, he0, rfl, hK4⟩ | ⟨b, u1, hE, rfl, hN⟩
    · skip
      rw [hE] at hap
      simp only [] at hap
      have hall := appO_err (l := es.drop (k + 1)) hap
      rw [← hdr] at hall
      rw [hall] at hRR
      simp -dsimp only [go_sem, ↓reduceIte]
      refine hKK7 _ _ ?_
      try clear hKK7 KK7
      refine Lwp_seq fun KK8 hKK8 => ?_
      refine Lwp_seq fun KK9 hKK9 => ?_
      refine LregionG [none, none] (by kernel_rfl) (by kernel_rfl) ?_
      simp -dsimp only [go_sem, ↓reduceIte]
      repeat with_reducible refine And.intro (by first | omega | decide) ?_
      refine hKK9 _ _ ?_
      try clear hKK9 KK9
      refine Lwp_cond (by simp only [go_sem, ↓reduceIte]; rfl) (fun ht => ?_) (fun hf => ?_)
      · skip
        refine Lwp_seq fun KK10 hKK10 => ?_
        refine LregionG [none, none, none] (by kernel_rfl) (by kernel_rfl) ?_
        simp -dsimp only [go_sem, ↓reduceIte]
        repeat with_reducible refine And.intro (by first | omega | decide) ?_
        refine hKK10 _ _ ?_
        try clear hKK10 KK10
        refine Lwp_ret ?_
        simp only [LThen, LBlock, LPost, Tryz.results9]
        simp -dsimp only [go_sem, ↓reduceIte]
        exact ret_keep (hRR _ _ ⟨rfl, hp.2.1.trans hK4 (ids'' := []) (fun _ _ h => h.elim id id)⟩)
      · skip
        exact absurd (by simpa using hf) he0
    · skip
      rw [hE] at hap
      simp only [] at hap
      have hbl2 := encO_len hE
      have hp4 := NewR.keep hp hN.2.1
      have hrd := hN.acc.rd
      simp -dsimp only [go_sem, ↓reduceIte]
      refine hKK7 _ _ ?_
      try clear hKK7 KK7
      refine Lwp_seq fun KK11 hKK11 => ?_
      refine Lwp_seq fun KK12 hKK12 => ?_
      refine LregionG [none, none] (by kernel_rfl) (by kernel_rfl) ?_
      simp -dsimp only [go_sem, ↓reduceIte]
      repeat with_reducible refine And.intro (by first | omega | decide) ?_
      refine hKK12 _ _ ?_
      try clear hKK12 KK12
      refine Lwp_cond (by simp only [go_sem, ↓reduceIte]; rfl) (fun ht => ?_) (fun hf => ?_)
      · skip
        simp at ht
      · skip
        refine Lwp_skip ?_
        try simp -dsimp only [go_sem, ↓reduceIte]
        refine hKK11 _ _ ?_
        try clear hKK11 KK11
        refine LregionG [none, none, none, none] (by kernel_rfl) (by kernel_rfl) ?_
        simp -dsimp only [go_sem, ↓reduceIte]
        repeat with_reducible refine And.intro (by first | omega | decide | assumption) ?_
        refine PutR.apd (zs := b) hp4 rfl (by simp only [go_sem]; rfl) (by simp only [go_sem]; first | exact ⟨rfl, rfl⟩ | exact ⟨rfl, rfl, rfl⟩ | rfl) (by simp only [go_sem]) hrd.src.1 hrd.src.2 (by simp only [List.length_append, List.length_nil]; omega) ?_
        rintro r2 S5 hp5
        simp -dsimp only [go_sem, ↓reduceIte]
        refine hKK6 _ _ ?_
        try clear hKK6 KK6
        refine LregionG [none, none, none] (by kernel_rfl) (by kernel_rfl) ?_
        simp -dsimp only [go_sem, ↓reduceIte, e6]
        repeat with_reducible refine And.intro (by first | omega | decide) ?_
        exact hII (es.length - (k + 1)) _ _ (by omega) ⟨k + 1, r2, ys ++ b, rfl, hk', hap, by rw [← List.append_assoc]; exact hp5, rfl⟩
  · skip
    have hk2 : k = es.length := by simp at hf; omega
    subst hk2
    rw [List.take_of_length_le (Nat.le_refl _)] at hys
    rw [hys] at hRR
    refine Lwp_exit ?_
    simp -dsimp only [go_sem, ↓reduceIte]
    refine hKK2 _ _ ?_
    try clear hKK2 KK2
    refine Lwp_seq fun KK13 hKK13 => ?_
    refine LregionG [none, none, none] (by kernel_rfl) (by kernel_rfl) ?_
    simp -dsimp only [go_sem, ↓reduceIte]
    repeat with_reducible refine And.intro (by first | omega | decide) ?_
    refine hKK13 _ _ ?_
    try clear hKK13 KK13
    refine Lwp_ret ?_
    simp only [LThen, LBlock, LPost, Tryz.results9]
    simp -dsimp only [go_sem, ↓reduceIte]
    exact ret_keep (hRR _ _ ⟨_, rfl, hp⟩)

set_option maxHeartbeats 400000 in
theorem RRead_ok {S : LS} (f : Bool) (bs : List UInt8) (hl : bs.length ≤ 1099511627776) : LCalls Tryz.prog 13 [.sl f (bs.map u8c)] S (ReadR bs S) := by
  refine LCalls_introK 0 Tryz.func13 rfl (by kernel_rfl) rfl fun RR hRR => ?_
  refine Lwp_seq fun KK0 hKK0 => ?_
  refine LregionG [none, none] (by kernel_rfl) (by kernel_rfl) ?_
  simp -dsimp only [go_sem, ↓reduceIte]
  repeat with_reducible refine And.intro (by first | omega | decide) ?_
  refine hKK0 _ _ ?_
  try clear hKK0 KK0
  refine Lwp_seq fun KK1 hKK1 => ?_
  refine LregionG [none] (by kernel_rfl) (by kernel_rfl) ?_
  simp -dsimp only [go_sem, ↓reduceIte]
  repeat with_reducible refine And.intro (by first | omega | decide) ?_
  refine hKK1 _ _ ?_
  try clear hKK1 KK1
  refine Lwp_seq fun KK2 hKK2 => ?_
  refine LregionG [none] (by kernel_rfl) (by kernel_rfl) ?_
  simp -dsimp only [go_sem, ↓reduceIte]
  repeat with_reducible refine And.intro (by first | omega | decide) ?_
  refine hKK2 _ _ ?_
  try clear hKK2 KK2
  refine Lwp_block ?_
  refine Lwp_loopK [4, 5, 0] (fun m us S1 => ∃ (p : Nat) (u : LV) (es : List (List LV)), us = [u, V p, .sl f (bs.map u8c)] ∧ RdTo bs p es ∧ NewRow S S1 u 38 es ∧ m = bs.length - p) bs.length rfl (⟨0, .sl true [], [], by simp only [go_sem, ↓reduceIte]; rfl, .nil, NewRow.nil (Keeps.refl _ _), rfl⟩) ?_
  rintro m us S2 ⟨p, u, es, rfl, hrd, hN, hm⟩ II hII
  refine Lwp_block ?_
  refine Lwp_seq fun KK3 hKK3 => ?_
  refine LregionG [none, none, none, none, none, none, none, none, none, none, none, none] (by kernel_rfl) (by kernel_rfl) ?_
  simp -dsimp only [go_sem, ↓reduceIte]
  have hle := hrd.le
  refine ⟨⟨hle.1, Nat.le_refl _, head_u8 bs⟩, ?_⟩
  have ha : List.take (bs.length - p) (List.drop p (List.map u8c bs)) = List.map u8c (bs.drop p) := by
    rw [← List.map_drop, List.take_of_length_le (by simp)]
  rw [ha]
  clear ha
  refine Pc.k' (Decode_ok (bs.drop p) f (by rw [List.length_drop]; omega)) ?_
  rintro r hd
  rcases hd.cs with ⟨e, he, he0, rfl⟩ | ⟨us, n, rfl, hok, h8, hn, hn2, hd⟩
  · skip
    skip
    simp -dsimp only [go_sem, ↓reduceIte, ovr_zs, take_zs, len_zs, List.length_cons, List.length_nil]
    refine hKK3 _ _ ?_
    try clear hKK3 KK3
    refine Lwp_seq fun KK4 hKK4 => ?_
    refine Lwp_seq fun KK5 hKK5 => ?_
    refine LregionG [none, none] (by kernel_rfl) (by kernel_rfl) ?_
    simp -dsimp only [go_sem, ↓reduceIte]
    repeat with_reducible refine And.intro (by first | omega | decide) ?_
    refine hKK5 _ _ ?_
    try clear hKK5 KK5
    refine Lwp_cond (by simp only [go_sem, ↓reduceIte]; rfl) (fun ht => ?_) (fun hf => ?_)
    · skip
      refine Lwp_seq fun KK6 hKK6 => ?_
      refine LregionG [none, none, none, none] (by kernel_rfl) (by kernel_rfl) ?_
      simp -dsimp only [go_sem, ↓reduceIte]
      repeat with_reducible refine And.intro (by first | omega | decide) ?_
      refine hKK6 _ _ ?_
      try clear hKK6 KK6
      refine Lwp_ret ?_
      simp only [LThen, LBlock, LPost, Tryz.results13]
      simp -dsimp only [go_sem, ↓reduceIte]
      exact ret_keep (hRR _ _ ⟨u, es, p, rfl, hrd, ⟨e, he⟩, hN.keep (Keeps.app _ _ []) (fun _ h => absurd h (by simp)) (fun _ _ h => absurd h (by simp))⟩)
    · skip
      exact absurd (by simpa using hf) he0
  · skip
    have hlen := okLog_len hok
    have htk : us.take 38 = us := List.take_of_length_le (by omega)
    have hov : ∀ cs : List LV, cs.length = 38 → ovr cs 0 us = us := fun cs h => ovr_all (by rw [hlen, h])
    rw [List.length_drop] at hn
    have e6 : IntKind.i64.wrap ((p : Int) + (n : Int)) = ((p + n : Nat) : Int) := by rw [w64 (by omega) (by omega)]; rfl
    simp -dsimp only [go_sem, ↓reduceIte, hov, htk, hlen, List.length_cons, List.length_nil]
    refine hKK3 _ _ ?_
    try clear hKK3 KK3
    refine Lwp_seq fun KK7 hKK7 => ?_
    refine Lwp_seq fun KK8 hKK8 => ?_
    refine LregionG [none, none] (by kernel_rfl) (by kernel_rfl) ?_
    simp -dsimp only [go_sem, ↓reduceIte]
    repeat with_reducible refine And.intro (by first | omega | decide) ?_
    refine hKK8 _ _ ?_
    try clear hKK8 KK8
    refine Lwp_cond (by simp only [go_sem, ↓reduceIte]; rfl) (fun ht => ?_) (fun hf => ?_)
    · skip
      simp at ht
    · skip
      refine Lwp_skip ?_
      try simp -dsimp only [go_sem, ↓reduceIte]
      refine hKK7 _ _ ?_
      try clear hKK7 KK7
      refine Lwp_seq fun KK9 hKK9 => ?_
      obtain ⟨c, hc⟩ : ∃ c, c = S2.length := ⟨_, rfl⟩
      refine Lwp_store (fun S4 => NewRow S S4 u 38 es ∧ S4[c]? = some (some (38, [us]))) ⟨hN.keep (Keeps.app _ _ []) (fun _ h => absurd h (by simp)) (fun _ _ h => absurd h (by simp)), by rw [hc]; simp⟩ ?_
      rintro S4 ⟨hN4, hS4⟩
      refine LregionG [none, none, none, none, none] (by kernel_rfl) (by kernel_rfl) ?_
      simp -dsimp only [go_sem, ↓reduceIte, ← hc, hS4, hlen, htk]
      repeat with_reducible refine And.intro (by first | omega | decide | assumption) ?_
      refine NewRow.apd (fs := [us]) hN4 rfl (by simp only [go_sem]; rfl) (by simp only [go_sem]; first | exact ⟨rfl, rfl⟩ | exact ⟨rfl, rfl, rfl⟩ | rfl) (by simp only [go_sem]) (by simp only [go_sem, ↓reduceIte]) (by simp only [go_sem, ↓reduceIte]) (by simp [hlen]) (by simp) (by simp only [LIM, List.length_cons, List.length_nil]; omega) ?_
      rintro r S5 hN5 hK5 - -
      simp -dsimp only [go_sem, ↓reduceIte]
      refine hKK9 _ _ ?_
      try clear hKK9 KK9
      refine LregionG [none, none, none, none] (by kernel_rfl) (by kernel_rfl) ?_
      simp -dsimp only [go_sem, ↓reduceIte, e6]
      repeat with_reducible refine And.intro (by first | omega | decide) ?_
      exact hII (bs.length - (p + n)) _ _ (by omega) ⟨p + n, r, es ++ [us], rfl, .snoc hrd hd, hN5, rfl⟩


/-- what Append gives, in one form. -/
def appB (bs : List UInt8) (es : List (List LV)) : List UInt8 × Int :=
  match appO es with
  | .inl e => ([], e)
  | .inr ys => (bs ++ ys, 0)
theorem AppR.one {bs : List UInt8} {es : List (List LV)} {S S' : LS} {r : LV} (h : AppR bs es S r S') : ∃ u, r = .tup [u, V (appB bs es).2] ∧ NewR S (appB bs es).1 u S' := by
  unfold AppR at h
  unfold appB
  cases hE : appO es with
  | inl e => rw [hE] at h; obtain ⟨rfl, hK⟩ := h; exact ⟨_, rfl, NewR.keep (NewR.nil S) hK⟩
  | inr ys => rw [hE] at h; obtain ⟨u, rfl, hN⟩ := h; exact ⟨u, rfl, hN⟩
theorem appB_len {bs : List UInt8} {es : List (List LV)} : (appB bs es).1.length ≤ bs.length + es.length * 1048576 := by
  unfold appB
  cases hE : appO es with
  | inl e => simp
  | inr ys => have := appO_len hE; simp only [List.length_append]; omega
/-- two readings of the same bytes go the same way. -/
theorem RdTo.two {bs : List UInt8} {p : Nat} {es : List (List LV)} (h : RdTo bs p es) : ∀ {p' : Nat} {es' : List (List LV)}, RdTo bs p' es' → es.length = es'.length → p = p' ∧ ∀ i, i < es.length → ok sLog (es.getD i []) ∧ ok sLog (es'.getD i []) ∧ sameE (es.getD i []) (es'.getD i []) = true ∧ (∀ b, bodyE (es.getD i []) = some b → b.length ≤ 1048577) ∧ (∀ b, bodyE (es'.getD i []) = some b → b.length ≤ 1048577) := by
  induction h with
  | nil =>
    intro p' es' h' hl
    have : es' = [] := List.eq_nil_of_length_eq_zero hl.symm
    cases h' with
    | nil => exact ⟨rfl, fun i hi => absurd hi (by simp)⟩
    | snoc h hd => simp at this
  | @snoc p n es us h hd ih =>
    intro p' es' h' hl
    rw [List.length_append, List.length_cons, List.length_nil] at hl
    obtain ⟨fs, vs, rfl⟩ : ∃ fs vs, es' = fs ++ [vs] := by
      refine ⟨es'.dropLast, es'.getLast (by intro h; rw [h] at hl; simp at hl), (List.dropLast_concat_getLast _).symm⟩
    obtain ⟨p2, n2, h2, rfl, hd2⟩ := h'.last
    rw [List.length_append, List.length_cons, List.length_nil] at hl
    have hl2 : es.length = fs.length := by omega
    obtain ⟨rfl, hi⟩ := ih h2 hl2
    obtain ⟨us', vs', n', e', h1, h2', ok1, ok2, hsm, hb1, hb2, -⟩ := dec_two hd hd2
    simp only [LV.tup.injEq, List.cons.injEq, LV.agg.injEq, LV.int.injEq, true_and, and_true] at h1 h2'
    obtain ⟨rfl, rfl, -⟩ := h1
    obtain ⟨rfl, hn, -⟩ := h2'
    refine ⟨by omega, fun i hlt => ?_⟩
    rw [List.length_append, List.length_cons, List.length_nil] at hlt
    by_cases e : i = es.length
    · subst e
      have g1 : (es ++ [us]).getD es.length [] = us := by rw [List.getD_eq_getElem?_getD, List.getElem?_append_right (Nat.le_refl _), Nat.sub_self]; rfl
      have g2 : (fs ++ [vs]).getD es.length [] = vs := by rw [List.getD_eq_getElem?_getD, List.getElem?_append_right (by omega), show es.length - fs.length = 0 by omega]; rfl
      rw [g1, g2]
      exact ⟨ok1, ok2, hsm, hb1, hb2⟩
    · have g1 : (es ++ [us]).getD i [] = es.getD i [] := by simp only [List.getD_eq_getElem?_getD]; rw [List.getElem?_append_left (by omega)]
      have g2 : (fs ++ [vs]).getD i [] = fs.getD i [] := by simp only [List.getD_eq_getElem?_getD]; rw [List.getElem?_append_left (by omega)]
      rw [g1, g2]
      exact hi i (by omega)
theorem RdTo.upto {bs : List UInt8} {p p' : Nat} {es es' : List (List LV)} (h : RdTo bs p es) (he : ∃ e, decS (bs.drop p) = .inl e) (h' : RdTo bs p' es') : es'.length ≤ es.length := by
  by_cases hl : es'.length ≤ es.length
  · exact hl
  · exfalso
    obtain ⟨q, hq⟩ := h'.take (es.length + 1) (by omega)
    rw [List.take_succ_eq_append_getElem (by omega)] at hq
    obtain ⟨p2, n2, h2, -, hd2⟩ := hq.last
    obtain ⟨rfl, -⟩ := h.two h2 (by rw [List.length_take]; omega)
    obtain ⟨e, he⟩ := he
    exact DecO_inl he hd2
theorem read_two {bs : List UInt8} {p p' : Nat} {es es' : List (List LV)} (h : RdTo bs p es) (he : ∃ e, decS (bs.drop p) = .inl e) (h' : RdTo bs p' es') (he' : ∃ e, decS (bs.drop p') = .inl e) : p = p' ∧ es.length = es'.length ∧ ∀ i, i < es.length → ok sLog (es.getD i []) ∧ ok sLog (es'.getD i []) ∧ sameE (es.getD i []) (es'.getD i []) = true ∧ (∀ b, bodyE (es.getD i []) = some b → b.length ≤ 1048577) ∧ (∀ b, bodyE (es'.getD i []) = some b → b.length ≤ 1048577) := by
  have hl : es.length = es'.length := Nat.le_antisymm (h'.upto he' h) (h.upto he h')
  obtain ⟨h1, h2⟩ := h.two h' hl
  exact ⟨h1, hl, h2⟩

end Go.Proofs.YtdhngmldmalbbaaGreat
end
section
set_option linter.all false
namespace Go.Proofs.YtdhngmldmalbbaaGreat
open Go.Lift Go.RowKit Go.Store
set_option linter.unusedSimpArgs false
set_option linter.unusedVariables false

theorem mem_getD {α : Type} {l : List α} {i : Nat} {d : α} (h : i < l.length) : l.getD i d ∈ l := by
  rw [List.getD_eq_getElem?_getD, List.getElem?_eq_getElem h]; exact List.getElem_mem h
theorem zL_body {k : Int} {b : List UInt8} (h : bodyE (zL k) = some b) : b.length ≤ 5000 := by
  cases hk : kSch k with
  | none => rw [bodyE_none (k := k) rfl hk] at h; cases h
  | some p =>
    obtain ⟨off, s⟩ := p
    have hall : ((bodyE (zL k)).getD []).length ≤ 5000 := by
      rcases kSch_off hk with ⟨rfl, -, -⟩ | ⟨rfl, -, -⟩ | ⟨rfl, -, -⟩ | ⟨rfl, -, -⟩ <;> decide
    rw [h] at hall; exact hall
/-- the variables of the law while the entries are made. -/
structure QI (S : LS) (pc : Nat) (S1 : LS) (l : LV) (es : List (List LV)) : Prop where
  codes : ∃ fl xs a, xs.length ≤ 1000000 ∧ S1[pc]? = some (some (cb fl xs a))
  hpc : S.length ≤ pc
  keep : Keeps S S1 []
  rl : RowS S1 S.length l 38 es
  dl : pc ∉ rowIds l
  ent : ∀ e ∈ es, EntOk e
section
variable {S S1 S2 : LS} {pc : Nat} {l : LV} {es : List (List LV)}
theorem QI.set {fl : Bool} {xs : List UInt8} {a : Nat} (h : QI S pc S1 l es) (hx : xs.length ≤ 1000000) : QI S pc (S1.set pc (some (cb fl xs a))) l es := by
  obtain ⟨_, _, _, _, hp⟩ := h.codes
  have hK : Keeps S1 (S1.set pc (some (cb fl xs a))) [pc] := Keeps.set _ (by simp)
  exact ⟨⟨fl, xs, a, hx, List.getElem?_set_self (lt_of_get hp)⟩, h.hpc, h.keep.trans hK (fun j hj hm => hm.elim (fun h => h) (fun hm => by have := h.hpc; simp at hm; omega)),
    RowS.mono h.rl (Nat.le_refl _) (fun id hid b hb => hK.get hb (fun hm => h.dl (by simp at hm; exact hm ▸ hid))), h.dl, h.ent⟩
theorem QI.snoc {n1 : Nat} {us : List LV} (h : QI S pc S1 l es) (hu : EntOk us) (hK : Keeps S1 S2 (rowIds l)) (hr : RowS S2 S1.length (.ref S1.length 0 n1) 38 (es ++ [us])) : QI S pc S2 (.ref S1.length 0 n1) (es ++ [us]) := by
  obtain ⟨fl, xs, a, hx, hc⟩ := h.codes
  have lc := lt_of_get hc
  have k6 := h.keep.1
  have ll := fun id hid => h.rl.lo id hid
  refine ⟨⟨fl, xs, a, hx, hK.get hc h.dl⟩, h.hpc, h.keep.trans (ids'' := []) hK (fun j hj hm => hm.elim (fun h => h) (fun hm => by have := (ll j hm).1; omega)), RowS.mono hr k6 (fun _ _ _ h => h), by simp [rowIds]; omega, ?_⟩
  intro e he
  rcases List.mem_append.1 he with he | he
  · exact h.ent e he
  · rw [List.mem_singleton.1 he]; exact hu
end

set_option maxHeartbeats 2000000 in
theorem Journals_ok {S : LS} (f0 : Bool) (xs : List UInt8) (fr : Bool) (raw : List UInt8) (nn : Int) (hnn : isI nn) : LCalls Tryz.prog 3 [.sl f0 (xs.map u8c), .sl fr (raw.map u8c), V nn] S (fun r S' => r = .bool true) := by
  refine LCalls_introK 0 Tryz.func3 rfl (by kernel_rfl) rfl fun RR hRR => ?_
  refine Lwp_seq fun KK0 hKK0 => ?_
  refine LregionG [none] (by kernel_rfl) (by kernel_rfl) ?_
  simp -dsimp only [go_sem, ↓reduceIte]
  repeat with_reducible refine And.intro (by first | omega | decide) ?_
  refine hKK0 _ _ ?_
  try clear hKK0 KK0
  refine Lwp_seq fun KK1 hKK1 => ?_
  refine Lwp_seq fun KK2 hKK2 => ?_
  refine LregionG [none, none] (by kernel_rfl) (by kernel_rfl) ?_
  simp -dsimp only [go_sem, ↓reduceIte]
  refine LCalls.k Awake_ok ?_
  rintro _ S1 ⟨rfl, hK1⟩
  simp -dsimp only [go_sem, ↓reduceIte]
  refine hKK2 _ _ ?_
  try clear hKK2 KK2
  refine Lwp_cond (by simp only [go_sem, ↓reduceIte]; rfl) (fun ht => ?_) (fun hf => ?_)
  · skip
    cases ht
  · skip
    refine Lwp_skip ?_
    try simp -dsimp only [go_sem, ↓reduceIte]
    refine hKK1 _ _ ?_
    try clear hKK1 KK1
    refine Lwp_seq fun KK3 hKK3 => ?_
    refine Lwp_seq fun KK4 hKK4 => ?_
    refine LregionG [none, none, none] (by kernel_rfl) (by kernel_rfl) ?_
    simp -dsimp only [go_sem, ↓reduceIte]
    repeat with_reducible refine And.intro (by first | omega | decide) ?_
    refine hKK4 _ _ ?_
    try clear hKK4 KK4
    refine Lwp_cond (by simp only [go_sem, ↓reduceIte]; rfl) (fun ht => ?_) (fun hf => ?_)
    · skip
      refine Lwp_seq fun KK5 hKK5 => ?_
      refine LregionG [none] (by kernel_rfl) (by kernel_rfl) ?_
      simp -dsimp only [go_sem, ↓reduceIte]
      repeat with_reducible refine And.intro (by first | omega | decide) ?_
      refine hKK5 _ _ ?_
      try clear hKK5 KK5
      refine Lwp_ret ?_
      simp only [LThen, LBlock, LPost, Tryz.results3]
      simp -dsimp only [go_sem, ↓reduceIte]
      exact ret_keep (hRR _ _ rfl)
    · skip
      have hraw : raw.length ≤ 300 := by simp at hf; omega
      refine Lwp_skip ?_
      try simp -dsimp only [go_sem, ↓reduceIte]
      refine hKK3 _ _ ?_
      try clear hKK3 KK3
      refine Lwp_seq fun KK6 hKK6 => ?_
      refine LregionG [none, none, none] (by kernel_rfl) (by kernel_rfl) ?_
      simp -dsimp only [go_sem, ↓reduceIte]
      refine LCalls.k (New_ok f0 xs 300 (by decide)) ?_
      rintro _ _ ⟨fn, ns, hns, rfl, rfl⟩
      simp -dsimp only [go_sem, ↓reduceIte]
      refine hKK6 _ _ ?_
      try clear hKK6 KK6
      refine Lwp_seq fun KK7 hKK7 => ?_
      refine LregionG [none] (by kernel_rfl) (by kernel_rfl) ?_
      simp -dsimp only [go_sem, ↓reduceIte]
      repeat with_reducible refine And.intro (by first | omega | decide) ?_
      refine hKK7 _ _ ?_
      try clear hKK7 KK7
      refine Lwp_seq fun KK8 hKK8 => ?_
      refine Lwp_seq fun KK9 hKK9 => ?_
      refine LregionG [none, none, none] (by kernel_rfl) (by kernel_rfl) ?_
      simp -dsimp only [go_sem, ↓reduceIte]
      refine LCalls.k ((NextC 4 (by omega)) _ S1.length fn ns 0 hns (by simp)) ?_
      rintro _ _ ⟨a1, rfl, v, rfl, hv0, -, hv1, -⟩
      have hv2 := hv1 (by omega)
      obtain ⟨K, rfl⟩ : ∃ K : Nat, v = (K : Int) := ⟨v.toNat, by omega⟩
      simp -dsimp only [go_sem, ↓reduceIte]
      refine hKK9 _ _ ?_
      try clear hKK9 KK9
      refine Lwp_block ?_
      have hQ0 : QI S S1.length (S1 ++ [some (cb fn ns a1)]) (.sl true []) [] := ⟨⟨fn, ns, a1, hns, by simp⟩, hK1.1, hK1.trans (Keeps.app _ _ []) (fun _ _ h => h.elim id id), RowS.nil, by simp [rowIds], by simp⟩
      refine Lwp_loopK [7, 8, 9, 1, 2] (fun m ss S3 => ∃ (k : Nat) (l : LV) (es : List (List LV)), ss = [.ptr S1.length 0 0, l, V (k : Int), .sl fr (raw.map u8c), V nn] ∧ es.length + k ≤ 3 ∧ QI S S1.length S3 l es ∧ m = k) K rfl (⟨K, .sl true [], [], by simp only [go_sem, ↓reduceIte], by simp; omega, hQ0, rfl⟩) ?_
      rintro m ss S2 ⟨k, l, es, rfl, hlk, hQ, hm⟩ II hII
      refine Lwp_seq fun KK10 hKK10 => ?_
      refine Lwp_seq fun KK11 hKK11 => ?_
      refine LregionG [none, none] (by kernel_rfl) (by kernel_rfl) ?_
      simp -dsimp only [go_sem, ↓reduceIte]
      repeat with_reducible refine And.intro (by first | omega | decide) ?_
      refine hKK11 _ _ ?_
      try clear hKK11 KK11
      refine Lwp_cond (by simp only [go_sem, ↓reduceIte]; rfl) (fun ht => ?_) (fun hf => ?_)
      · skip
        have hk0 : 0 < k := by simp at ht; omega
        obtain ⟨fl, xs2, a2, hx2, hpcS⟩ := hQ.codes
        refine Lwp_skip ?_
        try simp -dsimp only [go_sem, ↓reduceIte]
        refine hKK10 _ _ ?_
        try clear hKK10 KK10
        refine Lwp_seq fun KK12 hKK12 => ?_
        refine Lwp_block ?_
        refine LregionG [none, none, none, none, none, none] (by kernel_rfl) (by kernel_rfl) ?_
        simp -dsimp only [go_sem, ↓reduceIte]
        refine LCalls.k (EntryC _ S1.length fl xs2 a2 hx2 hpcS) ?_
        rintro _ _ ⟨a3, rfl, us, rfl, hEnt⟩
        have hlen := okLog_len (EntOk_ok hEnt)
        have hQ2 := hQ.set (fl := fl) (a := a3) hx2
        simp -dsimp only [go_sem, ↓reduceIte, hlen]
        repeat with_reducible refine And.intro (by first | omega | decide | assumption) ?_
        refine append_row (fs := [us]) hQ2.rl rfl (by simp only [go_sem]; rfl) (by simp only [go_sem]; first | exact ⟨rfl, rfl⟩ | exact ⟨rfl, rfl, rfl⟩ | rfl) (by simp only [go_sem]) (by simp only [go_sem, ↓reduceIte]) (by simp only [go_sem, ↓reduceIte, hlen]) (by simp [hlen]) (.inr (by simp)) (by simp only [LIM, List.length_cons, List.length_nil]; omega) fun S7 hl7 hr7 hK7 => ?_
        have e9 : IntKind.i64.wrap ((k : Int) - 1) = ((k - 1 : Nat) : Int) := by rw [w64 (by omega) (by omega)]; omega
        simp -dsimp only [go_sem, ↓reduceIte]
        refine hKK12 _ _ ?_
        try clear hKK12 KK12
        refine LregionG [none, none, none] (by kernel_rfl) (by kernel_rfl) ?_
        simp -dsimp only [go_sem, ↓reduceIte, e9]
        repeat with_reducible refine And.intro (by first | omega | decide) ?_
        exact hII (k - 1) _ _ (by omega) ⟨k - 1, _, es ++ [us], rfl, by simp only [List.length_append, List.length_cons, List.length_nil]; omega, by have := hQ2.snoc hEnt hK7 hr7; simpa only [List.length_set, List.length_cons, List.length_nil, Nat.zero_add] using this, rfl⟩
      · skip
        obtain ⟨fl, xs2, a2, hx2, hpcS⟩ := hQ.codes
        have hpcl := hQ.hpc
        have hel : es.length ≤ 3 := by omega
        have hes : ∀ e ∈ es, ok sLog e ∧ ∀ b, bodyE e = some b → b.length ≤ 1000000000 := fun e he => ⟨EntOk_ok (hQ.ent e he), fun b hb => by
          obtain ⟨body, hb2, hl⟩ := ent_body (hQ.ent e he)
          rw [hb2] at hb; cases hb; omega⟩
        refine Lwp_exit ?_
        simp -dsimp only [go_sem, ↓reduceIte]
        refine hKK8 _ _ ?_
        try clear hKK8 KK8
        refine Lwp_seq fun KK13 hKK13 => ?_
        refine Lwp_frzRowS 8 l rfl (by simp only [go_sem, ↓reduceIte]) hQ.rl fun gl S4 hl4 hK4 => ?_
        have hc4 : S4[S1.length]? = some (some (cb fl xs2 a2)) := by rw [hK4 _ hQ.dl]; exact hpcS
        clear hQ hII hQ0 hpcS hK4 hlk
        refine LregionG [none, none, none, none, none, none, none, none] (by kernel_rfl) (by kernel_rfl) ?_
        simp -dsimp only [go_sem, ↓reduceIte]
        refine LCalls.k (Append_ok (u := .sl fr (raw.map u8c)) (.inl ⟨_, rfl⟩) gl es hes (by omega)) ?_
        rintro r S5 hr
        obtain ⟨u5, rfl, hN5⟩ := hr.one
        have hc5 := hN5.2.1.get hc4 (by simp [rowIds])
        have h5 : ∀ id ∈ rowIds u5, S4.length ≤ id := fun id hid => (hN5.2.2.1 id hid).elim (fun h => by simp [rowIds] at h) (fun h => h)
        have hl4 := lt_of_get hc4
        have hbl := appB_len (bs := raw) (es := es)
        simp -dsimp only [go_sem, ↓reduceIte]
        refine hKK13 _ _ ?_
        try clear hKK13 KK13
        refine Lwp_seq fun KK14 hKK14 => ?_
        refine rdRow hN5.acc.rd _ _ _ _ 10 rfl (by simp only [go_sem, ↓reduceIte]) fun g6 S6 hl6 hK6 => ?_
        have hc6 : S6[S1.length]? = some (some (cb fl xs2 a2)) := by rw [hK6 _ (fun h => by have := h5 _ h; omega)]; exact hc5
        clear hK6 hc5 hc4 h5 hN5
        refine LregionG [none, none, none, none, none, none, none, none] (by kernel_rfl) (by kernel_rfl) ?_
        simp -dsimp only [go_sem, ↓reduceIte]
        refine LCalls.k (RAppend_ok fr raw gl es hes (by omega)) ?_
        rintro r S7 hr
        obtain ⟨u7, rfl, hN7⟩ := hr.one
        have hc7 := hN7.2.1.get hc6 (by simp [rowIds])
        have h7 : ∀ id ∈ rowIds u7, S6.length ≤ id := fun id hid => (hN7.2.2.1 id hid).elim (fun h => by simp [rowIds] at h) (fun h => h)
        have hl6' := lt_of_get hc6
        simp -dsimp only [go_sem, ↓reduceIte]
        refine hKK14 _ _ ?_
        try clear hKK14 KK14
        refine Lwp_seq fun KK15 hKK15 => ?_
        refine rdRow hN7.acc.rd _ _ _ _ 12 rfl (by simp only [go_sem, ↓reduceIte]) fun g8 S8 hl8 hK8 => ?_
        have hc8 : S8[S1.length]? = some (some (cb fl xs2 a2)) := by rw [hK8 _ (fun h => by have := h7 _ h; omega)]; exact hc7
        clear hK8 hc7 hc6 h7 hN7
        refine LregionG [none, none, none, none, none, none, none, none, none] (by kernel_rfl) (by kernel_rfl) ?_
        simp -dsimp only [go_sem, ↓reduceIte]
        repeat with_reducible refine And.intro (by first | omega | decide | assumption) ?_
        refine append_row (lo := 0) (es := []) (fs := es) RowS.nil rfl (by simp only [go_sem]; rfl) (by simp only [go_sem]; first | exact ⟨rfl, rfl⟩ | exact ⟨rfl, rfl, rfl⟩ | rfl) (by simp only [go_sem]) (by simp only [go_sem, ↓reduceIte]) (by simp only [go_sem, ↓reduceIte]) (fun e he => okLog_len (hes e he).1) (.inl rfl) (by simp only [LIM, List.length_nil, List.length_map]; omega) fun S9 hl9 hr9 hK9 => ?_
        simp only [List.nil_append, List.length_nil, Nat.zero_add] at hr9 ⊢
        have hc9 := hK9.get hc8 (by simp [rowIds])
        have hl8' := lt_of_get hc8
        simp -dsimp only [go_sem, ↓reduceIte]
        refine LCalls.k ((NextC 7 (by omega)) _ S1.length fl xs2 a2 hx2 hc9) ?_
        rintro _ _ ⟨a3, rfl, w, rfl, hw0, -, hw1, -⟩
        have hw2 := hw1 (by omega)
        obtain ⟨kd, hkd⟩ : ∃ kd, IntKind.i64.wrap (w - 1) = kd := ⟨_, rfl⟩
        have hkI : isI kd := by rw [← hkd]; exact w64_range _
        simp -dsimp only [go_sem, ↓reduceIte, hkd]
        repeat with_reducible refine And.intro (by first | omega | decide | assumption) ?_
        have hr10 : RowS (S9.set S1.length (some (cb fl xs2 a3))) S8.length (.ref S8.length 0 es.length) 38 es := RowS.mono hr9 (Nat.le_refl _) (fun id hid b hb => by rw [List.getElem?_set_ne (by have := (hr9.lo id hid).1; omega)]; exact hb)
        refine append_row (fs := [zL kd]) hr10 rfl (by simp only [go_sem]; rfl) (by simp only [go_sem]; first | exact ⟨rfl, rfl⟩ | exact ⟨rfl, rfl, rfl⟩ | rfl) (by simp only [go_sem]) (by simp only [go_sem, ↓reduceIte]) (by simp only [go_sem, ↓reduceIte]; rfl) (by simp only [List.mem_singleton, forall_eq]; rfl) (.inr (by simp)) (by simp only [LIM, List.length_cons, List.length_nil]; omega) fun S11 hl11 hr11 hK11 => ?_
        have hes2 : ∀ e ∈ es ++ [zL kd], ok sLog e ∧ ∀ b, bodyE e = some b → b.length ≤ 1000000000 := fun e he => by
          rcases List.mem_append.1 he with he | he
          · exact hes e he
          · rw [List.mem_singleton.1 he]; exact ⟨ok_zL hkI, fun b hb => by have := zL_body hb; omega⟩
        have hel2 : (es ++ [zL kd]).length ≤ 4 := by simp; omega
        have hbl2 := appB_len (bs := raw) (es := es ++ [zL kd])
        simp -dsimp only [go_sem, ↓reduceIte]
        refine hKK15 _ _ ?_
        try clear hKK15 KK15
        refine Lwp_seq fun KK16 hKK16 => ?_
        refine Lwp_frzRowS 14 _ rfl (by simp only [go_sem, ↓reduceIte]) hr11 fun go S12 hl12 hK12 => ?_
        clear hK12 hr11 hK11 hr10 hr9 hK9
        refine LregionG [none, none, none, none, none, none, none, none] (by kernel_rfl) (by kernel_rfl) ?_
        simp -dsimp only [go_sem, ↓reduceIte]
        refine LCalls.k (Append_ok (u := .sl fr (raw.map u8c)) (.inl ⟨_, rfl⟩) go (es ++ [zL kd]) hes2 (by omega)) ?_
        rintro r S13 hr
        obtain ⟨u13, rfl, hN13⟩ := hr.one
        simp -dsimp only [go_sem, ↓reduceIte]
        refine hKK16 _ _ ?_
        try clear hKK16 KK16
        refine Lwp_seq fun KK17 hKK17 => ?_
        refine rdRow hN13.acc.rd _ _ _ _ 15 rfl (by simp only [go_sem, ↓reduceIte]) fun g14 S14 hl14 hK14 => ?_
        clear hN13 hK14
        refine LregionG [none, none, none, none, none, none, none, none] (by kernel_rfl) (by kernel_rfl) ?_
        simp -dsimp only [go_sem, ↓reduceIte]
        refine LCalls.k (RAppend_ok fr raw go (es ++ [zL kd]) hes2 (by omega)) ?_
        rintro r S15 hr
        obtain ⟨u15, rfl, hN15⟩ := hr.one
        simp -dsimp only [go_sem, ↓reduceIte]
        refine hKK17 _ _ ?_
        try clear hKK17 KK17
        refine Lwp_seq fun KK18 hKK18 => ?_
        refine Lwp_seq fun KK19 hKK19 => ?_
        refine rdRow hN15.acc.rd _ _ _ _ 17 rfl (by simp only [go_sem, ↓reduceIte]) fun g16 S16 hl16 hK16 => ?_
        clear hN15 hK16
        refine LregionG [none, none, none, none, some (83, false), some (83, false), some (83, false), some (83, false), some (83, false), none, none, some (90, false), some (90, false), some (90, false), none, none, some (95, false), some (95, false), some (95, false), some (95, false), some (95, false), none] (by kernel_rfl) (by kernel_rfl) ?_
        simp -dsimp only [go_sem, ↓reduceIte]
        refine ⟨⟨_, rfl⟩, ⟨_, rfl⟩, ⟨_, rfl⟩, ⟨_, rfl⟩, ?_⟩
        refine hKK19 _ _ ?_
        try clear hKK19 KK19
        refine Lwp_cond (by simp only [go_sem, ↓reduceIte]; rfl) (fun ht => ?_) (fun hf => ?_)
        · skip
          cases ht
        · skip
          refine Lwp_skip ?_
          try simp -dsimp only [go_sem, ↓reduceIte]
          refine hKK18 _ _ ?_
          try clear hKK18 KK18
          refine Lwp_seq fun KK20 hKK20 => ?_
          refine LregionG [none, none, none, none, none, none, none] (by kernel_rfl) (by kernel_rfl) ?_
          simp -dsimp only [go_sem, ↓reduceIte]
          refine LCalls.k (RAppend_ok true [] gl es hes (by simp; omega)) ?_
          rintro r S17 hr
          obtain ⟨u17, rfl, hN17⟩ := hr.one
          have hbl3 := appB_len (bs := []) (es := es)
          obtain ⟨jb, hjb⟩ : ∃ jb, jb = (appB [] es).1 := ⟨_, rfl⟩
          rw [← hjb] at hbl3 hN17
          simp -dsimp only [go_sem, ↓reduceIte]
          refine hKK20 _ _ ?_
          try clear hKK20 KK20
          refine Lwp_seq fun KK21 hKK21 => ?_
          refine Lwp_seq fun KK22 hKK22 => ?_
          refine rdRow hN17.acc.rd _ _ _ _ 19 rfl (by simp only [go_sem, ↓reduceIte]) fun gj S18 hl18 hK18 => ?_
          have hjl : jb.length ≤ 4000000 := by simp at hbl3; omega
          have e1 : IntKind.i64.wrap ((jb.length : Int) + 2) = (jb.length : Int) + 2 := w64 (by omega) (by omega)
          refine LregionG [none, none, none, none, none, none, none, none, none, none, none, none, none, none, none, none] (by kernel_rfl) (by kernel_rfl) ?_
          simp -dsimp only [go_sem, ↓reduceIte]
          repeat with_reducible refine And.intro (by first | omega | decide | assumption) ?_
          refine append_row (lo := 0) (es := []) (fs := jb.map u8c) RowS.nil rfl (by simp only [go_sem]; rfl) (by simp only [go_sem]; first | exact ⟨rfl, rfl⟩ | exact ⟨rfl, rfl, rfl⟩ | rfl) (by simp only [go_sem]) (by simp only [go_sem, ↓reduceIte]) (by simp only [go_sem, ↓reduceIte]) (fun e he => by
            obtain ⟨y, _, rfl⟩ := List.mem_map.1 he; rfl) (.inl rfl) (by simp only [LIM, List.length_nil, List.length_map]; omega) fun S19 hl19 hr19 hK19 => ?_
          simp only [List.nil_append, List.length_nil, Nat.zero_add, List.length_map] at hr19 ⊢
          have hS19 : S19[S18.length]? = some (some (1, List.map u8c jb)) := by
            rcases hr19.2 with h | ⟨id, -, h, h'⟩
            · cases h
            · rw [← (LV.ref.inj h).1] at h'; exact h'
          simp -dsimp only [go_sem, ↓reduceIte]
          repeat with_reducible refine And.intro (by first | omega | decide | assumption) ?_
          refine append_ref (es := jb.map u8c) (fs := raw.map u8c) hS19 (fun e he => by
            obtain ⟨y, _, rfl⟩ := List.mem_map.1 he; rfl) (by simp only [go_sem, ↓reduceIte, List.length_map]) (by simp only [go_sem]; rfl) (by simp only [go_sem]; first | exact ⟨rfl, rfl⟩ | exact ⟨rfl, rfl, rfl⟩ | rfl) (by simp only [go_sem]) (by simp only [go_sem, ↓reduceIte]) (by simp only [go_sem, ↓reduceIte]) (fun e he => by
            obtain ⟨y, _, rfl⟩ := List.mem_map.1 he; rfl) (by simp only [LIM, List.length_map]; omega) fun S20 hl20 hr20 hK20 => ?_
          rw [← List.map_append] at hr20
          have hS20 : S20[S19.length]? = some (some (1, List.map u8c (jb ++ raw))) := by
            rcases hr20.2 with h | ⟨id, -, h, h'⟩
            · cases h
            · rw [← (LV.ref.inj h).1] at h'; exact h'
          simp only [List.length_map] at hr20 ⊢
          clear hr20 hK20 hr19 hK19 hS19
          simp -dsimp only [go_sem, ↓reduceIte, e1]
          refine Pc.k' (ModP nn ((jb.length : Int) + 2) hnn (by omega)) ?_
          rintro _ ⟨md, rfl, hm0, hm1⟩
          simp -dsimp only [go_sem, ↓reduceIte]
          refine Pc.k' (CutP gj jb md (by omega)) ?_
          rintro _ ⟨gc, rfl⟩
          simp -dsimp only [go_sem, ↓reduceIte]
          obtain ⟨c6, hc6⟩ : ∃ c6, c6 = S19.length := ⟨_, rfl⟩
          rw [← hc6] at hS20 ⊢
          obtain ⟨jc, hjc⟩ : ∃ jc, jc = jb.take (jb.length - md.toNat) := ⟨_, rfl⟩
          have hjcl : jc.length ≤ 4000000 := by rw [hjc, List.length_take]; omega
          rw [← hjc]
          refine hKK22 _ _ ?_
          try clear hKK22 KK22
          refine Lwp_block ?_
          obtain ⟨L4, hL4e⟩ : ∃ L4 : List (List LV), L4 = [[.sl fr (raw.map u8c)], [.sl gj (jb.map u8c)], [.ref c6 0 (jb.length + raw.length)], [.sl gc (jc.map u8c)]] := ⟨_, rfl⟩
          refine Lwp_loopK [122, 120, 121, 2] (fun m ss S4 => ∃ (i : Nat), ss = [V (i : Int), .sl true L4, V 4, V nn] ∧ i ≤ 4 ∧ (i ≤ 2 → S4[c6]? = some (some (1, List.map u8c (jb ++ raw)))) ∧ m = 4 - i) 4 rfl (⟨0, by rw [hL4e]; simp only [go_sem, ↓reduceIte]; rfl, Nat.zero_le _, fun _ => hS20, rfl⟩) ?_
          rintro m ss S4 ⟨i, rfl, hi, hrow, hm⟩ II hII
          refine Lwp_seq fun KK23 hKK23 => ?_
          refine LregionG [none] (by kernel_rfl) (by kernel_rfl) ?_
          simp -dsimp only [go_sem, ↓reduceIte]
          repeat with_reducible refine And.intro (by first | omega | decide) ?_
          refine hKK23 _ _ ?_
          try clear hKK23 KK23
          refine Lwp_seq fun KK24 hKK24 => ?_
          refine Lwp_cond (by simp only [go_sem, ↓reduceIte]; rfl) (fun ht => ?_) (fun hf => ?_)
          · skip
            have hi1 : i < 4 := by simp at ht; omega
            have hi2 : i ≤ 2 → S4[c6]? = some (some (1, List.map u8c (jb ++ raw))) := hrow
            obtain ⟨u, bz, hui, hrdu, hbz, hids⟩ : ∃ (u : LV) (bz : List UInt8), L4.getD i [] = [u] ∧ Rd S4 u bz ∧ bz.length ≤ 5000000 ∧ (i < 2 → rowIds u = []) := by
              rw [hL4e]
              match i, hi1, hi2 with
              | 0, _, _ => exact ⟨_, raw, rfl, .inl ⟨_, rfl⟩, by omega, fun _ => rfl⟩
              | 1, _, _ => exact ⟨_, jb, rfl, .inl ⟨_, rfl⟩, by omega, fun _ => rfl⟩
              | 2, _, h => exact ⟨_, jb ++ raw, rfl, .inr ⟨c6, by rw [List.length_append], h (by omega)⟩, by rw [List.length_append]; omega, fun h => by omega⟩
              | 3, _, _ => exact ⟨_, jc, rfl, .inl ⟨_, rfl⟩, by omega, fun h => by omega⟩
            have hl4' : L4.length = 4 := by rw [hL4e]; rfl
            have hil : i < L4.length := by omega
            have e7 : IntKind.i64.wrap ((i : Int) + 1) = ((i + 1 : Nat) : Int) := by rw [w64 (by omega) (by omega)]; rfl
            refine Lwp_skip ?_
            try simp -dsimp only [go_sem, ↓reduceIte]
            refine hKK24 _ _ ?_
            try clear hKK24 KK24
            refine Lwp_seq fun KK25 hKK25 => ?_
            refine Lwp_block ?_
            refine Lwp_seq fun KK26 hKK26 => ?_
            refine LregionG [none, none, none] (by kernel_rfl) (by kernel_rfl) ?_
            simp -dsimp only [go_sem, ↓reduceIte, hui, hil]
            repeat with_reducible refine And.intro (by first | omega | decide) ?_
            refine hKK26 _ _ ?_
            try clear hKK26 KK26
            refine Lwp_seq fun KK27 hKK27 => ?_
            refine rdRow hrdu _ _ _ _ 22 rfl (by simp only [go_sem, ↓reduceIte]) fun fz S5 hl5 hK5 => ?_
            have hrow5 : i < 2 → S5[c6]? = some (some (1, List.map u8c (jb ++ raw))) := fun h => by rw [hK5 c6 (by rw [hids h]; simp)]; exact hi2 (by omega)
            refine LregionG [none, none, none, none, none, none, none] (by kernel_rfl) (by kernel_rfl) ?_
            simp -dsimp only [go_sem, ↓reduceIte]
            refine LCalls.k (Read_ok fz bz (by omega)) ?_
            rintro _ S6 ⟨u1, es1, p1, rfl, hrd1, he1, hN1⟩
            have hrow6 : i < 2 → S6[c6]? = some (some (1, List.map u8c (jb ++ raw))) := fun h => hN1.2.get (hrow5 h) (by simp)
            simp -dsimp only [go_sem, ↓reduceIte]
            refine hKK27 _ _ ?_
            try clear hKK27 KK27
            refine Lwp_seq fun KK28 hKK28 => ?_
            refine Lwp_frzRowS 23 u1 rfl (by simp only [go_sem, ↓reduceIte]) hN1.1 fun f1 S7 hl7 hK7 => ?_
            have hrow7 : i < 2 → S7[c6]? = some (some (1, List.map u8c (jb ++ raw))) := fun h => by rw [hK7 c6 (fun hm => by have := (hN1.1.lo _ hm).1; have := lt_of_get (hrow5 h); omega)]; exact hrow6 h
            refine LregionG [none, none, none, none, none, none, none] (by kernel_rfl) (by kernel_rfl) ?_
            simp -dsimp only [go_sem, ↓reduceIte]
            refine LCalls.k (RRead_ok fz bz (by omega)) ?_
            rintro _ S8 ⟨u2, es2, p2, rfl, hrd2, he2, hN2⟩
            obtain ⟨rfl, hl12e, hsm⟩ := read_two hrd1 he1 hrd2 he2
            have hrow8 : i < 2 → S8[c6]? = some (some (1, List.map u8c (jb ++ raw))) := fun h => hN2.2.get (hrow7 h) (by simp)
            simp -dsimp only [go_sem, ↓reduceIte]
            refine hKK28 _ _ ?_
            try clear hKK28 KK28
            refine Lwp_seq fun KK29 hKK29 => ?_
            refine Lwp_seq fun KK30 hKK30 => ?_
            refine Lwp_frzRowS 25 u2 rfl (by simp only [go_sem, ↓reduceIte]) hN2.1 fun f2 S9 hl9 hK9 => ?_
            have hrow9 : i < 2 → S9[c6]? = some (some (1, List.map u8c (jb ++ raw))) := fun h => by rw [hK9 c6 (fun hm => by have := (hN2.1.lo _ hm).1; have := lt_of_get (hrow7 h); omega)]; exact hrow8 h
            have hle1 := (hrd1.le).2.1
            have hle0 := (hrd1.le).1
            clear hK9 hN2 hK7 hN1 hK5 hrdu hrow8 hrow7 hrow6 hrow5
            refine LregionG [none, none, none, none, some (139, false), some (139, false), some (139, false), some (139, false), some (139, false), none] (by kernel_rfl) (by kernel_rfl) ?_
            simp -dsimp only [go_sem, ↓reduceIte, hl12e]
            repeat with_reducible refine And.intro (by first | omega | decide) ?_
            refine hKK30 _ _ ?_
            try clear hKK30 KK30
            refine Lwp_cond (by simp only [go_sem, ↓reduceIte]; rfl) (fun ht => ?_) (fun hf => ?_)
            · skip
              cases ht
            · skip
              refine Lwp_skip ?_
              try simp -dsimp only [go_sem, ↓reduceIte]
              refine hKK29 _ _ ?_
              try clear hKK29 KK29
              refine Lwp_seq fun KK31 hKK31 => ?_
              refine Lwp_seq fun KK32 hKK32 => ?_
              refine LregionG [none, none, none] (by kernel_rfl) (by kernel_rfl) ?_
              simp -dsimp only [go_sem, ↓reduceIte]
              repeat with_reducible refine And.intro (by first | omega | decide) ?_
              refine hKK32 _ _ ?_
              try clear hKK32 KK32
              refine Lwp_block ?_
              refine Lwp_loopK [148, 147, 23, 25, 22, 2, 122, 120, 121] (fun m ss S4 => ∃ (q : Nat), ss = [V (q : Int), V es1.length, .sl f1 es1, .sl f2 es2, .sl fz (bz.map u8c), V nn, V (i : Int), .sl true L4, V 4] ∧ q ≤ es1.length ∧ (i < 2 → S4[c6]? = some (some (1, List.map u8c (jb ++ raw)))) ∧ m = es1.length - q) es1.length rfl (⟨0, by simp only [go_sem, ↓reduceIte, hl12e]; rfl, Nat.zero_le _, hrow9, rfl⟩) ?_
              rintro mq ss S10 ⟨q, rfl, hq, hrowq, hmq⟩ II2 hII2
              refine Lwp_seq fun KK33 hKK33 => ?_
              refine LregionG [none] (by kernel_rfl) (by kernel_rfl) ?_
              simp -dsimp only [go_sem, ↓reduceIte]
              repeat with_reducible refine And.intro (by first | omega | decide) ?_
              refine hKK33 _ _ ?_
              try clear hKK33 KK33
              refine Lwp_seq fun KK34 hKK34 => ?_
              refine Lwp_cond (by simp only [go_sem, ↓reduceIte]; rfl) (fun ht => ?_) (fun hf => ?_)
              · skip
                have hq1 : q < es1.length := by simp at ht; omega
                obtain ⟨ok1, ok2, hsq, hb1, hb2⟩ := hsm q hq1
                have ex := okLog_len ok1
                have ey := okLog_len ok2
                obtain ⟨tx, -⟩ := log_take ok1
                obtain ⟨ty, -⟩ := log_take ok2
                have hq2 : q < es2.length := by omega
                have e8 : IntKind.i64.wrap ((q : Int) + 1) = ((q + 1 : Nat) : Int) := by rw [w64 (by omega) (by omega)]; rfl
                refine Lwp_skip ?_
                try simp -dsimp only [go_sem, ↓reduceIte]
                refine hKK34 _ _ ?_
                try clear hKK34 KK34
                refine Lwp_seq fun KK35 hKK35 => ?_
                refine Lwp_block ?_
                refine Lwp_seq fun KK36 hKK36 => ?_
                refine LregionG [none, none] (by kernel_rfl) (by kernel_rfl) ?_
                simp -dsimp only [go_sem, ↓reduceIte]
                repeat with_reducible refine And.intro (by first | omega | decide) ?_
                refine hKK36 _ _ ?_
                try clear hKK36 KK36
                refine Lwp_seq fun KK37 hKK37 => ?_
                refine LdrawE [0,1,2,3,4,5,6,7,8,9] [] none (by kernel_rfl) (by kernel_rfl) (by kernel_rfl) (by kernel_rfl) (by simp [Watch.holds]) ?_
                simp -dsimp only [go_sem, ↓reduceIte, ex, ey, tx, ty, hq1, hq2]
                refine LCalls.k (Same_ok _ _ ok1 ok2 (fun b hb => by have := hb1 b hb; omega) (fun b hb => by have := hb2 b hb; omega)) ?_
                rintro _ S11 ⟨rfl, hK11⟩
                simp -dsimp only [go_sem, ↓reduceIte, hsq]
                refine hKK37 _ _ ?_
                try clear hKK37 KK37
                refine Lwp_cond (by simp only [go_sem, ↓reduceIte]; rfl) (fun ht => ?_) (fun hf => ?_)
                · skip
                  cases ht
                · skip
                  refine Lwp_skip ?_
                  try simp -dsimp only [go_sem, ↓reduceIte]
                  refine hKK35 _ _ ?_
                  try clear hKK35 KK35
                  refine LregionG [none, none] (by kernel_rfl) (by kernel_rfl) ?_
                  simp -dsimp only [go_sem, ↓reduceIte, e8]
                  repeat with_reducible refine And.intro (by first | omega | decide) ?_
                  exact hII2 (es1.length - (q + 1)) _ _ (by omega) ⟨q + 1, rfl, by omega, fun h => hK11.get (hrowq h) (by simp), rfl⟩
              · skip
                refine Lwp_exit ?_
                simp -dsimp only [go_sem, ↓reduceIte]
                refine hKK31 _ _ ?_
                try clear hKK31 KK31
                refine Lwp_seq fun KK38 hKK38 => ?_
                refine LregionG [none, none, none, none, none, none] (by kernel_rfl) (by kernel_rfl) ?_
                simp -dsimp only [go_sem, ↓reduceIte]
                refine Pc.k' (ModP nn 40 hnn (by omega)) ?_
                rintro _ ⟨md2, rfl, hd0, hd1⟩
                simp -dsimp only [go_sem, ↓reduceIte]
                refine hKK38 _ _ ?_
                try clear hKK38 KK38
                refine Lwp_block ?_
                obtain ⟨K3, hK3e⟩ : ∃ K3 : List (List LV), K3 = [[V nn], [V md2], [V (-1)]] := ⟨_, rfl⟩
                refine Lwp_loopK [167, 166, 165, 22, 2, 122, 120, 121] (fun m ss S4 => ∃ (q : Nat), ss = [V (q : Int), V 3, .sl true K3, .sl fz (bz.map u8c), V nn, V (i : Int), .sl true L4, V 4] ∧ q ≤ 3 ∧ (i < 2 → S4[c6]? = some (some (1, List.map u8c (jb ++ raw)))) ∧ m = 3 - q) 3 rfl (⟨0, by rw [hK3e]; simp only [go_sem, ↓reduceIte]; rfl, Nat.zero_le _, hrowq, rfl⟩) ?_
                rintro mk ss S12 ⟨q2, rfl, hq2, hrowk, hmk⟩ II3 hII3
                refine Lwp_seq fun KK39 hKK39 => ?_
                refine LregionG [none] (by kernel_rfl) (by kernel_rfl) ?_
                simp -dsimp only [go_sem, ↓reduceIte]
                repeat with_reducible refine And.intro (by first | omega | decide) ?_
                refine hKK39 _ _ ?_
                try clear hKK39 KK39
                refine Lwp_seq fun KK40 hKK40 => ?_
                refine Lwp_cond (by simp only [go_sem, ↓reduceIte]; rfl) (fun ht => ?_) (fun hf => ?_)
                · skip
                  have hq3 : q2 < 3 := by simp at ht; omega
                  obtain ⟨kk, hkk, hkI2⟩ : ∃ kk, K3.getD q2 [] = [V kk] ∧ isI kk := by
                    rw [hK3e]
                    match q2, hq3 with
                    | 0, _ => exact ⟨_, rfl, hnn⟩
                    | 1, _ => exact ⟨_, rfl, ⟨by omega, by omega⟩⟩
                    | 2, _ => exact ⟨_, rfl, ⟨by decide, by decide⟩⟩
                  have hk3l : q2 < K3.length := by rw [hK3e]; simp; omega
                  have e8 : IntKind.i64.wrap ((q2 : Int) + 1) = ((q2 + 1 : Nat) : Int) := by rw [w64 (by omega) (by omega)]; rfl
                  refine Lwp_skip ?_
                  try simp -dsimp only [go_sem, ↓reduceIte]
                  refine hKK40 _ _ ?_
                  try clear hKK40 KK40
                  refine Lwp_seq fun KK41 hKK41 => ?_
                  refine Lwp_block ?_
                  refine Lwp_seq fun KK42 hKK42 => ?_
                  refine LregionG [none, none, none] (by kernel_rfl) (by kernel_rfl) ?_
                  simp -dsimp only [go_sem, ↓reduceIte, hkk, hk3l]
                  repeat with_reducible refine And.intro (by first | omega | decide) ?_
                  refine hKK42 _ _ ?_
                  try clear hKK42 KK42
                  refine Lwp_seq fun KK43 hKK43 => ?_
                  refine LdrawE [0,1,4,5,2,3,6,7,8] [] none (by kernel_rfl) (by kernel_rfl) (by kernel_rfl) (by kernel_rfl) (by simp [Watch.holds]) ?_
                  simp -dsimp only [go_sem, ↓reduceIte]
                  refine Pc.k' (CutP fz bz kk (by omega)) ?_
                  rintro _ ⟨g1, rfl⟩
                  simp -dsimp only [go_sem, ↓reduceIte]
                  refine ⟨⟨_, rfl⟩, ?_⟩
                  refine Pc.k' (RCutP fz bz kk hkI2 (by omega)) ?_
                  rintro _ ⟨g2, rfl⟩
                  simp -dsimp only [go_sem, ↓reduceIte]
                  refine ⟨⟨_, rfl⟩, ?_⟩
                  refine hKK43 _ _ ?_
                  try clear hKK43 KK43
                  refine Lwp_cond (by simp only [go_sem, ↓reduceIte]; rfl) (fun ht => ?_) (fun hf => ?_)
                  · skip
                    cases ht
                  · skip
                    refine Lwp_skip ?_
                    try simp -dsimp only [go_sem, ↓reduceIte]
                    refine hKK41 _ _ ?_
                    try clear hKK41 KK41
                    refine LregionG [none, none] (by kernel_rfl) (by kernel_rfl) ?_
                    simp -dsimp only [go_sem, ↓reduceIte, e8]
                    repeat with_reducible refine And.intro (by first | omega | decide) ?_
                    exact hII3 (3 - (q2 + 1)) _ _ (by omega) ⟨q2 + 1, rfl, by omega, hrowk, rfl⟩
                · skip
                  refine Lwp_exit ?_
                  simp -dsimp only [go_sem, ↓reduceIte]
                  refine hKK25 _ _ ?_
                  try clear hKK25 KK25
                  refine LregionG [none, none] (by kernel_rfl) (by kernel_rfl) ?_
                  simp -dsimp only [go_sem, ↓reduceIte, e7]
                  repeat with_reducible refine And.intro (by first | omega | decide) ?_
                  exact hII (4 - (i + 1)) _ _ (by omega) ⟨i + 1, rfl, by omega, fun h => hrowk (by omega), rfl⟩
          · skip
            refine Lwp_exit ?_
            simp -dsimp only [go_sem, ↓reduceIte]
            refine hKK21 _ _ ?_
            try clear hKK21 KK21
            refine Lwp_seq fun KK44 hKK44 => ?_
            refine LregionG [none] (by kernel_rfl) (by kernel_rfl) ?_
            simp -dsimp only [go_sem, ↓reduceIte]
            repeat with_reducible refine And.intro (by first | omega | decide) ?_
            refine hKK44 _ _ ?_
            try clear hKK44 KK44
            refine Lwp_ret ?_
            simp only [LThen, LBlock, LPost, Tryz.results3]
            simp -dsimp only [go_sem, ↓reduceIte]
            exact ret_keep (hRR _ _ rfl)

end Go.Proofs.YtdhngmldmalbbaaGreat
end
section
set_option linter.all false
namespace Go.Proofs.YtdhngmldmalbbaaGreat
open Go.Lift Go.RowKit Go.Store
set_option linter.unusedSimpArgs false
set_option linter.unusedVariables false

set_option maxRecDepth 100000
open Go.ChangeShapes Go.WideShapes Go.ChangeAt
theorem bulk_len {H : Type} : ∀ (ls : List (DataW H)), ls.length ≤ Rows.uptoBulkAll ls
  | [] => Nat.zero_le _
  | d :: r => by
    have h := bulk_len r
    have h1 : 1 ≤ Rows.uptoBulk d := by
      cases d <;> try (simp [Rows.uptoBulk]; done)
      rename_i l
      cases l <;> simp [Rows.uptoBulk]
    simp only [Rows.uptoBulkAll, List.length_cons]; omega
section
variable {H : Type} {enc : TypeId × Value → H} {P : Program}
/-- a call that makes new blocks, frozen ones among them, and leaves those that were there. -/
theorem post_of_below {f : Func} {s : ChangeSpec} {apart fresh handsOn again : Bool} {W W' : World} {args : Array Value} {v : Value} {ds gs : List (DataW H)} {before pa pv : List MemPlace}
    (hW : DataW.Whole enc P f.params.toList s.vars apart W args.toList ds gs before) (hB : Below W.heap.size W W')
    (hres : ∀ (b : Nat) (sp : Nat → Bool) (hd : Bool), DataW.TrodAll enc P W' b sp hd f.resultTypes.toList (v.resultList f.resultTypes.size) (s.fn H (ds ++ gs)).results [])
    (hargs : ∀ sp : Nat → Bool, (∀ p ∈ before, sp p.block = true) → DataW.TrodAll enc P W' 0 sp true f.params.toList args.toList (s.fn H (ds ++ gs)).args pa)
    (hvars : ∀ sp : Nat → Bool, (∀ p ∈ before, sp p.block = true) → DataW.TrodVars enc P W' sp s.vars (s.fn H (ds ++ gs)).vars pv)
    (hps : before = pa ++ pv)
    (hok : ∀ (j : Nat) (t : TypeId) (r : Value), f.resultTypes[j]? = some t → (v.resultList f.resultTypes.size)[j]? = some r → Value.okWide P W' .any 0 t r) :
    s.post enc P f apart fresh handsOn again W args v W' := by
  have hold : ∀ p ∈ before, (fun b => decide (b < W.heap.size)) p.block = true := fun p hp => by simpa using hW.lt p hp
  refine ⟨ds, gs, before, [], pa, pv, hW, hres _ _ _, hargs _ hold, hvars _ hold, World.keptBut_mono (fun p hp => ⟨hp, ?_⟩) (hB.frame (· ∈ before)), fun _ => ?_⟩
  · rw [hps, List.mem_append] at hp
    exact Or.inr hp
  · have hlt := hW.lt
    obtain ⟨_, _, _, _, _, hz, hn⟩ := hW
    refine ⟨hok, _, _, ([] ++ pa) ++ pv, ⟨[] ++ pa, pv, trodAll_append (hargs _ (fun _ _ => rfl)) (hres _ _ _), hvars _ (fun _ _ => rfl), rfl, ?_, ?_⟩, ?_⟩
    · intro b off hp
      have hp' : MemPlace.cell b off ∈ before := by rw [hps]; simpa using hp
      rw [hB.frozen (show (⟨b, off, none⟩ : Addr).block < _ from hlt _ hp')]
      exact hz b off hp'
    · intro ha
      have := hn ha
      rw [hps] at this
      simpa using this
    · intro p hp _
      rw [hps]
      simpa using hp
end
theorem own : ownKnob Tryz.prog.godebug = none := by kernel_rfl

end Go.Proofs.YtdhngmldmalbbaaGreat
end
section
set_option linter.all false
namespace Go.Proofs.YtdhngmldmalbbaaGreat
open Go.Lift Go.RowKit Go.Store
set_option linter.unusedSimpArgs false
set_option linter.unusedVariables false
set_option maxRecDepth 100000
open Go.ChangeShapes Go.WideShapes Go.ChangeAt
theorem storeJournals_contract (H : Type) (enc : TypeId × Value → H) (W : World) (base : Nat) (args : Array Value) (ds gs : List (DataW H)) (before : List MemPlace)
    (hval : ∀ (j : Nat) t v, Tryz.f3.params[j]? = some t → args[j]? = some v → Value.okWide Tryz.prog W .any base t v)
    (hW : DataW.Whole enc Tryz.prog Tryz.f3.params.toList Rows.storeJournalsSpec.vars false W args.toList ds gs before) :
    Calls Tryz.prog 3 args W fun e W' => ∃ v, e = .returned v ∧ Rows.storeJournalsSpec.post enc Tryz.prog Tryz.f3 false true false false W args v W' := by
  have hW' := hW
  obtain ⟨p, q, hA0, hV, rfl, hfz, hnd⟩ := hW
  have hA : DataW.TrodAll enc Tryz.prog W 0 (fun _ => true) true Tryz.f3.params.toList args.toList ds p := hA0
  rw [Tryz.params3] at hA hval
  obtain ⟨v0, vs0, d0, ds0, p0, q0, hargs, rfl, rfl, h0, r0⟩ := trodAll_cons hA
  obtain ⟨v1, vs1, d1, ds1, p1, q1, rfl, rfl, rfl, h1, r1⟩ := trodAll_cons r0
  obtain ⟨v2, vs2, d2, ds2, p2, q2, rfl, rfl, rfl, h2, r2⟩ := trodAll_cons r1
  obtain ⟨rfl, rfl, rfl⟩ := trodAll_nil r2
  obtain rfl : args = #[v0, v1, v2] := by cases args; simp_all
  obtain ⟨rfl, rfl⟩ := trodVars_none hV
  obtain ⟨f0, xs0, hr0, hd0⟩ := open_bytes (hval 0 22 v0 rfl rfl) h0
  obtain ⟨f1, xs1, hr1, hd1⟩ := open_bytes (hval 1 22 v1 rfl rfl) h1
  obtain ⟨n2, rfl, rfl, rfl, w2⟩ := open_int Tryz.underlying3 (hval 2 3 v2 rfl rfl) h2
  have hn2 := w2
  simp only [Lit.wf, IntKind.min, IntKind.max, IntKind.signed, IntKind.bits, Bool.and_eq_true, decide_eq_true_eq] at hn2
  simp at hn2
  have hlt : ∀ x ∈ p0 ++ (p1 ++ (([] : List MemPlace) ++ ([]))), x.block < W.heap.size := fun x hx => hW'.lt x (by simpa using hx)
  refine (LCalls.true (Journals_ok f0 xs0 f1 xs1 n2 ⟨by omega, by omega⟩) (.cons hr0 (.cons hr1 (.cons (.int _ _) .nil)))).mono fun e W' ⟨he, hB⟩ => ?_
  subst he
  exact ⟨_, rfl, post_of_below (pa := p0 ++ (p1 ++ (([] : List MemPlace) ++ ([])))) (pv := []) hW' hB (fun _ _ _ => trodAll_cons_mk (shut_bool Tryz.underlying4 _) trodAll_mk0)
    (fun sp hsp => (trodAll_cons_mk (WideElems.Trod_stays (by kernel_rfl) (by kernel_rfl) (by decide) h0 (fun x hx => hB.same (hlt x (by simp [hx]))) (fun x hx => hsp x (by simp [hx]))) (trodAll_cons_mk (WideElems.Trod_stays (by kernel_rfl) (by kernel_rfl) (by decide) h1 (fun x hx => hB.same (hlt x (by simp [hx]))) (fun x hx => hsp x (by simp [hx]))) (trodAll_cons_mk (shut_int Tryz.underlying3 w2) trodAll_mk0)))) (fun _ _ => rfl) (by simp)
    (ok_one (by kernel_rfl) rfl (okWide_bool_mk Tryz.underlying4 _))⟩
theorem storeJournals_lifted (os : Os) (started : os.Started) (H : Type) (enc : TypeId × Value → H) :
    ReturnsInHanded {} Tryz.checked os 3 .any (Rows.storeJournalsSpec.pre6 enc Tryz.prog Tryz.f3 Rows.storeJournalsRow.domain false) (Rows.storeJournalsSpec.post enc Tryz.prog Tryz.f3 false true false false) := by
  refine returnsInHanded_of_change (C := Tryz.checked) own started (by kernel_rfl) Tryz.func3
    (ChangeSpec.witness6 (enc := enc) (C := Tryz.checked) false ⟨#[], #[.slice none 0 0, .slice none 0 0, .int .i64 0], []⟩ 8 (by kernel_rfl) (by kernel_rfl) (by kernel_rfl) (by kernel_rfl)) ?_
  intro W base args ds gs before hval hW _ _
  exact storeJournals_contract H enc W base args ds gs before hval hW
theorem storeJournals_proved : Rows.StoreJournalsSaid :=
  OpenClaim.holds_of_wide 3 Tryz.f3 rfl rfl rfl rfl rfl rfl rfl ⟨rfl, rfl, rfl, rfl, rfl⟩ rfl rfl rfl rfl rfl (by kernel_rfl) Tryz.func3 (by kernel_rfl)
    (of_decide_eq_true (by kernel_rfl)) (by unfold Func.isWrapper; first | (rw [if_pos (by decide +kernel)]; kernel_rfl) | (rw [if_neg (by decide +kernel)]; exact ⟨rfl, rfl⟩))
    (fun os started H enc _ => storeJournals_lifted os started H enc)
end Go.Proofs.YtdhngmldmalbbaaGreat
end
