/-
  A part of a proof: StoreJournals answers true for all codes, bytes and numbers, without conditions.
-/
import Derived.Test.YtdhngmldmalbbaaGreatR4
section
set_option linter.all false
namespace Go.Proofs.YtdhngmldmalbbaaGreat
open Go.Lift Go.RowKit Go.Store
set_option linter.unusedSimpArgs false
set_option linter.unusedVariables false

def sN : Nat → Sch
  | 0 => .nil
  | k + 1 => .int (sN k)
theorem sN_succ : ∀ {k : Nat}, (sN k).app sI = sN (k + 1)
  | 0 => rfl
  | k + 1 => by simp only [sN, Sch.app, sN_succ]
theorem sN_add : ∀ {a b : Nat}, (sN a).app (sN b) = sN (a + b)
  | 0, b => by rw [Nat.zero_add]; rfl
  | a + 1, b => by rw [Nat.add_right_comm]; simp only [sN, Sch.app, sN_add]
theorem sN_n : ∀ {k : Nat}, (sN k).n = k
  | 0 => rfl
  | k + 1 => by simp only [sN, Sch.n, sN_n]
theorem ok_sN : ∀ {k : Nat} {us : List LV}, ok (sN k) us → ∀ {j : Nat}, j < k → ok (sN j) (us.take j) ∧ ok sI [us.getD j .any] ∧ us.take (j + 1) = us.take j ++ [us.getD j .any] ∧ us.drop j = us.getD j .any :: us.drop (j + 1)
  | 0, _, _, _, hj => absurd hj (by omega)
  | k + 1, us, h, 0, _ => by
    obtain ⟨v, us', rfl, h1, h2⟩ := ok_int h
    exact ⟨trivial, ⟨rfl, h1.1, h1.2, trivial⟩, rfl, rfl⟩
  | k + 1, us, h, j + 1, hj => by
    obtain ⟨v, us', rfl, h1, h2⟩ := ok_int h
    obtain ⟨g1, g2, g3, g4⟩ := ok_sN h2 (j := j) (by omega)
    exact ⟨⟨rfl, h1.1, h1.2, g1⟩, by simpa using g2, by simpa using g3, by simpa using g4⟩
theorem ptrs_len {l off k : Nat} : (ptrs l off k).length = k := by simp [ptrs]
theorem ptrs_getD {l off k j : Nat} (h : j < k) : (ptrs l off k).getD j [] = [.ptr l 0 (off + j)] := by
  rw [List.getD_eq_getElem?_getD, ptrs, List.getElem?_map, List.getElem?_range h]; rfl
theorem fits_sN {W : Wk} (hW : WkL W) {k j : Nat} {us : List LV} {st : W.St} (hok : ok (sN k) us) (hj : j ≤ k) (hf : W.fits (wal W (sN k) us st).2) : W.fits (wal W (sN j) (us.take j) st).2 := by
  have h1 : ok (sN j) (us.take j) := by
    rcases Nat.lt_or_eq_of_le hj with h | rfl
    · exact (ok_sN hok h).1
    · rw [List.take_of_length_le (by rw [ok_len hok, sN_n]; exact Nat.le_refl _)]; exact hok
  refine fitsL hW (t := sN (k - j)) (vs := us.drop j) h1 ?_
  rw [List.take_append_drop, sN_add, show j + (k - j) = k by omega]
  exact hf

set_option maxHeartbeats 400000 in
theorem Ints_ok (W : Wk) (hW : WkL W) (k : Nat) (hk : k ≤ 100) : WOk W (aN W k) 61 (sN k) := by
  refine WOk_intro 0 Tryz.func61 rfl (by kernel_rfl) (fun _ _ _ => rfl) fun S w l n off pre us post own st RR hi hl hS hpre hok hfit hRR => ?_
  have hlS := lt_of_get hS
  have ktk : us.take k = us := List.take_of_length_le (by rw [ok_len hok, sN_n]; exact Nat.le_refl _)
  have kdr : us.drop k = [] := List.drop_of_length_le (by rw [ok_len hok, sN_n]; exact Nat.le_refl _)
  refine Lwp_seq fun KK0 hKK0 => ?_
  refine LregionG [none, none, none] (by kernel_rfl) (by kernel_rfl) ?_
  simp -dsimp only [go_sem, ↓reduceIte, ptrs_len]
  repeat with_reducible refine And.intro (by first | omega | decide) ?_
  refine hKK0 _ _ ?_
  try clear hKK0 KK0
  refine Lwp_block ?_
  refine Lwp_loopK [0, 6, 7, 8] (fun m vs S' => ∃ j : Nat, vs = [LV.iface W.ty (.ptr w 0 0), .sl true (ptrs l off k), V k, V j] ∧ WP W S w l n pre own (sN j) (us.take j) st (us.drop j ++ post) S' ∧ j ≤ k ∧ m = k - j) k rfl (⟨0, by simp only [go_sem, ↓reduceIte, ptrs_len]; rfl, WP.refl hi hS, Nat.zero_le _, rfl⟩) ?_
  rintro m us S2 ⟨j, rfl, hp, hj, hm⟩ II hII
  refine Lwp_seq fun KK1 hKK1 => ?_
  refine LregionG [none] (by kernel_rfl) (by kernel_rfl) ?_
  simp -dsimp only [go_sem, ↓reduceIte]
  repeat with_reducible refine And.intro (by first | omega | decide) ?_
  refine hKK1 _ _ ?_
  try clear hKK1 KK1
  refine Lwp_seq fun KK2 hKK2 => ?_
  refine Lwp_cond (by simp only [go_sem, ↓reduceIte]; rfl) (fun ht => ?_) (fun hf => ?_)
  · skip
    have hjk : j < k := by simpa using ht
    obtain ⟨g1, g2, g3, g4⟩ := ok_sN hok hjk
    have e0 := ptrs_getD (l := l) (off := off) hjk
    have e2 : IntKind.i64.wrap ((j : Int) + 1) = ((j + 1 : Nat) : Int) := w64 (by omega) (by omega)
    refine Lwp_skip ?_
    try simp -dsimp only [go_sem, ↓reduceIte]
    refine hKK2 _ _ ?_
    try clear hKK2 KK2
    refine Lwp_seq fun KK3 hKK3 => ?_
    refine Lwp_block ?_
    refine Lwp_seq fun KK4 hKK4 => ?_
    refine LregionG [none, none, none] (by kernel_rfl) (by kernel_rfl) ?_
    simp -dsimp only [go_sem, ↓reduceIte, e0, ptrs_len, hjk]
    repeat with_reducible refine And.intro (by first | omega | decide) ?_
    refine hKK4 _ _ ?_
    try clear hKK4 KK4
    refine LregionG [none, none, none] (by kernel_rfl) (by kernel_rfl) ?_
    simp -dsimp only [go_sem, ↓reduceIte, hW.mInt]
    refine hW.hInt.kk hW [us.getD j .any] hp hl hlS hpre rfl (by rw [sN_n]) (by rw [g4]; rfl) g2 ?_ ?_
    · rw [← g3, sN_succ]; exact fits_sN hW hok hjk hfit
    rintro r S3 hp3
    rw [← g3, sN_succ] at hp3
    simp -dsimp only [go_sem, ↓reduceIte]
    refine hKK3 _ _ ?_
    try clear hKK3 KK3
    refine LregionG [none, none] (by kernel_rfl) (by kernel_rfl) ?_
    simp -dsimp only [go_sem, ↓reduceIte, e2]
    repeat with_reducible refine And.intro (by first | omega | decide) ?_
    exact hII (k - (j + 1)) _ _ (by omega) ⟨j + 1, rfl, hp3, hjk, rfl⟩
  · skip
    obtain rfl : j = k := Nat.le_antisymm hj (Nat.le_of_not_lt (by simpa using hf))
    refine Lwp_exit ?_
    simp -dsimp only [go_sem, ↓reduceIte]
    simp only [LThen, LBlock, LPost, Tryz.results61]
    simp -dsimp only [go_sem, ↓reduceIte]
    rw [ktk, kdr] at hp
    exact ret_keep (hRR _ _ hp)

end Go.Proofs.YtdhngmldmalbbaaGreat
end
section
set_option linter.all false
namespace Go.Proofs.YtdhngmldmalbbaaGreat
open Go.Lift Go.RowKit Go.Store
set_option linter.unusedSimpArgs false
set_option linter.unusedVariables false
set_option maxHeartbeats 400000 in
theorem Place_ok (W : Wk) (hW : WkL W) : WOk W (aI W) 62 sPlace := by
  refine WOk_intro 0 Tryz.func62 rfl (by kernel_rfl) (fun _ _ _ => rfl) fun S w l n off pre us post own st RR hi hl hS hpre hok hfit hRR => ?_
  have hlS := lt_of_get hS
  have hp0 : WP W S w l n pre own .nil [] st (us ++ post) S := WP.refl hi hS
  refine LdrawE [0,1,2,3,4,5,6,7,8,9,10,11,12,13,14] [] none (by kernel_rfl) (by kernel_rfl) (by kernel_rfl) (by kernel_rfl) (by simp [Watch.holds]) ?_
  simp -dsimp only [go_sem, ↓reduceIte]
  repeat with_reducible refine And.intro (by first | omega | decide | trivial) ?_
  refine WOk.kk hW ((Ints_ok W hW 4 (by decide))) us hp0 hl hlS hpre rfl rfl (rfl) hok hfit ?_
  rintro r S2 hp
  simp -dsimp only [go_sem, ↓reduceIte]
  simp only [LThen, LBlock, LPost, Tryz.results62]
  simp -dsimp only [go_sem, ↓reduceIte]
  exact ret_keep (hRR _ _ hp)

set_option maxHeartbeats 400000 in
theorem Reading_ok (W : Wk) (hW : WkL W) : WOk W (aI W) 64 sRd := by
  refine WOk_intro 0 Tryz.func64 rfl (by kernel_rfl) (fun _ _ _ => rfl) fun S w l n off pre us post own st RR hi hl hS hpre hok hfit hRR => ?_
  have hlS := lt_of_get hS
  have hp0 : WP W S w l n pre own .nil [] st (us ++ post) S := WP.refl hi hS
  refine LdrawE [0,1,2,3,4,5,6,7,8] [] none (by kernel_rfl) (by kernel_rfl) (by kernel_rfl) (by kernel_rfl) (by simp [Watch.holds]) ?_
  simp -dsimp only [go_sem, ↓reduceIte]
  repeat with_reducible refine And.intro (by first | omega | decide | trivial) ?_
  refine WOk.kk hW ((Ints_ok W hW 2 (by decide))) us hp0 hl hlS hpre rfl rfl (rfl) hok hfit ?_
  rintro r S2 hp
  simp -dsimp only [go_sem, ↓reduceIte]
  simp only [LThen, LBlock, LPost, Tryz.results64]
  simp -dsimp only [go_sem, ↓reduceIte]
  exact ret_keep (hRR _ _ hp)

set_option maxHeartbeats 400000 in
theorem Number_ok (W : Wk) (hW : WkL W) : WOk W (aI W) 68 sI := by
  refine WOk_intro 0 Tryz.func68 rfl (by kernel_rfl) (fun _ _ _ => rfl) fun S w l n off pre us post own st RR hi hl hS hpre hok hfit hRR => ?_
  have hlS := lt_of_get hS
  have hp0 : WP W S w l n pre own .nil [] st (us ++ post) S := WP.refl hi hS
  refine LregionG [none, none, none] (by kernel_rfl) (by kernel_rfl) ?_
  simp -dsimp only [go_sem, ↓reduceIte, hW.mInt]
  repeat with_reducible refine And.intro (by first | omega | decide | trivial) ?_
  refine WOk.kk hW (hW.hInt) us hp0 hl hlS hpre rfl rfl (rfl) hok hfit ?_
  rintro r S2 hp
  simp -dsimp only [go_sem, ↓reduceIte]
  simp only [LThen, LBlock, LPost, Tryz.results68]
  simp -dsimp only [go_sem, ↓reduceIte]
  exact ret_keep (hRR _ _ hp)

set_option maxHeartbeats 400000 in
theorem Text_ok (W : Wk) (hW : WkL W) : WOk W (aI W) 72 sStr := by
  refine WOk_intro 0 Tryz.func72 rfl (by kernel_rfl) (fun _ _ _ => rfl) fun S w l n off pre us post own st RR hi hl hS hpre hok hfit hRR => ?_
  have hlS := lt_of_get hS
  have hp0 : WP W S w l n pre own .nil [] st (us ++ post) S := WP.refl hi hS
  refine LregionG [none, none, none] (by kernel_rfl) (by kernel_rfl) ?_
  simp -dsimp only [go_sem, ↓reduceIte, hW.mText]
  repeat with_reducible refine And.intro (by first | omega | decide | trivial) ?_
  refine WOk.kk hW (hW.hText) us hp0 hl hlS hpre rfl rfl (rfl) hok hfit ?_
  rintro r S2 hp
  simp -dsimp only [go_sem, ↓reduceIte]
  simp only [LThen, LBlock, LPost, Tryz.results72]
  simp -dsimp only [go_sem, ↓reduceIte]
  exact ret_keep (hRR _ _ hp)

end Go.Proofs.YtdhngmldmalbbaaGreat
end
section
set_option linter.all false
namespace Go.Proofs.YtdhngmldmalbbaaGreat
open Go.Lift Go.RowKit Go.Store
set_option linter.unusedSimpArgs false
set_option linter.unusedVariables false

theorem Lwp_frzRowS {N : Nat} {c : Code} {Q : Exit → Env → LS → Prop} {env : Env} {S : LS} {lo sz : Nat} {es : List (List LV)} (t : Nat) (u : LV) (ht : Nat.blt t N = true) (hu : env t = some u) (hr : RowS S lo u sz es)
    (h : ∀ (full : Bool) (S1 : LS), S1.length = S.length → (∀ j, j ∉ rowIds u → S1[j]? = S[j]?) → Lwp Tryz.prog N c Q (env.put t (.sl full es)) S1) : Lwp Tryz.prog N c Q env S := by
  rcases hr.2 with he | ⟨id, hk, he, hT⟩
  · have := h true S rfl (fun _ _ => rfl)
    have e : env.put t (.sl true es) = env := by
      funext x
      simp only [Env.put]
      split
      · rename_i e; rw [e, hu, he]
      · rfl
    rwa [e] at this
  · subst he
    refine Lwp_freeze t id ht _ hu ?_
    have e : frzK (fun j => j != id) S 1 (.ref id 0 es.length) = .sl false es := by
      simp only [frzK, bne_self_eq_false, hT]
      simp [frzK]
    rw [e]
    exact h false _ (by simp) (fun j hj => by rw [List.getElem?_set_ne (by simp [rowIds] at hj; omega)])
theorem ovr_mid : ∀ {pre : List LV} {us vs : LV} {post : List LV}, ovr (pre ++ us :: post) pre.length [vs] = pre ++ ([vs] ++ post)
  | [], us, vs, post => by cases post <;> rfl
  | p :: pre, us, vs, post => by
    have := ovr_mid (pre := pre) (us := us) (vs := vs) (post := post)
    simp only [List.cons_append, List.length_cons, ovr, this]

set_option maxHeartbeats 400000 in
theorem SlRd_ok (W : Wk) (hW : WkL W) : WOk W (aF W 64) 63 (.sl sRd .nil) := by
  refine WOk_intro 0 Tryz.func63 rfl (by kernel_rfl) (fun _ _ _ => rfl) fun S w l n off pre us post own st RR hi hl hS hpre hok hfit hRR => ?_
  have hlS := lt_of_get hS
  have hp0 : WP W S w l n pre own .nil [] st (us ++ post) S := WP.refl hi hS
  obtain ⟨f, es, us', rfl, hn, hes, h0⟩ := ok_sl hok
  obtain rfl := ok_nil h0
  clear h0 hok
  simp only [List.cons_append, List.nil_append] at hS hp0
  have hfit2 : W.fits (walN (wal W sRd) (zs sRd) (W.count st es.length).1 es (W.count st es.length).2).2 := hfit
  have hfitc : W.fits (W.count st es.length).2 := fitsN hW (Nat.zero_le _) hfit2
  have hNlt := hW.cnt (m := es.length) hi hn
  obtain ⟨cells, hcells⟩ : ∃ c, c = pre ++ (.sl f es :: post) := ⟨_, rfl⟩
  have hc1 : off < cells.length := by rw [hcells, ← hpre]; simp
  have hc2 : cells.getD off .any = .sl f es := by rw [hcells, ← hpre]; simp [List.getD_eq_getElem?_getD]
  have hlow := hW.lt hi
  rw [← hcells] at hS
  refine Lwp_seq fun KK0 hKK0 => ?_
  refine LdrawE [0,1,2,3,4,5,6,7,8,9] [(l, (n, [cells]))] none (by kernel_rfl) (by kernel_rfl) (by kernel_rfl) (by kernel_rfl) (by simp only [Watch.holds, List.mem_singleton, forall_eq]; exact hS) ?_
  simp -dsimp only [go_sem, ↓reduceIte, hc1, hc2, hW.mCount]
  repeat with_reducible refine And.intro (by first | omega | decide | trivial) ?_
  refine (hW.hCount S w own st es.length hi hn hfitc).k ?_
  rintro _ S1 ⟨rfl, own1, i1, K1, ow1⟩
  have hl1 : S1[l]? = some (some (n, [cells])) := K1.get hS hl
  simp -dsimp only [go_sem, ↓reduceIte, hl1]
  refine hKK0 _ _ ?_
  try clear hKK0 KK0
  refine Lwp_seq fun KK1 hKK1 => ?_
  refine LregionG [none] (by kernel_rfl) (by kernel_rfl) ?_
  simp -dsimp only [go_sem, ↓reduceIte]
  repeat with_reducible refine And.intro (by first | omega | decide) ?_
  refine hKK1 _ _ ?_
  try clear hKK1 KK1
  refine Lwp_seq fun KK2 hKK2 => ?_
  refine Lwp_seq fun KK3 hKK3 => ?_
  refine LregionG [none, none] (by kernel_rfl) (by kernel_rfl) ?_
  simp -dsimp only [go_sem, ↓reduceIte]
  repeat with_reducible refine And.intro (by first | omega | decide) ?_
  refine hKK3 _ _ ?_
  try clear hKK3 KK3
  refine Lwp_block ?_
  refine Lwp_loopK [0, 1, 2, 6, 7, 19, 20] (fun m vs S' => ∃ (k : Nat) (own1 : List Nat) (xs : List (List LV)) (u7 : LV), vs = [.iface W.ty (.ptr w 0 0), .ptr l 0 off, .func (.func 64) [] [], V (W.count st es.length).1, u7, V (W.count st es.length).1, V k] ∧ W.inv S' w own1 (walN (wal W sRd) (zs sRd) k es (W.count st es.length).2).2 ∧ xs.map (nz sRd) = (walN (wal W sRd) (zs sRd) k es (W.count st es.length).2).1 ∧ (∀ x ∈ xs, ok sRd x) ∧ xs.length = k ∧ RowS S' S.length u7 2 xs ∧ (∀ id ∈ rowIds u7, id ∉ own1) ∧ Keeps S S' own ∧ (∀ id ∈ own1, id ∈ own ∨ S.length ≤ id) ∧ k ≤ (W.count st es.length).1 ∧ m = (W.count st es.length).1 - k) (W.count st es.length).1 rfl (⟨0, own1, [], .sl true [], by simp only [go_sem, ↓reduceIte, Int.natCast_zero], i1, rfl, by simp, rfl, RowS.nil, by simp [rowIds], K1, ow1, Nat.zero_le _, rfl⟩) ?_
  rintro m us S2 ⟨k, own2, xs, u7, rfl, i2, hz, hxs, hxl, hrow, hdis, hK, how, hk, hm⟩ II hII
  refine Lwp_seq fun KK4 hKK4 => ?_
  refine LregionG [none] (by kernel_rfl) (by kernel_rfl) ?_
  simp -dsimp only [go_sem, ↓reduceIte]
  repeat with_reducible refine And.intro (by first | omega | decide) ?_
  refine hKK4 _ _ ?_
  try clear hKK4 KK4
  refine Lwp_seq fun KK5 hKK5 => ?_
  refine Lwp_cond (by simp only [go_sem, ↓reduceIte]; rfl) (fun ht => ?_) (fun hf => ?_)
  · skip
    have hkN : k < (W.count st es.length).1 := by simpa using ht
    have hlow2 := hW.lt i2
    have hl2 : S2[l]? = some (some (n, [cells])) := hK.get hS hl
    have hl3 : ∀ T, (S2 ++ T)[l]? = some (some (n, [cells])) := fun T => by rw [List.getElem?_append_left (lt_of_get hl2)]; exact hl2
    have hS2l : S.length ≤ S2.length := hK.1
    have hx0 : ok sRd (es.getD k (zs sRd)) := by
      rw [List.getD_eq_getElem?_getD]
      by_cases h : k < es.length
      · rw [List.getElem?_eq_getElem h]; exact hes _ (List.getElem_mem h)
      · rw [List.getElem?_eq_none (by omega)]; exact ok_zs
    have e1 : IntKind.i64.wrap ((k : Int) + 1) = ((k + 1 : Nat) : Int) := w64 (by omega) (by omega)
    refine Lwp_skip ?_
    try simp -dsimp only [go_sem, ↓reduceIte]
    refine hKK5 _ _ ?_
    try clear hKK5 KK5
    refine Lwp_seq fun KK6 hKK6 => ?_
    refine Lwp_block ?_
    refine Lwp_seq fun KK7 hKK7 => ?_
    refine LregionG [none, none] (by kernel_rfl) (by kernel_rfl) ?_
    simp -dsimp only [go_sem, ↓reduceIte]
    repeat with_reducible refine And.intro (by first | omega | decide) ?_
    refine hKK7 _ _ ?_
    try clear hKK7 KK7
    refine Lwp_seq fun KK8 hKK8 => ?_
    refine LregionG [none] (by kernel_rfl) (by kernel_rfl) ?_
    simp -dsimp only [go_sem, ↓reduceIte]
    
    refine hKK8 _ _ ?_
    try clear hKK8 KK8
    refine Lwp_seqJ [0, 1, 2, 6, 7, 19, 20, 8, 9] (fun vs S3 => vs = [.iface W.ty (.ptr w 0 0), .ptr l 0 off, .func (.func 64) [] [], V (W.count st es.length).1, u7, V (W.count st es.length).1, V k, V k, .ptr S2.length 0 0] ∧ S3 = S2 ++ [some (2, [es.getD k (zs sRd)])]) rfl (fun KK9 hKK9 => ?_) ?_
    · skip
      refine Lwp_seq fun KK10 hKK10 => ?_
      refine LregionG [none, none, none, none, none, none] (by kernel_rfl) (by kernel_rfl) ?_
      simp -dsimp only [go_sem, ↓reduceIte, hl3, hc1, hc2]
      repeat with_reducible refine And.intro (by first | omega | decide) ?_
      refine hKK10 _ _ ?_
      try clear hKK10 KK10
      refine Lwp_cond (by simp only [go_sem, ↓reduceIte]; rfl) (fun ht => ?_) (fun hf => ?_)
      · skip
        have hke : k < es.length := by simpa using ht
        obtain ⟨x0, hx0e⟩ : ∃ x0, x0 = es.getD k [] := ⟨_, rfl⟩
        have hx0l : x0.length = 2 := by rw [hx0e]; exact ok_len (ok_mem hes hke)
        have hx0t : x0.take 2 = x0 := List.take_of_length_le (by omega)
        have hov0 : ovr (zs sRd) 0 x0 = x0 := ovr_all (by rw [hx0l]; rfl)
        have hx0e2 : es.getD k (zs sRd) = x0 := by rw [hx0e, List.getD_eq_getElem?_getD, List.getD_eq_getElem?_getD, List.getElem?_eq_getElem hke]; rfl
        refine LregionG [none, none, none, none, none, none, none] (by kernel_rfl) (by kernel_rfl) ?_
        simp -dsimp only [go_sem, ↓reduceIte, hl3, hc1, hc2, hke, ← hx0e, hx0l, hx0t]
        repeat with_reducible refine And.intro (by first | omega | decide) ?_
        try simp -dsimp only [go_sem, ↓reduceIte]
        refine hKK9 _ _ ?_
        first | exact ⟨rfl, rfl⟩ | (refine ⟨rfl, ?_⟩; simp [List.getD_eq_getElem?_getD, List.getElem?_eq_none (Nat.le_of_not_lt hke), zs, sRd]; done) | (refine ⟨rfl, ?_⟩; rw [hx0e2]; done) | (refine ⟨rfl, ?_⟩; rw [hx0e2]; exact congrArg (fun z => S2 ++ [some (2, [z])]) hov0)
      · skip
        have hke : ¬ k < es.length := by simpa using hf
        refine Lwp_skip ?_
        try simp -dsimp only [go_sem, ↓reduceIte]
        try simp -dsimp only [go_sem, ↓reduceIte]
        refine hKK9 _ _ ?_
        first | exact ⟨rfl, rfl⟩ | (refine ⟨rfl, ?_⟩; simp [List.getD_eq_getElem?_getD, List.getElem?_eq_none (Nat.le_of_not_lt hke), zs, sRd]; done) | (refine ⟨rfl, ?_⟩; rw [hx0e2]; done) | (refine ⟨rfl, ?_⟩; rw [hx0e2]; exact congrArg (fun z => S2 ++ [some (2, [z])]) hov0)
    · rintro us SJ ⟨rfl, rfl⟩
      refine Lwp_seq fun KK11 hKK11 => ?_
      refine LregionG [none, none, none] (by kernel_rfl) (by kernel_rfl) ?_
      simp -dsimp only [go_sem, ↓reduceIte]
      refine (Reading_ok W hW (S2 ++ [some (2, [es.getD k (zs sRd)])]) w S2.length 2 0 [] (es.getD k (zs sRd)) [] own2 _ (hW.keep i2 (Keeps.app S2 _ []) (by simp)) (fun h => absurd (hlow2 _ h) (Nat.lt_irrefl _)) (by simp) rfl hx0 (by have := fitsN hW hkN hfit2; rw [walN_succ] at this; exact this)).k ?_
      rintro r S3 ⟨-, own3, us3, i3, z3, ok3, hS3, K3, ow3⟩
      simp only [List.nil_append, List.append_nil] at hS3
      have hl3' := ok_len ok3
      have K23 : Keeps S2 S3 own2 := ⟨by have := K3.1; simp at this; omega, fun j hj hn => (K3.2 j (by simp; omega) (by simp [hn]; omega)).trans (List.getElem?_append_left hj)⟩
      have hrow3 := hrow.mono (Nat.le_refl _) (fun id hid b hb => K23.get hb (hdis id hid))
      have hlow3 := hW.lt i3
      have hlen3 := K3.1
      simp only [List.length_append, List.length_cons, List.length_nil, Nat.zero_add] at hlen3 ow3
      simp -dsimp only [go_sem, ↓reduceIte]
      refine hKK11 _ _ ?_
      try clear hKK11 KK11
      have hu3 : us3.take 2 = us3 := List.take_of_length_le (by rw [hl3']; exact Nat.le_refl _)
      simp only [show sRd.n = 2 from rfl] at hl3'
      refine LregionG [none, none, none, none, none] (by kernel_rfl) (by kernel_rfl) ?_
      simp -dsimp only [go_sem, ↓reduceIte, hS3, hl3', hu3]
      repeat with_reducible refine And.intro (by first | omega | decide | trivial) ?_
      refine append_row hrow3 rfl (by simp only [go_sem]; rfl) (by simp only [go_sem]; first | exact ⟨rfl, rfl⟩ | exact ⟨rfl, rfl, rfl⟩ | rfl) (by simp only [go_sem]) (by simp only [go_sem, ↓reduceIte]) (by simp only [go_sem, ↓reduceIte]; rfl) (by simp [hl3']) (.inr (by simp)) (by simp only [LIM, List.length_cons, List.length_nil]; omega) fun S4 hS4l hrow4 hK4 => ?_
      have i4 := hW.keep i3 hK4 (fun id hid hm => (ow3 id hid).elim (fun h => hdis id hm h) (fun h => by have := (hrow.lo id hm).2; omega))
      simp -dsimp only [go_sem, ↓reduceIte]
      refine hKK6 _ _ ?_
      try clear hKK6 KK6
      refine LregionG [none, none] (by kernel_rfl) (by kernel_rfl) ?_
      simp -dsimp only [go_sem, ↓reduceIte, e1]
      repeat with_reducible refine And.intro (by first | omega | decide) ?_
      refine hII ((W.count st es.length).1 - (k + 1)) _ _ (by omega) ⟨k + 1, own3, xs ++ [us3], _, rfl, by rw [walN_succ]; exact i4, by rw [walN_succ, List.map_append, hz]; simp only [List.map_cons, List.map_nil, z3], fun x hx => ?_, by simp [hxl], hrow4.mono (by omega) (fun _ _ _ h => h), fun id hid => ?_, ?_, fun id hid => ?_, hkN, rfl⟩
      · rcases List.mem_append.1 hx with hx | hx
        · exact hxs x hx
        · rw [List.mem_singleton.1 hx]; exact ok3
      · simp only [rowIds, List.mem_singleton] at hid
        subst hid
        exact fun h => absurd (hlow3 _ h) (Nat.lt_irrefl _)
      · refine hK.trans (K23.trans hK4 (ids'' := own2 ++ rowIds u7) (fun j _ h => List.mem_append.2 h)) (fun j hj h => ?_)
        rcases h with h | h
        · exact h
        · rcases List.mem_append.1 h with h | h
          · exact (how j h).elim id fun h => by omega
          · have := (hrow.lo j h).1; omega
      · rcases ow3 id hid with h | h
        · exact how id h
        · exact .inr (by omega)
  · skip
    obtain rfl : k = (W.count st es.length).1 := Nat.le_antisymm hk (Nat.le_of_not_lt (by simpa using hf))
    refine Lwp_exit ?_
    simp -dsimp only [go_sem, ↓reduceIte]
    refine hKK2 _ _ ?_
    try clear hKK2 KK2
    have hl2 : S2[l]? = some (some (n, [cells])) := hK.get hS hl
    have hlu : l ∉ rowIds u7 := fun h => by have := (hrow.lo l h).1; omega
    refine Lwp_frzRowS 7 u7 rfl (by simp only [go_sem, ↓reduceIte]) hrow fun full S3 hS3l hK3 => ?_
    have hl3 : S3[l]? = some (some (n, [cells])) := (hK3 l hlu).trans hl2
    have hov : ovr cells off [.sl full xs] = pre ++ ([.sl full xs] ++ post) := by rw [hcells, ← hpre]; exact ovr_mid
    refine LregionG [none, none, none, none] (by kernel_rfl) (by kernel_rfl) ?_
    simp -dsimp only [go_sem, ↓reduceIte, hl3, hov, hc1]
    repeat with_reducible refine And.intro (by first | omega | decide) ?_
    simp only [LThen, LBlock, LPost, Tryz.results63]
    simp -dsimp only [go_sem, ↓reduceIte]
    refine ret_keep (hRR _ _ ⟨⟨hn, hes, trivial⟩, own2, [.sl full xs], hW.keep i2 (ids := l :: rowIds u7) ⟨by simp [hS3l], fun j hj hm => ?_⟩ (fun id hid => ?_), by simp only [nz, wal, elemsOf, hz], ⟨by rw [hxl]; exact hNlt, hxs, trivial⟩, ?_, ⟨by rw [List.length_set, hS3l]; exact hK.1, fun j hj hm => ?_⟩, how⟩)
    · simp only [List.mem_cons, not_or] at hm
      rw [List.getElem?_set_ne (by omega)]; exact hK3 j hm.2
    · simp only [List.mem_cons, not_or]
      exact ⟨fun h => (how id hid).elim (fun h' => hl (h ▸ h')) (fun h' => by omega), fun h => hdis id h hid⟩
    · rw [List.getElem?_set_self (lt_of_get hl3)]; rfl
    · simp only [List.mem_cons, not_or] at hm
      rw [List.getElem?_set_ne (by omega), hK3 j (fun h => by have := (hrow.lo j h).1; omega)]
      exact hK.2 j hj hm.2

end Go.Proofs.YtdhngmldmalbbaaGreat
end
section
set_option linter.all false
namespace Go.Proofs.YtdhngmldmalbbaaGreat
open Go.Lift Go.RowKit Go.Store
set_option linter.unusedSimpArgs false
set_option linter.unusedVariables false

theorem okI1 {v : Int} (h : isI v) : ok sI [V v] := ⟨rfl, h.1, h.2, trivial⟩

set_option maxHeartbeats 400000 in
theorem Report_ok (W : Wk) (hW : WkL W) : WOk W (aI W) 60 sRep := by
  refine WOk_intro 0 Tryz.func60 rfl (by kernel_rfl) (fun _ _ _ => rfl) fun S w l n off pre us post own st RR hi hl hS hpre hok hfit hRR => ?_
  have hlS := lt_of_get hS
  have hp0 : WP W S w l n pre own .nil [] st (us ++ post) S := WP.refl hi hS
  obtain ⟨k, us, rfl, hk, h⟩ := ok_int hok
  obtain ⟨s, us, rfl, hs, h⟩ := ok_str h
  obtain ⟨t, us, rfl, htt, h⟩ := ok_int h
  obtain ⟨fc, us, rfl, hff, h⟩ := ok_int h
  obtain ⟨x, us, rfl, hx, h⟩ := ok_int h
  obtain ⟨y, us, rfl, hy, h⟩ := ok_int h
  obtain ⟨z, us, rfl, hz, h⟩ := ok_int h
  obtain ⟨fl, es, us, rfl, hn, hes, h⟩ := ok_sl h
  obtain rfl := ok_nil h
  clear h hok
  have hok1 : ok (Sch.app Sch.nil sI) (([] : List LV) ++ [V k]) := app_ok trivial (okI1 hk)
  have hok2 : ok (Sch.app (Sch.app Sch.nil sI) sStr) ((([] : List LV) ++ [V k]) ++ [.str s]) := app_ok hok1 (⟨hs, trivial⟩)
  have hok3 : ok (Sch.app (Sch.app (Sch.app Sch.nil sI) sStr) sI) (((([] : List LV) ++ [V k]) ++ [.str s]) ++ [V t]) := app_ok hok2 (okI1 htt)
  have hok4 : ok (Sch.app (Sch.app (Sch.app (Sch.app Sch.nil sI) sStr) sI) sPlace) ((((([] : List LV) ++ [V k]) ++ [.str s]) ++ [V t]) ++ [V fc, V x, V y, V z]) := app_ok hok3 (⟨rfl, hff.1, hff.2, rfl, hx.1, hx.2, rfl, hy.1, hy.2, rfl, hz.1, hz.2, trivial⟩)
  have hok5 : ok (Sch.app (Sch.app (Sch.app (Sch.app (Sch.app Sch.nil sI) sStr) sI) sPlace) (.sl sRd .nil)) (((((([] : List LV) ++ [V k]) ++ [.str s]) ++ [V t]) ++ [V fc, V x, V y, V z]) ++ [.sl fl es]) := app_ok hok4 (⟨hn, hes, trivial⟩)
  have hft5 : W.fits (wal W (Sch.app (Sch.app (Sch.app (Sch.app (Sch.app Sch.nil sI) sStr) sI) sPlace) (.sl sRd .nil)) (((((([] : List LV) ++ [V k]) ++ [.str s]) ++ [V t]) ++ [V fc, V x, V y, V z]) ++ [.sl fl es]) st).2 := hfit
  have hft4 := fitsL hW hok4 hft5
  have hft3 := fitsL hW hok3 hft4
  have hft2 := fitsL hW hok2 hft3
  have hft1 := fitsL hW hok1 hft2
  refine Lwp_seq fun KK0 hKK0 => ?_
  refine LdrawE [0,1,2,3,4,5,6,7] [] none (by kernel_rfl) (by kernel_rfl) (by kernel_rfl) (by kernel_rfl) (by simp [Watch.holds]) ?_
  simp -dsimp only [go_sem, ↓reduceIte, hW.mInt]
  repeat with_reducible refine And.intro (by first | omega | decide | trivial) ?_
  refine WOk.kk hW (hW.hInt) [V k] hp0 hl hlS hpre rfl rfl (rfl) (okI1 hk) hft1 ?_
  rintro r S2 hp
  simp -dsimp only [go_sem, ↓reduceIte]
  refine hKK0 _ _ ?_
  try clear hKK0 KK0
  refine Lwp_seq fun KK1 hKK1 => ?_
  refine LdrawE [0,1,2,3,4,5,6,7] [] none (by kernel_rfl) (by kernel_rfl) (by kernel_rfl) (by kernel_rfl) (by simp [Watch.holds]) ?_
  simp -dsimp only [go_sem, ↓reduceIte, hW.mText]
  repeat with_reducible refine And.intro (by first | omega | decide | trivial) ?_
  refine WOk.kk hW (hW.hText) [.str s] hp hl hlS hpre rfl rfl (rfl) (⟨hs, trivial⟩) hft2 ?_
  rintro r S2 hp
  simp -dsimp only [go_sem, ↓reduceIte]
  refine hKK1 _ _ ?_
  try clear hKK1 KK1
  refine Lwp_seq fun KK2 hKK2 => ?_
  refine LdrawE [0,1,2,3,4,5,6,7] [] none (by kernel_rfl) (by kernel_rfl) (by kernel_rfl) (by kernel_rfl) (by simp [Watch.holds]) ?_
  simp -dsimp only [go_sem, ↓reduceIte, hW.mInt]
  repeat with_reducible refine And.intro (by first | omega | decide | trivial) ?_
  refine WOk.kk hW (hW.hInt) [V t] hp hl hlS hpre rfl rfl (rfl) (okI1 htt) hft3 ?_
  rintro r S2 hp
  simp -dsimp only [go_sem, ↓reduceIte]
  refine hKK2 _ _ ?_
  try clear hKK2 KK2
  refine Lwp_seq fun KK3 hKK3 => ?_
  refine LregionG [none, none, none, none, none] (by kernel_rfl) (by kernel_rfl) ?_
  simp -dsimp only [go_sem, ↓reduceIte]
  repeat with_reducible refine And.intro (by first | omega | decide | trivial) ?_
  refine WOk.kk hW (Place_ok W hW) [V fc, V x, V y, V z] hp hl hlS hpre rfl rfl (rfl) (⟨rfl, hff.1, hff.2, rfl, hx.1, hx.2, rfl, hy.1, hy.2, rfl, hz.1, hz.2, trivial⟩) hft4 ?_
  rintro r S2 hp
  simp -dsimp only [go_sem, ↓reduceIte]
  refine hKK3 _ _ ?_
  try clear hKK3 KK3
  refine LregionG [none, none, none, none, none] (by kernel_rfl) (by kernel_rfl) ?_
  simp -dsimp only [go_sem, ↓reduceIte]
  repeat with_reducible refine And.intro (by first | omega | decide | trivial) ?_
  refine WOk.kk hW (SlRd_ok W hW) [.sl fl es] hp hl hlS hpre rfl rfl (rfl) (⟨hn, hes, trivial⟩) hft5 ?_
  rintro r S2 hp
  simp -dsimp only [go_sem, ↓reduceIte]
  simp only [LThen, LBlock, LPost, Tryz.results60]
  simp -dsimp only [go_sem, ↓reduceIte]
  exact ret_keep (hRR _ _ hp)

set_option maxHeartbeats 400000 in
theorem SlRep_ok (W : Wk) (hW : WkL W) : WOk W (aF W 60) 65 (.sl sRep .nil) := by
  refine WOk_intro 0 Tryz.func65 rfl (by kernel_rfl) (fun _ _ _ => rfl) fun S w l n off pre us post own st RR hi hl hS hpre hok hfit hRR => ?_
  have hlS := lt_of_get hS
  have hp0 : WP W S w l n pre own .nil [] st (us ++ post) S := WP.refl hi hS
  obtain ⟨f, es, us', rfl, hn, hes, h0⟩ := ok_sl hok
  obtain rfl := ok_nil h0
  clear h0 hok
  simp only [List.cons_append, List.nil_append] at hS hp0
  have hfit2 : W.fits (walN (wal W sRep) (zs sRep) (W.count st es.length).1 es (W.count st es.length).2).2 := hfit
  have hfitc : W.fits (W.count st es.length).2 := fitsN hW (Nat.zero_le _) hfit2
  have hNlt := hW.cnt (m := es.length) hi hn
  obtain ⟨cells, hcells⟩ : ∃ c, c = pre ++ (.sl f es :: post) := ⟨_, rfl⟩
  have hc1 : off < cells.length := by rw [hcells, ← hpre]; simp
  have hc2 : cells.getD off .any = .sl f es := by rw [hcells, ← hpre]; simp [List.getD_eq_getElem?_getD]
  have hlow := hW.lt hi
  rw [← hcells] at hS
  refine Lwp_seq fun KK0 hKK0 => ?_
  refine LdrawE [0,1,2,3,4,5,6,7,8,9] [(l, (n, [cells]))] none (by kernel_rfl) (by kernel_rfl) (by kernel_rfl) (by kernel_rfl) (by simp only [Watch.holds, List.mem_singleton, forall_eq]; exact hS) ?_
  simp -dsimp only [go_sem, ↓reduceIte, hc1, hc2, hW.mCount]
  repeat with_reducible refine And.intro (by first | omega | decide | trivial) ?_
  refine (hW.hCount S w own st es.length hi hn hfitc).k ?_
  rintro _ S1 ⟨rfl, own1, i1, K1, ow1⟩
  have hl1 : S1[l]? = some (some (n, [cells])) := K1.get hS hl
  simp -dsimp only [go_sem, ↓reduceIte, hl1]
  refine hKK0 _ _ ?_
  try clear hKK0 KK0
  refine Lwp_seq fun KK1 hKK1 => ?_
  refine LregionG [none] (by kernel_rfl) (by kernel_rfl) ?_
  simp -dsimp only [go_sem, ↓reduceIte]
  repeat with_reducible refine And.intro (by first | omega | decide) ?_
  refine hKK1 _ _ ?_
  try clear hKK1 KK1
  refine Lwp_seq fun KK2 hKK2 => ?_
  refine Lwp_seq fun KK3 hKK3 => ?_
  refine LregionG [none, none] (by kernel_rfl) (by kernel_rfl) ?_
  simp -dsimp only [go_sem, ↓reduceIte]
  repeat with_reducible refine And.intro (by first | omega | decide) ?_
  refine hKK3 _ _ ?_
  try clear hKK3 KK3
  refine Lwp_block ?_
  refine Lwp_loopK [0, 1, 2, 6, 7, 19, 20] (fun m vs S' => ∃ (k : Nat) (own1 : List Nat) (xs : List (List LV)) (u7 : LV), vs = [.iface W.ty (.ptr w 0 0), .ptr l 0 off, .func (.func 60) [] [], V (W.count st es.length).1, u7, V (W.count st es.length).1, V k] ∧ W.inv S' w own1 (walN (wal W sRep) (zs sRep) k es (W.count st es.length).2).2 ∧ xs.map (nz sRep) = (walN (wal W sRep) (zs sRep) k es (W.count st es.length).2).1 ∧ (∀ x ∈ xs, ok sRep x) ∧ xs.length = k ∧ RowS S' S.length u7 8 xs ∧ (∀ id ∈ rowIds u7, id ∉ own1) ∧ Keeps S S' own ∧ (∀ id ∈ own1, id ∈ own ∨ S.length ≤ id) ∧ k ≤ (W.count st es.length).1 ∧ m = (W.count st es.length).1 - k) (W.count st es.length).1 rfl (⟨0, own1, [], .sl true [], by simp only [go_sem, ↓reduceIte, Int.natCast_zero], i1, rfl, by simp, rfl, RowS.nil, by simp [rowIds], K1, ow1, Nat.zero_le _, rfl⟩) ?_
  rintro m us S2 ⟨k, own2, xs, u7, rfl, i2, hz, hxs, hxl, hrow, hdis, hK, how, hk, hm⟩ II hII
  refine Lwp_seq fun KK4 hKK4 => ?_
  refine LregionG [none] (by kernel_rfl) (by kernel_rfl) ?_
  simp -dsimp only [go_sem, ↓reduceIte]
  repeat with_reducible refine And.intro (by first | omega | decide) ?_
  refine hKK4 _ _ ?_
  try clear hKK4 KK4
  refine Lwp_seq fun KK5 hKK5 => ?_
  refine Lwp_cond (by simp only [go_sem, ↓reduceIte]; rfl) (fun ht => ?_) (fun hf => ?_)
  · skip
    have hkN : k < (W.count st es.length).1 := by simpa using ht
    have hlow2 := hW.lt i2
    have hl2 : S2[l]? = some (some (n, [cells])) := hK.get hS hl
    have hl3 : ∀ T, (S2 ++ T)[l]? = some (some (n, [cells])) := fun T => by rw [List.getElem?_append_left (lt_of_get hl2)]; exact hl2
    have hS2l : S.length ≤ S2.length := hK.1
    have hx0 : ok sRep (es.getD k (zs sRep)) := by
      rw [List.getD_eq_getElem?_getD]
      by_cases h : k < es.length
      · rw [List.getElem?_eq_getElem h]; exact hes _ (List.getElem_mem h)
      · rw [List.getElem?_eq_none (by omega)]; exact ok_zs
    have e1 : IntKind.i64.wrap ((k : Int) + 1) = ((k + 1 : Nat) : Int) := w64 (by omega) (by omega)
    refine Lwp_skip ?_
    try simp -dsimp only [go_sem, ↓reduceIte]
    refine hKK5 _ _ ?_
    try clear hKK5 KK5
    refine Lwp_seq fun KK6 hKK6 => ?_
    refine Lwp_block ?_
    refine Lwp_seq fun KK7 hKK7 => ?_
    refine LregionG [none, none] (by kernel_rfl) (by kernel_rfl) ?_
    simp -dsimp only [go_sem, ↓reduceIte]
    repeat with_reducible refine And.intro (by first | omega | decide) ?_
    refine hKK7 _ _ ?_
    try clear hKK7 KK7
    refine Lwp_seq fun KK8 hKK8 => ?_
    refine LregionG [none] (by kernel_rfl) (by kernel_rfl) ?_
    simp -dsimp only [go_sem, ↓reduceIte]
    
    refine hKK8 _ _ ?_
    try clear hKK8 KK8
    refine Lwp_seqJ [0, 1, 2, 6, 7, 19, 20, 8, 9] (fun vs S3 => vs = [.iface W.ty (.ptr w 0 0), .ptr l 0 off, .func (.func 60) [] [], V (W.count st es.length).1, u7, V (W.count st es.length).1, V k, V k, .ptr S2.length 0 0] ∧ S3 = S2 ++ [some (8, [es.getD k (zs sRep)])]) rfl (fun KK9 hKK9 => ?_) ?_
    · skip
      refine Lwp_seq fun KK10 hKK10 => ?_
      refine LregionG [none, none, none, none, none, none] (by kernel_rfl) (by kernel_rfl) ?_
      simp -dsimp only [go_sem, ↓reduceIte, hl3, hc1, hc2]
      repeat with_reducible refine And.intro (by first | omega | decide) ?_
      refine hKK10 _ _ ?_
      try clear hKK10 KK10
      refine Lwp_cond (by simp only [go_sem, ↓reduceIte]; rfl) (fun ht => ?_) (fun hf => ?_)
      · skip
        have hke : k < es.length := by simpa using ht
        obtain ⟨x0, hx0e⟩ : ∃ x0, x0 = es.getD k [] := ⟨_, rfl⟩
        have hx0l : x0.length = 8 := by rw [hx0e]; exact ok_len (ok_mem hes hke)
        have hx0t : x0.take 8 = x0 := List.take_of_length_le (by omega)
        have hov0 : ovr (zs sRep) 0 x0 = x0 := ovr_all (by rw [hx0l]; rfl)
        have hx0e2 : es.getD k (zs sRep) = x0 := by rw [hx0e, List.getD_eq_getElem?_getD, List.getD_eq_getElem?_getD, List.getElem?_eq_getElem hke]; rfl
        refine LregionG [none, none, none, none, none, none, none] (by kernel_rfl) (by kernel_rfl) ?_
        simp -dsimp only [go_sem, ↓reduceIte, hl3, hc1, hc2, hke, ← hx0e, hx0l, hx0t]
        repeat with_reducible refine And.intro (by first | omega | decide) ?_
        try simp -dsimp only [go_sem, ↓reduceIte]
        refine hKK9 _ _ ?_
        first | exact ⟨rfl, rfl⟩ | (refine ⟨rfl, ?_⟩; simp [List.getD_eq_getElem?_getD, List.getElem?_eq_none (Nat.le_of_not_lt hke), zs, sRep]; done) | (refine ⟨rfl, ?_⟩; rw [hx0e2]; done) | (refine ⟨rfl, ?_⟩; rw [hx0e2]; exact congrArg (fun z => S2 ++ [some (8, [z])]) hov0)
      · skip
        have hke : ¬ k < es.length := by simpa using hf
        refine Lwp_skip ?_
        try simp -dsimp only [go_sem, ↓reduceIte]
        try simp -dsimp only [go_sem, ↓reduceIte]
        refine hKK9 _ _ ?_
        first | exact ⟨rfl, rfl⟩ | (refine ⟨rfl, ?_⟩; simp [List.getD_eq_getElem?_getD, List.getElem?_eq_none (Nat.le_of_not_lt hke), zs, sRep]; done) | (refine ⟨rfl, ?_⟩; rw [hx0e2]; done) | (refine ⟨rfl, ?_⟩; rw [hx0e2]; exact congrArg (fun z => S2 ++ [some (8, [z])]) hov0)
    · rintro us SJ ⟨rfl, rfl⟩
      refine Lwp_seq fun KK11 hKK11 => ?_
      refine LregionG [none, none, none] (by kernel_rfl) (by kernel_rfl) ?_
      simp -dsimp only [go_sem, ↓reduceIte]
      refine (Report_ok W hW (S2 ++ [some (8, [es.getD k (zs sRep)])]) w S2.length 8 0 [] (es.getD k (zs sRep)) [] own2 _ (hW.keep i2 (Keeps.app S2 _ []) (by simp)) (fun h => absurd (hlow2 _ h) (Nat.lt_irrefl _)) (by simp) rfl hx0 (by have := fitsN hW hkN hfit2; rw [walN_succ] at this; exact this)).k ?_
      rintro r S3 ⟨-, own3, us3, i3, z3, ok3, hS3, K3, ow3⟩
      simp only [List.nil_append, List.append_nil] at hS3
      have hl3' := ok_len ok3
      have K23 : Keeps S2 S3 own2 := ⟨by have := K3.1; simp at this; omega, fun j hj hn => (K3.2 j (by simp; omega) (by simp [hn]; omega)).trans (List.getElem?_append_left hj)⟩
      have hrow3 := hrow.mono (Nat.le_refl _) (fun id hid b hb => K23.get hb (hdis id hid))
      have hlow3 := hW.lt i3
      have hlen3 := K3.1
      simp only [List.length_append, List.length_cons, List.length_nil, Nat.zero_add] at hlen3 ow3
      simp -dsimp only [go_sem, ↓reduceIte]
      refine hKK11 _ _ ?_
      try clear hKK11 KK11
      have hu3 : us3.take 8 = us3 := List.take_of_length_le (by rw [hl3']; exact Nat.le_refl _)
      simp only [show sRep.n = 8 from rfl] at hl3'
      refine LregionG [none, none, none, none, none] (by kernel_rfl) (by kernel_rfl) ?_
      simp -dsimp only [go_sem, ↓reduceIte, hS3, hl3', hu3]
      repeat with_reducible refine And.intro (by first | omega | decide | trivial) ?_
      refine append_row hrow3 rfl (by simp only [go_sem]; rfl) (by simp only [go_sem]; first | exact ⟨rfl, rfl⟩ | exact ⟨rfl, rfl, rfl⟩ | rfl) (by simp only [go_sem]) (by simp only [go_sem, ↓reduceIte]) (by simp only [go_sem, ↓reduceIte]; rfl) (by simp [hl3']) (.inr (by simp)) (by simp only [LIM, List.length_cons, List.length_nil]; omega) fun S4 hS4l hrow4 hK4 => ?_
      have i4 := hW.keep i3 hK4 (fun id hid hm => (ow3 id hid).elim (fun h => hdis id hm h) (fun h => by have := (hrow.lo id hm).2; omega))
      simp -dsimp only [go_sem, ↓reduceIte]
      refine hKK6 _ _ ?_
      try clear hKK6 KK6
      refine LregionG [none, none] (by kernel_rfl) (by kernel_rfl) ?_
      simp -dsimp only [go_sem, ↓reduceIte, e1]
      repeat with_reducible refine And.intro (by first | omega | decide) ?_
      refine hII ((W.count st es.length).1 - (k + 1)) _ _ (by omega) ⟨k + 1, own3, xs ++ [us3], _, rfl, by rw [walN_succ]; exact i4, by rw [walN_succ, List.map_append, hz]; simp only [List.map_cons, List.map_nil, z3], fun x hx => ?_, by simp [hxl], hrow4.mono (by omega) (fun _ _ _ h => h), fun id hid => ?_, ?_, fun id hid => ?_, hkN, rfl⟩
      · rcases List.mem_append.1 hx with hx | hx
        · exact hxs x hx
        · rw [List.mem_singleton.1 hx]; exact ok3
      · simp only [rowIds, List.mem_singleton] at hid
        subst hid
        exact fun h => absurd (hlow3 _ h) (Nat.lt_irrefl _)
      · refine hK.trans (K23.trans hK4 (ids'' := own2 ++ rowIds u7) (fun j _ h => List.mem_append.2 h)) (fun j hj h => ?_)
        rcases h with h | h
        · exact h
        · rcases List.mem_append.1 h with h | h
          · exact (how j h).elim id fun h => by omega
          · have := (hrow.lo j h).1; omega
      · rcases ow3 id hid with h | h
        · exact how id h
        · exact .inr (by omega)
  · skip
    obtain rfl : k = (W.count st es.length).1 := Nat.le_antisymm hk (Nat.le_of_not_lt (by simpa using hf))
    refine Lwp_exit ?_
    simp -dsimp only [go_sem, ↓reduceIte]
    refine hKK2 _ _ ?_
    try clear hKK2 KK2
    have hl2 : S2[l]? = some (some (n, [cells])) := hK.get hS hl
    have hlu : l ∉ rowIds u7 := fun h => by have := (hrow.lo l h).1; omega
    refine Lwp_frzRowS 7 u7 rfl (by simp only [go_sem, ↓reduceIte]) hrow fun full S3 hS3l hK3 => ?_
    have hl3 : S3[l]? = some (some (n, [cells])) := (hK3 l hlu).trans hl2
    have hov : ovr cells off [.sl full xs] = pre ++ ([.sl full xs] ++ post) := by rw [hcells, ← hpre]; exact ovr_mid
    refine LregionG [none, none, none, none] (by kernel_rfl) (by kernel_rfl) ?_
    simp -dsimp only [go_sem, ↓reduceIte, hl3, hov, hc1]
    repeat with_reducible refine And.intro (by first | omega | decide) ?_
    simp only [LThen, LBlock, LPost, Tryz.results65]
    simp -dsimp only [go_sem, ↓reduceIte]
    refine ret_keep (hRR _ _ ⟨⟨hn, hes, trivial⟩, own2, [.sl full xs], hW.keep i2 (ids := l :: rowIds u7) ⟨by simp [hS3l], fun j hj hm => ?_⟩ (fun id hid => ?_), by simp only [nz, wal, elemsOf, hz], ⟨by rw [hxl]; exact hNlt, hxs, trivial⟩, ?_, ⟨by rw [List.length_set, hS3l]; exact hK.1, fun j hj hm => ?_⟩, how⟩)
    · simp only [List.mem_cons, not_or] at hm
      rw [List.getElem?_set_ne (by omega)]; exact hK3 j hm.2
    · simp only [List.mem_cons, not_or]
      exact ⟨fun h => (how id hid).elim (fun h' => hl (h ▸ h')) (fun h' => by omega), fun h => hdis id h hid⟩
    · rw [List.getElem?_set_self (lt_of_get hl3)]; rfl
    · simp only [List.mem_cons, not_or] at hm
      rw [List.getElem?_set_ne (by omega), hK3 j (fun h => by have := (hrow.lo j h).1; omega)]
      exact hK.2 j hj hm.2

end Go.Proofs.YtdhngmldmalbbaaGreat
end
section
set_option linter.all false
namespace Go.Proofs.YtdhngmldmalbbaaGreat
open Go.Lift Go.RowKit Go.Store
set_option linter.unusedSimpArgs false
set_option linter.unusedVariables false
set_option maxHeartbeats 400000 in
theorem SlInt_ok (W : Wk) (hW : WkL W) : WOk W (aF W 68) 67 (.sl sI .nil) := by
  refine WOk_intro 0 Tryz.func67 rfl (by kernel_rfl) (fun _ _ _ => rfl) fun S w l n off pre us post own st RR hi hl hS hpre hok hfit hRR => ?_
  have hlS := lt_of_get hS
  have hp0 : WP W S w l n pre own .nil [] st (us ++ post) S := WP.refl hi hS
  obtain ⟨f, es, us', rfl, hn, hes, h0⟩ := ok_sl hok
  obtain rfl := ok_nil h0
  clear h0 hok
  simp only [List.cons_append, List.nil_append] at hS hp0
  have hfit2 : W.fits (walN (wal W sI) (zs sI) (W.count st es.length).1 es (W.count st es.length).2).2 := hfit
  have hfitc : W.fits (W.count st es.length).2 := fitsN hW (Nat.zero_le _) hfit2
  have hNlt := hW.cnt (m := es.length) hi hn
  obtain ⟨cells, hcells⟩ : ∃ c, c = pre ++ (.sl f es :: post) := ⟨_, rfl⟩
  have hc1 : off < cells.length := by rw [hcells, ← hpre]; simp
  have hc2 : cells.getD off .any = .sl f es := by rw [hcells, ← hpre]; simp [List.getD_eq_getElem?_getD]
  have hlow := hW.lt hi
  rw [← hcells] at hS
  refine Lwp_seq fun KK0 hKK0 => ?_
  refine LdrawE [0,1,2,3,4,5,6,7,8,9] [(l, (n, [cells]))] none (by kernel_rfl) (by kernel_rfl) (by kernel_rfl) (by kernel_rfl) (by simp only [Watch.holds, List.mem_singleton, forall_eq]; exact hS) ?_
  simp -dsimp only [go_sem, ↓reduceIte, hc1, hc2, hW.mCount]
  repeat with_reducible refine And.intro (by first | omega | decide | trivial) ?_
  refine (hW.hCount S w own st es.length hi hn hfitc).k ?_
  rintro _ S1 ⟨rfl, own1, i1, K1, ow1⟩
  have hl1 : S1[l]? = some (some (n, [cells])) := K1.get hS hl
  simp -dsimp only [go_sem, ↓reduceIte, hl1]
  refine hKK0 _ _ ?_
  try clear hKK0 KK0
  refine Lwp_seq fun KK1 hKK1 => ?_
  refine LregionG [none] (by kernel_rfl) (by kernel_rfl) ?_
  simp -dsimp only [go_sem, ↓reduceIte]
  repeat with_reducible refine And.intro (by first | omega | decide) ?_
  refine hKK1 _ _ ?_
  try clear hKK1 KK1
  refine Lwp_seq fun KK2 hKK2 => ?_
  refine Lwp_seq fun KK3 hKK3 => ?_
  refine LregionG [none, none] (by kernel_rfl) (by kernel_rfl) ?_
  simp -dsimp only [go_sem, ↓reduceIte]
  repeat with_reducible refine And.intro (by first | omega | decide) ?_
  refine hKK3 _ _ ?_
  try clear hKK3 KK3
  refine Lwp_block ?_
  refine Lwp_loopK [0, 1, 2, 6, 7, 19, 20] (fun m vs S' => ∃ (k : Nat) (own1 : List Nat) (xs : List (List LV)) (u7 : LV), vs = [.iface W.ty (.ptr w 0 0), .ptr l 0 off, .func (.func 68) [] [], V (W.count st es.length).1, u7, V (W.count st es.length).1, V k] ∧ W.inv S' w own1 (walN (wal W sI) (zs sI) k es (W.count st es.length).2).2 ∧ xs.map (nz sI) = (walN (wal W sI) (zs sI) k es (W.count st es.length).2).1 ∧ (∀ x ∈ xs, ok sI x) ∧ xs.length = k ∧ RowS S' S.length u7 1 xs ∧ (∀ id ∈ rowIds u7, id ∉ own1) ∧ Keeps S S' own ∧ (∀ id ∈ own1, id ∈ own ∨ S.length ≤ id) ∧ k ≤ (W.count st es.length).1 ∧ m = (W.count st es.length).1 - k) (W.count st es.length).1 rfl (⟨0, own1, [], .sl true [], by simp only [go_sem, ↓reduceIte, Int.natCast_zero], i1, rfl, by simp, rfl, RowS.nil, by simp [rowIds], K1, ow1, Nat.zero_le _, rfl⟩) ?_
  rintro m us S2 ⟨k, own2, xs, u7, rfl, i2, hz, hxs, hxl, hrow, hdis, hK, how, hk, hm⟩ II hII
  refine Lwp_seq fun KK4 hKK4 => ?_
  refine LregionG [none] (by kernel_rfl) (by kernel_rfl) ?_
  simp -dsimp only [go_sem, ↓reduceIte]
  repeat with_reducible refine And.intro (by first | omega | decide) ?_
  refine hKK4 _ _ ?_
  try clear hKK4 KK4
  refine Lwp_seq fun KK5 hKK5 => ?_
  refine Lwp_cond (by simp only [go_sem, ↓reduceIte]; rfl) (fun ht => ?_) (fun hf => ?_)
  · skip
    have hkN : k < (W.count st es.length).1 := by simpa using ht
    have hlow2 := hW.lt i2
    have hl2 : S2[l]? = some (some (n, [cells])) := hK.get hS hl
    have hl3 : ∀ T, (S2 ++ T)[l]? = some (some (n, [cells])) := fun T => by rw [List.getElem?_append_left (lt_of_get hl2)]; exact hl2
    have hS2l : S.length ≤ S2.length := hK.1
    have hx0 : ok sI (es.getD k (zs sI)) := by
      rw [List.getD_eq_getElem?_getD]
      by_cases h : k < es.length
      · rw [List.getElem?_eq_getElem h]; exact hes _ (List.getElem_mem h)
      · rw [List.getElem?_eq_none (by omega)]; exact ok_zs
    have e1 : IntKind.i64.wrap ((k : Int) + 1) = ((k + 1 : Nat) : Int) := w64 (by omega) (by omega)
    refine Lwp_skip ?_
    try simp -dsimp only [go_sem, ↓reduceIte]
    refine hKK5 _ _ ?_
    try clear hKK5 KK5
    refine Lwp_seq fun KK6 hKK6 => ?_
    refine Lwp_block ?_
    refine Lwp_seq fun KK7 hKK7 => ?_
    refine LregionG [none, none] (by kernel_rfl) (by kernel_rfl) ?_
    simp -dsimp only [go_sem, ↓reduceIte]
    repeat with_reducible refine And.intro (by first | omega | decide) ?_
    refine hKK7 _ _ ?_
    try clear hKK7 KK7
    refine Lwp_seq fun KK8 hKK8 => ?_
    refine LregionG [none] (by kernel_rfl) (by kernel_rfl) ?_
    simp -dsimp only [go_sem, ↓reduceIte]
    
    refine hKK8 _ _ ?_
    try clear hKK8 KK8
    refine Lwp_seqJ [0, 1, 2, 6, 7, 19, 20, 8, 9] (fun vs S3 => vs = [.iface W.ty (.ptr w 0 0), .ptr l 0 off, .func (.func 68) [] [], V (W.count st es.length).1, u7, V (W.count st es.length).1, V k, V k, .ptr S2.length 0 0] ∧ S3 = S2 ++ [some (1, [es.getD k (zs sI)])]) rfl (fun KK9 hKK9 => ?_) ?_
    · skip
      refine Lwp_seq fun KK10 hKK10 => ?_
      refine LregionG [none, none, none, none, none, none] (by kernel_rfl) (by kernel_rfl) ?_
      simp -dsimp only [go_sem, ↓reduceIte, hl3, hc1, hc2]
      repeat with_reducible refine And.intro (by first | omega | decide) ?_
      refine hKK10 _ _ ?_
      try clear hKK10 KK10
      refine Lwp_cond (by simp only [go_sem, ↓reduceIte]; rfl) (fun ht => ?_) (fun hf => ?_)
      · skip
        have hke : k < es.length := by simpa using ht
        obtain ⟨x0, hx0e⟩ : ∃ x0, x0 = es.getD k [] := ⟨_, rfl⟩
        have hx0l : x0.length = 1 := by rw [hx0e]; exact ok_len (ok_mem hes hke)
        have hx0t : x0.take 1 = x0 := List.take_of_length_le (by omega)
        have hov0 : ovr (zs sI) 0 x0 = x0 := ovr_all (by rw [hx0l]; rfl)
        have hx0e2 : es.getD k (zs sI) = x0 := by rw [hx0e, List.getD_eq_getElem?_getD, List.getD_eq_getElem?_getD, List.getElem?_eq_getElem hke]; rfl
        have okx0 := ok_mem hes hke
        rw [← hx0e] at okx0
        clear hx0l hx0t
        obtain ⟨v0, _, rfl, iv0, h0⟩ := ok_int okx0
        obtain rfl := ok_nil h0
        clear h0
        refine LregionG [none, none, none, none, none, none, none] (by kernel_rfl) (by kernel_rfl) ?_
        simp -dsimp only [go_sem, ↓reduceIte, hl3, hc1, hc2, hke, ← hx0e]
        repeat with_reducible refine And.intro (by first | omega | decide) ?_
        try simp -dsimp only [go_sem, ↓reduceIte]
        refine hKK9 _ _ ?_
        first | exact ⟨rfl, rfl⟩ | (refine ⟨rfl, ?_⟩; simp [List.getD_eq_getElem?_getD, List.getElem?_eq_none (Nat.le_of_not_lt hke), zs, sI]; done) | (refine ⟨rfl, ?_⟩; rw [hx0e2]; done) | (refine ⟨rfl, ?_⟩; rw [hx0e2]; exact congrArg (fun z => S2 ++ [some (1, [z])]) hov0)
      · skip
        have hke : ¬ k < es.length := by simpa using hf
        refine Lwp_skip ?_
        try simp -dsimp only [go_sem, ↓reduceIte]
        try simp -dsimp only [go_sem, ↓reduceIte]
        refine hKK9 _ _ ?_
        first | exact ⟨rfl, rfl⟩ | (refine ⟨rfl, ?_⟩; simp [List.getD_eq_getElem?_getD, List.getElem?_eq_none (Nat.le_of_not_lt hke), zs, sI]; done) | (refine ⟨rfl, ?_⟩; rw [hx0e2]; done) | (refine ⟨rfl, ?_⟩; rw [hx0e2]; exact congrArg (fun z => S2 ++ [some (1, [z])]) hov0)
    · rintro us SJ ⟨rfl, rfl⟩
      refine Lwp_seq fun KK11 hKK11 => ?_
      refine LregionG [none, none, none] (by kernel_rfl) (by kernel_rfl) ?_
      simp -dsimp only [go_sem, ↓reduceIte]
      refine (Number_ok W hW (S2 ++ [some (1, [es.getD k (zs sI)])]) w S2.length 1 0 [] (es.getD k (zs sI)) [] own2 _ (hW.keep i2 (Keeps.app S2 _ []) (by simp)) (fun h => absurd (hlow2 _ h) (Nat.lt_irrefl _)) (by simp) rfl hx0 (by have := fitsN hW hkN hfit2; rw [walN_succ] at this; exact this)).k ?_
      rintro r S3 ⟨-, own3, us3, i3, z3, ok3, hS3, K3, ow3⟩
      simp only [List.nil_append, List.append_nil] at hS3
      have hl3' := ok_len ok3
      have K23 : Keeps S2 S3 own2 := ⟨by have := K3.1; simp at this; omega, fun j hj hn => (K3.2 j (by simp; omega) (by simp [hn]; omega)).trans (List.getElem?_append_left hj)⟩
      have hrow3 := hrow.mono (Nat.le_refl _) (fun id hid b hb => K23.get hb (hdis id hid))
      have hlow3 := hW.lt i3
      have hlen3 := K3.1
      simp only [List.length_append, List.length_cons, List.length_nil, Nat.zero_add] at hlen3 ow3
      clear hl3'
      obtain ⟨v3, _, rfl, iv3, h3⟩ := ok_int ok3
      obtain rfl := ok_nil h3
      clear h3
      simp -dsimp only [go_sem, ↓reduceIte]
      refine hKK11 _ _ ?_
      try clear hKK11 KK11
      
      refine LregionG [none, none, none, none, none] (by kernel_rfl) (by kernel_rfl) ?_
      simp -dsimp only [go_sem, ↓reduceIte, hS3]
      repeat with_reducible refine And.intro (by first | omega | decide | trivial) ?_
      refine append_row hrow3 rfl (by simp only [go_sem]; rfl) (by simp only [go_sem]; first | exact ⟨rfl, rfl⟩ | exact ⟨rfl, rfl, rfl⟩ | rfl) (by simp only [go_sem]) (by simp only [go_sem, ↓reduceIte]) (by simp only [go_sem, ↓reduceIte]; rfl) (by simp) (.inr (by simp)) (by simp only [LIM, List.length_cons, List.length_nil]; omega) fun S4 hS4l hrow4 hK4 => ?_
      have i4 := hW.keep i3 hK4 (fun id hid hm => (ow3 id hid).elim (fun h => hdis id hm h) (fun h => by have := (hrow.lo id hm).2; omega))
      simp -dsimp only [go_sem, ↓reduceIte]
      refine hKK6 _ _ ?_
      try clear hKK6 KK6
      refine LregionG [none, none] (by kernel_rfl) (by kernel_rfl) ?_
      simp -dsimp only [go_sem, ↓reduceIte, e1]
      repeat with_reducible refine And.intro (by first | omega | decide) ?_
      refine hII ((W.count st es.length).1 - (k + 1)) _ _ (by omega) ⟨k + 1, own3, xs ++ [[V v3]], _, rfl, by rw [walN_succ]; exact i4, by rw [walN_succ, List.map_append, hz]; simp only [List.map_cons, List.map_nil, z3], fun x hx => ?_, by simp [hxl], hrow4.mono (by omega) (fun _ _ _ h => h), fun id hid => ?_, ?_, fun id hid => ?_, hkN, rfl⟩
      · rcases List.mem_append.1 hx with hx | hx
        · exact hxs x hx
        · rw [List.mem_singleton.1 hx]; exact ok3
      · simp only [rowIds, List.mem_singleton] at hid
        subst hid
        exact fun h => absurd (hlow3 _ h) (Nat.lt_irrefl _)
      · refine hK.trans (K23.trans hK4 (ids'' := own2 ++ rowIds u7) (fun j _ h => List.mem_append.2 h)) (fun j hj h => ?_)
        rcases h with h | h
        · exact h
        · rcases List.mem_append.1 h with h | h
          · exact (how j h).elim id fun h => by omega
          · have := (hrow.lo j h).1; omega
      · rcases ow3 id hid with h | h
        · exact how id h
        · exact .inr (by omega)
  · skip
    obtain rfl : k = (W.count st es.length).1 := Nat.le_antisymm hk (Nat.le_of_not_lt (by simpa using hf))
    refine Lwp_exit ?_
    simp -dsimp only [go_sem, ↓reduceIte]
    refine hKK2 _ _ ?_
    try clear hKK2 KK2
    have hl2 : S2[l]? = some (some (n, [cells])) := hK.get hS hl
    have hlu : l ∉ rowIds u7 := fun h => by have := (hrow.lo l h).1; omega
    refine Lwp_frzRowS 7 u7 rfl (by simp only [go_sem, ↓reduceIte]) hrow fun full S3 hS3l hK3 => ?_
    have hl3 : S3[l]? = some (some (n, [cells])) := (hK3 l hlu).trans hl2
    have hov : ovr cells off [.sl full xs] = pre ++ ([.sl full xs] ++ post) := by rw [hcells, ← hpre]; exact ovr_mid
    refine LregionG [none, none, none, none] (by kernel_rfl) (by kernel_rfl) ?_
    simp -dsimp only [go_sem, ↓reduceIte, hl3, hov, hc1]
    repeat with_reducible refine And.intro (by first | omega | decide) ?_
    simp only [LThen, LBlock, LPost, Tryz.results67]
    simp -dsimp only [go_sem, ↓reduceIte]
    refine ret_keep (hRR _ _ ⟨⟨hn, hes, trivial⟩, own2, [.sl full xs], hW.keep i2 (ids := l :: rowIds u7) ⟨by simp [hS3l], fun j hj hm => ?_⟩ (fun id hid => ?_), by simp only [nz, wal, elemsOf, hz], ⟨by rw [hxl]; exact hNlt, hxs, trivial⟩, ?_, ⟨by rw [List.length_set, hS3l]; exact hK.1, fun j hj hm => ?_⟩, how⟩)
    · simp only [List.mem_cons, not_or] at hm
      rw [List.getElem?_set_ne (by omega)]; exact hK3 j hm.2
    · simp only [List.mem_cons, not_or]
      exact ⟨fun h => (how id hid).elim (fun h' => hl (h ▸ h')) (fun h' => by omega), fun h => hdis id h hid⟩
    · rw [List.getElem?_set_self (lt_of_get hl3)]; rfl
    · simp only [List.mem_cons, not_or] at hm
      rw [List.getElem?_set_ne (by omega), hK3 j (fun h => by have := (hrow.lo j h).1; omega)]
      exact hK.2 j hj hm.2

set_option maxHeartbeats 400000 in
theorem SlStr_ok (W : Wk) (hW : WkL W) : WOk W (aF W 72) 71 (.sl sStr .nil) := by
  refine WOk_intro 0 Tryz.func71 rfl (by kernel_rfl) (fun _ _ _ => rfl) fun S w l n off pre us post own st RR hi hl hS hpre hok hfit hRR => ?_
  have hlS := lt_of_get hS
  have hp0 : WP W S w l n pre own .nil [] st (us ++ post) S := WP.refl hi hS
  obtain ⟨f, es, us', rfl, hn, hes, h0⟩ := ok_sl hok
  obtain rfl := ok_nil h0
  clear h0 hok
  simp only [List.cons_append, List.nil_append] at hS hp0
  have hfit2 : W.fits (walN (wal W sStr) (zs sStr) (W.count st es.length).1 es (W.count st es.length).2).2 := hfit
  have hfitc : W.fits (W.count st es.length).2 := fitsN hW (Nat.zero_le _) hfit2
  have hNlt := hW.cnt (m := es.length) hi hn
  obtain ⟨cells, hcells⟩ : ∃ c, c = pre ++ (.sl f es :: post) := ⟨_, rfl⟩
  have hc1 : off < cells.length := by rw [hcells, ← hpre]; simp
  have hc2 : cells.getD off .any = .sl f es := by rw [hcells, ← hpre]; simp [List.getD_eq_getElem?_getD]
  have hlow := hW.lt hi
  rw [← hcells] at hS
  refine Lwp_seq fun KK0 hKK0 => ?_
  refine LdrawE [0,1,2,3,4,5,6,7,8,9] [(l, (n, [cells]))] none (by kernel_rfl) (by kernel_rfl) (by kernel_rfl) (by kernel_rfl) (by simp only [Watch.holds, List.mem_singleton, forall_eq]; exact hS) ?_
  simp -dsimp only [go_sem, ↓reduceIte, hc1, hc2, hW.mCount]
  repeat with_reducible refine And.intro (by first | omega | decide | trivial) ?_
  refine (hW.hCount S w own st es.length hi hn hfitc).k ?_
  rintro _ S1 ⟨rfl, own1, i1, K1, ow1⟩
  have hl1 : S1[l]? = some (some (n, [cells])) := K1.get hS hl
  simp -dsimp only [go_sem, ↓reduceIte, hl1]
  refine hKK0 _ _ ?_
  try clear hKK0 KK0
  refine Lwp_seq fun KK1 hKK1 => ?_
  refine LregionG [none] (by kernel_rfl) (by kernel_rfl) ?_
  simp -dsimp only [go_sem, ↓reduceIte]
  repeat with_reducible refine And.intro (by first | omega | decide) ?_
  refine hKK1 _ _ ?_
  try clear hKK1 KK1
  refine Lwp_seq fun KK2 hKK2 => ?_
  refine Lwp_seq fun KK3 hKK3 => ?_
  refine LregionG [none, none] (by kernel_rfl) (by kernel_rfl) ?_
  simp -dsimp only [go_sem, ↓reduceIte]
  repeat with_reducible refine And.intro (by first | omega | decide) ?_
  refine hKK3 _ _ ?_
  try clear hKK3 KK3
  refine Lwp_block ?_
  refine Lwp_loopK [0, 1, 2, 6, 7, 19, 20] (fun m vs S' => ∃ (k : Nat) (own1 : List Nat) (xs : List (List LV)) (u7 : LV), vs = [.iface W.ty (.ptr w 0 0), .ptr l 0 off, .func (.func 72) [] [], V (W.count st es.length).1, u7, V (W.count st es.length).1, V k] ∧ W.inv S' w own1 (walN (wal W sStr) (zs sStr) k es (W.count st es.length).2).2 ∧ xs.map (nz sStr) = (walN (wal W sStr) (zs sStr) k es (W.count st es.length).2).1 ∧ (∀ x ∈ xs, ok sStr x) ∧ xs.length = k ∧ RowS S' S.length u7 1 xs ∧ (∀ id ∈ rowIds u7, id ∉ own1) ∧ Keeps S S' own ∧ (∀ id ∈ own1, id ∈ own ∨ S.length ≤ id) ∧ k ≤ (W.count st es.length).1 ∧ m = (W.count st es.length).1 - k) (W.count st es.length).1 rfl (⟨0, own1, [], .sl true [], by simp only [go_sem, ↓reduceIte, Int.natCast_zero], i1, rfl, by simp, rfl, RowS.nil, by simp [rowIds], K1, ow1, Nat.zero_le _, rfl⟩) ?_
  rintro m us S2 ⟨k, own2, xs, u7, rfl, i2, hz, hxs, hxl, hrow, hdis, hK, how, hk, hm⟩ II hII
  refine Lwp_seq fun KK4 hKK4 => ?_
  refine LregionG [none] (by kernel_rfl) (by kernel_rfl) ?_
  simp -dsimp only [go_sem, ↓reduceIte]
  repeat with_reducible refine And.intro (by first | omega | decide) ?_
  refine hKK4 _ _ ?_
  try clear hKK4 KK4
  refine Lwp_seq fun KK5 hKK5 => ?_
  refine Lwp_cond (by simp only [go_sem, ↓reduceIte]; rfl) (fun ht => ?_) (fun hf => ?_)
  · skip
    have hkN : k < (W.count st es.length).1 := by simpa using ht
    have hlow2 := hW.lt i2
    have hl2 : S2[l]? = some (some (n, [cells])) := hK.get hS hl
    have hl3 : ∀ T, (S2 ++ T)[l]? = some (some (n, [cells])) := fun T => by rw [List.getElem?_append_left (lt_of_get hl2)]; exact hl2
    have hS2l : S.length ≤ S2.length := hK.1
    have hx0 : ok sStr (es.getD k (zs sStr)) := by
      rw [List.getD_eq_getElem?_getD]
      by_cases h : k < es.length
      · rw [List.getElem?_eq_getElem h]; exact hes _ (List.getElem_mem h)
      · rw [List.getElem?_eq_none (by omega)]; exact ok_zs
    have e1 : IntKind.i64.wrap ((k : Int) + 1) = ((k + 1 : Nat) : Int) := w64 (by omega) (by omega)
    refine Lwp_skip ?_
    try simp -dsimp only [go_sem, ↓reduceIte]
    refine hKK5 _ _ ?_
    try clear hKK5 KK5
    refine Lwp_seq fun KK6 hKK6 => ?_
    refine Lwp_block ?_
    refine Lwp_seq fun KK7 hKK7 => ?_
    refine LregionG [none, none] (by kernel_rfl) (by kernel_rfl) ?_
    simp -dsimp only [go_sem, ↓reduceIte]
    repeat with_reducible refine And.intro (by first | omega | decide) ?_
    refine hKK7 _ _ ?_
    try clear hKK7 KK7
    refine Lwp_seq fun KK8 hKK8 => ?_
    refine LregionG [none] (by kernel_rfl) (by kernel_rfl) ?_
    simp -dsimp only [go_sem, ↓reduceIte]
    
    refine hKK8 _ _ ?_
    try clear hKK8 KK8
    refine Lwp_seqJ [0, 1, 2, 6, 7, 19, 20, 8, 9] (fun vs S3 => vs = [.iface W.ty (.ptr w 0 0), .ptr l 0 off, .func (.func 72) [] [], V (W.count st es.length).1, u7, V (W.count st es.length).1, V k, V k, .ptr S2.length 0 0] ∧ S3 = S2 ++ [some (1, [es.getD k (zs sStr)])]) rfl (fun KK9 hKK9 => ?_) ?_
    · skip
      refine Lwp_seq fun KK10 hKK10 => ?_
      refine LregionG [none, none, none, none, none, none] (by kernel_rfl) (by kernel_rfl) ?_
      simp -dsimp only [go_sem, ↓reduceIte, hl3, hc1, hc2]
      repeat with_reducible refine And.intro (by first | omega | decide) ?_
      refine hKK10 _ _ ?_
      try clear hKK10 KK10
      refine Lwp_cond (by simp only [go_sem, ↓reduceIte]; rfl) (fun ht => ?_) (fun hf => ?_)
      · skip
        have hke : k < es.length := by simpa using ht
        obtain ⟨x0, hx0e⟩ : ∃ x0, x0 = es.getD k [] := ⟨_, rfl⟩
        have hx0l : x0.length = 1 := by rw [hx0e]; exact ok_len (ok_mem hes hke)
        have hx0t : x0.take 1 = x0 := List.take_of_length_le (by omega)
        have hov0 : ovr (zs sStr) 0 x0 = x0 := ovr_all (by rw [hx0l]; rfl)
        have hx0e2 : es.getD k (zs sStr) = x0 := by rw [hx0e, List.getD_eq_getElem?_getD, List.getD_eq_getElem?_getD, List.getElem?_eq_getElem hke]; rfl
        have okx0 := ok_mem hes hke
        rw [← hx0e] at okx0
        clear hx0l hx0t
        obtain ⟨v0, _, rfl, iv0, h0⟩ := ok_str okx0
        obtain rfl := ok_nil h0
        clear h0
        refine LregionG [none, none, none, none, none, none, none] (by kernel_rfl) (by kernel_rfl) ?_
        simp -dsimp only [go_sem, ↓reduceIte, hl3, hc1, hc2, hke, ← hx0e]
        repeat with_reducible refine And.intro (by first | omega | decide) ?_
        try simp -dsimp only [go_sem, ↓reduceIte]
        refine hKK9 _ _ ?_
        first | exact ⟨rfl, rfl⟩ | (refine ⟨rfl, ?_⟩; simp [List.getD_eq_getElem?_getD, List.getElem?_eq_none (Nat.le_of_not_lt hke), zs, sStr]; done) | (refine ⟨rfl, ?_⟩; rw [hx0e2]; done) | (refine ⟨rfl, ?_⟩; rw [hx0e2]; exact congrArg (fun z => S2 ++ [some (1, [z])]) hov0)
      · skip
        have hke : ¬ k < es.length := by simpa using hf
        refine Lwp_skip ?_
        try simp -dsimp only [go_sem, ↓reduceIte]
        try simp -dsimp only [go_sem, ↓reduceIte]
        refine hKK9 _ _ ?_
        first | exact ⟨rfl, rfl⟩ | (refine ⟨rfl, ?_⟩; simp [List.getD_eq_getElem?_getD, List.getElem?_eq_none (Nat.le_of_not_lt hke), zs, sStr]; done) | (refine ⟨rfl, ?_⟩; rw [hx0e2]; done) | (refine ⟨rfl, ?_⟩; rw [hx0e2]; exact congrArg (fun z => S2 ++ [some (1, [z])]) hov0)
    · rintro us SJ ⟨rfl, rfl⟩
      refine Lwp_seq fun KK11 hKK11 => ?_
      refine LregionG [none, none, none] (by kernel_rfl) (by kernel_rfl) ?_
      simp -dsimp only [go_sem, ↓reduceIte]
      refine (Text_ok W hW (S2 ++ [some (1, [es.getD k (zs sStr)])]) w S2.length 1 0 [] (es.getD k (zs sStr)) [] own2 _ (hW.keep i2 (Keeps.app S2 _ []) (by simp)) (fun h => absurd (hlow2 _ h) (Nat.lt_irrefl _)) (by simp) rfl hx0 (by have := fitsN hW hkN hfit2; rw [walN_succ] at this; exact this)).k ?_
      rintro r S3 ⟨-, own3, us3, i3, z3, ok3, hS3, K3, ow3⟩
      simp only [List.nil_append, List.append_nil] at hS3
      have hl3' := ok_len ok3
      have K23 : Keeps S2 S3 own2 := ⟨by have := K3.1; simp at this; omega, fun j hj hn => (K3.2 j (by simp; omega) (by simp [hn]; omega)).trans (List.getElem?_append_left hj)⟩
      have hrow3 := hrow.mono (Nat.le_refl _) (fun id hid b hb => K23.get hb (hdis id hid))
      have hlow3 := hW.lt i3
      have hlen3 := K3.1
      simp only [List.length_append, List.length_cons, List.length_nil, Nat.zero_add] at hlen3 ow3
      clear hl3'
      obtain ⟨v3, _, rfl, iv3, h3⟩ := ok_str ok3
      obtain rfl := ok_nil h3
      clear h3
      simp -dsimp only [go_sem, ↓reduceIte]
      refine hKK11 _ _ ?_
      try clear hKK11 KK11
      
      refine LregionG [none, none, none, none, none] (by kernel_rfl) (by kernel_rfl) ?_
      simp -dsimp only [go_sem, ↓reduceIte, hS3]
      repeat with_reducible refine And.intro (by first | omega | decide | trivial) ?_
      refine append_row hrow3 rfl (by simp only [go_sem]; rfl) (by simp only [go_sem]; first | exact ⟨rfl, rfl⟩ | exact ⟨rfl, rfl, rfl⟩ | rfl) (by simp only [go_sem]) (by simp only [go_sem, ↓reduceIte]) (by simp only [go_sem, ↓reduceIte]; rfl) (by simp) (.inr (by simp)) (by simp only [LIM, List.length_cons, List.length_nil]; omega) fun S4 hS4l hrow4 hK4 => ?_
      have i4 := hW.keep i3 hK4 (fun id hid hm => (ow3 id hid).elim (fun h => hdis id hm h) (fun h => by have := (hrow.lo id hm).2; omega))
      simp -dsimp only [go_sem, ↓reduceIte]
      refine hKK6 _ _ ?_
      try clear hKK6 KK6
      refine LregionG [none, none] (by kernel_rfl) (by kernel_rfl) ?_
      simp -dsimp only [go_sem, ↓reduceIte, e1]
      repeat with_reducible refine And.intro (by first | omega | decide) ?_
      refine hII ((W.count st es.length).1 - (k + 1)) _ _ (by omega) ⟨k + 1, own3, xs ++ [[.str v3]], _, rfl, by rw [walN_succ]; exact i4, by rw [walN_succ, List.map_append, hz]; simp only [List.map_cons, List.map_nil, z3], fun x hx => ?_, by simp [hxl], hrow4.mono (by omega) (fun _ _ _ h => h), fun id hid => ?_, ?_, fun id hid => ?_, hkN, rfl⟩
      · rcases List.mem_append.1 hx with hx | hx
        · exact hxs x hx
        · rw [List.mem_singleton.1 hx]; exact ok3
      · simp only [rowIds, List.mem_singleton] at hid
        subst hid
        exact fun h => absurd (hlow3 _ h) (Nat.lt_irrefl _)
      · refine hK.trans (K23.trans hK4 (ids'' := own2 ++ rowIds u7) (fun j _ h => List.mem_append.2 h)) (fun j hj h => ?_)
        rcases h with h | h
        · exact h
        · rcases List.mem_append.1 h with h | h
          · exact (how j h).elim id fun h => by omega
          · have := (hrow.lo j h).1; omega
      · rcases ow3 id hid with h | h
        · exact how id h
        · exact .inr (by omega)
  · skip
    obtain rfl : k = (W.count st es.length).1 := Nat.le_antisymm hk (Nat.le_of_not_lt (by simpa using hf))
    refine Lwp_exit ?_
    simp -dsimp only [go_sem, ↓reduceIte]
    refine hKK2 _ _ ?_
    try clear hKK2 KK2
    have hl2 : S2[l]? = some (some (n, [cells])) := hK.get hS hl
    have hlu : l ∉ rowIds u7 := fun h => by have := (hrow.lo l h).1; omega
    refine Lwp_frzRowS 7 u7 rfl (by simp only [go_sem, ↓reduceIte]) hrow fun full S3 hS3l hK3 => ?_
    have hl3 : S3[l]? = some (some (n, [cells])) := (hK3 l hlu).trans hl2
    have hov : ovr cells off [.sl full xs] = pre ++ ([.sl full xs] ++ post) := by rw [hcells, ← hpre]; exact ovr_mid
    refine LregionG [none, none, none, none] (by kernel_rfl) (by kernel_rfl) ?_
    simp -dsimp only [go_sem, ↓reduceIte, hl3, hov, hc1]
    repeat with_reducible refine And.intro (by first | omega | decide) ?_
    simp only [LThen, LBlock, LPost, Tryz.results71]
    simp -dsimp only [go_sem, ↓reduceIte]
    refine ret_keep (hRR _ _ ⟨⟨hn, hes, trivial⟩, own2, [.sl full xs], hW.keep i2 (ids := l :: rowIds u7) ⟨by simp [hS3l], fun j hj hm => ?_⟩ (fun id hid => ?_), by simp only [nz, wal, elemsOf, hz], ⟨by rw [hxl]; exact hNlt, hxs, trivial⟩, ?_, ⟨by rw [List.length_set, hS3l]; exact hK.1, fun j hj hm => ?_⟩, how⟩)
    · simp only [List.mem_cons, not_or] at hm
      rw [List.getElem?_set_ne (by omega)]; exact hK3 j hm.2
    · simp only [List.mem_cons, not_or]
      exact ⟨fun h => (how id hid).elim (fun h' => hl (h ▸ h')) (fun h' => by omega), fun h => hdis id h hid⟩
    · rw [List.getElem?_set_self (lt_of_get hl3)]; rfl
    · simp only [List.mem_cons, not_or] at hm
      rw [List.getElem?_set_ne (by omega), hK3 j (fun h => by have := (hrow.lo j h).1; omega)]
      exact hK.2 j hj hm.2

set_option maxHeartbeats 400000 in
theorem Counted_ok (W : Wk) (hW : WkL W) : WOk W (aI W) 82 sCnt := by
  refine WOk_intro 0 Tryz.func82 rfl (by kernel_rfl) (fun _ _ _ => rfl) fun S w l n off pre us post own st RR hi hl hS hpre hok hfit hRR => ?_
  have hlS := lt_of_get hS
  have hp0 : WP W S w l n pre own .nil [] st (us ++ post) S := WP.refl hi hS
  obtain ⟨s, us, rfl, hs, h⟩ := ok_str hok
  obtain ⟨a, us, rfl, ha, h⟩ := ok_int h
  obtain ⟨b, us, rfl, hb, h⟩ := ok_int h
  obtain rfl := ok_nil h
  clear h hok
  have hok1 : ok (Sch.app Sch.nil sStr) (([] : List LV) ++ [.str s]) := app_ok trivial (⟨hs, trivial⟩)
  have hok2 : ok (Sch.app (Sch.app Sch.nil sStr) (sN 2)) ((([] : List LV) ++ [.str s]) ++ [V a, V b]) := app_ok hok1 (⟨rfl, ha.1, ha.2, rfl, hb.1, hb.2, trivial⟩)
  have hft2 : W.fits (wal W (Sch.app (Sch.app Sch.nil sStr) (sN 2)) ((([] : List LV) ++ [.str s]) ++ [V a, V b]) st).2 := hfit
  have hft1 := fitsL hW hok1 hft2
  refine Lwp_seq fun KK0 hKK0 => ?_
  refine LdrawE [0,1,2,3,4,5,6,7] [] none (by kernel_rfl) (by kernel_rfl) (by kernel_rfl) (by kernel_rfl) (by simp [Watch.holds]) ?_
  simp -dsimp only [go_sem, ↓reduceIte, hW.mText]
  repeat with_reducible refine And.intro (by first | omega | decide | trivial) ?_
  refine WOk.kk hW (hW.hText) [.str s] hp0 hl hlS hpre rfl rfl (rfl) (⟨hs, trivial⟩) hft1 ?_
  rintro r S2 hp
  simp -dsimp only [go_sem, ↓reduceIte]
  refine hKK0 _ _ ?_
  try clear hKK0 KK0
  refine LdrawE [0,1,2,3,4,5,6,7,8] [] none (by kernel_rfl) (by kernel_rfl) (by kernel_rfl) (by kernel_rfl) (by simp [Watch.holds]) ?_
  simp -dsimp only [go_sem, ↓reduceIte]
  repeat with_reducible refine And.intro (by first | omega | decide | trivial) ?_
  refine WOk.kk hW ((Ints_ok W hW 2 (by decide))) [V a, V b] hp hl hlS hpre rfl rfl (rfl) (⟨rfl, ha.1, ha.2, rfl, hb.1, hb.2, trivial⟩) hft2 ?_
  rintro r S2 hp
  simp -dsimp only [go_sem, ↓reduceIte]
  simp only [LThen, LBlock, LPost, Tryz.results82]
  simp -dsimp only [go_sem, ↓reduceIte]
  exact ret_keep (hRR _ _ hp)

set_option maxHeartbeats 400000 in
theorem SlCnt_ok (W : Wk) (hW : WkL W) : WOk W (aF W 82) 81 (.sl sCnt .nil) := by
  refine WOk_intro 0 Tryz.func81 rfl (by kernel_rfl) (fun _ _ _ => rfl) fun S w l n off pre us post own st RR hi hl hS hpre hok hfit hRR => ?_
  have hlS := lt_of_get hS
  have hp0 : WP W S w l n pre own .nil [] st (us ++ post) S := WP.refl hi hS
  obtain ⟨f, es, us', rfl, hn, hes, h0⟩ := ok_sl hok
  obtain rfl := ok_nil h0
  clear h0 hok
  simp only [List.cons_append, List.nil_append] at hS hp0
  have hfit2 : W.fits (walN (wal W sCnt) (zs sCnt) (W.count st es.length).1 es (W.count st es.length).2).2 := hfit
  have hfitc : W.fits (W.count st es.length).2 := fitsN hW (Nat.zero_le _) hfit2
  have hNlt := hW.cnt (m := es.length) hi hn
  obtain ⟨cells, hcells⟩ : ∃ c, c = pre ++ (.sl f es :: post) := ⟨_, rfl⟩
  have hc1 : off < cells.length := by rw [hcells, ← hpre]; simp
  have hc2 : cells.getD off .any = .sl f es := by rw [hcells, ← hpre]; simp [List.getD_eq_getElem?_getD]
  have hlow := hW.lt hi
  rw [← hcells] at hS
  refine Lwp_seq fun KK0 hKK0 => ?_
  refine LdrawE [0,1,2,3,4,5,6,7,8,9] [(l, (n, [cells]))] none (by kernel_rfl) (by kernel_rfl) (by kernel_rfl) (by kernel_rfl) (by simp only [Watch.holds, List.mem_singleton, forall_eq]; exact hS) ?_
  simp -dsimp only [go_sem, ↓reduceIte, hc1, hc2, hW.mCount]
  repeat with_reducible refine And.intro (by first | omega | decide | trivial) ?_
  refine (hW.hCount S w own st es.length hi hn hfitc).k ?_
  rintro _ S1 ⟨rfl, own1, i1, K1, ow1⟩
  have hl1 : S1[l]? = some (some (n, [cells])) := K1.get hS hl
  simp -dsimp only [go_sem, ↓reduceIte, hl1]
  refine hKK0 _ _ ?_
  try clear hKK0 KK0
  refine Lwp_seq fun KK1 hKK1 => ?_
  refine LregionG [none] (by kernel_rfl) (by kernel_rfl) ?_
  simp -dsimp only [go_sem, ↓reduceIte]
  repeat with_reducible refine And.intro (by first | omega | decide) ?_
  refine hKK1 _ _ ?_
  try clear hKK1 KK1
  refine Lwp_seq fun KK2 hKK2 => ?_
  refine Lwp_seq fun KK3 hKK3 => ?_
  refine LregionG [none, none] (by kernel_rfl) (by kernel_rfl) ?_
  simp -dsimp only [go_sem, ↓reduceIte]
  repeat with_reducible refine And.intro (by first | omega | decide) ?_
  refine hKK3 _ _ ?_
  try clear hKK3 KK3
  refine Lwp_block ?_
  refine Lwp_loopK [0, 1, 2, 6, 7, 19, 20] (fun m vs S' => ∃ (k : Nat) (own1 : List Nat) (xs : List (List LV)) (u7 : LV), vs = [.iface W.ty (.ptr w 0 0), .ptr l 0 off, .func (.func 82) [] [], V (W.count st es.length).1, u7, V (W.count st es.length).1, V k] ∧ W.inv S' w own1 (walN (wal W sCnt) (zs sCnt) k es (W.count st es.length).2).2 ∧ xs.map (nz sCnt) = (walN (wal W sCnt) (zs sCnt) k es (W.count st es.length).2).1 ∧ (∀ x ∈ xs, ok sCnt x) ∧ xs.length = k ∧ RowS S' S.length u7 3 xs ∧ (∀ id ∈ rowIds u7, id ∉ own1) ∧ Keeps S S' own ∧ (∀ id ∈ own1, id ∈ own ∨ S.length ≤ id) ∧ k ≤ (W.count st es.length).1 ∧ m = (W.count st es.length).1 - k) (W.count st es.length).1 rfl (⟨0, own1, [], .sl true [], by simp only [go_sem, ↓reduceIte, Int.natCast_zero], i1, rfl, by simp, rfl, RowS.nil, by simp [rowIds], K1, ow1, Nat.zero_le _, rfl⟩) ?_
  rintro m us S2 ⟨k, own2, xs, u7, rfl, i2, hz, hxs, hxl, hrow, hdis, hK, how, hk, hm⟩ II hII
  refine Lwp_seq fun KK4 hKK4 => ?_
  refine LregionG [none] (by kernel_rfl) (by kernel_rfl) ?_
  simp -dsimp only [go_sem, ↓reduceIte]
  repeat with_reducible refine And.intro (by first | omega | decide) ?_
  refine hKK4 _ _ ?_
  try clear hKK4 KK4
  refine Lwp_seq fun KK5 hKK5 => ?_
  refine Lwp_cond (by simp only [go_sem, ↓reduceIte]; rfl) (fun ht => ?_) (fun hf => ?_)
  · skip
    have hkN : k < (W.count st es.length).1 := by simpa using ht
    have hlow2 := hW.lt i2
    have hl2 : S2[l]? = some (some (n, [cells])) := hK.get hS hl
    have hl3 : ∀ T, (S2 ++ T)[l]? = some (some (n, [cells])) := fun T => by rw [List.getElem?_append_left (lt_of_get hl2)]; exact hl2
    have hS2l : S.length ≤ S2.length := hK.1
    have hx0 : ok sCnt (es.getD k (zs sCnt)) := by
      rw [List.getD_eq_getElem?_getD]
      by_cases h : k < es.length
      · rw [List.getElem?_eq_getElem h]; exact hes _ (List.getElem_mem h)
      · rw [List.getElem?_eq_none (by omega)]; exact ok_zs
    have e1 : IntKind.i64.wrap ((k : Int) + 1) = ((k + 1 : Nat) : Int) := w64 (by omega) (by omega)
    refine Lwp_skip ?_
    try simp -dsimp only [go_sem, ↓reduceIte]
    refine hKK5 _ _ ?_
    try clear hKK5 KK5
    refine Lwp_seq fun KK6 hKK6 => ?_
    refine Lwp_block ?_
    refine Lwp_seq fun KK7 hKK7 => ?_
    refine LregionG [none, none] (by kernel_rfl) (by kernel_rfl) ?_
    simp -dsimp only [go_sem, ↓reduceIte]
    repeat with_reducible refine And.intro (by first | omega | decide) ?_
    refine hKK7 _ _ ?_
    try clear hKK7 KK7
    refine Lwp_seq fun KK8 hKK8 => ?_
    refine LregionG [none] (by kernel_rfl) (by kernel_rfl) ?_
    simp -dsimp only [go_sem, ↓reduceIte]
    
    refine hKK8 _ _ ?_
    try clear hKK8 KK8
    refine Lwp_seqJ [0, 1, 2, 6, 7, 19, 20, 8, 9] (fun vs S3 => vs = [.iface W.ty (.ptr w 0 0), .ptr l 0 off, .func (.func 82) [] [], V (W.count st es.length).1, u7, V (W.count st es.length).1, V k, V k, .ptr S2.length 0 0] ∧ S3 = S2 ++ [some (3, [es.getD k (zs sCnt)])]) rfl (fun KK9 hKK9 => ?_) ?_
    · skip
      refine Lwp_seq fun KK10 hKK10 => ?_
      refine LregionG [none, none, none, none, none, none] (by kernel_rfl) (by kernel_rfl) ?_
      simp -dsimp only [go_sem, ↓reduceIte, hl3, hc1, hc2]
      repeat with_reducible refine And.intro (by first | omega | decide) ?_
      refine hKK10 _ _ ?_
      try clear hKK10 KK10
      refine Lwp_cond (by simp only [go_sem, ↓reduceIte]; rfl) (fun ht => ?_) (fun hf => ?_)
      · skip
        have hke : k < es.length := by simpa using ht
        obtain ⟨x0, hx0e⟩ : ∃ x0, x0 = es.getD k [] := ⟨_, rfl⟩
        have hx0l : x0.length = 3 := by rw [hx0e]; exact ok_len (ok_mem hes hke)
        have hx0t : x0.take 3 = x0 := List.take_of_length_le (by omega)
        have hov0 : ovr (zs sCnt) 0 x0 = x0 := ovr_all (by rw [hx0l]; rfl)
        have hx0e2 : es.getD k (zs sCnt) = x0 := by rw [hx0e, List.getD_eq_getElem?_getD, List.getD_eq_getElem?_getD, List.getElem?_eq_getElem hke]; rfl
        refine LregionG [none, none, none, none, none, none, none] (by kernel_rfl) (by kernel_rfl) ?_
        simp -dsimp only [go_sem, ↓reduceIte, hl3, hc1, hc2, hke, ← hx0e, hx0l, hx0t]
        repeat with_reducible refine And.intro (by first | omega | decide) ?_
        try simp -dsimp only [go_sem, ↓reduceIte]
        refine hKK9 _ _ ?_
        first | exact ⟨rfl, rfl⟩ | (refine ⟨rfl, ?_⟩; simp [List.getD_eq_getElem?_getD, List.getElem?_eq_none (Nat.le_of_not_lt hke), zs, sCnt]; done) | (refine ⟨rfl, ?_⟩; rw [hx0e2]; done) | (refine ⟨rfl, ?_⟩; rw [hx0e2]; exact congrArg (fun z => S2 ++ [some (3, [z])]) hov0)
      · skip
        have hke : ¬ k < es.length := by simpa using hf
        refine Lwp_skip ?_
        try simp -dsimp only [go_sem, ↓reduceIte]
        try simp -dsimp only [go_sem, ↓reduceIte]
        refine hKK9 _ _ ?_
        first | exact ⟨rfl, rfl⟩ | (refine ⟨rfl, ?_⟩; simp [List.getD_eq_getElem?_getD, List.getElem?_eq_none (Nat.le_of_not_lt hke), zs, sCnt]; done) | (refine ⟨rfl, ?_⟩; rw [hx0e2]; done) | (refine ⟨rfl, ?_⟩; rw [hx0e2]; exact congrArg (fun z => S2 ++ [some (3, [z])]) hov0)
    · rintro us SJ ⟨rfl, rfl⟩
      refine Lwp_seq fun KK11 hKK11 => ?_
      refine LregionG [none, none, none] (by kernel_rfl) (by kernel_rfl) ?_
      simp -dsimp only [go_sem, ↓reduceIte]
      refine (Counted_ok W hW (S2 ++ [some (3, [es.getD k (zs sCnt)])]) w S2.length 3 0 [] (es.getD k (zs sCnt)) [] own2 _ (hW.keep i2 (Keeps.app S2 _ []) (by simp)) (fun h => absurd (hlow2 _ h) (Nat.lt_irrefl _)) (by simp) rfl hx0 (by have := fitsN hW hkN hfit2; rw [walN_succ] at this; exact this)).k ?_
      rintro r S3 ⟨-, own3, us3, i3, z3, ok3, hS3, K3, ow3⟩
      simp only [List.nil_append, List.append_nil] at hS3
      have hl3' := ok_len ok3
      have K23 : Keeps S2 S3 own2 := ⟨by have := K3.1; simp at this; omega, fun j hj hn => (K3.2 j (by simp; omega) (by simp [hn]; omega)).trans (List.getElem?_append_left hj)⟩
      have hrow3 := hrow.mono (Nat.le_refl _) (fun id hid b hb => K23.get hb (hdis id hid))
      have hlow3 := hW.lt i3
      have hlen3 := K3.1
      simp only [List.length_append, List.length_cons, List.length_nil, Nat.zero_add] at hlen3 ow3
      simp -dsimp only [go_sem, ↓reduceIte]
      refine hKK11 _ _ ?_
      try clear hKK11 KK11
      have hu3 : us3.take 3 = us3 := List.take_of_length_le (by rw [hl3']; exact Nat.le_refl _)
      simp only [show sCnt.n = 3 from rfl] at hl3'
      refine LregionG [none, none, none, none, none] (by kernel_rfl) (by kernel_rfl) ?_
      simp -dsimp only [go_sem, ↓reduceIte, hS3, hl3', hu3]
      repeat with_reducible refine And.intro (by first | omega | decide | trivial) ?_
      refine append_row hrow3 rfl (by simp only [go_sem]; rfl) (by simp only [go_sem]; first | exact ⟨rfl, rfl⟩ | exact ⟨rfl, rfl, rfl⟩ | rfl) (by simp only [go_sem]) (by simp only [go_sem, ↓reduceIte]) (by simp only [go_sem, ↓reduceIte]; rfl) (by simp [hl3']) (.inr (by simp)) (by simp only [LIM, List.length_cons, List.length_nil]; omega) fun S4 hS4l hrow4 hK4 => ?_
      have i4 := hW.keep i3 hK4 (fun id hid hm => (ow3 id hid).elim (fun h => hdis id hm h) (fun h => by have := (hrow.lo id hm).2; omega))
      simp -dsimp only [go_sem, ↓reduceIte]
      refine hKK6 _ _ ?_
      try clear hKK6 KK6
      refine LregionG [none, none] (by kernel_rfl) (by kernel_rfl) ?_
      simp -dsimp only [go_sem, ↓reduceIte, e1]
      repeat with_reducible refine And.intro (by first | omega | decide) ?_
      refine hII ((W.count st es.length).1 - (k + 1)) _ _ (by omega) ⟨k + 1, own3, xs ++ [us3], _, rfl, by rw [walN_succ]; exact i4, by rw [walN_succ, List.map_append, hz]; simp only [List.map_cons, List.map_nil, z3], fun x hx => ?_, by simp [hxl], hrow4.mono (by omega) (fun _ _ _ h => h), fun id hid => ?_, ?_, fun id hid => ?_, hkN, rfl⟩
      · rcases List.mem_append.1 hx with hx | hx
        · exact hxs x hx
        · rw [List.mem_singleton.1 hx]; exact ok3
      · simp only [rowIds, List.mem_singleton] at hid
        subst hid
        exact fun h => absurd (hlow3 _ h) (Nat.lt_irrefl _)
      · refine hK.trans (K23.trans hK4 (ids'' := own2 ++ rowIds u7) (fun j _ h => List.mem_append.2 h)) (fun j hj h => ?_)
        rcases h with h | h
        · exact h
        · rcases List.mem_append.1 h with h | h
          · exact (how j h).elim id fun h => by omega
          · have := (hrow.lo j h).1; omega
      · rcases ow3 id hid with h | h
        · exact how id h
        · exact .inr (by omega)
  · skip
    obtain rfl : k = (W.count st es.length).1 := Nat.le_antisymm hk (Nat.le_of_not_lt (by simpa using hf))
    refine Lwp_exit ?_
    simp -dsimp only [go_sem, ↓reduceIte]
    refine hKK2 _ _ ?_
    try clear hKK2 KK2
    have hl2 : S2[l]? = some (some (n, [cells])) := hK.get hS hl
    have hlu : l ∉ rowIds u7 := fun h => by have := (hrow.lo l h).1; omega
    refine Lwp_frzRowS 7 u7 rfl (by simp only [go_sem, ↓reduceIte]) hrow fun full S3 hS3l hK3 => ?_
    have hl3 : S3[l]? = some (some (n, [cells])) := (hK3 l hlu).trans hl2
    have hov : ovr cells off [.sl full xs] = pre ++ ([.sl full xs] ++ post) := by rw [hcells, ← hpre]; exact ovr_mid
    refine LregionG [none, none, none, none] (by kernel_rfl) (by kernel_rfl) ?_
    simp -dsimp only [go_sem, ↓reduceIte, hl3, hov, hc1]
    repeat with_reducible refine And.intro (by first | omega | decide) ?_
    simp only [LThen, LBlock, LPost, Tryz.results81]
    simp -dsimp only [go_sem, ↓reduceIte]
    refine ret_keep (hRR _ _ ⟨⟨hn, hes, trivial⟩, own2, [.sl full xs], hW.keep i2 (ids := l :: rowIds u7) ⟨by simp [hS3l], fun j hj hm => ?_⟩ (fun id hid => ?_), by simp only [nz, wal, elemsOf, hz], ⟨by rw [hxl]; exact hNlt, hxs, trivial⟩, ?_, ⟨by rw [List.length_set, hS3l]; exact hK.1, fun j hj hm => ?_⟩, how⟩)
    · simp only [List.mem_cons, not_or] at hm
      rw [List.getElem?_set_ne (by omega)]; exact hK3 j hm.2
    · simp only [List.mem_cons, not_or]
      exact ⟨fun h => (how id hid).elim (fun h' => hl (h ▸ h')) (fun h' => by omega), fun h => hdis id h hid⟩
    · rw [List.getElem?_set_self (lt_of_get hl3)]; rfl
    · simp only [List.mem_cons, not_or] at hm
      rw [List.getElem?_set_ne (by omega), hK3 j (fun h => by have := (hrow.lo j h).1; omega)]
      exact hK.2 j hj hm.2

set_option maxHeartbeats 400000 in
theorem Counts_ok (W : Wk) (hW : WkL W) : WOk W (aI W) 70 (.sl sCnt .nil) := by
  refine WOk_intro 0 Tryz.func70 rfl (by kernel_rfl) (fun _ _ _ => rfl) fun S w l n off pre us post own st RR hi hl hS hpre hok hfit hRR => ?_
  have hlS := lt_of_get hS
  have hp0 : WP W S w l n pre own .nil [] st (us ++ post) S := WP.refl hi hS
  refine LregionG [none, none, none] (by kernel_rfl) (by kernel_rfl) ?_
  simp -dsimp only [go_sem, ↓reduceIte]
  repeat with_reducible refine And.intro (by first | omega | decide | trivial) ?_
  refine WOk.kk hW ((SlCnt_ok W hW)) us hp0 hl hlS hpre rfl rfl (rfl) hok hfit ?_
  rintro r S2 hp
  simp -dsimp only [go_sem, ↓reduceIte]
  simp only [LThen, LBlock, LPost, Tryz.results70]
  simp -dsimp only [go_sem, ↓reduceIte]
  exact ret_keep (hRR _ _ hp)

set_option maxHeartbeats 400000 in
theorem SlCnts_ok (W : Wk) (hW : WkL W) : WOk W (aF W 70) 69 (.sl (.sl sCnt .nil) .nil) := by
  refine WOk_intro 0 Tryz.func69 rfl (by kernel_rfl) (fun _ _ _ => rfl) fun S w l n off pre us post own st RR hi hl hS hpre hok hfit hRR => ?_
  have hlS := lt_of_get hS
  have hp0 : WP W S w l n pre own .nil [] st (us ++ post) S := WP.refl hi hS
  obtain ⟨f, es, us', rfl, hn, hes, h0⟩ := ok_sl hok
  obtain rfl := ok_nil h0
  clear h0 hok
  simp only [List.cons_append, List.nil_append] at hS hp0
  have hfit2 : W.fits (walN (wal W (.sl sCnt .nil)) (zs (.sl sCnt .nil)) (W.count st es.length).1 es (W.count st es.length).2).2 := hfit
  have hfitc : W.fits (W.count st es.length).2 := fitsN hW (Nat.zero_le _) hfit2
  have hNlt := hW.cnt (m := es.length) hi hn
  obtain ⟨cells, hcells⟩ : ∃ c, c = pre ++ (.sl f es :: post) := ⟨_, rfl⟩
  have hc1 : off < cells.length := by rw [hcells, ← hpre]; simp
  have hc2 : cells.getD off .any = .sl f es := by rw [hcells, ← hpre]; simp [List.getD_eq_getElem?_getD]
  have hlow := hW.lt hi
  rw [← hcells] at hS
  refine Lwp_seq fun KK0 hKK0 => ?_
  refine LdrawE [0,1,2,3,4,5,6,7,8,9] [(l, (n, [cells]))] none (by kernel_rfl) (by kernel_rfl) (by kernel_rfl) (by kernel_rfl) (by simp only [Watch.holds, List.mem_singleton, forall_eq]; exact hS) ?_
  simp -dsimp only [go_sem, ↓reduceIte, hc1, hc2, hW.mCount]
  repeat with_reducible refine And.intro (by first | omega | decide | trivial) ?_
  refine (hW.hCount S w own st es.length hi hn hfitc).k ?_
  rintro _ S1 ⟨rfl, own1, i1, K1, ow1⟩
  have hl1 : S1[l]? = some (some (n, [cells])) := K1.get hS hl
  simp -dsimp only [go_sem, ↓reduceIte, hl1]
  refine hKK0 _ _ ?_
  try clear hKK0 KK0
  refine Lwp_seq fun KK1 hKK1 => ?_
  refine LregionG [none] (by kernel_rfl) (by kernel_rfl) ?_
  simp -dsimp only [go_sem, ↓reduceIte]
  repeat with_reducible refine And.intro (by first | omega | decide) ?_
  refine hKK1 _ _ ?_
  try clear hKK1 KK1
  refine Lwp_seq fun KK2 hKK2 => ?_
  refine Lwp_seq fun KK3 hKK3 => ?_
  refine LregionG [none, none] (by kernel_rfl) (by kernel_rfl) ?_
  simp -dsimp only [go_sem, ↓reduceIte]
  repeat with_reducible refine And.intro (by first | omega | decide) ?_
  refine hKK3 _ _ ?_
  try clear hKK3 KK3
  refine Lwp_block ?_
  refine Lwp_loopK [0, 1, 2, 6, 7, 19, 20] (fun m vs S' => ∃ (k : Nat) (own1 : List Nat) (xs : List (List LV)) (u7 : LV), vs = [.iface W.ty (.ptr w 0 0), .ptr l 0 off, .func (.func 70) [] [], V (W.count st es.length).1, u7, V (W.count st es.length).1, V k] ∧ W.inv S' w own1 (walN (wal W (.sl sCnt .nil)) (zs (.sl sCnt .nil)) k es (W.count st es.length).2).2 ∧ xs.map (nz (.sl sCnt .nil)) = (walN (wal W (.sl sCnt .nil)) (zs (.sl sCnt .nil)) k es (W.count st es.length).2).1 ∧ (∀ x ∈ xs, ok (.sl sCnt .nil) x) ∧ xs.length = k ∧ RowS S' S.length u7 1 xs ∧ (∀ id ∈ rowIds u7, id ∉ own1) ∧ Keeps S S' own ∧ (∀ id ∈ own1, id ∈ own ∨ S.length ≤ id) ∧ k ≤ (W.count st es.length).1 ∧ m = (W.count st es.length).1 - k) (W.count st es.length).1 rfl (⟨0, own1, [], .sl true [], by simp only [go_sem, ↓reduceIte, Int.natCast_zero], i1, rfl, by simp, rfl, RowS.nil, by simp [rowIds], K1, ow1, Nat.zero_le _, rfl⟩) ?_
  rintro m us S2 ⟨k, own2, xs, u7, rfl, i2, hz, hxs, hxl, hrow, hdis, hK, how, hk, hm⟩ II hII
  refine Lwp_seq fun KK4 hKK4 => ?_
  refine LregionG [none] (by kernel_rfl) (by kernel_rfl) ?_
  simp -dsimp only [go_sem, ↓reduceIte]
  repeat with_reducible refine And.intro (by first | omega | decide) ?_
  refine hKK4 _ _ ?_
  try clear hKK4 KK4
  refine Lwp_seq fun KK5 hKK5 => ?_
  refine Lwp_cond (by simp only [go_sem, ↓reduceIte]; rfl) (fun ht => ?_) (fun hf => ?_)
  · skip
    have hkN : k < (W.count st es.length).1 := by simpa using ht
    have hlow2 := hW.lt i2
    have hl2 : S2[l]? = some (some (n, [cells])) := hK.get hS hl
    have hl3 : ∀ T, (S2 ++ T)[l]? = some (some (n, [cells])) := fun T => by rw [List.getElem?_append_left (lt_of_get hl2)]; exact hl2
    have hS2l : S.length ≤ S2.length := hK.1
    have hx0 : ok (.sl sCnt .nil) (es.getD k (zs (.sl sCnt .nil))) := by
      rw [List.getD_eq_getElem?_getD]
      by_cases h : k < es.length
      · rw [List.getElem?_eq_getElem h]; exact hes _ (List.getElem_mem h)
      · rw [List.getElem?_eq_none (by omega)]; exact ok_zs
    have e1 : IntKind.i64.wrap ((k : Int) + 1) = ((k + 1 : Nat) : Int) := w64 (by omega) (by omega)
    refine Lwp_skip ?_
    try simp -dsimp only [go_sem, ↓reduceIte]
    refine hKK5 _ _ ?_
    try clear hKK5 KK5
    refine Lwp_seq fun KK6 hKK6 => ?_
    refine Lwp_block ?_
    refine Lwp_seq fun KK7 hKK7 => ?_
    refine LregionG [none, none] (by kernel_rfl) (by kernel_rfl) ?_
    simp -dsimp only [go_sem, ↓reduceIte]
    repeat with_reducible refine And.intro (by first | omega | decide) ?_
    refine hKK7 _ _ ?_
    try clear hKK7 KK7
    refine Lwp_seq fun KK8 hKK8 => ?_
    refine LregionG [none] (by kernel_rfl) (by kernel_rfl) ?_
    simp -dsimp only [go_sem, ↓reduceIte]
    
    refine hKK8 _ _ ?_
    try clear hKK8 KK8
    refine Lwp_seqJ [0, 1, 2, 6, 7, 19, 20, 8, 9] (fun vs S3 => vs = [.iface W.ty (.ptr w 0 0), .ptr l 0 off, .func (.func 70) [] [], V (W.count st es.length).1, u7, V (W.count st es.length).1, V k, V k, .ptr S2.length 0 0] ∧ S3 = S2 ++ [some (1, [es.getD k (zs (.sl sCnt .nil))])]) rfl (fun KK9 hKK9 => ?_) ?_
    · skip
      refine Lwp_seq fun KK10 hKK10 => ?_
      refine LregionG [none, none, none, none, none, none] (by kernel_rfl) (by kernel_rfl) ?_
      simp -dsimp only [go_sem, ↓reduceIte, hl3, hc1, hc2]
      repeat with_reducible refine And.intro (by first | omega | decide) ?_
      refine hKK10 _ _ ?_
      try clear hKK10 KK10
      refine Lwp_cond (by simp only [go_sem, ↓reduceIte]; rfl) (fun ht => ?_) (fun hf => ?_)
      · skip
        have hke : k < es.length := by simpa using ht
        obtain ⟨x0, hx0e⟩ : ∃ x0, x0 = es.getD k [] := ⟨_, rfl⟩
        have hx0l : x0.length = 1 := by rw [hx0e]; exact ok_len (ok_mem hes hke)
        have hx0t : x0.take 1 = x0 := List.take_of_length_le (by omega)
        have hov0 : ovr (zs (.sl sCnt .nil)) 0 x0 = x0 := ovr_all (by rw [hx0l]; rfl)
        have hx0e2 : es.getD k (zs (.sl sCnt .nil)) = x0 := by rw [hx0e, List.getD_eq_getElem?_getD, List.getD_eq_getElem?_getD, List.getElem?_eq_getElem hke]; rfl
        have okx0 := ok_mem hes hke
        rw [← hx0e] at okx0
        clear hx0l hx0t
        obtain ⟨f0, e0, _, rfl, iv0, jv0, h0⟩ := ok_sl okx0
        obtain rfl := ok_nil h0
        clear h0
        refine LregionG [none, none, none, none, none, none, none] (by kernel_rfl) (by kernel_rfl) ?_
        simp -dsimp only [go_sem, ↓reduceIte, hl3, hc1, hc2, hke, ← hx0e]
        repeat with_reducible refine And.intro (by first | omega | decide) ?_
        try simp -dsimp only [go_sem, ↓reduceIte]
        refine hKK9 _ _ ?_
        first | exact ⟨rfl, rfl⟩ | (refine ⟨rfl, ?_⟩; simp [List.getD_eq_getElem?_getD, List.getElem?_eq_none (Nat.le_of_not_lt hke), zs, sCnt]; done) | (refine ⟨rfl, ?_⟩; rw [hx0e2]; done) | (refine ⟨rfl, ?_⟩; rw [hx0e2]; exact congrArg (fun z => S2 ++ [some (1, [z])]) hov0)
      · skip
        have hke : ¬ k < es.length := by simpa using hf
        refine Lwp_skip ?_
        try simp -dsimp only [go_sem, ↓reduceIte]
        try simp -dsimp only [go_sem, ↓reduceIte]
        refine hKK9 _ _ ?_
        first | exact ⟨rfl, rfl⟩ | (refine ⟨rfl, ?_⟩; simp [List.getD_eq_getElem?_getD, List.getElem?_eq_none (Nat.le_of_not_lt hke), zs, sCnt]; done) | (refine ⟨rfl, ?_⟩; rw [hx0e2]; done) | (refine ⟨rfl, ?_⟩; rw [hx0e2]; exact congrArg (fun z => S2 ++ [some (1, [z])]) hov0)
    · rintro us SJ ⟨rfl, rfl⟩
      refine Lwp_seq fun KK11 hKK11 => ?_
      refine LregionG [none, none, none] (by kernel_rfl) (by kernel_rfl) ?_
      simp -dsimp only [go_sem, ↓reduceIte]
      refine (Counts_ok W hW (S2 ++ [some (1, [es.getD k (zs (.sl sCnt .nil))])]) w S2.length 1 0 [] (es.getD k (zs (.sl sCnt .nil))) [] own2 _ (hW.keep i2 (Keeps.app S2 _ []) (by simp)) (fun h => absurd (hlow2 _ h) (Nat.lt_irrefl _)) (by simp) rfl hx0 (by have := fitsN hW hkN hfit2; rw [walN_succ] at this; exact this)).k ?_
      rintro r S3 ⟨-, own3, us3, i3, z3, ok3, hS3, K3, ow3⟩
      simp only [List.nil_append, List.append_nil] at hS3
      have hl3' := ok_len ok3
      have K23 : Keeps S2 S3 own2 := ⟨by have := K3.1; simp at this; omega, fun j hj hn => (K3.2 j (by simp; omega) (by simp [hn]; omega)).trans (List.getElem?_append_left hj)⟩
      have hrow3 := hrow.mono (Nat.le_refl _) (fun id hid b hb => K23.get hb (hdis id hid))
      have hlow3 := hW.lt i3
      have hlen3 := K3.1
      simp only [List.length_append, List.length_cons, List.length_nil, Nat.zero_add] at hlen3 ow3
      clear hl3'
      obtain ⟨f3, e3, _, rfl, iv3, jv3, h3⟩ := ok_sl ok3
      obtain rfl := ok_nil h3
      clear h3
      simp -dsimp only [go_sem, ↓reduceIte]
      refine hKK11 _ _ ?_
      try clear hKK11 KK11
      
      refine LregionG [none, none, none, none, none] (by kernel_rfl) (by kernel_rfl) ?_
      simp -dsimp only [go_sem, ↓reduceIte, hS3]
      repeat with_reducible refine And.intro (by first | omega | decide | trivial) ?_
      refine append_row hrow3 rfl (by simp only [go_sem]; rfl) (by simp only [go_sem]; first | exact ⟨rfl, rfl⟩ | exact ⟨rfl, rfl, rfl⟩ | rfl) (by simp only [go_sem]) (by simp only [go_sem, ↓reduceIte]) (by simp only [go_sem, ↓reduceIte]; rfl) (by simp) (.inr (by simp)) (by simp only [LIM, List.length_cons, List.length_nil]; omega) fun S4 hS4l hrow4 hK4 => ?_
      have i4 := hW.keep i3 hK4 (fun id hid hm => (ow3 id hid).elim (fun h => hdis id hm h) (fun h => by have := (hrow.lo id hm).2; omega))
      simp -dsimp only [go_sem, ↓reduceIte]
      refine hKK6 _ _ ?_
      try clear hKK6 KK6
      refine LregionG [none, none] (by kernel_rfl) (by kernel_rfl) ?_
      simp -dsimp only [go_sem, ↓reduceIte, e1]
      repeat with_reducible refine And.intro (by first | omega | decide) ?_
      refine hII ((W.count st es.length).1 - (k + 1)) _ _ (by omega) ⟨k + 1, own3, xs ++ [[.sl f3 e3]], _, rfl, by rw [walN_succ]; exact i4, by rw [walN_succ, List.map_append, hz]; simp only [List.map_cons, List.map_nil, z3], fun x hx => ?_, by simp [hxl], hrow4.mono (by omega) (fun _ _ _ h => h), fun id hid => ?_, ?_, fun id hid => ?_, hkN, rfl⟩
      · rcases List.mem_append.1 hx with hx | hx
        · exact hxs x hx
        · rw [List.mem_singleton.1 hx]; exact ok3
      · simp only [rowIds, List.mem_singleton] at hid
        subst hid
        exact fun h => absurd (hlow3 _ h) (Nat.lt_irrefl _)
      · refine hK.trans (K23.trans hK4 (ids'' := own2 ++ rowIds u7) (fun j _ h => List.mem_append.2 h)) (fun j hj h => ?_)
        rcases h with h | h
        · exact h
        · rcases List.mem_append.1 h with h | h
          · exact (how j h).elim id fun h => by omega
          · have := (hrow.lo j h).1; omega
      · rcases ow3 id hid with h | h
        · exact how id h
        · exact .inr (by omega)
  · skip
    obtain rfl : k = (W.count st es.length).1 := Nat.le_antisymm hk (Nat.le_of_not_lt (by simpa using hf))
    refine Lwp_exit ?_
    simp -dsimp only [go_sem, ↓reduceIte]
    refine hKK2 _ _ ?_
    try clear hKK2 KK2
    have hl2 : S2[l]? = some (some (n, [cells])) := hK.get hS hl
    have hlu : l ∉ rowIds u7 := fun h => by have := (hrow.lo l h).1; omega
    refine Lwp_frzRowS 7 u7 rfl (by simp only [go_sem, ↓reduceIte]) hrow fun full S3 hS3l hK3 => ?_
    have hl3 : S3[l]? = some (some (n, [cells])) := (hK3 l hlu).trans hl2
    have hov : ovr cells off [.sl full xs] = pre ++ ([.sl full xs] ++ post) := by rw [hcells, ← hpre]; exact ovr_mid
    refine LregionG [none, none, none, none] (by kernel_rfl) (by kernel_rfl) ?_
    simp -dsimp only [go_sem, ↓reduceIte, hl3, hov, hc1]
    repeat with_reducible refine And.intro (by first | omega | decide) ?_
    simp only [LThen, LBlock, LPost, Tryz.results69]
    simp -dsimp only [go_sem, ↓reduceIte]
    refine ret_keep (hRR _ _ ⟨⟨hn, hes, trivial⟩, own2, [.sl full xs], hW.keep i2 (ids := l :: rowIds u7) ⟨by simp [hS3l], fun j hj hm => ?_⟩ (fun id hid => ?_), by simp only [nz, wal, elemsOf, hz], ⟨by rw [hxl]; exact hNlt, hxs, trivial⟩, ?_, ⟨by rw [List.length_set, hS3l]; exact hK.1, fun j hj hm => ?_⟩, how⟩)
    · simp only [List.mem_cons, not_or] at hm
      rw [List.getElem?_set_ne (by omega)]; exact hK3 j hm.2
    · simp only [List.mem_cons, not_or]
      exact ⟨fun h => (how id hid).elim (fun h' => hl (h ▸ h')) (fun h' => by omega), fun h => hdis id h hid⟩
    · rw [List.getElem?_set_self (lt_of_get hl3)]; rfl
    · simp only [List.mem_cons, not_or] at hm
      rw [List.getElem?_set_ne (by omega), hK3 j (fun h => by have := (hrow.lo j h).1; omega)]
      exact hK.2 j hj hm.2

end Go.Proofs.YtdhngmldmalbbaaGreat
end
section
set_option linter.all false
namespace Go.Proofs.YtdhngmldmalbbaaGreat
open Go.Lift Go.RowKit Go.Store
set_option linter.unusedSimpArgs false
set_option linter.unusedVariables false
set_option maxHeartbeats 400000 in
theorem Analysis_ok (W : Wk) (hW : WkL W) : WOk W (aI W) 66 sAna := by
  refine WOk_intro 0 Tryz.func66 rfl (by kernel_rfl) (fun _ _ _ => rfl) fun S w l n off pre us post own st RR hi hl hS hpre hok hfit hRR => ?_
  have hlS := lt_of_get hS
  have hp0 : WP W S w l n pre own .nil [] st (us ++ post) S := WP.refl hi hS
  obtain ⟨f1, l1, us, rfl, n1, o1, h⟩ := ok_sl hok
  obtain ⟨f2, l2, us, rfl, n2, o2, h⟩ := ok_sl h
  obtain ⟨f3, l3, us, rfl, n3, o3, h⟩ := ok_sl h
  obtain ⟨v1, us, rfl, i1, h⟩ := ok_int h
  obtain ⟨v2, us, rfl, i2, h⟩ := ok_word h
  obtain ⟨v3, us, rfl, i3, h⟩ := ok_int h
  obtain ⟨v4, us, rfl, i4, h⟩ := ok_int h
  obtain ⟨v5, us, rfl, i5, h⟩ := ok_int h
  obtain rfl := ok_nil h
  clear h hok
  have hok1 : ok (Sch.app Sch.nil (.sl sI .nil)) (([] : List LV) ++ [.sl f1 l1]) := app_ok trivial (⟨n1, o1, trivial⟩)
  have hok2 : ok (Sch.app (Sch.app Sch.nil (.sl sI .nil)) (.sl sI .nil)) ((([] : List LV) ++ [.sl f1 l1]) ++ [.sl f2 l2]) := app_ok hok1 (⟨n2, o2, trivial⟩)
  have hok3 : ok (Sch.app (Sch.app (Sch.app Sch.nil (.sl sI .nil)) (.sl sI .nil)) (.sl sI .nil)) (((([] : List LV) ++ [.sl f1 l1]) ++ [.sl f2 l2]) ++ [.sl f3 l3]) := app_ok hok2 (⟨n3, o3, trivial⟩)
  have hok4 : ok (Sch.app (Sch.app (Sch.app (Sch.app Sch.nil (.sl sI .nil)) (.sl sI .nil)) (.sl sI .nil)) sI) ((((([] : List LV) ++ [.sl f1 l1]) ++ [.sl f2 l2]) ++ [.sl f3 l3]) ++ [V v1]) := app_ok hok3 (okI1 i1)
  have hok5 : ok (Sch.app (Sch.app (Sch.app (Sch.app (Sch.app Sch.nil (.sl sI .nil)) (.sl sI .nil)) (.sl sI .nil)) sI) (.word .nil)) (((((([] : List LV) ++ [.sl f1 l1]) ++ [.sl f2 l2]) ++ [.sl f3 l3]) ++ [V v1]) ++ [.int .u64 v2]) := app_ok hok4 (⟨rfl, by omega, by omega, trivial⟩)
  have hok6 : ok (Sch.app (Sch.app (Sch.app (Sch.app (Sch.app (Sch.app Sch.nil (.sl sI .nil)) (.sl sI .nil)) (.sl sI .nil)) sI) (.word .nil)) (sN 3)) ((((((([] : List LV) ++ [.sl f1 l1]) ++ [.sl f2 l2]) ++ [.sl f3 l3]) ++ [V v1]) ++ [.int .u64 v2]) ++ [V v3, V v4, V v5]) := app_ok hok5 (⟨rfl, i3.1, i3.2, rfl, i4.1, i4.2, rfl, i5.1, i5.2, trivial⟩)
  have hft6 : W.fits (wal W (Sch.app (Sch.app (Sch.app (Sch.app (Sch.app (Sch.app Sch.nil (.sl sI .nil)) (.sl sI .nil)) (.sl sI .nil)) sI) (.word .nil)) (sN 3)) ((((((([] : List LV) ++ [.sl f1 l1]) ++ [.sl f2 l2]) ++ [.sl f3 l3]) ++ [V v1]) ++ [.int .u64 v2]) ++ [V v3, V v4, V v5]) st).2 := hfit
  have hft5 := fitsL hW hok5 hft6
  have hft4 := fitsL hW hok4 hft5
  have hft3 := fitsL hW hok3 hft4
  have hft2 := fitsL hW hok2 hft3
  have hft1 := fitsL hW hok1 hft2
  refine Lwp_seq fun KK0 hKK0 => ?_
  refine LregionG [none, none, none, none, none] (by kernel_rfl) (by kernel_rfl) ?_
  simp -dsimp only [go_sem, ↓reduceIte]
  repeat with_reducible refine And.intro (by first | omega | decide | trivial) ?_
  refine WOk.kk hW (SlInt_ok W hW) [.sl f1 l1] hp0 hl hlS hpre rfl rfl (rfl) (⟨n1, o1, trivial⟩) hft1 ?_
  rintro r S2 hp
  simp -dsimp only [go_sem, ↓reduceIte]
  refine hKK0 _ _ ?_
  try clear hKK0 KK0
  refine Lwp_seq fun KK1 hKK1 => ?_
  refine LregionG [none, none, none, none, none] (by kernel_rfl) (by kernel_rfl) ?_
  simp -dsimp only [go_sem, ↓reduceIte]
  repeat with_reducible refine And.intro (by first | omega | decide | trivial) ?_
  refine WOk.kk hW (SlInt_ok W hW) [.sl f2 l2] hp hl hlS hpre rfl rfl (rfl) (⟨n2, o2, trivial⟩) hft2 ?_
  rintro r S2 hp
  simp -dsimp only [go_sem, ↓reduceIte]
  refine hKK1 _ _ ?_
  try clear hKK1 KK1
  refine Lwp_seq fun KK2 hKK2 => ?_
  refine LregionG [none, none, none, none, none] (by kernel_rfl) (by kernel_rfl) ?_
  simp -dsimp only [go_sem, ↓reduceIte]
  repeat with_reducible refine And.intro (by first | omega | decide | trivial) ?_
  refine WOk.kk hW (SlInt_ok W hW) [.sl f3 l3] hp hl hlS hpre rfl rfl (rfl) (⟨n3, o3, trivial⟩) hft3 ?_
  rintro r S2 hp
  simp -dsimp only [go_sem, ↓reduceIte]
  refine hKK2 _ _ ?_
  try clear hKK2 KK2
  refine Lwp_seq fun KK3 hKK3 => ?_
  refine LdrawE [0,1,2,3,4,5,6,7,8,9] [] none (by kernel_rfl) (by kernel_rfl) (by kernel_rfl) (by kernel_rfl) (by simp [Watch.holds]) ?_
  simp -dsimp only [go_sem, ↓reduceIte, hW.mInt]
  repeat with_reducible refine And.intro (by first | omega | decide | trivial) ?_
  refine WOk.kk hW (hW.hInt) [V v1] hp hl hlS hpre rfl rfl (rfl) (okI1 i1) hft4 ?_
  rintro r S2 hp
  simp -dsimp only [go_sem, ↓reduceIte]
  refine hKK3 _ _ ?_
  try clear hKK3 KK3
  refine Lwp_seq fun KK4 hKK4 => ?_
  refine LdrawE [0,1,2,3,4,5,6,7,8,9] [] none (by kernel_rfl) (by kernel_rfl) (by kernel_rfl) (by kernel_rfl) (by simp [Watch.holds]) ?_
  simp -dsimp only [go_sem, ↓reduceIte, hW.mWord]
  repeat with_reducible refine And.intro (by first | omega | decide | trivial) ?_
  refine WOk.kk hW (hW.hWord) [.int .u64 v2] hp hl hlS hpre rfl rfl (rfl) (⟨rfl, by omega, by omega, trivial⟩) hft5 ?_
  rintro r S2 hp
  simp -dsimp only [go_sem, ↓reduceIte]
  refine hKK4 _ _ ?_
  try clear hKK4 KK4
  refine LdrawE [0,1,2,3,4,5,6,7,8,9,10,11,12,13] [] none (by kernel_rfl) (by kernel_rfl) (by kernel_rfl) (by kernel_rfl) (by simp [Watch.holds]) ?_
  simp -dsimp only [go_sem, ↓reduceIte]
  repeat with_reducible refine And.intro (by first | omega | decide | trivial) ?_
  refine WOk.kk hW ((Ints_ok W hW 3 (by decide))) [V v3, V v4, V v5] hp hl hlS hpre rfl rfl (rfl) (⟨rfl, i3.1, i3.2, rfl, i4.1, i4.2, rfl, i5.1, i5.2, trivial⟩) hft6 ?_
  rintro r S2 hp
  simp -dsimp only [go_sem, ↓reduceIte]
  simp only [LThen, LBlock, LPost, Tryz.results66]
  simp -dsimp only [go_sem, ↓reduceIte]
  exact ret_keep (hRR _ _ hp)

set_option maxHeartbeats 400000 in
theorem Item_ok (W : Wk) (hW : WkL W) : WOk W (aI W) 45 sItem := by
  refine WOk_intro 0 Tryz.func45 rfl (by kernel_rfl) (fun _ _ _ => rfl) fun S w l n off pre us post own st RR hi hl hS hpre hok hfit hRR => ?_
  have hlS := lt_of_get hS
  have hp0 : WP W S w l n pre own .nil [] st (us ++ post) S := WP.refl hi hS
  obtain ⟨rep, us, rfl, hRp, h⟩ := app_inv hok
  obtain ⟨co, us, rfl, ico, h⟩ := ok_int h
  obtain ⟨ar, us, rfl, iar, h⟩ := ok_int h
  obtain rfl := ok_nil h
  obtain ⟨k0, s0, t0, f0, x0, y0, z0, fl0, es0, rfl⟩ := okRep hRp
  clear h hok
  have hok1 : ok (Sch.app Sch.nil sRep) (([] : List LV) ++ [V k0, .str s0, V t0, V f0, V x0, V y0, V z0, .sl fl0 es0]) := app_ok trivial (hRp)
  have hok2 : ok (Sch.app (Sch.app Sch.nil sRep) (sN 2)) ((([] : List LV) ++ [V k0, .str s0, V t0, V f0, V x0, V y0, V z0, .sl fl0 es0]) ++ [V co, V ar]) := app_ok hok1 (⟨rfl, ico.1, ico.2, rfl, iar.1, iar.2, trivial⟩)
  have hft2 : W.fits (wal W (Sch.app (Sch.app Sch.nil sRep) (sN 2)) ((([] : List LV) ++ [V k0, .str s0, V t0, V f0, V x0, V y0, V z0, .sl fl0 es0]) ++ [V co, V ar]) st).2 := hfit
  have hft1 := fitsL hW hok1 hft2
  refine Lwp_seq fun KK0 hKK0 => ?_
  refine LregionG [none, none, none, none, none] (by kernel_rfl) (by kernel_rfl) ?_
  simp -dsimp only [go_sem, ↓reduceIte]
  repeat with_reducible refine And.intro (by first | omega | decide | trivial) ?_
  refine WOk.kk hW (Report_ok W hW) [V k0, .str s0, V t0, V f0, V x0, V y0, V z0, .sl fl0 es0] hp0 hl hlS hpre rfl rfl (rfl) (hRp) hft1 ?_
  rintro r S2 hp
  simp -dsimp only [go_sem, ↓reduceIte]
  refine hKK0 _ _ ?_
  try clear hKK0 KK0
  refine LdrawE [0,1,2,3,4,5,6,7,8] [] none (by kernel_rfl) (by kernel_rfl) (by kernel_rfl) (by kernel_rfl) (by simp [Watch.holds]) ?_
  simp -dsimp only [go_sem, ↓reduceIte]
  repeat with_reducible refine And.intro (by first | omega | decide | trivial) ?_
  refine WOk.kk hW ((Ints_ok W hW 2 (by decide))) [V co, V ar] hp hl hlS hpre rfl rfl (rfl) (⟨rfl, ico.1, ico.2, rfl, iar.1, iar.2, trivial⟩) hft2 ?_
  rintro r S2 hp
  simp -dsimp only [go_sem, ↓reduceIte]
  simp only [LThen, LBlock, LPost, Tryz.results45]
  simp -dsimp only [go_sem, ↓reduceIte]
  exact ret_keep (hRR _ _ hp)

set_option maxHeartbeats 400000 in
theorem Period_ok (W : Wk) (hW : WkL W) : WOk W (aI W) 46 sPer := by
  refine WOk_intro 0 Tryz.func46 rfl (by kernel_rfl) (fun _ _ _ => rfl) fun S w l n off pre us post own st RR hi hl hS hpre hok hfit hRR => ?_
  have hlS := lt_of_get hS
  have hp0 : WP W S w l n pre own .nil [] st (us ++ post) S := WP.refl hi hS
  obtain ⟨fr, us, rfl, ifr, h⟩ := ok_int hok
  obtain ⟨cl, us, rfl, h⟩ := ok_bool h
  obtain ⟨pf, us, rfl, ipf, h⟩ := ok_int h
  obtain ⟨px, us, rfl, ipx, h⟩ := ok_int h
  obtain ⟨py, us, rfl, ipy, h⟩ := ok_int h
  obtain ⟨pz, us, rfl, ipz, h⟩ := ok_int h
  obtain ⟨fb, eb, us, rfl, nb, ob, h⟩ := ok_sl h
  obtain rfl := ok_nil h
  clear h hok
  have hok1 : ok (Sch.app Sch.nil sI) (([] : List LV) ++ [V fr]) := app_ok trivial (okI1 ifr)
  have hok2 : ok (Sch.app (Sch.app Sch.nil sI) (.bool .nil)) ((([] : List LV) ++ [V fr]) ++ [.bool cl]) := app_ok hok1 (trivial)
  have hok3 : ok (Sch.app (Sch.app (Sch.app Sch.nil sI) (.bool .nil)) sPlace) (((([] : List LV) ++ [V fr]) ++ [.bool cl]) ++ [V pf, V px, V py, V pz]) := app_ok hok2 (⟨rfl, ipf.1, ipf.2, rfl, ipx.1, ipx.2, rfl, ipy.1, ipy.2, rfl, ipz.1, ipz.2, trivial⟩)
  have hok4 : ok (Sch.app (Sch.app (Sch.app (Sch.app Sch.nil sI) (.bool .nil)) sPlace) (.sl sRd .nil)) ((((([] : List LV) ++ [V fr]) ++ [.bool cl]) ++ [V pf, V px, V py, V pz]) ++ [.sl fb eb]) := app_ok hok3 (⟨nb, ob, trivial⟩)
  have hft4 : W.fits (wal W (Sch.app (Sch.app (Sch.app (Sch.app Sch.nil sI) (.bool .nil)) sPlace) (.sl sRd .nil)) ((((([] : List LV) ++ [V fr]) ++ [.bool cl]) ++ [V pf, V px, V py, V pz]) ++ [.sl fb eb]) st).2 := hfit
  have hft3 := fitsL hW hok3 hft4
  have hft2 := fitsL hW hok2 hft3
  have hft1 := fitsL hW hok1 hft2
  refine Lwp_seq fun KK0 hKK0 => ?_
  refine LdrawE [0,1,2,3,4,5,6,7] [] none (by kernel_rfl) (by kernel_rfl) (by kernel_rfl) (by kernel_rfl) (by simp [Watch.holds]) ?_
  simp -dsimp only [go_sem, ↓reduceIte, hW.mInt]
  repeat with_reducible refine And.intro (by first | omega | decide | trivial) ?_
  refine WOk.kk hW (hW.hInt) [V fr] hp0 hl hlS hpre rfl rfl (rfl) (okI1 ifr) hft1 ?_
  rintro r S2 hp
  simp -dsimp only [go_sem, ↓reduceIte]
  refine hKK0 _ _ ?_
  try clear hKK0 KK0
  refine Lwp_seq fun KK1 hKK1 => ?_
  refine LdrawE [0,1,2,3,4,5,6,7] [] none (by kernel_rfl) (by kernel_rfl) (by kernel_rfl) (by kernel_rfl) (by simp [Watch.holds]) ?_
  simp -dsimp only [go_sem, ↓reduceIte, hW.mBool]
  repeat with_reducible refine And.intro (by first | omega | decide | trivial) ?_
  refine WOk.kk hW (hW.hBool) [.bool cl] hp hl hlS hpre rfl rfl (rfl) (trivial) hft2 ?_
  rintro r S2 hp
  simp -dsimp only [go_sem, ↓reduceIte]
  refine hKK1 _ _ ?_
  try clear hKK1 KK1
  refine Lwp_seq fun KK2 hKK2 => ?_
  refine LregionG [none, none, none, none, none] (by kernel_rfl) (by kernel_rfl) ?_
  simp -dsimp only [go_sem, ↓reduceIte]
  repeat with_reducible refine And.intro (by first | omega | decide | trivial) ?_
  refine WOk.kk hW (Place_ok W hW) [V pf, V px, V py, V pz] hp hl hlS hpre rfl rfl (rfl) (⟨rfl, ipf.1, ipf.2, rfl, ipx.1, ipx.2, rfl, ipy.1, ipy.2, rfl, ipz.1, ipz.2, trivial⟩) hft3 ?_
  rintro r S2 hp
  simp -dsimp only [go_sem, ↓reduceIte]
  refine hKK2 _ _ ?_
  try clear hKK2 KK2
  refine LregionG [none, none, none, none, none] (by kernel_rfl) (by kernel_rfl) ?_
  simp -dsimp only [go_sem, ↓reduceIte]
  repeat with_reducible refine And.intro (by first | omega | decide | trivial) ?_
  refine WOk.kk hW (SlRd_ok W hW) [.sl fb eb] hp hl hlS hpre rfl rfl (rfl) (⟨nb, ob, trivial⟩) hft4 ?_
  rintro r S2 hp
  simp -dsimp only [go_sem, ↓reduceIte]
  simp only [LThen, LBlock, LPost, Tryz.results46]
  simp -dsimp only [go_sem, ↓reduceIte]
  exact ret_keep (hRR _ _ hp)

set_option maxHeartbeats 400000 in
theorem Cycle_ok (W : Wk) (hW : WkL W) : WOk W (aI W) 47 sCyc := by
  refine WOk_intro 0 Tryz.func47 rfl (by kernel_rfl) (fun _ _ _ => rfl) fun S w l n off pre us post own st RR hi hl hS hpre hok hfit hRR => ?_
  have hlS := lt_of_get hS
  have hp0 : WP W S w l n pre own .nil [] st (us ++ post) S := WP.refl hi hS
  obtain ⟨nm, us, rfl, inm, h⟩ := ok_int hok
  obtain ⟨tm, us, rfl, itm, h⟩ := ok_int h
  obtain ⟨ct, us, rfl, ict, h⟩ := ok_int h
  obtain ⟨fr, er, us, rfl, nr, hor, h⟩ := ok_sl h
  obtain ⟨ua, us, rfl, hA, h⟩ := app_inv h
  obtain ⟨fq, us, rfl, ifq, h⟩ := ok_int h
  obtain ⟨g1, d1, us, rfl, n1, o1, h⟩ := ok_sl h
  obtain ⟨g2, d2, us, rfl, n2, o2, h⟩ := ok_sl h
  obtain ⟨fc, ec, us, rfl, nc, oc, h⟩ := ok_sl h
  obtain ⟨fl, el, us, rfl, nl, ol, h⟩ := ok_sl h
  obtain rfl := ok_nil h
  obtain ⟨f1, f2, f3, l1, l2, l3, hi', lo, an, ra, rd, rfl⟩ := okAna hA
  clear h hok
  have hok1 : ok (Sch.app Sch.nil (sN 3)) (([] : List LV) ++ [V nm, V tm, V ct]) := app_ok trivial (⟨rfl, inm.1, inm.2, rfl, itm.1, itm.2, rfl, ict.1, ict.2, trivial⟩)
  have hok2 : ok (Sch.app (Sch.app Sch.nil (sN 3)) (.sl sRep .nil)) ((([] : List LV) ++ [V nm, V tm, V ct]) ++ [.sl fr er]) := app_ok hok1 (⟨nr, hor, trivial⟩)
  have hok3 : ok (Sch.app (Sch.app (Sch.app Sch.nil (sN 3)) (.sl sRep .nil)) sAna) (((([] : List LV) ++ [V nm, V tm, V ct]) ++ [.sl fr er]) ++ [.sl f1 l1, .sl f2 l2, .sl f3 l3, V hi', .int .u64 lo, V an, V ra, V rd]) := app_ok hok2 (hA)
  have hok4 : ok (Sch.app (Sch.app (Sch.app (Sch.app Sch.nil (sN 3)) (.sl sRep .nil)) sAna) sI) ((((([] : List LV) ++ [V nm, V tm, V ct]) ++ [.sl fr er]) ++ [.sl f1 l1, .sl f2 l2, .sl f3 l3, V hi', .int .u64 lo, V an, V ra, V rd]) ++ [V fq]) := app_ok hok3 (okI1 ifq)
  have hok5 : ok (Sch.app (Sch.app (Sch.app (Sch.app (Sch.app Sch.nil (sN 3)) (.sl sRep .nil)) sAna) sI) (.sl sI .nil)) (((((([] : List LV) ++ [V nm, V tm, V ct]) ++ [.sl fr er]) ++ [.sl f1 l1, .sl f2 l2, .sl f3 l3, V hi', .int .u64 lo, V an, V ra, V rd]) ++ [V fq]) ++ [.sl g1 d1]) := app_ok hok4 (⟨n1, o1, trivial⟩)
  have hok6 : ok (Sch.app (Sch.app (Sch.app (Sch.app (Sch.app (Sch.app Sch.nil (sN 3)) (.sl sRep .nil)) sAna) sI) (.sl sI .nil)) (.sl sI .nil)) ((((((([] : List LV) ++ [V nm, V tm, V ct]) ++ [.sl fr er]) ++ [.sl f1 l1, .sl f2 l2, .sl f3 l3, V hi', .int .u64 lo, V an, V ra, V rd]) ++ [V fq]) ++ [.sl g1 d1]) ++ [.sl g2 d2]) := app_ok hok5 (⟨n2, o2, trivial⟩)
  have hok7 : ok (Sch.app (Sch.app (Sch.app (Sch.app (Sch.app (Sch.app (Sch.app Sch.nil (sN 3)) (.sl sRep .nil)) sAna) sI) (.sl sI .nil)) (.sl sI .nil)) (.sl (.sl sCnt .nil) .nil)) (((((((([] : List LV) ++ [V nm, V tm, V ct]) ++ [.sl fr er]) ++ [.sl f1 l1, .sl f2 l2, .sl f3 l3, V hi', .int .u64 lo, V an, V ra, V rd]) ++ [V fq]) ++ [.sl g1 d1]) ++ [.sl g2 d2]) ++ [.sl fc ec]) := app_ok hok6 (⟨nc, oc, trivial⟩)
  have hok8 : ok (Sch.app (Sch.app (Sch.app (Sch.app (Sch.app (Sch.app (Sch.app (Sch.app Sch.nil (sN 3)) (.sl sRep .nil)) sAna) sI) (.sl sI .nil)) (.sl sI .nil)) (.sl (.sl sCnt .nil) .nil)) (.sl sStr .nil)) ((((((((([] : List LV) ++ [V nm, V tm, V ct]) ++ [.sl fr er]) ++ [.sl f1 l1, .sl f2 l2, .sl f3 l3, V hi', .int .u64 lo, V an, V ra, V rd]) ++ [V fq]) ++ [.sl g1 d1]) ++ [.sl g2 d2]) ++ [.sl fc ec]) ++ [.sl fl el]) := app_ok hok7 (⟨nl, ol, trivial⟩)
  have hft8 : W.fits (wal W (Sch.app (Sch.app (Sch.app (Sch.app (Sch.app (Sch.app (Sch.app (Sch.app Sch.nil (sN 3)) (.sl sRep .nil)) sAna) sI) (.sl sI .nil)) (.sl sI .nil)) (.sl (.sl sCnt .nil) .nil)) (.sl sStr .nil)) ((((((((([] : List LV) ++ [V nm, V tm, V ct]) ++ [.sl fr er]) ++ [.sl f1 l1, .sl f2 l2, .sl f3 l3, V hi', .int .u64 lo, V an, V ra, V rd]) ++ [V fq]) ++ [.sl g1 d1]) ++ [.sl g2 d2]) ++ [.sl fc ec]) ++ [.sl fl el]) st).2 := hfit
  have hft7 := fitsL hW hok7 hft8
  have hft6 := fitsL hW hok6 hft7
  have hft5 := fitsL hW hok5 hft6
  have hft4 := fitsL hW hok4 hft5
  have hft3 := fitsL hW hok3 hft4
  have hft2 := fitsL hW hok2 hft3
  have hft1 := fitsL hW hok1 hft2
  refine Lwp_seq fun KK0 hKK0 => ?_
  refine LdrawE [0,1,2,3,4,5,6,7,8,9,10,11] [] none (by kernel_rfl) (by kernel_rfl) (by kernel_rfl) (by kernel_rfl) (by simp [Watch.holds]) ?_
  simp -dsimp only [go_sem, ↓reduceIte]
  repeat with_reducible refine And.intro (by first | omega | decide | trivial) ?_
  refine WOk.kk hW ((Ints_ok W hW 3 (by decide))) [V nm, V tm, V ct] hp0 hl hlS hpre rfl rfl (rfl) (⟨rfl, inm.1, inm.2, rfl, itm.1, itm.2, rfl, ict.1, ict.2, trivial⟩) hft1 ?_
  rintro r S2 hp
  simp -dsimp only [go_sem, ↓reduceIte]
  refine hKK0 _ _ ?_
  try clear hKK0 KK0
  refine Lwp_seq fun KK1 hKK1 => ?_
  refine LregionG [none, none, none, none, none] (by kernel_rfl) (by kernel_rfl) ?_
  simp -dsimp only [go_sem, ↓reduceIte]
  repeat with_reducible refine And.intro (by first | omega | decide | trivial) ?_
  refine WOk.kk hW (SlRep_ok W hW) [.sl fr er] hp hl hlS hpre rfl rfl (rfl) (⟨nr, hor, trivial⟩) hft2 ?_
  rintro r S2 hp
  simp -dsimp only [go_sem, ↓reduceIte]
  refine hKK1 _ _ ?_
  try clear hKK1 KK1
  refine Lwp_seq fun KK2 hKK2 => ?_
  refine LregionG [none, none, none, none, none] (by kernel_rfl) (by kernel_rfl) ?_
  simp -dsimp only [go_sem, ↓reduceIte]
  repeat with_reducible refine And.intro (by first | omega | decide | trivial) ?_
  refine WOk.kk hW (Analysis_ok W hW) [.sl f1 l1, .sl f2 l2, .sl f3 l3, V hi', .int .u64 lo, V an, V ra, V rd] hp hl hlS hpre rfl rfl (rfl) (hA) hft3 ?_
  rintro r S2 hp
  simp -dsimp only [go_sem, ↓reduceIte]
  refine hKK2 _ _ ?_
  try clear hKK2 KK2
  refine Lwp_seq fun KK3 hKK3 => ?_
  refine LdrawE [0,1,2,3,4,5,6,7,8] [] none (by kernel_rfl) (by kernel_rfl) (by kernel_rfl) (by kernel_rfl) (by simp [Watch.holds]) ?_
  simp -dsimp only [go_sem, ↓reduceIte, hW.mInt]
  repeat with_reducible refine And.intro (by first | omega | decide | trivial) ?_
  refine WOk.kk hW (hW.hInt) [V fq] hp hl hlS hpre rfl rfl (rfl) (okI1 ifq) hft4 ?_
  rintro r S2 hp
  simp -dsimp only [go_sem, ↓reduceIte]
  refine hKK3 _ _ ?_
  try clear hKK3 KK3
  refine Lwp_seq fun KK4 hKK4 => ?_
  refine LregionG [none, none, none, none, none, none] (by kernel_rfl) (by kernel_rfl) ?_
  simp -dsimp only [go_sem, ↓reduceIte]
  repeat with_reducible refine And.intro (by first | omega | decide | trivial) ?_
  refine WOk.kk hW (SlInt_ok W hW) [.sl g1 d1] hp hl hlS hpre rfl rfl (rfl) (⟨n1, o1, trivial⟩) hft5 ?_
  rintro r S2 hp
  simp -dsimp only [go_sem, ↓reduceIte]
  refine hKK4 _ _ ?_
  try clear hKK4 KK4
  refine Lwp_seq fun KK5 hKK5 => ?_
  refine LregionG [none, none, none, none, none, none] (by kernel_rfl) (by kernel_rfl) ?_
  simp -dsimp only [go_sem, ↓reduceIte]
  repeat with_reducible refine And.intro (by first | omega | decide | trivial) ?_
  refine WOk.kk hW (SlInt_ok W hW) [.sl g2 d2] hp hl hlS hpre rfl rfl (rfl) (⟨n2, o2, trivial⟩) hft6 ?_
  rintro r S2 hp
  simp -dsimp only [go_sem, ↓reduceIte]
  refine hKK5 _ _ ?_
  try clear hKK5 KK5
  refine Lwp_seq fun KK6 hKK6 => ?_
  refine LregionG [none, none, none, none, none, none] (by kernel_rfl) (by kernel_rfl) ?_
  simp -dsimp only [go_sem, ↓reduceIte]
  repeat with_reducible refine And.intro (by first | omega | decide | trivial) ?_
  refine WOk.kk hW (SlCnts_ok W hW) [.sl fc ec] hp hl hlS hpre rfl rfl (rfl) (⟨nc, oc, trivial⟩) hft7 ?_
  rintro r S2 hp
  simp -dsimp only [go_sem, ↓reduceIte]
  refine hKK6 _ _ ?_
  try clear hKK6 KK6
  refine LregionG [none, none, none, none, none, none] (by kernel_rfl) (by kernel_rfl) ?_
  simp -dsimp only [go_sem, ↓reduceIte]
  repeat with_reducible refine And.intro (by first | omega | decide | trivial) ?_
  refine WOk.kk hW (SlStr_ok W hW) [.sl fl el] hp hl hlS hpre rfl rfl (rfl) (⟨nl, ol, trivial⟩) hft8 ?_
  rintro r S2 hp
  simp -dsimp only [go_sem, ↓reduceIte]
  simp only [LThen, LBlock, LPost, Tryz.results47]
  simp -dsimp only [go_sem, ↓reduceIte]
  exact ret_keep (hRR _ _ hp)

end Go.Proofs.YtdhngmldmalbbaaGreat
end
section
set_option linter.all false
namespace Go.Proofs.YtdhngmldmalbbaaGreat
open Go.Lift Go.RowKit Go.Store
set_option linter.unusedSimpArgs false
set_option linter.unusedVariables false

/-- what is walked of an entry: where it begins, and its schema. -/
def kSch (k : Int) : Option (Nat × Sch) :=
  if k = 1 then some (1, sI) else if k = 2 then some (2, sItem) else if k = 3 then some (12, .int (.str sPer)) else if k = 4 then some (21, sCyc) else none
theorem log_split {us : List LV} (h : ok sLog us) {off : Nat} {s : Sch} (hk : kSch (intOf (us.getD 0 .any)) = some (off, s)) : ∃ pre u post, us = pre ++ (u ++ post) ∧ pre.length = off ∧ ok s u ∧ us.getD 0 .any = V (intOf (us.getD 0 .any)) ∧ 0 < us.length := by
  obtain ⟨k, now, k0, s0, t0, f0, x0, y0, z0, fl0, es0, co, ar, st, nm, fr, cl, pf, px, py, pz, fb, eb, cy, rfl, hk', inow, hRp, ico, iar, ist, inm, ifr, ipf, ipx, ipy, ipz, ⟨nb, ob⟩, hC⟩ := okLog h
  have e : intOf ((logL k now k0 s0 t0 f0 x0 y0 z0 fl0 es0 co ar st nm fr cl pf px py pz fb eb cy).getD 0 .any) = k := rfl
  rw [e] at hk
  simp only [kSch] at hk
  by_cases h1 : k = 1
  · simp only [h1, if_true, Option.some.injEq, Prod.mk.injEq] at hk
    obtain ⟨rfl, rfl⟩ := hk
    exact ⟨[V k], [V now], _, rfl, rfl, okI1 inow, rfl, by simp⟩
  · by_cases h2 : k = 2
    · simp only [h2, if_true, if_false, Option.some.injEq, Prod.mk.injEq, Int.reduceEq] at hk
      obtain ⟨rfl, rfl⟩ := hk
      exact ⟨[V k, V now], [V k0, .str s0, V t0, V f0, V x0, V y0, V z0, .sl fl0 es0] ++ [V co, V ar], _, rfl, rfl, app_ok hRp ⟨rfl, ico.1, ico.2, rfl, iar.1, iar.2, trivial⟩, rfl, by simp⟩
    · by_cases h3 : k = 3
      · simp only [h3, if_true, if_false, Option.some.injEq, Prod.mk.injEq, Int.reduceEq] at hk
        obtain ⟨rfl, rfl⟩ := hk
        exact ⟨[V k, V now, V k0, .str s0, V t0, V f0, V x0, V y0, V z0, .sl fl0 es0, V co, V ar], [V st, .str nm, V fr, .bool cl, V pf, V px, V py, V pz, .sl fb eb], cy, rfl, rfl, ⟨rfl, ist.1, ist.2, inm, rfl, ifr.1, ifr.2, rfl, ipf.1, ipf.2, rfl, ipx.1, ipx.2, rfl, ipy.1, ipy.2, rfl, ipz.1, ipz.2, nb, ob, trivial⟩, rfl, by simp⟩
      · by_cases h4 : k = 4
        · simp only [h4, if_true, if_false, Option.some.injEq, Prod.mk.injEq, Int.reduceEq] at hk
          obtain ⟨rfl, rfl⟩ := hk
          exact ⟨[V k, V now, V k0, .str s0, V t0, V f0, V x0, V y0, V z0, .sl fl0 es0, V co, V ar, V st, .str nm, V fr, .bool cl, V pf, V px, V py, V pz, .sl fb eb], cy, [], by simp [logL], rfl, hC, rfl, by simp⟩
        · simp [h1, h2, h3, h4] at hk

set_option maxHeartbeats 400000 in
theorem Walk_some (W : Wk) (hW : WkL W) {S : LS} {w l off : Nat} {pre u post cells : List LV} {own : List Nat} {st : W.St} {k : Int} {s : Sch} (hi : W.inv S w own st) (hl : l ∉ own) (hS : S[l]? = some (some (38, [cells]))) (hc0 : cells.getD 0 .any = V k) (hc1 : 0 < cells.length) (hcells : cells = pre ++ (u ++ post)) (hpre : pre.length = off) (hok : ok s u) (hk : kSch k = some (off, s)) (hfit : W.fits (wal W s u st).2) : LCalls Tryz.prog 28 [.iface W.ty (.ptr w 0 0), .ptr l 0 0] S (fun r S' => r = .bool true ∧ WP W S w l 38 pre own s u st post S') := by
  refine LCalls_introK 0 Tryz.func28 rfl (by kernel_rfl) rfl fun RR hRR => ?_
  have hlS := lt_of_get hS
  have hp0 : WP W S w l 38 pre own .nil [] st (u ++ post) S := WP.refl hi (hcells ▸ hS)
  refine Lwp_seq fun KK0 hKK0 => ?_
  refine LregionG [none] (by kernel_rfl) (by kernel_rfl) ?_
  simp -dsimp only [go_sem, ↓reduceIte]
  repeat with_reducible refine And.intro (by first | omega | decide) ?_
  refine hKK0 _ _ ?_
  try clear hKK0 KK0
  refine Lwp_seq fun KK1 hKK1 => ?_
  refine Lwp_seq fun KK2 hKK2 => ?_
  refine LregionG [none, none, none, none] (by kernel_rfl) (by kernel_rfl) ?_
  simp -dsimp only [go_sem, ↓reduceIte, hS, hc0, hc1]
  repeat with_reducible refine And.intro (by first | omega | decide) ?_
  refine hKK2 _ _ ?_
  try clear hKK2 KK2
  refine Lwp_block ?_
  refine Lwp_seq fun KK3 hKK3 => ?_
  refine LregionG [none, none] (by kernel_rfl) (by kernel_rfl) ?_
  simp -dsimp only [go_sem, ↓reduceIte]
  repeat with_reducible refine And.intro (by first | omega | decide) ?_
  refine hKK3 _ _ ?_
  try clear hKK3 KK3
  refine Lwp_cond (by simp only [go_sem, ↓reduceIte]; rfl) (fun ht => ?_) (fun hf => ?_)
  · skip
    have hk1 : k = 1 := by simpa using ht
    subst hk1
    obtain ⟨rfl, rfl⟩ : 1 = off ∧ sI = s := by simpa [kSch] using hk
    refine LdrawE [0,1,2,3,4,5,6,7] [] none (by kernel_rfl) (by kernel_rfl) (by kernel_rfl) (by kernel_rfl) (by simp [Watch.holds]) ?_
    simp -dsimp only [go_sem, ↓reduceIte, hW.mInt]
    repeat with_reducible refine And.intro (by first | omega | decide | trivial) ?_
    refine WOk.kk hW (hW.hInt) u hp0 hl hlS hpre rfl rfl (rfl) hok hfit ?_
    rintro r S2 hp
    simp -dsimp only [go_sem, ↓reduceIte]
    refine hKK1 _ _ ?_
    try clear hKK1 KK1
    refine Lwp_seq fun KK4 hKK4 => ?_
    refine LregionG [none] (by kernel_rfl) (by kernel_rfl) ?_
    simp -dsimp only [go_sem, ↓reduceIte]
    repeat with_reducible refine And.intro (by first | omega | decide) ?_
    refine hKK4 _ _ ?_
    try clear hKK4 KK4
    refine Lwp_ret ?_
    simp only [LThen, LBlock, LPost, Tryz.results28]
    simp -dsimp only [go_sem, ↓reduceIte]
    exact ret_keep (hRR _ _ ⟨rfl, hp⟩)
  · skip
    have hf1 : ¬ k = 1 := by simpa using hf
    refine Lwp_seq fun KK5 hKK5 => ?_
    refine LregionG [none, none] (by kernel_rfl) (by kernel_rfl) ?_
    simp -dsimp only [go_sem, ↓reduceIte]
    repeat with_reducible refine And.intro (by first | omega | decide) ?_
    refine hKK5 _ _ ?_
    try clear hKK5 KK5
    refine Lwp_cond (by simp only [go_sem, ↓reduceIte]; rfl) (fun ht => ?_) (fun hf => ?_)
    · skip
      have hk1 : k = 2 := by simpa using ht
      subst hk1
      obtain ⟨rfl, rfl⟩ : 2 = off ∧ sItem = s := by simpa [kSch] using hk
      refine LregionG [none, none, none, none, none] (by kernel_rfl) (by kernel_rfl) ?_
      simp -dsimp only [go_sem, ↓reduceIte]
      repeat with_reducible refine And.intro (by first | omega | decide | trivial) ?_
      refine WOk.kk hW ((Item_ok W hW)) u hp0 hl hlS hpre rfl rfl (rfl) hok hfit ?_
      rintro r S2 hp
      simp -dsimp only [go_sem, ↓reduceIte]
      refine hKK1 _ _ ?_
      try clear hKK1 KK1
      refine Lwp_seq fun KK6 hKK6 => ?_
      refine LregionG [none] (by kernel_rfl) (by kernel_rfl) ?_
      simp -dsimp only [go_sem, ↓reduceIte]
      repeat with_reducible refine And.intro (by first | omega | decide) ?_
      refine hKK6 _ _ ?_
      try clear hKK6 KK6
      refine Lwp_ret ?_
      simp only [LThen, LBlock, LPost, Tryz.results28]
      simp -dsimp only [go_sem, ↓reduceIte]
      exact ret_keep (hRR _ _ ⟨rfl, hp⟩)
    · skip
      have hf2 : ¬ k = 2 := by simpa using hf
      refine Lwp_seq fun KK7 hKK7 => ?_
      refine LregionG [none, none] (by kernel_rfl) (by kernel_rfl) ?_
      simp -dsimp only [go_sem, ↓reduceIte]
      repeat with_reducible refine And.intro (by first | omega | decide) ?_
      refine hKK7 _ _ ?_
      try clear hKK7 KK7
      refine Lwp_cond (by simp only [go_sem, ↓reduceIte]; rfl) (fun ht => ?_) (fun hf => ?_)
      · skip
        have hk1 : k = 3 := by simpa using ht
        subst hk1
        obtain ⟨rfl, rfl⟩ : 12 = off ∧ Sch.int (.str sPer) = s := by simpa [kSch] using hk
        obtain ⟨v1, us, rfl, iv1, h⟩ := ok_int hok
        obtain ⟨v2, us, rfl, iv2, h⟩ := ok_str h
        have hok1 : ok (Sch.nil.app sI) ([] ++ [V v1]) := okI1 iv1
        have hok2 : ok ((Sch.nil.app sI).app sStr) ([] ++ [V v1] ++ [.str v2]) := ⟨rfl, iv1.1, iv1.2, iv2, trivial⟩
        have hft3 : W.fits (wal W (((Sch.nil.app sI).app sStr).app sPer) ([] ++ [V v1] ++ [.str v2] ++ us) st).2 := hfit
        have hft2 := fitsL hW hok2 hft3
        have hft1 := fitsL hW hok1 hft2
        refine Lwp_seq fun KK8 hKK8 => ?_
        refine LdrawE [0,1,2,3,4,5,6,7] [] none (by kernel_rfl) (by kernel_rfl) (by kernel_rfl) (by kernel_rfl) (by simp [Watch.holds]) ?_
        simp -dsimp only [go_sem, ↓reduceIte, hW.mInt]
        repeat with_reducible refine And.intro (by first | omega | decide | trivial) ?_
        refine WOk.kk hW (hW.hInt) [V v1] hp0 hl hlS hpre rfl rfl (rfl) (okI1 iv1) hft1 ?_
        rintro r S2 hp
        simp -dsimp only [go_sem, ↓reduceIte]
        refine hKK8 _ _ ?_
        try clear hKK8 KK8
        refine Lwp_seq fun KK9 hKK9 => ?_
        refine LdrawE [0,1,2,3,4,5,6,7] [] none (by kernel_rfl) (by kernel_rfl) (by kernel_rfl) (by kernel_rfl) (by simp [Watch.holds]) ?_
        simp -dsimp only [go_sem, ↓reduceIte, hW.mText]
        repeat with_reducible refine And.intro (by first | omega | decide | trivial) ?_
        refine WOk.kk hW (hW.hText) [.str v2] hp hl hlS hpre rfl rfl (rfl) (show ok sStr [.str v2] from ⟨iv2, trivial⟩) hft2 ?_
        rintro r S2 hp
        simp -dsimp only [go_sem, ↓reduceIte]
        refine hKK9 _ _ ?_
        try clear hKK9 KK9
        refine LregionG [none, none, none, none, none] (by kernel_rfl) (by kernel_rfl) ?_
        simp -dsimp only [go_sem, ↓reduceIte]
        repeat with_reducible refine And.intro (by first | omega | decide | trivial) ?_
        refine WOk.kk hW ((Period_ok W hW)) us hp hl hlS hpre rfl rfl (rfl) h hft3 ?_
        rintro r S2 hp
        simp -dsimp only [go_sem, ↓reduceIte]
        refine hKK1 _ _ ?_
        try clear hKK1 KK1
        refine Lwp_seq fun KK10 hKK10 => ?_
        refine LregionG [none] (by kernel_rfl) (by kernel_rfl) ?_
        simp -dsimp only [go_sem, ↓reduceIte]
        repeat with_reducible refine And.intro (by first | omega | decide) ?_
        refine hKK10 _ _ ?_
        try clear hKK10 KK10
        refine Lwp_ret ?_
        simp only [LThen, LBlock, LPost, Tryz.results28]
        simp -dsimp only [go_sem, ↓reduceIte]
        exact ret_keep (hRR _ _ ⟨rfl, hp⟩)
      · skip
        have hf3 : ¬ k = 3 := by simpa using hf
        refine Lwp_seq fun KK11 hKK11 => ?_
        refine LregionG [none, none] (by kernel_rfl) (by kernel_rfl) ?_
        simp -dsimp only [go_sem, ↓reduceIte]
        repeat with_reducible refine And.intro (by first | omega | decide) ?_
        refine hKK11 _ _ ?_
        try clear hKK11 KK11
        refine Lwp_cond (by simp only [go_sem, ↓reduceIte]; rfl) (fun ht => ?_) (fun hf => ?_)
        · skip
          have hk1 : k = 4 := by simpa using ht
          subst hk1
          obtain ⟨rfl, rfl⟩ : 21 = off ∧ sCyc = s := by simpa [kSch] using hk
          refine LregionG [none, none, none, none, none] (by kernel_rfl) (by kernel_rfl) ?_
          simp -dsimp only [go_sem, ↓reduceIte]
          repeat with_reducible refine And.intro (by first | omega | decide | trivial) ?_
          refine WOk.kk hW ((Cycle_ok W hW)) u hp0 hl hlS hpre rfl rfl (rfl) hok hfit ?_
          rintro r S2 hp
          simp -dsimp only [go_sem, ↓reduceIte]
          refine hKK1 _ _ ?_
          try clear hKK1 KK1
          refine Lwp_seq fun KK12 hKK12 => ?_
          refine LregionG [none] (by kernel_rfl) (by kernel_rfl) ?_
          simp -dsimp only [go_sem, ↓reduceIte]
          repeat with_reducible refine And.intro (by first | omega | decide) ?_
          refine hKK12 _ _ ?_
          try clear hKK12 KK12
          refine Lwp_ret ?_
          simp only [LThen, LBlock, LPost, Tryz.results28]
          simp -dsimp only [go_sem, ↓reduceIte]
          exact ret_keep (hRR _ _ ⟨rfl, hp⟩)
        · skip
          have hf4 : ¬ k = 4 := by simpa using hf
          simp [kSch, hf1, hf2, hf3, hf4] at hk

set_option maxHeartbeats 400000 in
theorem Walk_none (W : Wk) (hW : WkL W) {S : LS} {w l : Nat} {cells : List LV} {own : List Nat} {st : W.St} {k : Int} (hi : W.inv S w own st) (hl : l ∉ own) (hS : S[l]? = some (some (38, [cells]))) (hc0 : cells.getD 0 .any = V k) (hc1 : 0 < cells.length) (hk : kSch k = none) : LCalls Tryz.prog 28 [.iface W.ty (.ptr w 0 0), .ptr l 0 0] S (fun r S' => r = .bool false ∧ S' = S) := by
  refine LCalls_introK 0 Tryz.func28 rfl (by kernel_rfl) rfl fun RR hRR => ?_
  refine Lwp_seq fun KK0 hKK0 => ?_
  refine LregionG [none] (by kernel_rfl) (by kernel_rfl) ?_
  simp -dsimp only [go_sem, ↓reduceIte]
  repeat with_reducible refine And.intro (by first | omega | decide) ?_
  refine hKK0 _ _ ?_
  try clear hKK0 KK0
  refine Lwp_seq fun KK1 hKK1 => ?_
  refine Lwp_seq fun KK2 hKK2 => ?_
  refine LregionG [none, none, none, none] (by kernel_rfl) (by kernel_rfl) ?_
  simp -dsimp only [go_sem, ↓reduceIte, hS, hc0, hc1]
  repeat with_reducible refine And.intro (by first | omega | decide) ?_
  refine hKK2 _ _ ?_
  try clear hKK2 KK2
  refine Lwp_block ?_
  refine Lwp_seq fun KK3 hKK3 => ?_
  refine LregionG [none, none] (by kernel_rfl) (by kernel_rfl) ?_
  simp -dsimp only [go_sem, ↓reduceIte]
  repeat with_reducible refine And.intro (by first | omega | decide) ?_
  refine hKK3 _ _ ?_
  try clear hKK3 KK3
  refine Lwp_cond (by simp only [go_sem, ↓reduceIte]; rfl) (fun ht => ?_) (fun hf => ?_)
  · skip
    have hk1 : k = 1 := by simpa using ht
    subst hk1
    simp [kSch] at hk
  · skip
    have hf1 : ¬ k = 1 := by simpa using hf
    refine Lwp_seq fun KK4 hKK4 => ?_
    refine LregionG [none, none] (by kernel_rfl) (by kernel_rfl) ?_
    simp -dsimp only [go_sem, ↓reduceIte]
    repeat with_reducible refine And.intro (by first | omega | decide) ?_
    refine hKK4 _ _ ?_
    try clear hKK4 KK4
    refine Lwp_cond (by simp only [go_sem, ↓reduceIte]; rfl) (fun ht => ?_) (fun hf => ?_)
    · skip
      have hk1 : k = 2 := by simpa using ht
      subst hk1
      simp [kSch] at hk
    · skip
      have hf2 : ¬ k = 2 := by simpa using hf
      refine Lwp_seq fun KK5 hKK5 => ?_
      refine LregionG [none, none] (by kernel_rfl) (by kernel_rfl) ?_
      simp -dsimp only [go_sem, ↓reduceIte]
      repeat with_reducible refine And.intro (by first | omega | decide) ?_
      refine hKK5 _ _ ?_
      try clear hKK5 KK5
      refine Lwp_cond (by simp only [go_sem, ↓reduceIte]; rfl) (fun ht => ?_) (fun hf => ?_)
      · skip
        have hk1 : k = 3 := by simpa using ht
        subst hk1
        simp [kSch] at hk
      · skip
        have hf3 : ¬ k = 3 := by simpa using hf
        refine Lwp_seq fun KK6 hKK6 => ?_
        refine LregionG [none, none] (by kernel_rfl) (by kernel_rfl) ?_
        simp -dsimp only [go_sem, ↓reduceIte]
        repeat with_reducible refine And.intro (by first | omega | decide) ?_
        refine hKK6 _ _ ?_
        try clear hKK6 KK6
        refine Lwp_cond (by simp only [go_sem, ↓reduceIte]; rfl) (fun ht => ?_) (fun hf => ?_)
        · skip
          have hk1 : k = 4 := by simpa using ht
          subst hk1
          simp [kSch] at hk
        · skip
          have hf4 : ¬ k = 4 := by simpa using hf
          refine Lwp_seq fun KK7 hKK7 => ?_
          refine LregionG [none] (by kernel_rfl) (by kernel_rfl) ?_
          simp -dsimp only [go_sem, ↓reduceIte]
          repeat with_reducible refine And.intro (by first | omega | decide) ?_
          refine hKK7 _ _ ?_
          try clear hKK7 KK7
          refine Lwp_ret ?_
          simp only [LThen, LBlock, LPost, Tryz.results28]
          simp -dsimp only [go_sem, ↓reduceIte]
          exact ret_keep (hRR _ _ ⟨rfl, rfl⟩)

end Go.Proofs.YtdhngmldmalbbaaGreat
end
section
set_option linter.all false
namespace Go.Proofs.YtdhngmldmalbbaaGreat
open Go.Lift Go.RowKit Go.Store
set_option linter.unusedSimpArgs false
set_option linter.unusedVariables false
set_option maxHeartbeats 400000 in
theorem SPut_ok (v n : Nat) (hv : v < 18446744073709551616) (hn : n ≤ 8) : Put 29 [.int .u64 v, V n] (be n v) := by
  refine Put_intro Tryz.func29 rfl (by kernel_rfl) rfl fun S u bs RR hacc hl hRR => ?_
  refine Lwp_seq fun KK0 hKK0 => ?_
  refine LregionG [none] (by kernel_rfl) (by kernel_rfl) ?_
  simp -dsimp only [go_sem, ↓reduceIte]
  repeat with_reducible refine And.intro (by first | omega | decide) ?_
  refine hKK0 _ _ ?_
  try clear hKK0 KK0
  refine Lwp_seq fun KK1 hKK1 => ?_
  refine Lwp_seq fun KK2 hKK2 => ?_
  have wn : IntKind.i64.wrap ((n : Int) - 1) = (n : Int) - 1 := w64 (by omega) (by omega)
  have wn2 : IntKind.i64.wrap (8 * ((n : Int) - 1)) = 8 * ((n : Int) - 1) := w64 (by omega) (by omega)
  refine LregionG [none, none, none, none] (by kernel_rfl) (by kernel_rfl) ?_
  simp -dsimp only [go_sem, ↓reduceIte, wn, wn2]
  repeat with_reducible refine And.intro (by first | omega | decide) ?_
  refine hKK2 _ _ ?_
  try clear hKK2 KK2
  refine Lwp_block ?_
  refine Lwp_loopK [0, 1, 7] (fun m us S' => ∃ (k : Nat) (r : LV) (pre : List UInt8), us = [r, .int .u64 v, V (8 * ((k : Int) - 1))] ∧ PutR S u bs pre r S' ∧ pre ++ be k v = be n v ∧ k ≤ n ∧ m = k) n rfl (⟨n, u, [], by simp only [go_sem, ↓reduceIte], PutR.refl hacc, rfl, Nat.le_refl _, rfl⟩) ?_
  rintro m us S2 ⟨k, r, pre, rfl, hp, hpre, hk, hm⟩ II hII
  refine Lwp_seq fun KK3 hKK3 => ?_
  refine Lwp_seq fun KK4 hKK4 => ?_
  refine LregionG [none, none] (by kernel_rfl) (by kernel_rfl) ?_
  simp -dsimp only [go_sem, ↓reduceIte]
  repeat with_reducible refine And.intro (by first | omega | decide) ?_
  refine hKK4 _ _ ?_
  try clear hKK4 KK4
  refine Lwp_cond (by simp only [go_sem, ↓reduceIte]; rfl) (fun ht => ?_) (fun hf => ?_)
  · skip
    obtain ⟨j, rfl⟩ : ∃ j, k = j + 1 := ⟨k - 1, by simp only [decide_eq_true_eq] at ht; omega⟩
    rw [be_split, ← List.append_assoc] at hpre
    have hpl := congrArg List.length hpre
    simp only [List.length_append, be_length, List.length_cons, List.length_nil] at hpl
    have e0 : (8 : Int) * (((j + 1 : Nat) : Int) - 1) = 8 * (j : Int) := by omega
    have e3 : min (8 * (j : Int)).toNat 64 = 8 * j := by omega
    have e4 : Int.fdiv (v : Int) (2 ^ (8 * j)) = ((v / 256 ^ j : Nat) : Int) := by
      have : (2 : Int) ^ (8 * j) = ((256 ^ j : Nat) : Int) := by rw [Int.pow_mul]; norm_cast
      rw [this, Int.fdiv_eq_ediv_of_nonneg _ (Int.natCast_nonneg _)]; rfl
    have e5 : IntKind.u8.wrap ((v / 256 ^ j : Nat) : Int) = ((UInt8.ofNat (v / 256 ^ j)).toNat : Int) := by
      rw [wu8m]; simp
    have e6 : IntKind.i64.wrap (8 * (j : Int) - 8) = 8 * ((j : Int) - 1) := by rw [w64 (by omega) (by omega)]; omega
    have e7 : (0 : Int) ≤ 8 * (j : Int) := by omega
    simp only [e0]
    refine Lwp_skip ?_
    try simp -dsimp only [go_sem, ↓reduceIte]
    refine hKK3 _ _ ?_
    try clear hKK3 KK3
    refine Lwp_seq fun KK5 hKK5 => ?_
    refine Lwp_block ?_
    refine LregionG [none, none, none, none, none, none, none, none] (by kernel_rfl) (by kernel_rfl) ?_
    simp -dsimp only [go_sem, ↓reduceIte, e3, e4, e5, e7]
    repeat with_reducible refine And.intro (by first | omega | decide | assumption) ?_
    refine PutR.apd (zs := [UInt8.ofNat (v / 256 ^ j)]) hp rfl (by simp only [go_sem]; rfl) (by simp only [go_sem]; first | exact ⟨rfl, rfl⟩ | exact ⟨rfl, rfl, rfl⟩ | rfl) (by simp only [go_sem]) (by simp only [go_sem, ↓reduceIte]) (by simp only [go_sem, ↓reduceIte, e3, e4, e5]; rfl) (by (try clear e1); simp only [List.length_append, List.length_cons, List.length_nil, be_length] at hl ⊢; omega) ?_
    rintro r2 S2 hp2
    simp -dsimp only [go_sem, ↓reduceIte]
    refine hKK5 _ _ ?_
    try clear hKK5 KK5
    refine LregionG [none, none, none] (by kernel_rfl) (by kernel_rfl) ?_
    simp -dsimp only [go_sem, ↓reduceIte, e6]
    repeat with_reducible refine And.intro (by first | omega | decide) ?_
    exact hII j _ _ (by omega) ⟨j, r2, _, rfl, hp2, hpre, by omega, rfl⟩
  · skip
    obtain rfl : k = 0 := by simp only [decide_eq_false_iff_not] at hf; omega
    refine Lwp_exit ?_
    simp -dsimp only [go_sem, ↓reduceIte]
    refine hKK1 _ _ ?_
    try clear hKK1 KK1
    refine Lwp_seq fun KK6 hKK6 => ?_
    refine LregionG [none, none] (by kernel_rfl) (by kernel_rfl) ?_
    simp -dsimp only [go_sem, ↓reduceIte]
    repeat with_reducible refine And.intro (by first | omega | decide) ?_
    refine hKK6 _ _ ?_
    try clear hKK6 KK6
    refine Lwp_ret ?_
    simp only [LThen, LBlock, LPost, Tryz.results29]
    simp -dsimp only [go_sem, ↓reduceIte]
    exact ret_keep (hRR _ _ (hp.cast (by simpa [be] using hpre)))


theorem SPut8 (v : Nat) (hv : v < 18446744073709551616) : Put 29 [.int .u64 v, .int .i64 8] (be 8 v) := by
  have h := SPut_ok v 8 hv (Nat.le_refl 8)
  rw [show ((8 : Nat) : Int) = 8 from rfl] at h
  exact h
theorem SPut4 (v : Nat) (hv : v < 18446744073709551616) : Put 29 [.int .u64 v, .int .i64 4] (be 4 v) := by
  have h := SPut_ok v 4 hv (by omega)
  rw [show ((4 : Nat) : Int) = 4 from rfl] at h
  exact h
theorem schk_step (s b : Nat) (hs : s < 4294967291) (hb : b < 256) : Int.tmod (IntKind.i64.wrap (IntKind.i64.wrap ((s : Int) * 31) + (b : Int))) 4294967291 = (((s * 31 + b) % 4294967291 : Nat) : Int) := by
  have e1 : IntKind.i64.wrap ((s : Int) * 31) = (s : Int) * 31 := w64 (by omega) (by omega)
  have e2 : IntKind.i64.wrap ((s : Int) * 31 + (b : Int)) = (s : Int) * 31 + b := w64 (by omega) (by omega)
  rw [e1, e2, Int.tmod_eq_emod_of_nonneg (by omega)]
  omega

set_option maxHeartbeats 400000 in
theorem SChk_sl {S : LS} (bs : List UInt8) (hn : bs.length ≤ 1099511627776) (f : Bool) : LCalls Tryz.prog 30 [.sl f (bs.map u8c)] S (fun r S' => r = V (chkN bs) ∧ S' = S) := by
  refine LCalls_introK 0 Tryz.func30 rfl (by kernel_rfl) rfl fun RR hRR => ?_
  refine Lwp_seq fun KK0 hKK0 => ?_
  refine LregionG [none] (by kernel_rfl) (by kernel_rfl) ?_
  simp -dsimp only [go_sem, ↓reduceIte]
  repeat with_reducible refine And.intro (by first | omega | decide) ?_
  refine hKK0 _ _ ?_
  try clear hKK0 KK0
  refine Lwp_seq fun KK1 hKK1 => ?_
  refine LregionG [none] (by kernel_rfl) (by kernel_rfl) ?_
  simp -dsimp only [go_sem, ↓reduceIte]
  repeat with_reducible refine And.intro (by first | omega | decide) ?_
  refine hKK1 _ _ ?_
  try clear hKK1 KK1
  refine Lwp_seq fun KK2 hKK2 => ?_
  refine Lwp_seq fun KK3 hKK3 => ?_
  refine LregionG [none, none, none] (by kernel_rfl) (by kernel_rfl) ?_
  simp -dsimp only [go_sem, ↓reduceIte]
  repeat with_reducible refine And.intro (by first | omega | decide) ?_
  refine hKK3 _ _ ?_
  try clear hKK3 KK3
  refine Lwp_block ?_
  refine Lwp_loopK [3, 6, 7, 8] (fun m us S' => ∃ k : Nat, us = [V (chkN (bs.take k)), .sl f (bs.map u8c), V bs.length, V k] ∧ S' = S ∧ k ≤ bs.length ∧ m = bs.length - k) bs.length rfl (⟨0, by simp only [go_sem, ↓reduceIte, Int.natCast_zero]; rfl, rfl, Nat.zero_le _, rfl⟩) ?_
  rintro m us S2 ⟨k, rfl, rfl, hk, hm⟩ II hII
  refine Lwp_seq fun KK4 hKK4 => ?_
  refine LregionG [none] (by kernel_rfl) (by kernel_rfl) ?_
  simp -dsimp only [go_sem, ↓reduceIte]
  repeat with_reducible refine And.intro (by first | omega | decide) ?_
  refine hKK4 _ _ ?_
  try clear hKK4 KK4
  refine Lwp_seq fun KK5 hKK5 => ?_
  refine Lwp_cond (by simp only [go_sem, ↓reduceIte]; rfl) (fun ht => ?_) (fun hf => ?_)
  · skip
    have hk : k < bs.length := by simpa using ht
    have hb : (bs.getD k 0).toNat < 256 := (bs.getD k 0).toNat_lt
    have e1 := schk_step (chkN (bs.take k)) (bs.getD k 0).toNat (chkN_lt _) hb
    have e0 := u8c_getD hk
    have e5 : (bs.map u8c)[k]? = some [.int .u8 (bs.getD k 0).toNat] := by
      rw [List.getElem?_map, List.getD_eq_getElem?_getD, List.getElem?_eq_getElem hk]; rfl
    rw [← chkN_take hk] at e1
    have e2 : IntKind.i64.wrap ((k : Int) + 1) = ((k + 1 : Nat) : Int) := w64 (by omega) (by omega)
    have e3 : IntKind.i64.wrap (((bs.getD k 0).toNat : Nat) : Int) = (((bs.getD k 0).toNat : Nat) : Int) := w64 (by omega) (by omega)
    refine Lwp_skip ?_
    try simp -dsimp only [go_sem, ↓reduceIte]
    refine hKK5 _ _ ?_
    try clear hKK5 KK5
    refine Lwp_seq fun KK6 hKK6 => ?_
    refine Lwp_block ?_
    refine Lwp_seq fun KK7 hKK7 => ?_
    refine LregionG [none, none, none] (by kernel_rfl) (by kernel_rfl) ?_
    simp -dsimp only [go_sem, ↓reduceIte, e0]
    repeat with_reducible refine And.intro (by first | omega | decide) ?_
    refine hKK7 _ _ ?_
    try clear hKK7 KK7
    refine LregionG [none, none, none, none, none, none, none] (by kernel_rfl) (by kernel_rfl) ?_
    simp -dsimp only [go_sem, ↓reduceIte, e1, e3]
    repeat with_reducible refine And.intro (by first | omega | decide) ?_
    refine hKK6 _ _ ?_
    try clear hKK6 KK6
    refine LregionG [none, none] (by kernel_rfl) (by kernel_rfl) ?_
    simp -dsimp only [go_sem, ↓reduceIte, e2]
    repeat with_reducible refine And.intro (by first | omega | decide) ?_
    exact hII (bs.length - (k + 1)) _ _ (by omega) ⟨k + 1, rfl, rfl, hk, rfl⟩
  · skip
    obtain rfl : k = bs.length := Nat.le_antisymm hk (Nat.le_of_not_lt (by simpa using hf))
    rw [List.take_length]
    refine Lwp_exit ?_
    simp -dsimp only [go_sem, ↓reduceIte]
    refine hKK2 _ _ ?_
    try clear hKK2 KK2
    refine Lwp_seq fun KK8 hKK8 => ?_
    refine LregionG [none, none] (by kernel_rfl) (by kernel_rfl) ?_
    simp -dsimp only [go_sem, ↓reduceIte]
    repeat with_reducible refine And.intro (by first | omega | decide) ?_
    refine hKK8 _ _ ?_
    try clear hKK8 KK8
    refine Lwp_ret ?_
    simp only [LThen, LBlock, LPost, Tryz.results30]
    simp -dsimp only [go_sem, ↓reduceIte]
    refine ret_self (by simp only [go_sem, ↓reduceIte, LV.lt, ltL, ltLL]) ?_
    try simp only [go_sem, ↓reduceIte]
    exact hRR _ _ ⟨rfl, rfl⟩

set_option maxHeartbeats 400000 in
theorem SChk_ref {S : LS} (bs : List UInt8) (hn : bs.length ≤ 1099511627776) (id : Nat) (hid : S[id]? = some (some (1, bs.map u8c))) : LCalls Tryz.prog 30 [.ref id 0 bs.length] S (fun r S' => r = V (chkN bs) ∧ S' = S) := by
  refine LCalls_introK 0 Tryz.func30 rfl (by kernel_rfl) rfl fun RR hRR => ?_
  refine Lwp_seq fun KK0 hKK0 => ?_
  refine LregionG [none] (by kernel_rfl) (by kernel_rfl) ?_
  simp -dsimp only [go_sem, ↓reduceIte]
  repeat with_reducible refine And.intro (by first | omega | decide) ?_
  refine hKK0 _ _ ?_
  try clear hKK0 KK0
  refine Lwp_seq fun KK1 hKK1 => ?_
  refine LregionG [none] (by kernel_rfl) (by kernel_rfl) ?_
  simp -dsimp only [go_sem, ↓reduceIte]
  repeat with_reducible refine And.intro (by first | omega | decide) ?_
  refine hKK1 _ _ ?_
  try clear hKK1 KK1
  refine Lwp_seq fun KK2 hKK2 => ?_
  refine Lwp_seq fun KK3 hKK3 => ?_
  refine LregionG [none, none, none] (by kernel_rfl) (by kernel_rfl) ?_
  simp -dsimp only [go_sem, ↓reduceIte]
  repeat with_reducible refine And.intro (by first | omega | decide) ?_
  refine hKK3 _ _ ?_
  try clear hKK3 KK3
  refine Lwp_block ?_
  refine Lwp_loopK [3, 6, 7, 8] (fun m us S' => ∃ k : Nat, us = [V (chkN (bs.take k)), .ref id 0 bs.length, V bs.length, V k] ∧ S' = S ∧ k ≤ bs.length ∧ m = bs.length - k) bs.length rfl (⟨0, by simp only [go_sem, ↓reduceIte, Int.natCast_zero]; rfl, rfl, Nat.zero_le _, rfl⟩) ?_
  rintro m us S2 ⟨k, rfl, rfl, hk, hm⟩ II hII
  refine Lwp_seq fun KK4 hKK4 => ?_
  refine LregionG [none] (by kernel_rfl) (by kernel_rfl) ?_
  simp -dsimp only [go_sem, ↓reduceIte]
  repeat with_reducible refine And.intro (by first | omega | decide) ?_
  refine hKK4 _ _ ?_
  try clear hKK4 KK4
  refine Lwp_seq fun KK5 hKK5 => ?_
  refine Lwp_cond (by simp only [go_sem, ↓reduceIte]; rfl) (fun ht => ?_) (fun hf => ?_)
  · skip
    have hk : k < bs.length := by simpa using ht
    have hb : (bs.getD k 0).toNat < 256 := (bs.getD k 0).toNat_lt
    have e1 := schk_step (chkN (bs.take k)) (bs.getD k 0).toNat (chkN_lt _) hb
    have e0 := u8c_getD hk
    have e5 : (bs.map u8c)[k]? = some [.int .u8 (bs.getD k 0).toNat] := by
      rw [List.getElem?_map, List.getD_eq_getElem?_getD, List.getElem?_eq_getElem hk]; rfl
    rw [← chkN_take hk] at e1
    have e2 : IntKind.i64.wrap ((k : Int) + 1) = ((k + 1 : Nat) : Int) := w64 (by omega) (by omega)
    have e3 : IntKind.i64.wrap (((bs.getD k 0).toNat : Nat) : Int) = (((bs.getD k 0).toNat : Nat) : Int) := w64 (by omega) (by omega)
    refine Lwp_skip ?_
    try simp -dsimp only [go_sem, ↓reduceIte]
    refine hKK5 _ _ ?_
    try clear hKK5 KK5
    refine Lwp_seq fun KK6 hKK6 => ?_
    refine Lwp_block ?_
    refine Lwp_seq fun KK7 hKK7 => ?_
    refine LregionG [none, none, none] (by kernel_rfl) (by kernel_rfl) ?_
    simp -dsimp only [go_sem, ↓reduceIte, e0, hid, Option.join_some, Nat.zero_add, e5]
    repeat with_reducible refine And.intro (by first | omega | decide) ?_
    refine hKK7 _ _ ?_
    try clear hKK7 KK7
    refine LregionG [none, none, none, none, none, none, none] (by kernel_rfl) (by kernel_rfl) ?_
    simp -dsimp only [go_sem, ↓reduceIte, e1, e3]
    repeat with_reducible refine And.intro (by first | omega | decide) ?_
    refine hKK6 _ _ ?_
    try clear hKK6 KK6
    refine LregionG [none, none] (by kernel_rfl) (by kernel_rfl) ?_
    simp -dsimp only [go_sem, ↓reduceIte, e2]
    repeat with_reducible refine And.intro (by first | omega | decide) ?_
    exact hII (bs.length - (k + 1)) _ _ (by omega) ⟨k + 1, rfl, rfl, hk, rfl⟩
  · skip
    obtain rfl : k = bs.length := Nat.le_antisymm hk (Nat.le_of_not_lt (by simpa using hf))
    rw [List.take_length]
    refine Lwp_exit ?_
    simp -dsimp only [go_sem, ↓reduceIte]
    refine hKK2 _ _ ?_
    try clear hKK2 KK2
    refine Lwp_seq fun KK8 hKK8 => ?_
    refine LregionG [none, none] (by kernel_rfl) (by kernel_rfl) ?_
    simp -dsimp only [go_sem, ↓reduceIte]
    repeat with_reducible refine And.intro (by first | omega | decide) ?_
    refine hKK8 _ _ ?_
    try clear hKK8 KK8
    refine Lwp_ret ?_
    simp only [LThen, LBlock, LPost, Tryz.results30]
    simp -dsimp only [go_sem, ↓reduceIte]
    refine ret_self (by simp only [go_sem, ↓reduceIte, LV.lt, ltL, ltLL]) ?_
    try simp only [go_sem, ↓reduceIte]
    exact hRR _ _ ⟨rfl, rfl⟩


theorem SChk_ok {S : LS} {u : LV} {bs : List UInt8} (h : Rd S u bs) (hn : bs.length ≤ 1099511627776) : LCalls Tryz.prog 30 [u] S (fun r S' => r = V (chkN bs) ∧ S' = S) := by
  rcases h with ⟨f, rfl⟩ | ⟨id, rfl, hid⟩
  · exact SChk_sl bs hn f
  · exact SChk_ref bs hn id hid
theorem or_step (s b : Nat) (hs : s < 72057594037927936) (hb : b < 256) : IntKind.u64.wrap ((BitVec.ofInt IntKind.u64.bits (IntKind.u64.wrap ((s : Int) * 256)) ||| BitVec.ofInt IntKind.u64.bits (b : Int)).toNat : Int) = ((s * 256 + b : Nat) : Int) := by
  have e1 : IntKind.u64.wrap ((s : Int) * 256) = ((s * 256 : Nat) : Int) := by rw [wu64 (by omega) (by omega)]; omega
  have h2 : 2 ^ 8 * s + b = 2 ^ 8 * s ||| b := Nat.two_pow_add_eq_or_of_lt hb s
  have e : (BitVec.ofInt IntKind.u64.bits ((s * 256 : Nat) : Int) ||| BitVec.ofInt IntKind.u64.bits (b : Int)).toNat = s * 256 + b := by
    rw [BitVec.toNat_or, BitVec.ofInt_natCast, BitVec.ofInt_natCast, BitVec.toNat_ofNat, BitVec.toNat_ofNat]
    have e3 : (2 : Nat) ^ IntKind.u64.bits = 18446744073709551616 := rfl
    rw [e3, Nat.mod_eq_of_lt (by omega), Nat.mod_eq_of_lt (by omega), show s * 256 = 2 ^ 8 * s by omega, ← h2]
  rw [e1, e, wu64 (by omega) (by omega)]
theorem num_take {bs : List UInt8} {k : Nat} (h : k < bs.length) : num (bs.take (k + 1)) = num (bs.take k) * 256 + (bs.getD k 0).toNat := by
  unfold num
  rw [List.take_succ_eq_append_getElem h, List.foldl_append, List.getD_eq_getElem?_getD, List.getElem?_eq_getElem h]
  rfl

set_option maxHeartbeats 400000 in
theorem SGet_ok {S : LS} (bs : List UInt8) (hn : bs.length ≤ 8) (f : Bool) : LCalls Tryz.prog 31 [.sl f (bs.map u8c)] S (fun r S' => r = .int .u64 (num bs) ∧ S' = S) := by
  refine LCalls_introK 0 Tryz.func31 rfl (by kernel_rfl) rfl fun RR hRR => ?_
  refine Lwp_seq fun KK0 hKK0 => ?_
  refine LregionG [none] (by kernel_rfl) (by kernel_rfl) ?_
  simp -dsimp only [go_sem, ↓reduceIte]
  repeat with_reducible refine And.intro (by first | omega | decide) ?_
  refine hKK0 _ _ ?_
  try clear hKK0 KK0
  refine Lwp_seq fun KK1 hKK1 => ?_
  refine LregionG [none] (by kernel_rfl) (by kernel_rfl) ?_
  simp -dsimp only [go_sem, ↓reduceIte]
  repeat with_reducible refine And.intro (by first | omega | decide) ?_
  refine hKK1 _ _ ?_
  try clear hKK1 KK1
  refine Lwp_seq fun KK2 hKK2 => ?_
  refine Lwp_seq fun KK3 hKK3 => ?_
  refine LregionG [none, none, none] (by kernel_rfl) (by kernel_rfl) ?_
  simp -dsimp only [go_sem, ↓reduceIte]
  repeat with_reducible refine And.intro (by first | omega | decide) ?_
  refine hKK3 _ _ ?_
  try clear hKK3 KK3
  refine Lwp_block ?_
  refine Lwp_loopK [3, 6, 7, 8] (fun m us S' => ∃ k : Nat, us = [.int .u64 (num (bs.take k)), .sl f (bs.map u8c), V bs.length, V k] ∧ S' = S ∧ k ≤ bs.length ∧ m = bs.length - k) bs.length rfl (⟨0, by simp only [go_sem, ↓reduceIte, Int.natCast_zero]; rfl, rfl, Nat.zero_le _, rfl⟩) ?_
  rintro m us S2 ⟨k, rfl, rfl, hk, hm⟩ II hII
  refine Lwp_seq fun KK4 hKK4 => ?_
  refine LregionG [none] (by kernel_rfl) (by kernel_rfl) ?_
  simp -dsimp only [go_sem, ↓reduceIte]
  repeat with_reducible refine And.intro (by first | omega | decide) ?_
  refine hKK4 _ _ ?_
  try clear hKK4 KK4
  refine Lwp_seq fun KK5 hKK5 => ?_
  refine Lwp_cond (by simp only [go_sem, ↓reduceIte]; rfl) (fun ht => ?_) (fun hf => ?_)
  · skip
    have hk : k < bs.length := by simpa using ht
    have hb : (bs.getD k 0).toNat < 256 := (bs.getD k 0).toNat_lt
    have e0 := u8c_getD hk
    have e2 : IntKind.i64.wrap ((k : Int) + 1) = ((k + 1 : Nat) : Int) := w64 (by omega) (by omega)
    have e7 : num (bs.take k) < 72057594037927936 := by
      refine Nat.lt_of_lt_of_le (num_lt _) ?_
      rw [List.length_take, Nat.min_eq_left (Nat.le_of_lt hk)]
      exact Nat.le_trans (Nat.pow_le_pow_right (by decide) (show k ≤ 7 by omega)) (by decide)
    have e6 := or_step (num (bs.take k)) (bs.getD k 0).toNat e7 hb
    rw [← num_take hk] at e6
    have e3 : IntKind.u64.wrap (((bs.getD k 0).toNat : Nat) : Int) = (((bs.getD k 0).toNat : Nat) : Int) := wu64 (by omega) (by omega)
    refine Lwp_skip ?_
    try simp -dsimp only [go_sem, ↓reduceIte]
    refine hKK5 _ _ ?_
    try clear hKK5 KK5
    refine Lwp_seq fun KK6 hKK6 => ?_
    refine Lwp_block ?_
    refine Lwp_seq fun KK7 hKK7 => ?_
    refine LregionG [none, none, none] (by kernel_rfl) (by kernel_rfl) ?_
    simp -dsimp only [go_sem, ↓reduceIte, e0]
    repeat with_reducible refine And.intro (by first | omega | decide) ?_
    refine hKK7 _ _ ?_
    try clear hKK7 KK7
    refine LregionG [none, none, none, none, none, none] (by kernel_rfl) (by kernel_rfl) ?_
    simp -dsimp only [go_sem, ↓reduceIte, e3, e6]
    repeat with_reducible refine And.intro (by first | omega | decide) ?_
    refine hKK6 _ _ ?_
    try clear hKK6 KK6
    refine LregionG [none, none] (by kernel_rfl) (by kernel_rfl) ?_
    simp -dsimp only [go_sem, ↓reduceIte, e2]
    repeat with_reducible refine And.intro (by first | omega | decide) ?_
    exact hII (bs.length - (k + 1)) _ _ (by omega) ⟨k + 1, rfl, rfl, hk, rfl⟩
  · skip
    obtain rfl : k = bs.length := Nat.le_antisymm hk (Nat.le_of_not_lt (by simpa using hf))
    rw [List.take_length]
    refine Lwp_exit ?_
    simp -dsimp only [go_sem, ↓reduceIte]
    refine hKK2 _ _ ?_
    try clear hKK2 KK2
    refine Lwp_seq fun KK8 hKK8 => ?_
    refine LregionG [none, none] (by kernel_rfl) (by kernel_rfl) ?_
    simp -dsimp only [go_sem, ↓reduceIte]
    repeat with_reducible refine And.intro (by first | omega | decide) ?_
    refine hKK8 _ _ ?_
    try clear hKK8 KK8
    refine Lwp_ret ?_
    simp only [LThen, LBlock, LPost, Tryz.results31]
    simp -dsimp only [go_sem, ↓reduceIte]
    refine ret_self (by simp only [go_sem, ↓reduceIte, LV.lt, ltL, ltLL]) ?_
    try simp only [go_sem, ↓reduceIte]
    exact hRR _ _ ⟨rfl, rfl⟩

end Go.Proofs.YtdhngmldmalbbaaGreat
end
section
set_option linter.all false
namespace Go.Proofs.YtdhngmldmalbbaaGreat
open Go.Lift Go.RowKit Go.Store
set_option linter.unusedSimpArgs false
set_option linter.unusedVariables false

/-- the writer. -/
def wW (rf : Bool) : Wk where
  ty := 82
  St := List UInt8
  inv := fun S w own bs => ∃ u, S[w]? = some (some (1, [[u]])) ∧ Acc S u bs ∧ w ∉ rowIds u ∧ own = w :: rowIds u ∧ (rf = true → rowIds u ≠ [])
  fits := fun bs => bs.length ≤ 1073741824
  int := fun st v => (v, st ++ be 8 (u64 v))
  word := fun st v => (v, st ++ be 8 v)
  bool := fun st b => (b, st ++ [if b then 1 else 0])
  str := fun st s => (s, st ++ (be 4 s.size ++ s.data.toList))
  count := fun st n => (n, st ++ be 4 n)
  fInt := 115
  fWord := 117
  fBool := 113
  fText := 116
  fCount := 114
theorem Acc.lt {S : LS} {u : LV} {bs : List UInt8} (h : Acc S u bs) : ∀ id ∈ rowIds u, id < S.length := fun id hid => (RowS.lo h id hid).2
theorem Acc.cells {S : LS} {u : LV} {bs : List UInt8} (h : Acc S u bs) : u.cells? = some [u] := by
  rcases h.2 with rfl | ⟨id, -, rfl, -⟩ <;> rfl
/-- what was appended is kept by the writer. -/
theorem wstep {rf : Bool} {S S2 : LS} {w : Nat} {u r : LV} {bs ys : List UInt8} (hw : S[w]? = some (some (1, [[u]]))) (hwu : w ∉ rowIds u) (hrf : rf = true → rowIds u ≠ []) (hp : PutR S u bs ys r S2) :
    (wW rf).inv (S2.set w (some (1, [[r]]))) w (w :: rowIds r) (bs ++ ys) ∧ Keeps S (S2.set w (some (1, [[r]]))) (w :: rowIds u) ∧ (∀ id ∈ w :: rowIds r, id ∈ w :: rowIds u ∨ S.length ≤ id) ∧ S2[w]? = some (some (1, [[u]])) := by
  obtain ⟨h1, h2, h3, h4⟩ := hp
  have hwl := lt_of_get hw
  have hw2 := h2.get hw hwu
  have hwr : w ∉ rowIds r := fun h => (h3 w h).elim hwu (fun h => by omega)
  refine ⟨⟨r, List.getElem?_set_self (lt_of_get hw2), RowS.mono h1 (Nat.le_refl _) (fun id hid b hb => ?_), hwr, rfl, fun h => h4 (hrf h)⟩, ⟨by rw [List.length_set]; exact h2.1, fun j hj hm => ?_⟩, fun id hid => ?_, hw2⟩
  · rw [List.getElem?_set_ne (fun e => hwr (by rw [e]; exact hid))]; exact hb
  · simp only [List.mem_cons, not_or] at hm
    rw [List.getElem?_set_ne (fun e => hm.1 e.symm)]; exact h2.2 j hj hm.2
  · rcases List.mem_cons.1 hid with rfl | hid
    · exact .inl (List.mem_cons_self ..)
    · exact (h3 id hid).imp_left (fun h => List.mem_cons_of_mem _ h)
theorem wprim {rf : Bool} {S S2 : LS} {w l n : Nat} {u r : LV} {bs ys : List UInt8} {pre us post : List LV} {s : Sch} (hok : ok s us) (hS : S[l]? = some (some (n, [pre ++ (us ++ post)]))) (hl : l ∉ w :: rowIds u) (hw : S[w]? = some (some (1, [[u]]))) (hwu : w ∉ rowIds u) (hrf : rf = true → rowIds u ≠ []) (hp : PutR S u bs ys r S2)
    (h1 : wal (wW rf) s us bs = (nz s us, bs ++ ys)) : WP (wW rf) S w l n pre (w :: rowIds u) s us bs post (S2.set w (some (1, [[r]]))) := by
  obtain ⟨g1, g2, g3, -⟩ := wstep hw hwu hrf hp
  exact ⟨hok, w :: rowIds r, us, by rw [h1]; exact g1, by rw [h1], hok, g2.get hS hl, g2.mono (fun j hj => List.mem_cons_of_mem _ hj), g3⟩

set_option maxHeartbeats 400000 in
theorem WInt_ok {rf : Bool} : WOk (wW rf) aP 115 sI := by
  refine WOk_intro 0 Tryz.func115 rfl (by kernel_rfl) (fun _ _ _ => rfl) fun S w l n off pre us post own st RR hi hl hS hpre hok hfit hRR => ?_
  have hlS := lt_of_get hS
  obtain ⟨bs, rfl⟩ : ∃ b : List UInt8, b = st := ⟨st, rfl⟩
  obtain ⟨u, hw, hacc, hwu, rfl, hrf⟩ := hi
  obtain ⟨v, us, rfl, iv, h0⟩ := ok_int hok
  obtain rfl := ok_nil h0
  obtain ⟨cells, hcells⟩ : ∃ c, c = pre ++ ([V v] ++ post) := ⟨_, rfl⟩
  have hc1 : off < cells.length := by rw [hcells, ← hpre]; simp
  have hc2 : cells.getD off .any = V v := by rw [hcells, ← hpre]; simp [List.getD_eq_getElem?_getD]
  have hlw : l ≠ w := fun e => hl (e ▸ List.mem_cons_self ..)
  have hlu : l ∉ rowIds u := fun e => hl (List.mem_cons_of_mem _ e)
  have hSc := hS
  rw [← hcells] at hSc
  clear h0
  have e1 := u64_wrap v
  refine LdrawE [0,1,2,3,4,5,6,7,8,9,10,11,12] [(w, (1, [[u]])), (l, (n, [cells]))] (some 12) (by kernel_rfl) (by kernel_rfl) (by kernel_rfl) (by kernel_rfl) (by simp [Watch.holds, hw, hSc]) ?_
  simp -dsimp only [go_sem, ↓reduceIte, hc1, hc2, hlw, e1]
  repeat with_reducible refine And.intro (by first | omega | decide | assumption) ?_
  have hfl : (bs ++ (be 8 (u64 v))).length ≤ 1073741824 := hfit
  simp only [List.length_append, be_length] at hfl
  refine LCalls.k (SPut8 (u64 v) (u64_lt v) S u bs hacc (by simp only [be_length]; omega)) ?_
  rintro r S2 hp
  have hrc := hp.1.cells
  simp only [LV.cells?] at hrc
  obtain ⟨q1, q2, q3, hw2⟩ := wstep hw hwu hrf hp
  have hl2 : S2[l]? = some (some (n, [cells])) := hp.2.1.get hSc hlu
  simp -dsimp only [go_sem, ↓reduceIte, List.mem_cons, forall_eq_or_imp, hrc, hw2, hl2]
  simp only [LThen, LBlock, LPost, Tryz.results115]
  simp -dsimp only [go_sem, ↓reduceIte]
  exact ret_keep (hRR _ _ (wprim hok hS hl hw hwu hrf hp (by simp [wal, nz, wW, intOf, natOf, boolOf, bytesOf, sI, sStr])))

set_option maxHeartbeats 400000 in
theorem WWord_ok {rf : Bool} : WOk (wW rf) aP 117 (.word .nil) := by
  refine WOk_intro 0 Tryz.func117 rfl (by kernel_rfl) (fun _ _ _ => rfl) fun S w l n off pre us post own st RR hi hl hS hpre hok hfit hRR => ?_
  have hlS := lt_of_get hS
  obtain ⟨bs, rfl⟩ : ∃ b : List UInt8, b = st := ⟨st, rfl⟩
  obtain ⟨u, hw, hacc, hwu, rfl, hrf⟩ := hi
  obtain ⟨v, us, rfl, iv, h0⟩ := ok_word hok
  obtain rfl := ok_nil h0
  obtain ⟨cells, hcells⟩ : ∃ c, c = pre ++ ([.int .u64 v] ++ post) := ⟨_, rfl⟩
  have hc1 : off < cells.length := by rw [hcells, ← hpre]; simp
  have hc2 : cells.getD off .any = .int .u64 v := by rw [hcells, ← hpre]; simp [List.getD_eq_getElem?_getD]
  have hlw : l ≠ w := fun e => hl (e ▸ List.mem_cons_self ..)
  have hlu : l ∉ rowIds u := fun e => hl (List.mem_cons_of_mem _ e)
  have hSc := hS
  rw [← hcells] at hSc
  clear h0
  refine LdrawE [0,1,2,3,4,5,6,7,8,9,10,11] [(w, (1, [[u]])), (l, (n, [cells]))] (some 11) (by kernel_rfl) (by kernel_rfl) (by kernel_rfl) (by kernel_rfl) (by simp [Watch.holds, hw, hSc]) ?_
  simp -dsimp only [go_sem, ↓reduceIte, hc1, hc2, hlw]
  repeat with_reducible refine And.intro (by first | omega | decide | assumption) ?_
  have hfl : (bs ++ (be 8 v)).length ≤ 1073741824 := hfit
  simp only [List.length_append, be_length] at hfl
  refine LCalls.k (SPut8 v iv S u bs hacc (by simp only [be_length]; omega)) ?_
  rintro r S2 hp
  have hrc := hp.1.cells
  simp only [LV.cells?] at hrc
  obtain ⟨q1, q2, q3, hw2⟩ := wstep hw hwu hrf hp
  have hl2 : S2[l]? = some (some (n, [cells])) := hp.2.1.get hSc hlu
  simp -dsimp only [go_sem, ↓reduceIte, List.mem_cons, forall_eq_or_imp, hrc, hw2, hl2]
  simp only [LThen, LBlock, LPost, Tryz.results117]
  simp -dsimp only [go_sem, ↓reduceIte]
  exact ret_keep (hRR _ _ (wprim hok hS hl hw hwu hrf hp (by simp [wal, nz, wW, intOf, natOf, boolOf, bytesOf, sI, sStr])))

set_option maxHeartbeats 400000 in
theorem WText_ok {rf : Bool} : WOk (wW rf) aP 116 sStr := by
  refine WOk_intro 0 Tryz.func116 rfl (by kernel_rfl) (fun _ _ _ => rfl) fun S w l n off pre us post own st RR hi hl hS hpre hok hfit hRR => ?_
  have hlS := lt_of_get hS
  obtain ⟨bs, rfl⟩ : ∃ b : List UInt8, b = st := ⟨st, rfl⟩
  obtain ⟨u, hw, hacc, hwu, rfl, hrf⟩ := hi
  obtain ⟨s, us, rfl, hs, h0⟩ := ok_str hok
  obtain rfl := ok_nil h0
  obtain ⟨cells, hcells⟩ : ∃ c, c = pre ++ ([.str s] ++ post) := ⟨_, rfl⟩
  have hc1 : off < cells.length := by rw [hcells, ← hpre]; simp
  have hc2 : cells.getD off .any = .str s := by rw [hcells, ← hpre]; simp [List.getD_eq_getElem?_getD]
  have hlw : l ≠ w := fun e => hl (e ▸ List.mem_cons_self ..)
  have hlu : l ∉ rowIds u := fun e => hl (List.mem_cons_of_mem _ e)
  have hSc := hS
  rw [← hcells] at hSc
  clear h0
  have e1 := u64_wrapN (n := s.size) (by omega)
  have hsl : s.data.toList.length = s.size := by rw [Array.length_toList]; rfl
  have hfl : (bs ++ (be 4 s.size ++ s.data.toList)).length ≤ 1073741824 := hfit
  simp only [List.length_append, be_length, hsl] at hfl
  refine LdrawE [0,1,2,3,4,5,6,7,8,9,11,12,13,10,14,15,16,17] [(w, (1, [[u]])), (l, (n, [cells]))] (some 17) (by kernel_rfl) (by kernel_rfl) (by kernel_rfl) (by kernel_rfl) (by simp [Watch.holds, hw, hSc]) ?_
  simp -dsimp only [go_sem, ↓reduceIte, hc1, hc2, hlw, e1]
  repeat with_reducible refine And.intro (by first | omega | decide | assumption) ?_
  refine LCalls.k (SPut4 s.size (by clear e1; omega) S u bs hacc (by simp only [be_length]; clear e1; omega)) ?_
  rintro r1 S1 hp1
  obtain ⟨q1, q2, q3, hw2⟩ := wstep hw hwu hrf hp1
  have hl2 : S1[l]? = some (some (n, [cells])) := hp1.2.1.get hSc hlu
  simp -dsimp only [go_sem, ↓reduceIte, List.mem_cons, forall_eq_or_imp, hw2, hl2]
  repeat with_reducible refine And.intro (by first | omega | decide | assumption) ?_
  refine PutR.apd (zs := s.data.toList) hp1 rfl (by simp only [go_sem]; rfl) (by simp only [go_sem]; first | exact ⟨rfl, rfl⟩ | exact ⟨rfl, rfl, rfl⟩ | rfl) (by simp only [go_sem]) (by simp only [go_sem, ↓reduceIte]) (by simp only [go_sem, ↓reduceIte]) (by simp only [be_length, hsl]; clear e1; omega) ?_
  rintro r S2 hp
  have hrc := hp.1.cells
  simp only [LV.cells?] at hrc
  obtain ⟨q4, q5, q6, hw3⟩ := wstep hw hwu hrf hp
  have hl3 : S2[l]? = some (some (n, [cells])) := hp.2.1.get hSc hlu
  simp -dsimp only [go_sem, ↓reduceIte, List.mem_cons, forall_eq_or_imp, hrc, hw3, hl3]
  simp only [LThen, LBlock, LPost, Tryz.results116]
  simp -dsimp only [go_sem, ↓reduceIte]
  exact ret_keep (hRR _ _ (wprim hok hS hl hw hwu hrf hp (by simp [wal, nz, wW, bytesOf, sStr])))

set_option maxHeartbeats 400000 in
theorem WBool_ok {rf : Bool} : WOk (wW rf) aP 113 (.bool .nil) := by
  refine WOk_intro 0 Tryz.func113 rfl (by kernel_rfl) (fun _ _ _ => rfl) fun S w l n off pre us post own st RR hi hl hS hpre hok hfit hRR => ?_
  have hlS := lt_of_get hS
  obtain ⟨bs, rfl⟩ : ∃ b : List UInt8, b = st := ⟨st, rfl⟩
  obtain ⟨u, hw, hacc, hwu, rfl, hrf⟩ := hi
  obtain ⟨b, us, rfl, h0⟩ := ok_bool hok
  obtain rfl := ok_nil h0
  obtain ⟨cells, hcells⟩ : ∃ c, c = pre ++ ([.bool b] ++ post) := ⟨_, rfl⟩
  have hc1 : off < cells.length := by rw [hcells, ← hpre]; simp
  have hc2 : cells.getD off .any = .bool b := by rw [hcells, ← hpre]; simp [List.getD_eq_getElem?_getD]
  have hlw : l ≠ w := fun e => hl (e ▸ List.mem_cons_self ..)
  have hlu : l ∉ rowIds u := fun e => hl (List.mem_cons_of_mem _ e)
  have hSc := hS
  rw [← hcells] at hSc
  clear h0
  have hfl : (bs ++ [if b then 1 else 0]).length ≤ 1073741824 := hfit
  simp only [List.length_append, List.length_cons, List.length_nil] at hfl
  refine Lwp_seq fun KK0 hKK0 => ?_
  refine LregionG [none] (by kernel_rfl) (by kernel_rfl) ?_
  simp -dsimp only [go_sem, ↓reduceIte, hw]
  repeat with_reducible refine And.intro (by first | omega | decide) ?_
  refine hKK0 _ _ ?_
  try clear hKK0 KK0
  refine Lwp_seq fun KK1 hKK1 => ?_
  refine Lwp_seq fun KK2 hKK2 => ?_
  refine LregionG [none, none, none] (by kernel_rfl) (by kernel_rfl) ?_
  simp -dsimp only [go_sem, ↓reduceIte, hw, hSc, hc1, hc2]
  repeat with_reducible refine And.intro (by first | omega | decide) ?_
  refine hKK2 _ _ ?_
  try clear hKK2 KK2
  refine Lwp_cond (by simp only [go_sem, ↓reduceIte, hw]; rfl) (fun ht => ?_) (fun hf => ?_)
  · skip
    subst ht
    refine LregionG [none] (by kernel_rfl) (by kernel_rfl) ?_
    simp -dsimp only [go_sem, ↓reduceIte, hw]
    repeat with_reducible refine And.intro (by first | omega | decide) ?_
    refine hKK1 _ _ ?_
    try clear hKK1 KK1
    refine LregionG [none, none, none, none, none, none, none, none, none, none, none] (by kernel_rfl) (by kernel_rfl) ?_
    simp -dsimp only [go_sem, ↓reduceIte, hw]
    repeat with_reducible refine And.intro (by first | omega | decide | assumption) ?_
    first | refine PutR.apd (zs := [0]) (PutR.refl hacc) rfl (by simp only [go_sem]; rfl) (by simp only [go_sem]; first | exact ⟨rfl, rfl⟩ | exact ⟨rfl, rfl, rfl⟩ | rfl) (by simp only [go_sem]) (by simp only [go_sem, ↓reduceIte]) (by simp only [go_sem, ↓reduceIte]; rfl) (by simp only [List.length_cons, List.length_nil]; omega) ?_ | refine PutR.apd (zs := [1]) (PutR.refl hacc) rfl (by simp only [go_sem]; rfl) (by simp only [go_sem]; first | exact ⟨rfl, rfl⟩ | exact ⟨rfl, rfl, rfl⟩ | rfl) (by simp only [go_sem]) (by simp only [go_sem, ↓reduceIte]) (by simp only [go_sem, ↓reduceIte]; rfl) (by simp only [List.length_cons, List.length_nil]; omega) ?_
    rintro r S2 hp
    simp only [List.nil_append] at hp
    have hrc := hp.1.cells
    simp only [LV.cells?] at hrc
    obtain ⟨q1, q2, q3, hw2⟩ := wstep hw hwu hrf hp
    have hl2 : S2[l]? = some (some (n, [cells])) := hp.2.1.get hSc hlu
    simp -dsimp only [go_sem, ↓reduceIte, hw, hrc, hw2]
    simp only [LThen, LBlock, LPost, Tryz.results113]
    simp -dsimp only [go_sem, ↓reduceIte, hw]
    exact ret_keep (hRR _ _ (wprim hok hS hl hw hwu hrf hp (by simp [wal, nz, wW, boolOf])))
  · skip
    subst hf
    refine Lwp_skip ?_
    try simp -dsimp only [go_sem, ↓reduceIte, hw]
    refine hKK1 _ _ ?_
    try clear hKK1 KK1
    refine LregionG [none, none, none, none, none, none, none, none, none, none, none] (by kernel_rfl) (by kernel_rfl) ?_
    simp -dsimp only [go_sem, ↓reduceIte, hw]
    repeat with_reducible refine And.intro (by first | omega | decide | assumption) ?_
    first | refine PutR.apd (zs := [0]) (PutR.refl hacc) rfl (by simp only [go_sem]; rfl) (by simp only [go_sem]; first | exact ⟨rfl, rfl⟩ | exact ⟨rfl, rfl, rfl⟩ | rfl) (by simp only [go_sem]) (by simp only [go_sem, ↓reduceIte]) (by simp only [go_sem, ↓reduceIte]; rfl) (by simp only [List.length_cons, List.length_nil]; omega) ?_ | refine PutR.apd (zs := [1]) (PutR.refl hacc) rfl (by simp only [go_sem]; rfl) (by simp only [go_sem]; first | exact ⟨rfl, rfl⟩ | exact ⟨rfl, rfl, rfl⟩ | rfl) (by simp only [go_sem]) (by simp only [go_sem, ↓reduceIte]) (by simp only [go_sem, ↓reduceIte]; rfl) (by simp only [List.length_cons, List.length_nil]; omega) ?_
    rintro r S2 hp
    simp only [List.nil_append] at hp
    have hrc := hp.1.cells
    simp only [LV.cells?] at hrc
    obtain ⟨q1, q2, q3, hw2⟩ := wstep hw hwu hrf hp
    have hl2 : S2[l]? = some (some (n, [cells])) := hp.2.1.get hSc hlu
    simp -dsimp only [go_sem, ↓reduceIte, hw, hrc, hw2]
    simp only [LThen, LBlock, LPost, Tryz.results113]
    simp -dsimp only [go_sem, ↓reduceIte, hw]
    exact ret_keep (hRR _ _ (wprim hok hS hl hw hwu hrf hp (by simp [wal, nz, wW, boolOf])))

set_option maxHeartbeats 400000 in
theorem WCount_ok {rf : Bool} (S : LS) (w : Nat) (own : List Nat) (bs : List UInt8) (m : Nat) (hi : (wW rf).inv S w own bs) (hm : m < 4294967296) (hfit : (bs ++ be 4 m).length ≤ 1073741824) : LCalls Tryz.prog 114 [.ptr w 0 0, V m] S (fun r S' => r = V m ∧ ∃ own', (wW rf).inv S' w own' (bs ++ be 4 m) ∧ Keeps S S' own ∧ ∀ id ∈ own', id ∈ own ∨ S.length ≤ id) := by
  refine LCalls_introK 0 Tryz.func114 rfl (by kernel_rfl) rfl fun RR hRR => ?_
  obtain ⟨u, hw, hacc, hwu, rfl, hrf⟩ := hi
  simp only [List.length_append, be_length] at hfit
  have e1 := u64_wrapN (n := m) (by omega)
  refine Lwp_seq fun KK0 hKK0 => ?_
  refine LregionG [none] (by kernel_rfl) (by kernel_rfl) ?_
  simp -dsimp only [go_sem, ↓reduceIte]
  repeat with_reducible refine And.intro (by first | omega | decide) ?_
  refine hKK0 _ _ ?_
  try clear hKK0 KK0
  refine Lwp_seq fun KK1 hKK1 => ?_
  refine LregionG [none, none, none, none, none, none, none, none, none, none, none] (by kernel_rfl) (by kernel_rfl) ?_
  simp -dsimp only [go_sem, ↓reduceIte, hw, e1]
  repeat with_reducible refine And.intro (by first | omega | decide | assumption) ?_
  refine LCalls.k (SPut4 m (by clear e1; omega) S u bs hacc (by simp only [be_length]; clear e1; omega)) ?_
  rintro r S2 hp
  obtain ⟨q1, q2, q3, hw2⟩ := wstep hw hwu hrf hp
  have hrc := hp.1.cells
  simp only [LV.cells?] at hrc
  simp -dsimp only [go_sem, ↓reduceIte, hw2, hrc]
  refine hKK1 _ _ ?_
  try clear hKK1 KK1
  refine Lwp_seq fun KK2 hKK2 => ?_
  refine LregionG [none, none] (by kernel_rfl) (by kernel_rfl) ?_
  simp -dsimp only [go_sem, ↓reduceIte]
  repeat with_reducible refine And.intro (by first | omega | decide) ?_
  refine hKK2 _ _ ?_
  try clear hKK2 KK2
  refine Lwp_ret ?_
  simp only [LThen, LBlock, LPost, Tryz.results114]
  simp -dsimp only [go_sem, ↓reduceIte]
  exact ret_keep (hRR _ _ ⟨rfl, _, q1, q2, q3⟩)


theorem len_le (a b : List UInt8) (h : (a ++ b).length ≤ 1073741824) : a.length ≤ 1073741824 := by rw [List.length_append] at h; omega
theorem wW_law {rf : Bool} : WkL (wW rf) where
  lt := by
    rintro S w own st ⟨u, hw, hacc, hwu, rfl, hrf⟩ id hid
    rcases List.mem_cons.1 hid with rfl | hid
    · exact lt_of_get hw
    · exact hacc.lt id hid
  keep := by
    rintro S S' w own st ids ⟨u, hw, hacc, hwu, rfl, hrf⟩ hK hd
    exact ⟨u, hK.get hw (hd w (List.mem_cons_self ..)), RowS.mono hacc (Nat.le_refl _) (fun id hid b hb => hK.get hb (hd id (List.mem_cons_of_mem _ hid))), hwu, rfl, hrf⟩
  iint := fun {st v} h => len_le (st : List UInt8) _ h
  iword := fun {st v} h => len_le (st : List UInt8) _ h
  ibool := fun {st v} h => len_le (st : List UInt8) _ h
  istr := fun {st v} h => len_le (st : List UInt8) _ h
  icount := fun {st v} h => len_le (st : List UInt8) _ h
  cnt := fun {S w own st m} _ h => h
  mInt := by kernel_rfl
  mWord := by kernel_rfl
  mBool := by kernel_rfl
  mText := by kernel_rfl
  mCount := by kernel_rfl
  hInt := WInt_ok
  hWord := WWord_ok
  hBool := WBool_ok
  hText := WText_ok
  hCount := WCount_ok

end Go.Proofs.YtdhngmldmalbbaaGreat
end
section
set_option linter.all false
namespace Go.Proofs.YtdhngmldmalbbaaGreat
open Go.Lift Go.RowKit Go.Store
set_option linter.unusedSimpArgs false
set_option linter.unusedVariables false

theorem wW_ty {rf : Bool} : (wW rf).ty = 82 := rfl
theorem wW_int {rf : Bool} {bs : List UInt8} {v : Int} : (wW rf).int bs v = (v, bs ++ be 8 (u64 v)) := rfl
theorem wW_word {rf : Bool} {bs : List UInt8} {v : Nat} : (wW rf).word bs v = (v, bs ++ be 8 v) := rfl
theorem wW_bool {rf : Bool} {bs : List UInt8} {b : Bool} : (wW rf).bool bs b = (b, bs ++ [if b then 1 else 0]) := rfl
theorem wW_str {rf : Bool} {bs : List UInt8} {s : ByteArray} : (wW rf).str bs s = (s, bs ++ (be 4 s.size ++ s.data.toList)) := rfl
theorem wW_count {rf : Bool} {bs : List UInt8} {n : Nat} : (wW rf).count bs n = (n, bs ++ be 4 n) := rfl
theorem walW {rf : Bool} : ∀ {s : Sch} {us : List LV} {bs : List UInt8}, ok s us → wal (wW rf) s us bs = (nz s us, bs ++ enc s us)
  | .nil, [], bs, _ => by simp only [wal, nz, enc, List.append_nil]; rfl
  | .int r, .int k v :: us, bs, h => by
    simp only [ok] at h
    obtain ⟨rfl, -, -, h⟩ := h
    simp only [wal, intOf, wW_int, walW h, nz, enc, List.append_assoc]; rfl
  | .word r, .int k v :: us, bs, h => by
    simp only [ok] at h
    obtain ⟨rfl, h1, -, h⟩ := h
    simp only [wal, natOf, wW_word, walW h, nz, enc, List.append_assoc, Int.toNat_of_nonneg h1]; rfl
  | .bool r, .bool b :: us, bs, h => by
    simp only [ok] at h
    show (LV.bool b :: (wal (wW rf) r us (bs ++ [if b then 1 else 0] : List UInt8)).1, (wal (wW rf) r us (bs ++ [if b then 1 else 0] : List UInt8)).2) = _
    rw [walW (s := r) h]
    simp only [nz, enc, List.append_assoc, List.cons_append, List.nil_append]; rfl
  | .str r, .str b :: us, bs, h => by
    simp only [ok] at h
    simp only [wal, bytesOf, wW_str, walW h.2, nz, enc, List.append_assoc]; rfl
  | .sl e r, .sl f es :: us, bs, h => by
    simp only [ok] at h
    have hN : ∀ (es : List (List LV)) (bs : List UInt8), (∀ x ∈ es, ok e x) → walN (wal (wW rf) e) (zs e) es.length es bs = (es.map (nz e), bs ++ es.flatMap (enc e)) := by
      intro es
      induction es with
      | nil => intro bs _; simp only [List.length_nil, walN, List.map_nil, List.flatMap_nil, List.append_nil]; rfl
      | cons x es ih =>
        intro bs hx
        have hx0 := hx x (List.mem_cons_self ..)
        simp only [List.length_cons, walN, List.headD_cons, List.tail_cons, walW hx0, List.map_cons, List.flatMap_cons]
        have hi := ih (bs ++ enc e x) (fun y hy => hx y (List.mem_cons_of_mem _ hy))
        rw [hi]
        simp only [List.append_assoc]; rfl
    simp only [wal, elemsOf, wW_count, nz, enc]
    rw [hN es _ h.2.1]
    simp only [walW h.2.2, List.append_assoc]; rfl
theorem kSch_off {k : Int} {off : Nat} {s : Sch} (h : kSch k = some (off, s)) : (k = 1 ∧ off = 1 ∧ s = sI) ∨ (k = 2 ∧ off = 2 ∧ s = sItem) ∨ (k = 3 ∧ off = 12 ∧ s = .int (.str sPer)) ∨ (k = 4 ∧ off = 21 ∧ s = sCyc) := by
  unfold kSch at h
  by_cases h1 : k = 1
  · simp [h1] at h; exact .inl ⟨h1, h.1.symm, h.2.symm⟩
  · by_cases h2 : k = 2
    · simp [h2] at h; exact .inr (.inl ⟨h2, h.1.symm, h.2.symm⟩)
    · by_cases h3 : k = 3
      · simp [h3] at h; exact .inr (.inr (.inl ⟨h3, h.1.symm, h.2.symm⟩))
      · by_cases h4 : k = 4
        · simp [h4] at h; exact .inr (.inr (.inr ⟨h4, h.1.symm, h.2.symm⟩))
        · simp [h1, h2, h3, h4] at h
theorem bodyE_some {us pre u post : List LV} {k : Int} {off : Nat} {s : Sch} (hk0 : us.getD 0 .any = V k) (hk : kSch k = some (off, s)) (hus : us = pre ++ (u ++ post)) (hpre : pre.length = off) (hok : ok s u) : bodyE us = some (b8 k :: enc s u) := by
  have hd : us.drop off = u ++ post := by rw [hus, ← hpre, List.drop_left]
  unfold bodyE
  rw [hk0]
  rcases kSch_off hk with ⟨rfl, rfl, rfl⟩ | ⟨rfl, rfl, rfl⟩ | ⟨rfl, rfl, rfl⟩ | ⟨rfl, rfl, rfl⟩ <;> simp only [intOf, Int.reduceEq, if_true, if_false, hd, enc_nil_app hok]
theorem bodyE_none {us : List LV} {k : Int} (hk0 : us.getD 0 .any = V k) (hk : kSch k = none) : bodyE us = none := by
  unfold bodyE
  rw [hk0]
  unfold kSch at hk
  simp only [intOf]
  split at hk
  · cases hk
  · split at hk
    · cases hk
    · split at hk
      · cases hk
      · split at hk
        · cases hk
        · simp only [*, if_false]

theorem Lwp_store {N : Nat} {c : Code} {Q : Exit → Env → LS → Prop} {env : Env} {S : LS} (I : LS → Prop) (h0 : I S) (h : ∀ S1, I S1 → Lwp Tryz.prog N c Q env S1) : Lwp Tryz.prog N c Q env S := h S h0

set_option maxHeartbeats 400000 in
theorem SEncode_ok {S : LS} (us : List LV) (h : ok sLog us) (hl : ∀ bs, bodyE us = some bs → bs.length ≤ 1000000000) : LCalls Tryz.prog 16 [.agg us] S (EncR us S) := by
  refine LCalls_introK 0 Tryz.func16 rfl (by kernel_rfl) rfl fun RR hRR => ?_
  have hlen := okLog_len h
  have htk : us.take 38 = us := List.take_of_length_le (by omega)
  unfold EncR at hRR
  obtain ⟨us', hus⟩ := log_kind h
  obtain ⟨k, hk⟩ : ∃ k, intOf (us.getD 0 .any) = k := ⟨_, rfl⟩
  rw [hk] at hus
  have g0 : us.getD 0 .any = V k := by rw [hus]; rfl
  have e8 := u8_wrap k
  refine Lwp_seq fun KK0 hKK0 => ?_
  refine LregionG [none, none, none] (by kernel_rfl) (by kernel_rfl) ?_
  simp -dsimp only [go_sem, ↓reduceIte, hlen]
  repeat with_reducible refine And.intro (by first | omega | decide) ?_
  refine hKK0 _ _ ?_
  try clear hKK0 KK0
  refine Lwp_seq fun KK1 hKK1 => ?_
  refine LdrawE [1,2,3,4,0,5,6,7,8] [(S.length, (38, [us]))] none (by kernel_rfl) (by kernel_rfl) (by kernel_rfl) (by kernel_rfl) (by simp [Watch.holds]) ?_
  simp -dsimp only [go_sem, ↓reduceIte, hlen, g0, e8]
  refine ⟨⟨1, 1, _, ⟨rfl, rfl, rfl⟩, by decide⟩, ?_⟩
  repeat with_reducible refine And.intro (by first | omega | decide | assumption) ?_
  refine exe_append_of ?_
  simp -dsimp only [go_sem, ↓reduceIte, go_sem]
  refine ⟨⟨1, 1, _, ⟨rfl, rfl, rfl⟩, rfl, _, ⟨rfl, rfl⟩, by decide, by decide⟩, ?_⟩
  refine hKK1 _ _ ?_
  try clear hKK1 KK1
  refine Lwp_seq fun KK2 hKK2 => ?_
  refine Lwp_seq fun KK3 hKK3 => ?_
  refine Lwp_store (fun S1 => Keeps S S1 [] ∧ S1[S.length]? = some (some (38, [us])) ∧ (wW true).inv S1 (S.length + 3) [S.length + 3, S.length + 2] [0, 0, 0, 0, b8 k]) ⟨Keeps.app _ _ _, by simp, .ref (S.length + 2) 0 5, by simp, ⟨by simp [u8c], .inr ⟨S.length + 2, Nat.zero_le _, rfl, by simp [u8c]⟩⟩, by simp [rowIds], rfl, by simp [rowIds]⟩ ?_
  rintro S1 ⟨hK1, hS1, hi⟩
  refine LregionG [none, none, none, none] (by kernel_rfl) (by kernel_rfl) ?_
  simp -dsimp only [go_sem, ↓reduceIte]
  refine And.intro (by kernel_rfl) ?_
  cases hks : kSch k
  · skip
    have hwk := Walk_none (wW true) wW_law hi (by simp) hS1 g0 (by omega) hks
    rw [wW_ty] at hwk
    refine LCalls.k hwk ?_
    rintro _ _ ⟨rfl, rfl⟩
    rw [bodyE_none g0 hks] at hRR
    simp -dsimp only [go_sem, ↓reduceIte]
    refine hKK3 _ _ ?_
    try clear hKK3 KK3
    refine Lwp_cond (by simp only [go_sem, ↓reduceIte]; rfl) (fun ht => ?_) (fun hf => ?_)
    · skip
      
      refine Lwp_seq fun KK4 hKK4 => ?_
      refine LregionG [none, none] (by kernel_rfl) (by kernel_rfl) ?_
      simp -dsimp only [go_sem, ↓reduceIte]
      repeat with_reducible refine And.intro (by first | omega | decide) ?_
      refine hKK4 _ _ ?_
      try clear hKK4 KK4
      refine Lwp_ret ?_
      simp only [LThen, LBlock, LPost, Tryz.results16]
      simp -dsimp only [go_sem, ↓reduceIte]
      exact ret_keep (hRR _ _ ⟨rfl, hK1⟩)
    · skip
      cases hf
  · skip
    rename_i p
    obtain ⟨off, s⟩ := p
    obtain ⟨pre, u, post, hcells, hpre, hok, -, -⟩ := log_split h (off := off) (s := s) (by rw [hk]; exact hks)
    have hbE := bodyE_some g0 hks hcells hpre hok
    have hbl := hl _ hbE
    rw [hbE] at hRR
    simp only [] at hRR
    have hwk := Walk_some (wW true) wW_law hi (by simp) hS1 g0 (by omega) hcells hpre hok hks (by rw [walW hok]; simp only [List.length_cons] at hbl; show List.length (_ ++ _) ≤ _; simp only [List.length_append, List.length_cons, List.length_nil]; omega)
    rw [wW_ty] at hwk
    refine LCalls.k hwk ?_
    rintro _ S2 ⟨rfl, -, own2, us2, ⟨u', hw', hacc', hwu', rfl, hrf⟩, -, -, -, hK2, hown⟩
    rw [walW hok] at hacc'
    obtain ⟨body, hbody⟩ : ∃ b, b = b8 k :: enc s u := ⟨_, rfl⟩
    have hst : ([0, 0, 0, 0, b8 k] ++ enc s u : List UInt8) = [0, 0, 0, 0] ++ body := by rw [hbody]; rfl
    rw [← hbody] at hbl hRR
    have hK3 : Keeps S S2 [] := ⟨Nat.le_trans hK1.1 hK2.1, fun j hj _ => (hK2.2 j (Nat.lt_of_lt_of_le hj hK1.1) (by simp; omega)).trans (hK1.2 j hj (by simp))⟩
    have hacc2 : RowS S2 0 u' 1 (([0, 0, 0, 0] ++ body).map u8c) := hst ▸ hacc'
    have ⟨hr1, hr2⟩ := hacc2
    rcases hr2 with rfl | ⟨jd, -, rfl, hj⟩
    · exact absurd rfl (hrf rfl)
    have hjl := lt_of_get hj
    have hjS : S.length ≤ jd := by
      rcases hown jd (by simp [rowIds]) with h | h
      · simp at h; omega
      · have := hK1.1; omega
    clear hown
    have hwl := lt_of_get hw'
    have hwj : ¬ S.length + 3 = jd := fun e => hwu' (by rw [e]; simp [rowIds])
    have hln : (([0, 0, 0, 0] ++ body).map u8c).length = 4 + body.length := by simp; omega
    rw [hln] at hw'
    have e1 : IntKind.i64.wrap (((4 + body.length : Nat) : Int) + 4) = ((body.length + 8 : Nat) : Int) := by rw [w64 (by omega) (by omega)]; omega
    have e2 : IntKind.i64.wrap (((4 + body.length : Nat) : Int) - 4) = (body.length : Int) := by rw [w64 (by omega) (by omega)]; omega
    have e3 := u64_wrapN (n := body.length) (by clear e1 e2; omega)
    have hm4 : min 4 (4 + body.length) = 4 := by omega
    have hbe4 : (List.map u8c (be 4 body.length)).take 4 = List.map u8c (be 4 body.length) := List.take_of_length_le (by simp [be_length])
    clear hacc' hst hr1 hcells hwk hi hwu' hrf hok hbE hS1 hK2
    simp -dsimp only [go_sem, ↓reduceIte]
    refine hKK3 _ _ ?_
    try clear hKK3 KK3
    refine Lwp_cond (by simp only [go_sem, ↓reduceIte]; rfl) (fun ht => ?_) (fun hf => ?_)
    · skip
      cases ht
    · skip
      refine Lwp_skip ?_
      try simp -dsimp only [go_sem, ↓reduceIte]
      refine hKK2 _ _ ?_
      try clear hKK2 KK2
      refine Lwp_seq fun KK5 hKK5 => ?_
      refine Lwp_seq fun KK6 hKK6 => ?_
      refine LregionG [none, none, none, none, none, none, none] (by kernel_rfl) (by kernel_rfl) ?_
      simp -dsimp only [go_sem, ↓reduceIte, hw', e1]
      repeat with_reducible refine And.intro (by first | omega | decide) ?_
      refine hKK6 _ _ ?_
      try clear hKK6 KK6
      refine Lwp_cond (by simp only [go_sem, ↓reduceIte]; rfl) (fun ht => ?_) (fun hf => ?_)
      · skip
        have hgt : ¬ body.length + 8 ≤ 1048576 := by simp at ht; omega
        simp only [hgt, if_false] at hRR
        refine Lwp_seq fun KK7 hKK7 => ?_
        refine LregionG [none, none] (by kernel_rfl) (by kernel_rfl) ?_
        simp -dsimp only [go_sem, ↓reduceIte]
        repeat with_reducible refine And.intro (by first | omega | decide) ?_
        refine hKK7 _ _ ?_
        try clear hKK7 KK7
        refine Lwp_ret ?_
        simp only [LThen, LBlock, LPost, Tryz.results16]
        simp -dsimp only [go_sem, ↓reduceIte]
        exact ret_keep (hRR _ _ ⟨rfl, hK3⟩)
      · skip
        have hle : body.length + 8 ≤ 1048576 := by simp at hf; omega
        simp only [hle, if_true] at hRR
        refine Lwp_skip ?_
        try simp -dsimp only [go_sem, ↓reduceIte]
        refine hKK5 _ _ ?_
        try clear hKK5 KK5
        refine Lwp_seq fun KK8 hKK8 => ?_
        refine LdrawE [0,1,2,3,4,5,6,7,8,9,10,11,12] [(S.length + 3, (1, [[.ref jd 0 (4 + body.length)]]))] none (by kernel_rfl) (by kernel_rfl) (by kernel_rfl) (by kernel_rfl) (by simp [Watch.holds, hw']) ?_
        simp -dsimp only [go_sem, ↓reduceIte, e2, e3]
        refine Put.kk (SPut4 body.length (by clear e1 e2 e3; omega)) (NewR.nil S2) (by simp only [List.length_nil, be_length]; omega) ?_
        rintro r3 S3 hp3
        have hj3 := hp3.2.1.get hj (by simp [rowIds])
        have hw3 := hp3.2.1.get hw' (by simp [rowIds])
        have hK4 : Keeps S S3 [] := hK3.trans hp3.2.1 (ids'' := []) (fun _ _ h => h.elim id id)
        have hrd3 := (NewR.acc hp3).rd
        simp only [List.nil_append] at hrd3
        rcases hrd3 with ⟨f3, rfl⟩ | ⟨i3, rfl, hi3⟩
        · skip
          skip
          simp -dsimp only [go_sem, ↓reduceIte, hw3, hj3, be_length, hm4, hbe4, List.drop_succ_cons, List.drop_zero, Nat.zero_add]
          refine ⟨⟨fun f hf => ?_, by omega⟩, by rw [List.getElem?_set_ne (fun e => hwj e.symm)]; exact hw3, ?_⟩
          · obtain ⟨y, _, rfl⟩ := List.mem_map.1 hf; rfl
          refine hKK8 _ _ ?_
          try clear hKK8 KK8
          refine Lwp_seq fun KK9 hKK9 => ?_
          refine Lwp_store (fun S4 => Keeps S S4 [] ∧ S4[S.length + 3]? = some (some (1, [[.ref jd 0 (4 + body.length)]])) ∧ Acc S4 (.ref jd 0 (4 + body.length)) (be 4 body.length ++ body)) ⟨⟨by rw [List.length_set]; exact hK4.1, fun j hj _ => by rw [List.getElem?_set_ne (by omega)]; exact hK4.2 j hj (by simp)⟩, by rw [List.getElem?_set_ne (fun e => hwj e.symm)]; exact hw3, fun e he => ?_, .inr ⟨jd, Nat.zero_le _, by simp [be_length], by rw [List.getElem?_set_self (lt_of_get hj3), List.map_append]⟩⟩ ?_
          · obtain ⟨y, _, rfl⟩ := List.mem_map.1 he; rfl
          rintro S4 ⟨hK5, hw5, hacc5⟩
          clear hj3 hw3 hK4 hp3 hj hw' hacc2 hK3 hK1
          refine LdrawE [0,1,2,3,4,5,6,7,8,9,10,11,12] [(S.length + 3, (1, [[.ref jd 0 (4 + body.length)]]))] none (by kernel_rfl) (by kernel_rfl) (by kernel_rfl) (by kernel_rfl) (by simp [Watch.holds, hw5]) ?_
          simp -dsimp only [go_sem, ↓reduceIte]
          refine (SChk_ok hacc5.rd (by simp only [List.length_append, be_length]; omega)).k ?_
          rintro _ _ ⟨rfl, rfl⟩
          have hcl := chkN_lt (be 4 body.length ++ body)
          have e4 := u64_wrapN (n := chkN (be 4 body.length ++ body)) (by omega)
          simp -dsimp only [go_sem, ↓reduceIte, hw5, e4]
          repeat with_reducible refine And.intro (by first | omega | decide | assumption) ?_
          refine LCalls.k (SPut4 (chkN (be 4 body.length ++ body)) (by omega) _ _ _ hacc5 (by simp only [List.length_append, be_length]; omega)) ?_
          rintro r5 S5 hp5
          have hw6 := hp5.2.1.get hw5 (by simp [rowIds]; omega)
          simp -dsimp only [go_sem, ↓reduceIte, hw6]
          refine hKK9 _ _ ?_
          try clear hKK9 KK9
          refine Lwp_ret ?_
          simp only [LThen, LBlock, LPost, Tryz.results16]
          simp -dsimp only [go_sem, ↓reduceIte]
          refine ret_keep (hRR _ _ ⟨_, rfl, hp5.1, hK5.trans hp5.2.1 (fun j hj h => h.elim id fun h => by simp [rowIds] at h; omega), fun id hid => .inr ?_, fun h => absurd rfl h⟩)
          have hl4 := hK5.1
          rcases hp5.2.2.1 id hid with h | h
          · simp [rowIds] at h; omega
          · omega
        · skip
          skip
          simp -dsimp only [go_sem, ↓reduceIte, hw3, hj3, hi3, be_length, hm4, hbe4, List.drop_succ_cons, List.drop_zero, Nat.zero_add]
          refine ⟨⟨fun f hf => ?_, by omega⟩, by rw [List.getElem?_set_ne (fun e => hwj e.symm)]; exact hw3, ?_⟩
          · obtain ⟨y, _, rfl⟩ := List.mem_map.1 hf; rfl
          refine hKK8 _ _ ?_
          try clear hKK8 KK8
          refine Lwp_seq fun KK10 hKK10 => ?_
          refine Lwp_store (fun S4 => Keeps S S4 [] ∧ S4[S.length + 3]? = some (some (1, [[.ref jd 0 (4 + body.length)]])) ∧ Acc S4 (.ref jd 0 (4 + body.length)) (be 4 body.length ++ body)) ⟨⟨by rw [List.length_set]; exact hK4.1, fun j hj _ => by rw [List.getElem?_set_ne (by omega)]; exact hK4.2 j hj (by simp)⟩, by rw [List.getElem?_set_ne (fun e => hwj e.symm)]; exact hw3, fun e he => ?_, .inr ⟨jd, Nat.zero_le _, by simp [be_length], by rw [List.getElem?_set_self (lt_of_get hj3), List.map_append]⟩⟩ ?_
          · obtain ⟨y, _, rfl⟩ := List.mem_map.1 he; rfl
          rintro S4 ⟨hK5, hw5, hacc5⟩
          clear hj3 hw3 hK4 hp3 hj hw' hacc2 hK3 hK1
          refine LdrawE [0,1,2,3,4,5,6,7,8,9,10,11,12] [(S.length + 3, (1, [[.ref jd 0 (4 + body.length)]]))] none (by kernel_rfl) (by kernel_rfl) (by kernel_rfl) (by kernel_rfl) (by simp [Watch.holds, hw5]) ?_
          simp -dsimp only [go_sem, ↓reduceIte]
          refine (SChk_ok hacc5.rd (by simp only [List.length_append, be_length]; omega)).k ?_
          rintro _ _ ⟨rfl, rfl⟩
          have hcl := chkN_lt (be 4 body.length ++ body)
          have e4 := u64_wrapN (n := chkN (be 4 body.length ++ body)) (by omega)
          simp -dsimp only [go_sem, ↓reduceIte, hw5, e4]
          repeat with_reducible refine And.intro (by first | omega | decide | assumption) ?_
          refine LCalls.k (SPut4 (chkN (be 4 body.length ++ body)) (by omega) _ _ _ hacc5 (by simp only [List.length_append, be_length]; omega)) ?_
          rintro r5 S5 hp5
          have hw6 := hp5.2.1.get hw5 (by simp [rowIds]; omega)
          simp -dsimp only [go_sem, ↓reduceIte, hw6]
          refine hKK10 _ _ ?_
          try clear hKK10 KK10
          refine Lwp_ret ?_
          simp only [LThen, LBlock, LPost, Tryz.results16]
          simp -dsimp only [go_sem, ↓reduceIte]
          refine ret_keep (hRR _ _ ⟨_, rfl, hp5.1, hK5.trans hp5.2.1 (fun j hj h => h.elim id fun h => by simp [rowIds] at h; omega), fun id hid => .inr ?_, fun h => absurd rfl h⟩)
          have hl4 := hK5.1
          rcases hp5.2.2.1 id hid with h | h
          · simp [rowIds] at h; omega
          · omega

end Go.Proofs.YtdhngmldmalbbaaGreat
end
section
set_option linter.all false
namespace Go.Proofs.YtdhngmldmalbbaaGreat
open Go.Lift Go.RowKit Go.Store
set_option linter.unusedSimpArgs false
set_option linter.unusedVariables false

/-- a walk of the writer over an entry. -/
theorem WalkW {rf : Bool} {S : LS} {w l : Nat} {own : List Nat} {us : List LV} {bs : List UInt8} (h : ok sLog us) (hi : (wW rf).inv S w own bs) (hl : l ∉ own) (hS : S[l]? = some (some (38, [us]))) (hb : bs.length + ((bodyE us).getD []).length ≤ 1073741824) :
    LCalls Tryz.prog 28 [.iface 82 (.ptr w 0 0), .ptr l 0 0] S (fun r S' => ∃ own', (wW rf).inv S' w own' (bs ++ ((bodyE us).getD []).tail) ∧ Keeps S S' (l :: own) ∧ ∀ id ∈ own', id ∈ own ∨ S.length ≤ id) := by
  have hlen := okLog_len h
  obtain ⟨us', hus⟩ := log_kind h
  obtain ⟨k, hk⟩ : ∃ k, intOf (us.getD 0 .any) = k := ⟨_, rfl⟩
  rw [hk] at hus
  have g0 : us.getD 0 .any = V k := by rw [hus]; rfl
  cases hks : kSch k with
  | none =>
    have hwk := Walk_none (wW rf) wW_law hi hl hS g0 (by omega) hks
    rw [wW_ty] at hwk
    refine hwk.mono ?_
    rintro _ _ ⟨rfl, rfl⟩
    rw [bodyE_none g0 hks]
    exact ⟨own, by simpa using hi, Keeps.refl _ _, fun _ h => .inl h⟩
  | some p =>
    obtain ⟨off, s⟩ := p
    obtain ⟨pre, u, post, hcells, hpre, hok, -, -⟩ := log_split h (off := off) (s := s) (by rw [hk]; exact hks)
    have hbE := bodyE_some g0 hks hcells hpre hok
    rw [hbE] at hb ⊢
    simp only [Option.getD_some, List.length_cons] at hb
    have hwk := Walk_some (wW rf) wW_law hi hl hS g0 (by omega) hcells hpre hok hks (by rw [walW hok]; show List.length (_ ++ _) ≤ _; simp only [List.length_append]; omega)
    rw [wW_ty] at hwk
    refine hwk.mono ?_
    rintro _ S2 ⟨rfl, -, own2, us2, hi2, -, -, -, hK2, hown⟩
    rw [walW hok] at hi2
    exact ⟨own2, hi2, hK2, hown⟩
theorem body_eq {us vs : List LV} (h : ok sLog us) (hv : ok sLog vs) (hk : intOf (us.getD 0 .any) = intOf (vs.getD 0 .any)) : decide (((bodyE us).getD []).tail = ((bodyE vs).getD []).tail) = sameE us vs := by
  have hE : ∀ {us : List LV} (h : ok sLog us), (bodyE us).getD [] = [] ∧ kSch (intOf (us.getD 0 .any)) = none ∨ (∃ t, (bodyE us).getD [] = b8 (intOf (us.getD 0 .any)) :: t) ∧ kSch (intOf (us.getD 0 .any)) ≠ none := by
    intro us h
    obtain ⟨us', hus⟩ := log_kind h
    obtain ⟨k, hk⟩ : ∃ k, intOf (us.getD 0 .any) = k := ⟨_, rfl⟩
    rw [hk] at hus ⊢
    have g0 : us.getD 0 .any = V k := by rw [hus]; rfl
    cases hks : kSch k with
    | none => exact .inl ⟨by rw [bodyE_none g0 hks]; rfl, rfl⟩
    | some p =>
      obtain ⟨off, s⟩ := p
      obtain ⟨pre, u, post, hcells, hpre, hok, -, -⟩ := log_split h (off := off) (s := s) (by rw [hk]; exact hks)
      exact .inr ⟨⟨_, by rw [bodyE_some g0 hks hcells hpre hok]; rfl⟩, by simp⟩
  unfold sameE
  rw [hk, show decide (intOf (vs.getD 0 .any) = intOf (vs.getD 0 .any)) = true by simp, Bool.true_and]
  rcases hE h with ⟨e1, n1⟩ | ⟨⟨t1, e1⟩, n1⟩ <;> rcases hE hv with ⟨e2, n2⟩ | ⟨⟨t2, e2⟩, n2⟩
  · rw [e1, e2]; simp
  · rw [hk] at n1; exact absurd n1 n2
  · rw [hk] at n1; exact absurd n2 n1
  · rw [e1, e2, hk]; simp

end Go.Proofs.YtdhngmldmalbbaaGreat
end
section
set_option linter.all false
namespace Go.Proofs.YtdhngmldmalbbaaGreat
open Go.Lift Go.RowKit Go.Store
set_option linter.unusedSimpArgs false
set_option linter.unusedVariables false

/-- some bytes, where there are as many. -/
def rTake (st : List UInt8 × Bool) (k : Nat) : List UInt8 × (List UInt8 × Bool) := if st.2 = true ∨ st.1.length < k then ([], (st.1, true)) else (st.1.take k, (st.1.drop k, false))
theorem rTake_bad {bs : List UInt8} {k : Nat} : rTake (bs, true) k = ([], (bs, true)) := by simp [rTake]
theorem rTake_few {bs : List UInt8} {b : Bool} {k : Nat} (h : bs.length < k) : rTake (bs, b) k = ([], (bs, true)) := by simp [rTake, h]
theorem rTake_ok {bs : List UInt8} {k : Nat} (h : k ≤ bs.length) : rTake (bs, false) k = (bs.take k, (bs.drop k, false)) := by simp [rTake]; omega
theorem rTake_len (st : List UInt8 × Bool) (k : Nat) : (rTake st k).1.length ≤ k ∧ (rTake st k).1.length ≤ st.1.length ∧ (rTake st k).2.1.length ≤ st.1.length := by
  unfold rTake
  split
  · simp
  · simp only [List.length_take, List.length_drop]; omega
def rCount (st : List UInt8 × Bool) : Nat × (List UInt8 × Bool) :=
  if (rTake st 4).2.2 = true ∨ (rTake st 4).2.1.length / 4 < num (rTake st 4).1 then (0, ((rTake st 4).2.1, true)) else (num (rTake st 4).1, (rTake st 4).2)
/-- the reader. -/
def rR : Wk where
  ty := 90
  St := List UInt8 × Bool
  inv := fun S w own st => own = [w] ∧ st.1.length ≤ 1048576 ∧ ∃ f, S[w]? = some (some (2, [[.sl f (st.1.map u8c), .bool st.2]]))
  fits := fun _ => True
  int := fun st _ => (s64 (num (rTake st 8).1), (rTake st 8).2)
  word := fun st _ => (num (rTake st 8).1, (rTake st 8).2)
  bool := fun st _ => (num (rTake st 1).1 == 1, ((rTake st 1).2.1, (rTake st 1).2.2 || decide (1 < num (rTake st 1).1)))
  str := fun st _ => (strOf (rTake (rTake st 4).2 (num (rTake st 4).1)).1, (rTake (rTake st 4).2 (num (rTake st 4).1)).2)
  count := fun st _ => rCount st
  fInt := 120
  fWord := 122
  fBool := 118
  fText := 121
  fCount := 119

set_option maxHeartbeats 400000 in
theorem RTake_ok {S : LS} {w : Nat} {bs : List UInt8} {bad : Bool} {f : Bool} (k : Nat) (hk : k ≤ 4294967296) (hb : bs.length ≤ 1048576) (hw : S[w]? = some (some (2, [[.sl f (bs.map u8c), .bool bad]]))) : LCalls Tryz.prog 123 [.ptr w 0 0, V k] S (fun r S' => ∃ f' f2, r = .sl f' ((rTake (bs, bad) k).1.map u8c) ∧ S' = S.set w (some (2, [[.sl f2 ((rTake (bs, bad) k).2.1.map u8c), .bool (rTake (bs, bad) k).2.2]]))) := by
  refine LCalls_introK 0 Tryz.func123 rfl (by kernel_rfl) rfl fun RR hRR => ?_
  have hwl := lt_of_get hw
  have hk0 : ¬ (k : Int) < 0 := by omega
  have hd1 : ∀ (e : List LV), e ∈ (List.map u8c bs).head? → e.length = 1 := fun e he => by
    obtain ⟨y, _, rfl⟩ := List.mem_map.1 (List.mem_of_mem_head? he); rfl
  refine Lwp_seq fun KK0 hKK0 => ?_
  refine LregionG [none] (by kernel_rfl) (by kernel_rfl) ?_
  simp -dsimp only [go_sem, ↓reduceIte, hw]
  repeat with_reducible refine And.intro (by first | omega | decide) ?_
  refine hKK0 _ _ ?_
  try clear hKK0 KK0
  refine Lwp_seq fun KK1 hKK1 => ?_
  refine Lwp_seq fun KK2 hKK2 => ?_
  refine LregionG [none, none, none, none, none, some (10, false), some (10, false), none, none, some (14, false), some (14, false), some (14, false), some (14, false), some (14, false), some (14, false), some (14, false), none] (by kernel_rfl) (by kernel_rfl) ?_
  simp -dsimp only [go_sem, ↓reduceIte, hw, hw]
  cases bad
  · skip
    simp -dsimp only [go_sem, ↓reduceIte, hw, hk0]
    refine hKK2 _ _ ?_
    try clear hKK2 KK2
    refine Lwp_cond (by simp only [go_sem, ↓reduceIte, hw]; rfl) (fun ht => ?_) (fun hf => ?_)
    · skip
      have hlt : bs.length < k := by simpa using ht
      refine Lwp_seq fun KK3 hKK3 => ?_
      refine LregionG [none, none, none, none] (by kernel_rfl) (by kernel_rfl) ?_
      simp -dsimp only [go_sem, ↓reduceIte, hw]
      repeat with_reducible refine And.intro (by first | omega | decide) ?_
      refine hKK3 _ _ ?_
      try clear hKK3 KK3
      refine Lwp_seq fun KK4 hKK4 => ?_
      refine LregionG [none] (by kernel_rfl) (by kernel_rfl) ?_
      simp -dsimp only [go_sem, ↓reduceIte, hw]
      repeat with_reducible refine And.intro (by first | omega | decide) ?_
      refine hKK4 _ _ ?_
      try clear hKK4 KK4
      refine Lwp_ret ?_
      simp only [LThen, LBlock, LPost, Tryz.results123]
      simp -dsimp only [go_sem, ↓reduceIte, hw]
      rw [rTake_few hlt] at hRR
      exact ret_keep (hRR _ _ ⟨_, _, rfl, rfl⟩)
    · skip
      have hle : k ≤ bs.length := by simpa using hf
      refine Lwp_skip ?_
      try simp -dsimp only [go_sem, ↓reduceIte, hw]
      refine hKK1 _ _ ?_
      try clear hKK1 KK1
      refine Lwp_seq fun KK5 hKK5 => ?_
      refine LregionG [none, none, none, none, none, none, none] (by kernel_rfl) (by kernel_rfl) ?_
      simp -dsimp only [go_sem, ↓reduceIte, hw]
      refine ⟨⟨hle, hd1⟩, ?_⟩
      refine hKK5 _ _ ?_
      try clear hKK5 KK5
      refine Lwp_seq fun KK6 hKK6 => ?_
      refine LregionG [none, none, none, none, none, none, none, none, none, none] (by kernel_rfl) (by kernel_rfl) ?_
      simp -dsimp only [go_sem, ↓reduceIte, hw]
      refine ⟨⟨hle, Nat.le_refl _, hd1⟩, ?_⟩
      refine hKK6 _ _ ?_
      try clear hKK6 KK6
      refine Lwp_seq fun KK7 hKK7 => ?_
      refine LregionG [none, none] (by kernel_rfl) (by kernel_rfl) ?_
      simp -dsimp only [go_sem, ↓reduceIte, hw]
      repeat with_reducible refine And.intro (by first | omega | decide) ?_
      refine hKK7 _ _ ?_
      try clear hKK7 KK7
      refine Lwp_ret ?_
      simp only [LThen, LBlock, LPost, Tryz.results123]
      simp -dsimp only [go_sem, ↓reduceIte, hw]
      rw [rTake_ok hle] at hRR
      have hdr : List.take (bs.length - k) (List.drop k (bs.map u8c)) = (bs.drop k).map u8c := by rw [List.map_drop]; exact List.take_of_length_le (by simp)
      exact ret_keep (hRR _ _ ⟨_, _, by rw [List.map_take, Nat.sub_zero], by rw [hdr]⟩)
  · skip
    simp -dsimp only [go_sem, ↓reduceIte, hw, hk0]
    refine hKK2 _ _ ?_
    try clear hKK2 KK2
    refine Lwp_cond (by simp only [go_sem, ↓reduceIte, hw]; rfl) (fun ht => ?_) (fun hf => ?_)
    · skip
      refine Lwp_seq fun KK8 hKK8 => ?_
      refine LregionG [none, none, none, none] (by kernel_rfl) (by kernel_rfl) ?_
      simp -dsimp only [go_sem, ↓reduceIte, hw]
      repeat with_reducible refine And.intro (by first | omega | decide) ?_
      refine hKK8 _ _ ?_
      try clear hKK8 KK8
      refine Lwp_seq fun KK9 hKK9 => ?_
      refine LregionG [none] (by kernel_rfl) (by kernel_rfl) ?_
      simp -dsimp only [go_sem, ↓reduceIte, hw]
      repeat with_reducible refine And.intro (by first | omega | decide) ?_
      refine hKK9 _ _ ?_
      try clear hKK9 KK9
      refine Lwp_ret ?_
      simp only [LThen, LBlock, LPost, Tryz.results123]
      simp -dsimp only [go_sem, ↓reduceIte, hw]
      rw [rTake_bad] at hRR
      exact ret_keep (hRR _ _ ⟨_, _, rfl, rfl⟩)
    · skip
      cases hf


theorem rR_ty : rR.ty = 90 := rfl
theorem rR_int {st : List UInt8 × Bool} {v : Int} : rR.int st v = (s64 (num (rTake st 8).1), (rTake st 8).2) := rfl
theorem rR_word {st : List UInt8 × Bool} {v : Nat} : rR.word st v = (num (rTake st 8).1, (rTake st 8).2) := rfl
/-- bytes are taken. -/
theorem RTakeI {S : LS} {w : Nat} {own : List Nat} {st : List UInt8 × Bool} (hi : rR.inv S w own st) (k : Nat) (hk : k ≤ 4294967296) :
    LCalls Tryz.prog 123 [.ptr w 0 0, V k] S (fun r S' => ∃ f, r = .sl f ((rTake st k).1.map u8c) ∧ rR.inv S' w [w] (rTake st k).2 ∧ Keeps S S' [w]) := by
  obtain ⟨rfl, hb, f, hw⟩ := hi
  obtain ⟨bs, bad⟩ := st
  refine (RTake_ok k hk hb hw).mono ?_
  rintro _ _ ⟨f1, f2, rfl, rfl⟩
  exact ⟨f1, rfl, ⟨rfl, Nat.le_trans (rTake_len (bs, bad) k).2.2 hb, f2, List.getElem?_set_self (lt_of_get hw)⟩, Keeps.set _ (List.mem_singleton_self _)⟩
theorem rprim {S S2 : LS} {w l n : Nat} {pre post : List LV} {s : Sch} {st : List UInt8 × Bool} {st' : List UInt8 × Bool} {off : Nat} {cells : List LV} {u : LV} (hcells : cells = pre ++ ([u] ++ post)) (hpre : pre.length = off) {u' : LV} (hok : ok s [u]) (hl : l ∉ [w]) (hlS : S2[l]? = some (some (n, [cells]))) (hi : rR.inv S2 w [w] st') (hK : Keeps S S2 [w])
    (h1 : wal rR s [u] st = (nz s [u'], st')) (h2 : ok s [u']) : WP rR S w l n pre [w] s [u] st post (S2.set l (some (n, [ovr cells off [u']]))) := by
  have hlw : l ≠ w := by simpa using hl
  refine ⟨hok, [w], [u'], ?_, by rw [h1], h2, ?_, ⟨by rw [List.length_set]; exact hK.1, fun j hj hm => ?_⟩, fun id hid => .inl hid⟩
  · rw [h1]
    obtain ⟨-, hb, f, hw⟩ := hi
    exact ⟨rfl, hb, f, by rw [List.getElem?_set_ne hlw]; exact hw⟩
  · rw [List.getElem?_set_self (lt_of_get hlS), hcells, ← hpre]
    congr 4
    exact ovr_mid
  · simp only [List.mem_cons, List.not_mem_nil, or_false, not_or] at hm
    rw [List.getElem?_set_ne (fun e => hm.1 e.symm)]; exact hK.2 j hj (by simpa using hm.2)
theorem s64_isI (n : Nat) : isI (s64 n) := w64_range _

set_option maxHeartbeats 400000 in
theorem RInt_ok : WOk rR aP 120 sI := by
  refine WOk_intro 0 Tryz.func120 rfl (by kernel_rfl) (fun _ _ _ => rfl) fun S w l n off pre us post own st RR hi hl hS hpre hok hfit hRR => ?_
  have hlS := lt_of_get hS
  obtain ⟨bs, rfl⟩ : ∃ b : List UInt8 × Bool, b = st := ⟨st, rfl⟩
  have hi0 := hi
  obtain ⟨rfl, hbl, fw, hw⟩ := hi
  obtain ⟨v, us, rfl, iv, h0⟩ := ok_int hok
  obtain rfl := ok_nil h0
  obtain ⟨cells, hcells⟩ : ∃ c, c = pre ++ ([V v] ++ post) := ⟨_, rfl⟩
  have hc1 : off < cells.length := by rw [hcells, ← hpre]; simp
  have hc2 : cells.getD off .any = V v := by rw [hcells, ← hpre]; simp [List.getD_eq_getElem?_getD]
  have hlw : l ≠ w := fun e => hl (e ▸ List.mem_cons_self ..)
  have hSc := hS
  rw [← hcells] at hSc
  clear h0
  refine LregionG [none, none, none, none, none, none, none] (by kernel_rfl) (by kernel_rfl) ?_
  simp -dsimp only [go_sem, ↓reduceIte]
  repeat with_reducible refine And.intro (by first | omega | decide | assumption) ?_
  refine LCalls.k (RTakeI hi0 8 (by decide)) ?_
  rintro _ S2 ⟨f2, rfl, hi2, hK2⟩
  have hl2 := hK2.get hSc (by simpa using hlw)
  have h8 := (rTake_len bs 8).1
  simp -dsimp only [go_sem, ↓reduceIte]
  repeat with_reducible refine And.intro (by first | omega | decide | assumption) ?_
  refine LCalls.k (SGet_ok _ (by omega) f2) ?_
  rintro _ S2 ⟨rfl, rfl⟩
  simp -dsimp only [go_sem, ↓reduceIte, hl2, hc1]
  simp only [LThen, LBlock, LPost, Tryz.results120]
  simp -dsimp only [go_sem, ↓reduceIte]
  refine ⟨by omega, ?_⟩
  exact ret_keep (hRR _ _ (rprim hcells hpre (u' := V (s64 (num (rTake bs 8).1))) hok hl hl2 hi2 hK2 rfl (okI1 (s64_isI _))))


theorem num8 {x : List UInt8} (h : x.length ≤ 8) : num x < 18446744073709551616 := Nat.lt_of_lt_of_le (num_lt x) (Nat.le_trans (Nat.pow_le_pow_right (by decide) h) (by decide))
theorem num4 {x : List UInt8} (h : x.length ≤ 4) : num x < 4294967296 := Nat.lt_of_lt_of_le (num_lt x) (Nat.le_trans (Nat.pow_le_pow_right (by decide) h) (by decide))

set_option maxHeartbeats 400000 in
theorem RWord_ok : WOk rR aP 122 (.word .nil) := by
  refine WOk_intro 0 Tryz.func122 rfl (by kernel_rfl) (fun _ _ _ => rfl) fun S w l n off pre us post own st RR hi hl hS hpre hok hfit hRR => ?_
  have hlS := lt_of_get hS
  obtain ⟨bs, rfl⟩ : ∃ b : List UInt8 × Bool, b = st := ⟨st, rfl⟩
  have hi0 := hi
  obtain ⟨rfl, hbl, fw, hw⟩ := hi
  obtain ⟨v, us, rfl, iv, h0⟩ := ok_word hok
  obtain rfl := ok_nil h0
  obtain ⟨cells, hcells⟩ : ∃ c, c = pre ++ ([.int .u64 v] ++ post) := ⟨_, rfl⟩
  have hc1 : off < cells.length := by rw [hcells, ← hpre]; simp
  have hc2 : cells.getD off .any = .int .u64 v := by rw [hcells, ← hpre]; simp [List.getD_eq_getElem?_getD]
  have hlw : l ≠ w := fun e => hl (e ▸ List.mem_cons_self ..)
  have hSc := hS
  rw [← hcells] at hSc
  clear h0
  refine LregionG [none, none, none, none, none, none] (by kernel_rfl) (by kernel_rfl) ?_
  simp -dsimp only [go_sem, ↓reduceIte]
  repeat with_reducible refine And.intro (by first | omega | decide | assumption) ?_
  refine LCalls.k (RTakeI hi0 8 (by decide)) ?_
  rintro _ S2 ⟨f2, rfl, hi2, hK2⟩
  have hl2 := hK2.get hSc (by simpa using hlw)
  have h8 := (rTake_len bs 8).1
  simp -dsimp only [go_sem, ↓reduceIte]
  repeat with_reducible refine And.intro (by first | omega | decide | assumption) ?_
  refine LCalls.k (SGet_ok _ (by omega) f2) ?_
  rintro _ S2 ⟨rfl, rfl⟩
  simp -dsimp only [go_sem, ↓reduceIte, hl2, hc1]
  simp only [LThen, LBlock, LPost, Tryz.results122]
  simp -dsimp only [go_sem, ↓reduceIte]
  refine ⟨by omega, ?_⟩
  exact ret_keep (hRR _ _ (rprim hcells hpre (u' := .int .u64 (num (rTake bs 8).1 : Nat)) hok hl hl2 hi2 hK2 rfl (⟨rfl, by omega, by have := num8 h8; omega, trivial⟩)))

set_option maxHeartbeats 400000 in
theorem RText_ok : WOk rR aP 121 sStr := by
  refine WOk_intro 0 Tryz.func121 rfl (by kernel_rfl) (fun _ _ _ => rfl) fun S w l n off pre us post own st RR hi hl hS hpre hok hfit hRR => ?_
  have hlS := lt_of_get hS
  obtain ⟨bs, rfl⟩ : ∃ b : List UInt8 × Bool, b = st := ⟨st, rfl⟩
  have hi0 := hi
  obtain ⟨rfl, hbl, fw, hw⟩ := hi
  obtain ⟨v, us, rfl, iv, h0⟩ := ok_str hok
  obtain rfl := ok_nil h0
  obtain ⟨cells, hcells⟩ : ∃ c, c = pre ++ ([.str v] ++ post) := ⟨_, rfl⟩
  have hc1 : off < cells.length := by rw [hcells, ← hpre]; simp
  have hc2 : cells.getD off .any = .str v := by rw [hcells, ← hpre]; simp [List.getD_eq_getElem?_getD]
  have hlw : l ≠ w := fun e => hl (e ▸ List.mem_cons_self ..)
  have hSc := hS
  rw [← hcells] at hSc
  clear h0
  refine LregionG [none, none, none, none, none, none, none, none, none, none] (by kernel_rfl) (by kernel_rfl) ?_
  simp -dsimp only [go_sem, ↓reduceIte]
  repeat with_reducible refine And.intro (by first | omega | decide | assumption) ?_
  refine LCalls.k (RTakeI hi0 4 (by decide)) ?_
  rintro _ S2 ⟨f2, rfl, hi2, hK2⟩
  have hl2 := hK2.get hSc (by simpa using hlw)
  have h8 := (rTake_len bs 4).1
  simp -dsimp only [go_sem, ↓reduceIte]
  repeat with_reducible refine And.intro (by first | omega | decide | assumption) ?_
  refine LCalls.k (SGet_ok _ (by omega) f2) ?_
  rintro _ S2 ⟨rfl, rfl⟩
  have hn4 := num4 h8
  have e1 : IntKind.i64.wrap (num (rTake bs 4).1 : Int) = (num (rTake bs 4).1 : Int) := w64 (by omega) (by omega)
  simp -dsimp only [go_sem, ↓reduceIte, e1]
  repeat with_reducible refine And.intro (by first | omega | decide | assumption) ?_
  have hi3 := hi2
  refine LCalls.k (RTakeI hi3 (num (rTake bs 4).1) (by omega)) ?_
  rintro _ S3 ⟨f3, rfl, hi4, hK4⟩
  have hl4 := hK4.get hl2 (by simpa using hlw)
  have hu : ((rTake (rTake bs 4).2 (num (rTake bs 4).1)).1.map u8c).map byteE = (rTake (rTake bs 4).2 (num (rTake bs 4).1)).1 := byteE_map _
  have hub := bytesC_map (rTake (rTake bs 4).2 (num (rTake bs 4).1)).1
  simp -dsimp only [go_sem, ↓reduceIte, hl4, hc1, hu, hub]
  simp only [LThen, LBlock, LPost, Tryz.results121]
  simp -dsimp only [go_sem, ↓reduceIte]
  refine ⟨by omega, ?_⟩
  have hsz : (strOf (rTake (rTake bs 4).2 (num (rTake bs 4).1)).1).size < 4294967296 := by
    have h1 := (rTake_len (rTake bs 4).2 (num (rTake bs 4).1)).1
    show (rTake (rTake bs 4).2 (num (rTake bs 4).1)).1.toArray.size < _
    simp only [List.size_toArray]; omega
  exact ret_keep (hRR _ _ (rprim hcells hpre (u' := .str (strOf (rTake (rTake bs 4).2 (num (rTake bs 4).1)).1)) hok hl hl4 hi4 (hK2.trans hK4 (fun _ _ h => h.elim id id)) rfl ⟨hsz, trivial⟩))

set_option maxHeartbeats 400000 in
theorem RBool_ok : WOk rR aP 118 (.bool .nil) := by
  refine WOk_intro 0 Tryz.func118 rfl (by kernel_rfl) (fun _ _ _ => rfl) fun S w l n off pre us post own st RR hi hl hS hpre hok hfit hRR => ?_
  have hlS := lt_of_get hS
  obtain ⟨bs, rfl⟩ : ∃ b : List UInt8 × Bool, b = st := ⟨st, rfl⟩
  have hi0 := hi
  obtain ⟨rfl, hbl, fw, hw⟩ := hi
  obtain ⟨v, us, rfl, h0⟩ := ok_bool hok
  obtain rfl := ok_nil h0
  obtain ⟨cells, hcells⟩ : ∃ c, c = pre ++ ([.bool v] ++ post) := ⟨_, rfl⟩
  have hc1 : off < cells.length := by rw [hcells, ← hpre]; simp
  have hc2 : cells.getD off .any = .bool v := by rw [hcells, ← hpre]; simp [List.getD_eq_getElem?_getD]
  have hlw : l ≠ w := fun e => hl (e ▸ List.mem_cons_self ..)
  have hSc := hS
  rw [← hcells] at hSc
  clear h0
  refine Lwp_seq fun KK0 hKK0 => ?_
  refine LregionG [none, none, none, none] (by kernel_rfl) (by kernel_rfl) ?_
  simp -dsimp only [go_sem, ↓reduceIte]
  repeat with_reducible refine And.intro (by first | omega | decide | assumption) ?_
  refine LCalls.k (RTakeI hi0 1 (by decide)) ?_
  rintro _ S2 ⟨f2, rfl, hi2, hK2⟩
  have hl2 := hK2.get hSc (by simpa using hlw)
  have h8 := (rTake_len bs 1).1
  simp -dsimp only [go_sem, ↓reduceIte]
  repeat with_reducible refine And.intro (by first | omega | decide | assumption) ?_
  refine LCalls.k (SGet_ok _ (by omega) f2) ?_
  rintro _ S2 ⟨rfl, rfl⟩
  simp -dsimp only [go_sem, ↓reduceIte]
  refine hKK0 _ _ ?_
  try clear hKK0 KK0
  refine Lwp_seq fun KK1 hKK1 => ?_
  obtain ⟨-, hb2, f3, hw2⟩ := hi2
  obtain ⟨x, hx⟩ : ∃ x, x = (rTake bs 1).1 := ⟨_, rfl⟩
  obtain ⟨b2, hb2e⟩ : ∃ x, x = (rTake bs 1).2.1 := ⟨_, rfl⟩
  obtain ⟨bad2, hbad⟩ : ∃ x, x = (rTake bs 1).2.2 := ⟨_, rfl⟩
  have hl3 : ∀ v, (S2.set w v)[l]? = some (some (n, [cells])) := fun v => by rw [List.getElem?_set_ne (fun e => hlw e.symm)]; exact hl2
  rw [← hb2e] at hb2
  rw [← hb2e, ← hbad] at hw2
  rw [← hx]
  have hwl2 := lt_of_get hw2
  have fin : ∀ (S3 : LS) (b : Bool), b = (bad2 || decide (1 < num x)) → S3 = S2.set w (some (2, [[.sl f3 (b2.map u8c), .bool b]])) → ∀ c, c = (num x == 1) → WP rR S w l n pre [w] (.bool .nil) [.bool v] bs post (S3.set l (some (n, [ovr cells off [.bool c]]))) := by
    rintro _ b hb rfl c hc
    refine rprim hcells hpre hok hl (hl3 _) (st' := (b2, b)) ⟨rfl, hb2, f3, List.getElem?_set_self hwl2⟩ (hK2.trans (Keeps.set _ (List.mem_singleton_self _)) (fun _ _ h => h.elim id id)) ?_ trivial
    rw [hb, hc, hx, hb2e, hbad]; rfl
  refine LregionG [none, none, none, none, none, none, some (13, false), some (13, false), none, none, none, none] (by kernel_rfl) (by kernel_rfl) ?_
  simp -dsimp only [go_sem, ↓reduceIte, hw2]
  cases bad2
  · skip
    simp -dsimp only [go_sem, ↓reduceIte, hw2]
    refine hKK1 _ _ ?_
    try clear hKK1 KK1
    refine LregionG [none, none, none, none, none] (by kernel_rfl) (by kernel_rfl) ?_
    simp -dsimp only [go_sem, ↓reduceIte, hl3, hc1]
    repeat with_reducible refine And.intro (by first | omega | decide) ?_
    simp only [LThen, LBlock, LPost, Tryz.results118]
    simp -dsimp only [go_sem, ↓reduceIte]
    refine ret_keep (hRR _ _ (fin _ _ (by first | rfl | (rw [Bool.false_or]; exact decide_eq_decide.2 (by omega))) rfl _ (by rw [Bool.eq_iff_iff]; simp; omega)))
  · skip
    simp -dsimp only [go_sem, ↓reduceIte, hw2]
    refine hKK1 _ _ ?_
    try clear hKK1 KK1
    refine LregionG [none, none, none, none, none] (by kernel_rfl) (by kernel_rfl) ?_
    simp -dsimp only [go_sem, ↓reduceIte, hl3, hc1]
    repeat with_reducible refine And.intro (by first | omega | decide) ?_
    simp only [LThen, LBlock, LPost, Tryz.results118]
    simp -dsimp only [go_sem, ↓reduceIte]
    refine ret_keep (hRR _ _ (fin _ _ (by first | rfl | (rw [Bool.false_or]; exact decide_eq_decide.2 (by omega))) rfl _ (by rw [Bool.eq_iff_iff]; simp; omega)))

set_option maxHeartbeats 400000 in
theorem RCount_ok (S : LS) (w : Nat) (own : List Nat) (bs : List UInt8 × Bool) (m : Nat) (hi : rR.inv S w own bs) (hm : m < 4294967296) (hfit : True) : LCalls Tryz.prog 119 [.ptr w 0 0, V m] S (fun r S' => r = V (rCount bs).1 ∧ ∃ own', rR.inv S' w own' (rCount bs).2 ∧ Keeps S S' own ∧ ∀ id ∈ own', id ∈ own ∨ S.length ≤ id) := by
  refine LCalls_introK 0 Tryz.func119 rfl (by kernel_rfl) rfl fun RR hRR => ?_
  have hi0 := hi
  obtain ⟨rfl, hbl, fw, hw⟩ := hi
  refine Lwp_seq fun KK0 hKK0 => ?_
  refine LregionG [none] (by kernel_rfl) (by kernel_rfl) ?_
  simp -dsimp only [go_sem, ↓reduceIte]
  repeat with_reducible refine And.intro (by first | omega | decide) ?_
  refine hKK0 _ _ ?_
  try clear hKK0 KK0
  refine Lwp_seq fun KK1 hKK1 => ?_
  refine LregionG [none, none, none, none, none] (by kernel_rfl) (by kernel_rfl) ?_
  simp -dsimp only [go_sem, ↓reduceIte]
  repeat with_reducible refine And.intro (by first | omega | decide | assumption) ?_
  refine LCalls.k (RTakeI hi0 4 (by decide)) ?_
  rintro _ S2 ⟨f2, rfl, hi2, hK2⟩
  have h8 := (rTake_len bs 4).1
  simp -dsimp only [go_sem, ↓reduceIte]
  repeat with_reducible refine And.intro (by first | omega | decide | assumption) ?_
  refine LCalls.k (SGet_ok _ (by omega) f2) ?_
  rintro _ S2 ⟨rfl, rfl⟩
  have hn4 := num4 h8
  have e1 : IntKind.i64.wrap (num (rTake bs 4).1 : Int) = (num (rTake bs 4).1 : Int) := w64 (by omega) (by omega)
  simp -dsimp only [go_sem, ↓reduceIte, e1]
  refine hKK1 _ _ ?_
  try clear hKK1 KK1
  refine Lwp_seq fun KK2 hKK2 => ?_
  refine Lwp_seq fun KK3 hKK3 => ?_
  obtain ⟨-, hb2, f3, hw2⟩ := hi2
  obtain ⟨x, hx⟩ : ∃ x, x = (rTake bs 4).1 := ⟨_, rfl⟩
  obtain ⟨b2, hb2e⟩ : ∃ x, x = (rTake bs 4).2.1 := ⟨_, rfl⟩
  obtain ⟨bad2, hbad⟩ : ∃ x, x = (rTake bs 4).2.2 := ⟨_, rfl⟩
  rw [← hb2e] at hb2
  rw [← hb2e, ← hbad] at hw2
  rw [← hx] at hn4 ⊢
  have hwl2 := lt_of_get hw2
  have hrc : rCount bs = if bad2 = true ∨ b2.length / 4 < num x then (0, (b2, true)) else (num x, (b2, bad2)) := by
    unfold rCount; rw [hx, hb2e, hbad]
  have hq : Int.tdiv (b2.length : Int) 4 = ((b2.length / 4 : Nat) : Int) := by rw [Int.tdiv_eq_ediv_of_nonneg (by omega)]; omega
  have hq2 : IntKind.i64.wrap ((b2.length / 4 : Nat) : Int) = ((b2.length / 4 : Nat) : Int) := w64 (by omega) (by omega)
  refine LregionG [none, none, none, none, none, some (14, false), some (14, false), some (14, false), some (14, false), some (14, false), some (14, false), some (14, false), some (14, false), none] (by kernel_rfl) (by kernel_rfl) ?_
  simp -dsimp only [go_sem, ↓reduceIte, hw2, hq, hq2]
  cases bad2
  · skip
    simp -dsimp only [go_sem, ↓reduceIte, hw2, hq, hq2]
    refine hKK3 _ _ ?_
    try clear hKK3 KK3
    refine Lwp_cond (by simp only [go_sem, ↓reduceIte]; rfl) (fun ht => ?_) (fun hf => ?_)
    · skip
      have hc : b2.length / 4 < num x := by simpa using ht
      refine Lwp_seq fun KK4 hKK4 => ?_
      refine LregionG [none, none, none, none] (by kernel_rfl) (by kernel_rfl) ?_
      simp -dsimp only [go_sem, ↓reduceIte, hw2]
      repeat with_reducible refine And.intro (by first | omega | decide) ?_
      refine hKK4 _ _ ?_
      try clear hKK4 KK4
      refine Lwp_seq fun KK5 hKK5 => ?_
      refine LregionG [none] (by kernel_rfl) (by kernel_rfl) ?_
      simp -dsimp only [go_sem, ↓reduceIte]
      repeat with_reducible refine And.intro (by first | omega | decide) ?_
      refine hKK5 _ _ ?_
      try clear hKK5 KK5
      refine Lwp_ret ?_
      simp only [LThen, LBlock, LPost, Tryz.results119]
      simp -dsimp only [go_sem, ↓reduceIte]
      rw [hrc] at hRR
      simp only [hc, if_true, if_false, or_true, true_or, Bool.false_eq_true, or_self] at hRR
      exact ret_keep (hRR _ _ ⟨rfl, [w], ⟨rfl, hb2, f3, List.getElem?_set_self hwl2⟩, hK2.trans (Keeps.set _ (List.mem_singleton_self _)) (fun _ _ h => h.elim id id), fun _ h => .inl h⟩)
    · skip
      have hc : ¬ b2.length / 4 < num x := by simpa using hf
      refine Lwp_skip ?_
      try simp -dsimp only [go_sem, ↓reduceIte]
      refine hKK2 _ _ ?_
      try clear hKK2 KK2
      refine Lwp_seq fun KK6 hKK6 => ?_
      refine LregionG [none, none] (by kernel_rfl) (by kernel_rfl) ?_
      simp -dsimp only [go_sem, ↓reduceIte]
      repeat with_reducible refine And.intro (by first | omega | decide) ?_
      refine hKK6 _ _ ?_
      try clear hKK6 KK6
      refine Lwp_ret ?_
      simp only [LThen, LBlock, LPost, Tryz.results119]
      simp -dsimp only [go_sem, ↓reduceIte]
      rw [hrc] at hRR
      simp only [hc, if_true, if_false, or_true, true_or, Bool.false_eq_true, or_self] at hRR
      exact ret_keep (hRR _ _ ⟨rfl, [w], ⟨rfl, hb2, f3, hw2⟩, hK2, fun _ h => .inl h⟩)
  · skip
    simp -dsimp only [go_sem, ↓reduceIte, hw2]
    refine hKK3 _ _ ?_
    try clear hKK3 KK3
    refine Lwp_cond (by simp only [go_sem, ↓reduceIte]; rfl) (fun ht => ?_) (fun hf => ?_)
    · skip
      refine Lwp_seq fun KK7 hKK7 => ?_
      refine LregionG [none, none, none, none] (by kernel_rfl) (by kernel_rfl) ?_
      simp -dsimp only [go_sem, ↓reduceIte, hw2]
      repeat with_reducible refine And.intro (by first | omega | decide) ?_
      refine hKK7 _ _ ?_
      try clear hKK7 KK7
      refine Lwp_seq fun KK8 hKK8 => ?_
      refine LregionG [none] (by kernel_rfl) (by kernel_rfl) ?_
      simp -dsimp only [go_sem, ↓reduceIte]
      repeat with_reducible refine And.intro (by first | omega | decide) ?_
      refine hKK8 _ _ ?_
      try clear hKK8 KK8
      refine Lwp_ret ?_
      simp only [LThen, LBlock, LPost, Tryz.results119]
      simp -dsimp only [go_sem, ↓reduceIte]
      rw [hrc] at hRR
      simp only [if_true, if_false, or_true, true_or, Bool.false_eq_true, or_self] at hRR
      exact ret_keep (hRR _ _ ⟨rfl, [w], ⟨rfl, hb2, f3, List.getElem?_set_self hwl2⟩, hK2.trans (Keeps.set _ (List.mem_singleton_self _)) (fun _ _ h => h.elim id id), fun _ h => .inl h⟩)
    · skip
      cases hf


theorem rR_law : WkL rR where
  lt := by
    rintro S w own st ⟨rfl, hb, f, hw⟩ id hid
    rw [List.mem_singleton.1 hid]; exact lt_of_get hw
  keep := by
    rintro S S' w own st ids ⟨rfl, hb, f, hw⟩ hK hd
    exact ⟨rfl, hb, f, hK.get hw (hd w (List.mem_singleton_self _))⟩
  iint := fun _ => trivial
  iword := fun _ => trivial
  ibool := fun _ => trivial
  istr := fun _ => trivial
  icount := fun _ => trivial
  cnt := by
    intro S w own st m hi hm
    show (rCount st).1 < _
    unfold rCount
    split
    · simp
    · exact num4 (rTake_len st 4).1
  mInt := by kernel_rfl
  mWord := by kernel_rfl
  mBool := by kernel_rfl
  mText := by kernel_rfl
  mCount := by kernel_rfl
  hInt := RInt_ok
  hWord := RWord_ok
  hBool := RBool_ok
  hText := RText_ok
  hCount := RCount_ok

end Go.Proofs.YtdhngmldmalbbaaGreat
end
section
set_option linter.all false
namespace Go.Proofs.YtdhngmldmalbbaaGreat
open Go.Lift Go.RowKit Go.Store
set_option linter.unusedSimpArgs false
set_option linter.unusedVariables false

/-- what 'Decode' gives: an error, or a kind, where its cells begin, their schema, what was read, and the bytes of the entry. -/
def decS (bs : List UInt8) : Int ⊕ (Int × Nat × Sch × List LV × Nat) :=
  if bs.length < 4 then .inl 11
  else if 1048576 < num (bs.take 4) + 8 then .inl 2
  else if bs.length < num (bs.take 4) + 8 then .inl 11
  else if chkN (bs.take (num (bs.take 4) + 4)) ≠ num ((bs.drop (num (bs.take 4) + 4)).take 4) then .inl 10
  else if num (bs.take 4) = 0 then .inl 4
  else match kSch ((bs.getD 4 0).toNat : Int) with
    | none => .inl 4
    | some (off, s) =>
      if (wal rR s (zs s) ((bs.take (num (bs.take 4) + 4)).drop 5, false)).2.2 = true ∨ 0 < (wal rR s (zs s) ((bs.take (num (bs.take 4) + 4)).drop 5, false)).2.1.length then .inl 3
      else .inr (((bs.getD 4 0).toNat : Int), off, s, (wal rR s (zs s) ((bs.take (num (bs.take 4) + 4)).drop 5, false)).1, num (bs.take 4) + 8)
def DecO (o : Int ⊕ (Int × Nat × Sch × List LV × Nat)) (r : LV) : Prop :=
  match o with
  | .inl e => r = .tup [.agg (zs sLog), V 0, V e]
  | .inr (k, off, s, p, n) => ∃ us pre u' post, r = .tup [.agg us, V n, V 0] ∧ ok sLog us ∧ us.getD 0 .any = V k ∧ us = pre ++ (u' ++ post) ∧ pre.length = off ∧ ok s u' ∧ nz s u' = p
def DecR (bs : List UInt8) (S : LS) (r : LV) (S' : LS) : Prop := Keeps S S' [] ∧ DecO (decS bs) r
theorem zs_walR : ∀ {s : Sch} {us vs : List LV} {st : rR.St}, ok s us → ok s vs → wal rR s us st = wal rR s vs st
  | .nil, [], [], st, _, _ => rfl
  | .int r, .int k v :: us, .int k' v' :: vs, st, h, h' => by
    simp only [ok] at h h'
    simp only [wal]; rw [show rR.int st (intOf (.int k v)) = rR.int st (intOf (.int k' v')) from rfl, zs_walR h.2.2.2 h'.2.2.2]
  | .word r, .int k v :: us, .int k' v' :: vs, st, h, h' => by
    simp only [ok] at h h'
    simp only [wal]; rw [show rR.word st (natOf (.int k v)) = rR.word st (natOf (.int k' v')) from rfl, zs_walR h.2.2.2 h'.2.2.2]
  | .bool r, .bool b :: us, .bool b' :: vs, st, h, h' => by
    simp only [ok] at h h'
    simp only [wal]; rw [show rR.bool st (boolOf (.bool b)) = rR.bool st (boolOf (.bool b')) from rfl, zs_walR (s := r) h h']
  | .str r, .str b :: us, .str b' :: vs, st, h, h' => by
    simp only [ok] at h h'
    simp only [wal]; rw [show rR.str st (bytesOf (.str b)) = rR.str st (bytesOf (.str b')) from rfl, zs_walR h.2 h'.2]
  | .sl e r, .sl f es :: us, .sl f' es' :: vs, st, h, h' => by
    simp only [ok] at h h'
    have hN : ∀ (n : Nat) (es es' : List (List LV)) (st : rR.St), (∀ x ∈ es, ok e x) → (∀ x ∈ es', ok e x) → walN (wal rR e) (zs e) n es st = walN (wal rR e) (zs e) n es' st := by
      intro n
      induction n with
      | zero => intros; rfl
      | succ n ih =>
        intro es es' st h h'
        have hd : ∀ es : List (List LV), (∀ x ∈ es, ok e x) → ok e (es.headD (zs e)) := fun es h => by
          cases es with
          | nil => exact ok_zs
          | cons x es => exact h x (List.mem_cons_self ..)
        simp only [walN]
        rw [zs_walR (hd es h) (hd es' h'), ih es.tail es'.tail _ (fun x hx => h x (List.mem_of_mem_tail hx)) (fun x hx => h' x (List.mem_of_mem_tail hx))]
    simp only [wal]
    rw [show rR.count st (elemsOf (.sl f es)).length = rR.count st (elemsOf (.sl f' es')).length from rfl, hN _ (elemsOf (.sl f es)) (elemsOf (.sl f' es')) _ h.2.1 h'.2.1, zs_walR h.2.2 h'.2.2]


theorem ok_repl {sP s sQ : Sch} {us pre u u' post : List LV} (h : ok (sP.app (s.app sQ)) us) (hus : us = pre ++ (u ++ post)) (hpre : pre.length = sP.n) (hu : ok s u) (hu' : ok s u') : ok (sP.app (s.app sQ)) (pre ++ (u' ++ post)) := by
  subst hus
  obtain ⟨a, b, e1, h1, h2⟩ := app_inv h
  obtain ⟨rfl, rfl⟩ := List.append_inj e1 (by rw [hpre, ok_len h1])
  obtain ⟨c, d, e2, h3, h4⟩ := app_inv h2
  obtain ⟨rfl, rfl⟩ := List.append_inj e2 (by rw [ok_len hu, ok_len h3])
  exact app_ok h1 (app_ok hu' h4)
theorem log_repl {us pre u u' post : List LV} {k : Int} {off : Nat} {s : Sch} (hk : kSch k = some (off, s)) (h : ok sLog us) (hus : us = pre ++ (u ++ post)) (hpre : pre.length = off) (hu : ok s u) (hu' : ok s u') : ok sLog (pre ++ (u' ++ post)) := by
  rcases kSch_off hk with ⟨-, rfl, rfl⟩ | ⟨-, rfl, rfl⟩ | ⟨-, rfl, rfl⟩ | ⟨-, rfl, rfl⟩
  · exact ok_repl (s := sI) (sP := .int .nil) (sQ := sItem.app (.int (.str (sPer.app sCyc)))) h hus hpre hu hu'
  · exact ok_repl (s := sItem) (sP := .int (.int .nil)) (sQ := .int (.str (sPer.app sCyc))) h hus hpre hu hu'
  · exact ok_repl (s := .int (.str sPer)) (sP := .int (.int sItem)) (sQ := sCyc) h hus hpre hu hu'
  · exact ok_repl (s := sCyc) (sP := .int (.int (sItem.app (.int (.str sPer))))) (sQ := .nil) h hus hpre hu hu'
theorem head_pre {us pre x y : List LV} {off : Nat} (hus : us = pre ++ x) (hpre : pre.length = off) (h : off ≠ 0) : (pre ++ y).getD 0 .any = us.getD 0 .any := by
  subst hus hpre
  cases pre with
  | nil => exact absurd rfl h
  | cons p pre => rfl
theorem kSch_pos {k : Int} {off : Nat} {s : Sch} (hk : kSch k = some (off, s)) : off ≠ 0 := by
  rcases kSch_off hk with ⟨-, rfl, rfl⟩ | ⟨-, rfl, rfl⟩ | ⟨-, rfl, rfl⟩ | ⟨-, rfl, rfl⟩ <;> decide
theorem keep_set {S S1 : LS} {j : Nat} {v : Option Blk} (h : Keeps S S1 []) (hj : S.length ≤ j := by omega) : Keeps S (S1.set j v) [] := ⟨by rw [List.length_set]; exact h.1, fun i hi hm => by rw [List.getElem?_set_ne (by omega)]; exact h.2 i hi hm⟩

set_option maxHeartbeats 400000 in
theorem SDecode_ok {S : LS} (bs : List UInt8) (f : Bool) (hb : bs.length ≤ 562949953421312) : LCalls Tryz.prog 17 [.sl f (bs.map u8c)] S (DecR bs S) := by
  refine LCalls_introK 0 Tryz.func17 rfl (by kernel_rfl) rfl fun RR hRR => ?_
  unfold DecR decS at hRR
  have hd1 : ∀ (e : List LV), e ∈ (List.map u8c bs).head? → e.length = 1 := fun e he => by
    obtain ⟨y, _, rfl⟩ := List.mem_map.1 (List.mem_of_mem_head? he); rfl
  refine Lwp_seq fun KK0 hKK0 => ?_
  refine LregionG [none, none, none] (by kernel_rfl) (by kernel_rfl) ?_
  simp -dsimp only [go_sem, ↓reduceIte]
  repeat with_reducible refine And.intro (by first | omega | decide) ?_
  refine hKK0 _ _ ?_
  try clear hKK0 KK0
  refine Lwp_seq fun KK1 hKK1 => ?_
  refine Lwp_seq fun KK2 hKK2 => ?_
  refine LregionG [none, none, none] (by kernel_rfl) (by kernel_rfl) ?_
  simp -dsimp only [go_sem, ↓reduceIte]
  repeat with_reducible refine And.intro (by first | omega | decide) ?_
  refine hKK2 _ _ ?_
  try clear hKK2 KK2
  refine Lwp_cond (by simp only [go_sem, ↓reduceIte]; rfl) (fun ht => ?_) (fun hf => ?_)
  · skip
    have h4 : bs.length < 4 := by simp at ht; omega
    simp only [h4, if_true] at hRR
    refine Lwp_seq fun KK3 hKK3 => ?_
    refine LregionG [none, none, none, none] (by kernel_rfl) (by kernel_rfl) ?_
    simp -dsimp only [go_sem, ↓reduceIte]
    repeat with_reducible refine And.intro (by first | omega | decide) ?_
    refine hKK3 _ _ ?_
    try clear hKK3 KK3
    refine Lwp_ret ?_
    simp only [LThen, LBlock, LPost, Tryz.results17]
    simp -dsimp only [go_sem, ↓reduceIte]
    exact ret_keep (hRR _ _ ⟨Keeps.app _ _ _, rfl⟩)
  · skip
    have h4 : ¬ bs.length < 4 := by simp at hf; omega
    simp only [h4, if_false] at hRR
    refine Lwp_skip ?_
    try simp -dsimp only [go_sem, ↓reduceIte]
    refine hKK1 _ _ ?_
    try clear hKK1 KK1
    refine Lwp_seq fun KK4 hKK4 => ?_
    have hm4 : List.take 4 (List.map u8c bs) = List.map u8c (bs.take 4) := List.map_take.symm
    have h4l : (bs.take 4).length ≤ 8 := by simp; omega
    have hN4 := num4 (x := bs.take 4) (by simp; omega)
    obtain ⟨N, hN⟩ : ∃ N, N = num (bs.take 4) := ⟨_, rfl⟩
    rw [← hN] at hRR hN4
    have e1 : IntKind.i64.wrap (N : Int) = (N : Int) := w64 (by omega) (by omega)
    have e2 : IntKind.i64.wrap ((N : Int) + 8) = ((N + 8 : Nat) : Int) := by rw [w64 (by omega) (by omega)]; omega
    have e3 : IntKind.i64.wrap (((N + 8 : Nat) : Int) - 4) = ((N + 4 : Nat) : Int) := by rw [w64 (by omega) (by omega)]; omega
    refine LregionG [none, none, none, none, none, none] (by kernel_rfl) (by kernel_rfl) ?_
    simp -dsimp only [go_sem, ↓reduceIte, hm4]
    refine ⟨⟨by omega, hd1⟩, ?_⟩
    refine LCalls.k (SGet_ok _ h4l _) ?_
    rintro _ _ ⟨rfl, rfl⟩
    rw [← hN]
    simp -dsimp only [go_sem, ↓reduceIte, e1, e2]
    refine hKK4 _ _ ?_
    try clear hKK4 KK4
    refine Lwp_seq fun KK5 hKK5 => ?_
    refine Lwp_block ?_
    refine Lwp_seq fun KK6 hKK6 => ?_
    refine LregionG [none, none, none] (by kernel_rfl) (by kernel_rfl) ?_
    simp -dsimp only [go_sem, ↓reduceIte]
    repeat with_reducible refine And.intro (by first | omega | decide) ?_
    refine hKK6 _ _ ?_
    try clear hKK6 KK6
    refine Lwp_cond (by simp only [go_sem, ↓reduceIte]; rfl) (fun ht => ?_) (fun hf => ?_)
    · skip
      have hbig : 1048576 < N + 8 := by simp at ht; omega
      simp only [hbig, if_true] at hRR
      refine Lwp_seq fun KK7 hKK7 => ?_
      refine LregionG [none, none, none, none] (by kernel_rfl) (by kernel_rfl) ?_
      simp -dsimp only [go_sem, ↓reduceIte]
      repeat with_reducible refine And.intro (by first | omega | decide) ?_
      refine hKK7 _ _ ?_
      try clear hKK7 KK7
      refine Lwp_ret ?_
      simp only [LThen, LBlock, LPost, Tryz.results17]
      simp -dsimp only [go_sem, ↓reduceIte]
      exact ret_keep (hRR _ _ ⟨Keeps.app _ _ _, rfl⟩)
    · skip
      have hbig : ¬ 1048576 < N + 8 := by simp at hf; omega
      simp only [hbig, if_false] at hRR
      refine Lwp_seq fun KK8 hKK8 => ?_
      refine LregionG [none, none, none, none, none] (by kernel_rfl) (by kernel_rfl) ?_
      simp -dsimp only [go_sem, ↓reduceIte]
      repeat with_reducible refine And.intro (by first | omega | decide) ?_
      refine hKK8 _ _ ?_
      try clear hKK8 KK8
      refine Lwp_cond (by simp only [go_sem, ↓reduceIte]; rfl) (fun ht => ?_) (fun hf => ?_)
      · skip
        have hsh : bs.length < N + 8 := by simp at ht; omega
        simp only [hsh, if_true] at hRR
        refine Lwp_seq fun KK9 hKK9 => ?_
        refine LregionG [none, none, none, none] (by kernel_rfl) (by kernel_rfl) ?_
        simp -dsimp only [go_sem, ↓reduceIte]
        repeat with_reducible refine And.intro (by first | omega | decide) ?_
        refine hKK9 _ _ ?_
        try clear hKK9 KK9
        refine Lwp_ret ?_
        simp only [LThen, LBlock, LPost, Tryz.results17]
        simp -dsimp only [go_sem, ↓reduceIte]
        exact ret_keep (hRR _ _ ⟨Keeps.app _ _ _, rfl⟩)
      · skip
        have hsh : ¬ bs.length < N + 8 := by simp at hf; omega
        simp only [hsh, if_false] at hRR
        refine Lwp_skip ?_
        try simp -dsimp only [go_sem, ↓reduceIte]
        refine hKK5 _ _ ?_
        try clear hKK5 KK5
        refine Lwp_seq fun KK10 hKK10 => ?_
        refine LregionG [none, none, none] (by kernel_rfl) (by kernel_rfl) ?_
        simp -dsimp only [go_sem, ↓reduceIte, e3]
        repeat with_reducible refine And.intro (by first | omega | decide) ?_
        refine hKK10 _ _ ?_
        try clear hKK10 KK10
        refine Lwp_seq fun KK11 hKK11 => ?_
        refine Lwp_block ?_
        refine Lwp_seq fun KK12 hKK12 => ?_
        have hm5 : List.take (N + 4) (List.map u8c bs) = List.map u8c (bs.take (N + 4)) := List.map_take.symm
        have hm6 : List.take (N + 8 - (N + 4)) (List.drop (N + 4) (List.map u8c bs)) = List.map u8c ((bs.drop (N + 4)).take 4) := by
          rw [show N + 8 - (N + 4) = 4 by omega, List.map_take, List.map_drop]
        have h6l : ((bs.drop (N + 4)).take 4).length ≤ 8 := by simp; omega
        have hcl := chkN_lt (bs.take (N + 4))
        have e4 := u64_wrapN (n := chkN (bs.take (N + 4))) (by omega)
        refine LdrawE [0,1,2,5,6,7,8,3,4,9,10,11] [] none (by kernel_rfl) (by kernel_rfl) (by kernel_rfl) (by kernel_rfl) (by simp [Watch.holds]) ?_
        simp -dsimp only [go_sem, ↓reduceIte, Nat.sub_zero, hm5, hm6]
        refine ⟨⟨by omega, hd1⟩, ⟨by omega, by omega, hd1⟩, ?_⟩
        refine LCalls.k (SChk_ok (.inl ⟨_, rfl⟩) (by simp; omega)) ?_
        rintro _ _ ⟨rfl, rfl⟩
        simp -dsimp only [go_sem, ↓reduceIte, e4, Nat.sub_zero, hm6]
        refine LCalls.k (SGet_ok _ h6l _) ?_
        rintro _ _ ⟨rfl, rfl⟩
        simp -dsimp only [go_sem, ↓reduceIte]
        refine hKK12 _ _ ?_
        try clear hKK12 KK12
        refine Lwp_cond (by simp only [go_sem, ↓reduceIte]; rfl) (fun ht => ?_) (fun hf => ?_)
        · skip
          have hne : chkN (bs.take (N + 4)) ≠ num ((bs.drop (N + 4)).take 4) := by simp at ht; omega
          rw [if_pos hne] at hRR
          refine Lwp_seq fun KK13 hKK13 => ?_
          refine LregionG [none, none, none, none] (by kernel_rfl) (by kernel_rfl) ?_
          simp -dsimp only [go_sem, ↓reduceIte]
          repeat with_reducible refine And.intro (by first | omega | decide) ?_
          refine hKK13 _ _ ?_
          try clear hKK13 KK13
          refine Lwp_ret ?_
          simp only [LThen, LBlock, LPost, Tryz.results17]
          simp -dsimp only [go_sem, ↓reduceIte]
          exact ret_keep (hRR _ _ ⟨Keeps.app _ _ _, rfl⟩)
        · skip
          have hne : ¬ chkN (bs.take (N + 4)) ≠ num ((bs.drop (N + 4)).take 4) := by simp at hf; omega
          rw [if_neg hne] at hRR
          refine Lwp_seq fun KK14 hKK14 => ?_
          refine LregionG [none, none, none] (by kernel_rfl) (by kernel_rfl) ?_
          simp -dsimp only [go_sem, ↓reduceIte]
          repeat with_reducible refine And.intro (by first | omega | decide) ?_
          refine hKK14 _ _ ?_
          try clear hKK14 KK14
          refine Lwp_cond (by simp only [go_sem, ↓reduceIte]; rfl) (fun ht => ?_) (fun hf => ?_)
          · skip
            have hz : N = 0 := by simp at ht; omega
            rw [if_pos hz] at hRR
            refine Lwp_seq fun KK15 hKK15 => ?_
            refine LregionG [none, none, none, none] (by kernel_rfl) (by kernel_rfl) ?_
            simp -dsimp only [go_sem, ↓reduceIte]
            repeat with_reducible refine And.intro (by first | omega | decide) ?_
            refine hKK15 _ _ ?_
            try clear hKK15 KK15
            refine Lwp_ret ?_
            simp only [LThen, LBlock, LPost, Tryz.results17]
            simp -dsimp only [go_sem, ↓reduceIte]
            exact ret_keep (hRR _ _ ⟨Keeps.app _ _ _, rfl⟩)
          · skip
            have hz : ¬ N = 0 := by simp at hf; omega
            rw [if_neg hz] at hRR
            refine Lwp_skip ?_
            try simp -dsimp only [go_sem, ↓reduceIte]
            refine hKK11 _ _ ?_
            try clear hKK11 KK11
            refine Lwp_seq fun KK16 hKK16 => ?_
            have hk4 := u8c_getD (xs := bs) (i := 4) (by omega)
            have hb4 : (bs.getD 4 0).toNat < 256 := (bs.getD 4 0).toNat_lt
            have e5 : IntKind.i64.wrap ((bs.getD 4 0).toNat : Int) = ((bs.getD 4 0).toNat : Int) := w64 (by omega) (by omega)
            obtain ⟨k, hk⟩ : ∃ k : Int, k = ((bs.getD 4 0).toNat : Int) := ⟨_, rfl⟩
            refine LregionG [none, none, none, none, none, none, none] (by kernel_rfl) (by kernel_rfl) ?_
            simp -dsimp only [go_sem, ↓reduceIte, hk4, e5]
            refine ⟨by omega, ?_⟩
            refine hKK16 _ _ ?_
            try clear hKK16 KK16
            refine Lwp_seq fun KK17 hKK17 => ?_
            have hm7 : List.take (N + 4 - 5) (List.drop 5 (List.map u8c bs)) = List.map u8c ((bs.take (N + 4)).drop 5) := by
              rw [List.map_drop, List.map_take, List.drop_take]
            refine LregionG [none, none, none, none, none, none] (by kernel_rfl) (by kernel_rfl) ?_
            simp -dsimp only [go_sem, ↓reduceIte, hm7]
            refine ⟨⟨by omega, by omega, hd1⟩, ?_⟩
            refine hKK17 _ _ ?_
            try clear hKK17 KK17
            refine Lwp_seq fun KK18 hKK18 => ?_
            refine Lwp_seq fun KK19 hKK19 => ?_
            refine Lwp_store (fun S1 => Keeps S S1 [] ∧ S1.length = S.length + 3 ∧ S1[S.length]? = some (some (38, [zs sLog])) ∧ S1[S.length + 1]? = some (some (38, [V k :: (zs sLog).tail])) ∧ rR.inv S1 (S.length + 2) [S.length + 2] ((bs.take (N + 4)).drop 5, false)) ⟨Keeps.app _ _ _, by simp, by simp; rfl, by simp [hk]; rfl, rfl, by simp; omega, _, by simp; rfl⟩ ?_
            rintro S1 ⟨hK1, hS1l, hS1z, hS1, hi⟩
            obtain ⟨pay, hpay⟩ : ∃ x, x = (bs.take (N + 4)).drop 5 := ⟨_, rfl⟩
            rw [← hpay, ← hk] at hRR
            rw [← hpay] at hi
            have okz := ok_zs (s := sLog)
            have ok0 : ok sLog (V k :: (zs sLog).tail) := ⟨rfl, by omega, by omega, okz.2.2.2⟩
            clear hm4 hm5 hm6 hm7 e1 e2 e3 e4 hk4 e5 h4l h6l hcl hpay hd1
            refine LregionG [none, none, none, none] (by kernel_rfl) (by kernel_rfl) ?_
            simp -dsimp only [go_sem, ↓reduceIte]
            refine And.intro (by kernel_rfl) ?_
            cases hks : kSch k
            · skip
              rw [hks] at hRR
              refine LCalls.k (Walk_none rR rR_law hi (by simp) hS1 rfl (by simp) hks) ?_
              rintro _ S1 ⟨rfl, rfl⟩
              have hsz : ∀ v, (S1.set S.length v)[S.length]? = some v := fun v => List.getElem?_set_self (lt_of_get hS1z)
              simp -dsimp only [go_sem, ↓reduceIte]
              refine hKK19 _ _ ?_
              try clear hKK19 KK19
              refine Lwp_cond (by simp only [go_sem, ↓reduceIte]; rfl) (fun ht => ?_) (fun hf => ?_)
              · skip
                refine Lwp_seq fun KK20 hKK20 => ?_
                refine LregionG [none, none, none, none] (by kernel_rfl) (by kernel_rfl) ?_
                simp -dsimp only [go_sem, ↓reduceIte, hsz, hS1z]
                refine ⟨by decide, ?_⟩
                refine hKK20 _ _ ?_
                try clear hKK20 KK20
                refine Lwp_ret ?_
                simp only [LThen, LBlock, LPost, Tryz.results17]
                simp -dsimp only [go_sem, ↓reduceIte, hsz]
                refine ⟨by decide, ?_⟩
                exact ret_keep (hRR _ _ ⟨keep_set hK1, rfl⟩)
              · skip
                cases hf
            · skip
              rename_i p
              obtain ⟨off, s⟩ := p
              rw [hks] at hRR
              simp only [] at hRR
              obtain ⟨pre, u, post, hcells, hpre, hok, -, -⟩ := log_split ok0 (off := off) (s := s) hks
              have hwk := Walk_some rR rR_law hi (by simp) hS1 rfl (by simp) hcells hpre hok hks trivial
              have hzw := zs_walR (st := ((pay, false) : List UInt8 × Bool)) hok (ok_zs (s := s))
              refine LCalls.k hwk ?_
              rintro _ S2 ⟨rfl, -, own2, us2, hi2, hz2, hok2, hS2, hK2, -⟩
              rw [hzw] at hi2 hz2
              obtain ⟨p1, hp1⟩ : ∃ x, x = (wal rR s (zs s) (pay, false)).1 := ⟨_, rfl⟩
              obtain ⟨b2, hb2e⟩ : ∃ x : List UInt8, x = (wal rR s (zs s) (pay, false)).2.1 := ⟨_, rfl⟩
              obtain ⟨bad2, hbad⟩ : ∃ x : Bool, x = (wal rR s (zs s) (pay, false)).2.2 := ⟨_, rfl⟩
              obtain ⟨-, -, f2, hw2⟩ := hi2
              rw [← hb2e, ← hbad] at hw2
              rw [← hp1] at hz2
              rw [← hp1, ← hb2e, ← hbad] at hRR
              have hS2z := hK2.get hS1z (by simp)
              have hsz : ∀ v, (S2.set S.length v)[S.length]? = some v := fun v => List.getElem?_set_self (lt_of_get hS2z)
              have hK3 : Keeps S S2 [] := ⟨Nat.le_trans hK1.1 hK2.1, fun j hj _ => (hK2.2 j (by omega) (by simp; omega)).trans (hK1.2 j hj (by simp))⟩
              obtain ⟨cells2, hc2⟩ : ∃ c, c = pre ++ (us2 ++ post) := ⟨_, rfl⟩
              have hl38 : cells2.length = 38 := by
                have h1 := congrArg List.length hcells
                rw [show (V k :: (zs sLog).tail).length = 38 from rfl] at h1
                simp only [List.length_append] at h1
                rw [hc2]; simp only [List.length_append]
                rw [ok_len hok2, ← ok_len hok]; exact h1.symm
              have ht38 : cells2.take 38 = cells2 := List.take_of_length_le (by omega)
              have hov : ovr (zs sLog) 0 cells2 = cells2 := ovr_all (by rw [hl38]; rfl)
              rw [← hc2] at hS2
              have hok38 : ok sLog cells2 := by rw [hc2]; exact log_repl hks ok0 hcells hpre hok hok2
              have hg0 : cells2.getD 0 .any = V k := by rw [hc2, head_pre hcells hpre (kSch_pos hks)]; rfl
              clear hwk hzw hi
              simp -dsimp only [go_sem, ↓reduceIte]
              refine hKK19 _ _ ?_
              try clear hKK19 KK19
              refine Lwp_cond (by simp only [go_sem, ↓reduceIte]; rfl) (fun ht => ?_) (fun hf => ?_)
              · skip
                cases ht
              · skip
                refine Lwp_skip ?_
                try simp -dsimp only [go_sem, ↓reduceIte]
                refine hKK18 _ _ ?_
                try clear hKK18 KK18
                refine Lwp_seq fun KK21 hKK21 => ?_
                refine Lwp_seq fun KK22 hKK22 => ?_
                refine LregionG [none, none, none, none, none, some (66, false), some (66, false), some (66, false), some (66, false), some (66, false), some (66, false), none] (by kernel_rfl) (by kernel_rfl) ?_
                simp -dsimp only [go_sem, ↓reduceIte, hw2]
                cases bad2
                · skip
                  simp -dsimp only [go_sem, ↓reduceIte, hw2]
                  refine hKK22 _ _ ?_
                  try clear hKK22 KK22
                  refine Lwp_cond (by simp only [go_sem, ↓reduceIte]; rfl) (fun ht => ?_) (fun hf => ?_)
                  · skip
                    have hlong : 0 < b2.length := by simp at ht; omega
                    rw [if_pos (.inr hlong)] at hRR
                    refine Lwp_seq fun KK23 hKK23 => ?_
                    refine LregionG [none, none, none, none] (by kernel_rfl) (by kernel_rfl) ?_
                    simp -dsimp only [go_sem, ↓reduceIte, hsz, hS2z, hsz]
                    refine ⟨by decide, ?_⟩
                    refine hKK23 _ _ ?_
                    try clear hKK23 KK23
                    refine Lwp_ret ?_
                    simp only [LThen, LBlock, LPost, Tryz.results17]
                    simp -dsimp only [go_sem, ↓reduceIte, hsz]
                    refine ⟨by decide, ?_⟩
                    exact ret_keep (hRR _ _ ⟨keep_set hK3, rfl⟩)
                  · skip
                    have hlong : ¬ 0 < b2.length := by simp at hf; simp [hf]
                    rw [if_neg (by simp [hlong])] at hRR
                    refine Lwp_skip ?_
                    try simp -dsimp only [go_sem, ↓reduceIte]
                    refine hKK21 _ _ ?_
                    try clear hKK21 KK21
                    refine Lwp_seq fun KK24 hKK24 => ?_
                    refine LregionG [none, none, none, none, none] (by kernel_rfl) (by kernel_rfl) ?_
                    simp -dsimp only [go_sem, ↓reduceIte, hsz, hl38, ht38, hov, hS2z, hS2, hsz]
                    repeat with_reducible refine And.intro (by first | omega | decide) ?_
                    refine hKK24 _ _ ?_
                    try clear hKK24 KK24
                    refine Lwp_ret ?_
                    simp only [LThen, LBlock, LPost, Tryz.results17]
                    simp -dsimp only [go_sem, ↓reduceIte, hsz, hl38, ht38, hov]
                    exact ret_keep (hRR _ _ ⟨keep_set hK3, cells2, pre, us2, post, rfl, hok38, hg0, hc2, hpre, hok2, hz2⟩)
                · skip
                  simp -dsimp only [go_sem, ↓reduceIte, hw2]
                  refine hKK22 _ _ ?_
                  try clear hKK22 KK22
                  refine Lwp_cond (by simp only [go_sem, ↓reduceIte]; rfl) (fun ht => ?_) (fun hf => ?_)
                  · skip
                    rw [if_pos (.inl rfl)] at hRR
                    refine Lwp_seq fun KK25 hKK25 => ?_
                    refine LregionG [none, none, none, none] (by kernel_rfl) (by kernel_rfl) ?_
                    simp -dsimp only [go_sem, ↓reduceIte, hsz, hS2z, hsz]
                    refine ⟨by decide, ?_⟩
                    refine hKK25 _ _ ?_
                    try clear hKK25 KK25
                    refine Lwp_ret ?_
                    simp only [LThen, LBlock, LPost, Tryz.results17]
                    simp -dsimp only [go_sem, ↓reduceIte, hsz]
                    refine ⟨by decide, ?_⟩
                    exact ret_keep (hRR _ _ ⟨keep_set hK3, rfl⟩)
                  · skip
                    cases hf

end Go.Proofs.YtdhngmldmalbbaaGreat
end
