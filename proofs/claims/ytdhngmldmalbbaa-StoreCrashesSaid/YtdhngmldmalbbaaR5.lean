/-
  A part of a proof: StoreCrashes answers true for all codes, cuts, places and bytes, without conditions.
-/
import Derived.Test.YtdhngmldmalbbaaR4
section
set_option linter.all false
namespace Go.Proofs.Ytdhngmldmalbbaa
open Go.Lift Go.RowKit Go.Store
set_option linter.unusedSimpArgs false
set_option linter.unusedVariables false

theorem app_enc : ∀ {s t : Sch} {us vs : List LV}, ok s us → enc (s.app t) (us ++ vs) = enc s us ++ enc t vs
  | .nil, t, [], vs, _ => by simp [Sch.app, enc]
  | .int r, t, .int k v :: us, vs, h => by simp only [ok] at h; simp only [Sch.app, List.cons_append, enc, app_enc h.2.2.2, List.append_assoc]
  | .word r, t, .int k v :: us, vs, h => by simp only [ok] at h; simp only [Sch.app, List.cons_append, enc, app_enc h.2.2.2, List.append_assoc]
  | .bool r, t, .bool b :: us, vs, h => by simp only [ok] at h; simp only [Sch.app, List.cons_append, enc, app_enc (s := r) h]
  | .str r, t, .str b :: us, vs, h => by simp only [ok] at h; simp only [Sch.app, List.cons_append, enc, app_enc h.2, List.append_assoc]
  | .sl e r, t, .sl f es :: us, vs, h => by simp only [ok] at h; simp only [Sch.app, List.cons_append, enc, app_enc h.2.2, List.append_assoc]
theorem okAna {us : List LV} (h : ok sAna us) : ∃ (f1 f2 f3 : Bool) (l1 l2 l3 : List (List LV)) (hi : Int) (lo : Nat) (an ra rd : Int), us = [.sl f1 l1, .sl f2 l2, .sl f3 l3, V hi, .int .u64 lo, V an, V ra, V rd] := by
  obtain ⟨f1, l1, us, rfl, n1, o1, h⟩ := ok_sl h
  obtain ⟨f2, l2, us, rfl, n2, o2, h⟩ := ok_sl h
  obtain ⟨f3, l3, us, rfl, n3, o3, h⟩ := ok_sl h
  obtain ⟨hi, us, rfl, ihi, h⟩ := ok_int h
  obtain ⟨lo, us, rfl, ilo, h⟩ := ok_word h
  obtain ⟨an, us, rfl, ian, h⟩ := ok_int h
  obtain ⟨ra, us, rfl, ira, h⟩ := ok_int h
  obtain ⟨rd, us, rfl, ird, h⟩ := ok_int h
  rw [ok_nil h]; exact ⟨f1, f2, f3, l1, l2, l3, hi, lo, an, ra, rd, rfl⟩
theorem okHist {us : List LV} (h : ok sHist us) : ∃ (fc fl : Bool) (ec el : List (List LV)), us = [.sl fc ec, .sl fl el] := by
  obtain ⟨fc, ec, us, rfl, nc, oc, h⟩ := ok_sl h
  obtain ⟨fl, el, us, rfl, nl, ol, h⟩ := ok_sl h
  rw [ok_nil h]; exact ⟨fc, fl, ec, el, rfl⟩
theorem okRep {us : List LV} (h : ok sRep us) : ∃ (k : Int) (s : ByteArray) (t f x y z : Int) (fl : Bool) (es : List (List LV)), us = [V k, .str s, V t, V f, V x, V y, V z, .sl fl es] := by
  obtain ⟨k, us, rfl, hk, h⟩ := ok_int h
  obtain ⟨s, us, rfl, hs, h⟩ := ok_str h
  obtain ⟨t, us, rfl, htt, h⟩ := ok_int h
  obtain ⟨f, us, rfl, hff, h⟩ := ok_int h
  obtain ⟨x, us, rfl, hx, h⟩ := ok_int h
  obtain ⟨y, us, rfl, hy, h⟩ := ok_int h
  obtain ⟨z, us, rfl, hz, h⟩ := ok_int h
  obtain ⟨fl, es, us, rfl, hn, hes, h⟩ := ok_sl h
  rw [ok_nil h]; exact ⟨k, s, t, f, x, y, z, fl, es, rfl⟩

set_option maxHeartbeats 400000 in
theorem PutCycle (us : List LV) (h : ok sCyc us) : Put 47 [.agg us] (enc sCyc us) := by
  refine Put_intro Try.func47 rfl (by kernel_rfl) rfl fun S u bs RR hacc hl hRR => ?_
  obtain ⟨nm, us, rfl, inm, h⟩ := ok_int h
  obtain ⟨tm, us, rfl, itm, h⟩ := ok_int h
  obtain ⟨ct, us, rfl, ict, h⟩ := ok_int h
  obtain ⟨fr, er, us, rfl, nr, hor, h⟩ := ok_sl h
  obtain ⟨ua, us, rfl, hA, h⟩ := app_inv h
  obtain ⟨fq, us, rfl, ifq, h⟩ := ok_int h
  obtain ⟨g1, d1, us, rfl, n1, o1, h⟩ := ok_sl h
  obtain ⟨g2, d2, us, rfl, n2, o2, hH⟩ := ok_sl h
  obtain ⟨f1, f2, f3, l1, l2, l3, hi, lo, an, ra, rd, rfl⟩ := okAna hA
  obtain ⟨fc, fl, ec, el, rfl⟩ := okHist hH
  have hE : enc sCyc (V nm :: V tm :: V ct :: .sl fr er :: ([.sl f1 l1, .sl f2 l2, .sl f3 l3, V hi, .int .u64 lo, V an, V ra, V rd] ++ V fq :: .sl g1 d1 :: .sl g2 d2 :: [.sl fc ec, .sl fl el])) = (be 8 (u64 nm) ++ (be 8 (u64 tm) ++ be 8 (u64 ct))) ++ ((be 4 er.length ++ er.flatMap (enc sRep)) ++ (enc sAna [.sl f1 l1, .sl f2 l2, .sl f3 l3, V hi, .int .u64 lo, V an, V ra, V rd] ++ (be 8 (u64 fq) ++ ((be 4 d1.length ++ d1.flatMap (enc sI)) ++ ((be 4 d2.length ++ d2.flatMap (enc sI)) ++ enc sHist [.sl fc ec, .sl fl el]))))) := by
    simp only [enc, sCyc, app_enc hA, List.append_assoc]
  rw [hE] at hl hRR
  simp only [List.length_append, be_length] at hl
  simp only [List.cons_append, List.nil_append]
  refine Lwp_seq fun KK0 hKK0 => ?_
  refine LregionG [none, none] (by kernel_rfl) (by kernel_rfl) ?_
  simp -dsimp only [go_sem, ↓reduceIte]
  repeat with_reducible refine And.intro (by first | omega | decide) ?_
  refine hKK0 _ _ ?_
  try clear hKK0 KK0
  refine Lwp_seq fun KK1 hKK1 => ?_
  refine Lwp_boxed 3 17 [V nm, V tm, V ct, .sl fr er, .sl f1 l1, .sl f2 l2, .sl f3 l3, V hi, .int .u64 lo, V an, V ra, V rd, V fq, .sl g1 d1, .sl g2 d2, .sl fc ec, .sl fl el] rfl (PutR.refl hacc) (by simp only [go_sem, ↓reduceIte]) fun S1 hp0 => ?_
  refine LregionG [none, none, none, none, none, none, none, none, none, none] (by kernel_rfl) (by kernel_rfl) ?_
  simp -dsimp only [go_sem, ↓reduceIte]
  repeat with_reducible refine And.intro (by first | omega | decide | assumption) ?_
  refine Put.kk (PI3 nm tm ct inm itm ict) (hp0) (by (try clear e1); simp only [List.length_append, List.length_cons, List.length_nil, be_length] at hl ⊢; omega) ?_
  rintro r S2 hp
  simp -dsimp only [go_sem, ↓reduceIte]
  refine hKK1 _ _ ?_
  try clear hKK1 KK1
  refine Lwp_seq fun KK2 hKK2 => ?_
  have e1 := u64_wrapN (n := er.length) (by omega)
  refine LregionG [none, none, none, none, none, none, none] (by kernel_rfl) (by kernel_rfl) ?_
  simp -dsimp only [go_sem, ↓reduceIte, e1]
  repeat with_reducible refine And.intro (by first | omega | decide | assumption) ?_
  refine Put.kk (Put4 er.length (by clear e1; omega)) (hp) (by (try clear e1); simp only [List.length_append, List.length_cons, List.length_nil, be_length] at hl ⊢; omega) ?_
  rintro r S2 hp
  simp -dsimp only [go_sem, ↓reduceIte]
  refine hKK2 _ _ ?_
  try clear hKK2 KK2
  refine Lwp_seq fun KK3 hKK3 => ?_
  refine Lwp_seq fun KK4 hKK4 => ?_
  refine LregionG [none] (by kernel_rfl) (by kernel_rfl) ?_
  simp -dsimp only [go_sem, ↓reduceIte]
  repeat with_reducible refine And.intro (by first | omega | decide) ?_
  refine hKK4 _ _ ?_
  try clear hKK4 KK4
  refine Lwp_block ?_
  clear e1
  refine Lwp_loopK [0, 3, 5] (fun m us S' => ∃ (k : Nat) (r : LV), us = [r, .eptr [V nm, V tm, V ct, .sl fr er, .sl f1 l1, .sl f2 l2, .sl f3 l3, V hi, .int .u64 lo, V an, V ra, V rd, V fq, .sl g1 d1, .sl g2 d2, .sl fc ec, .sl fl el] 0, V k] ∧ PutR S u bs ((be 8 (u64 nm) ++ (be 8 (u64 tm) ++ be 8 (u64 ct))) ++ (be 4 er.length ++ (er.take k).flatMap (enc sRep))) r S' ∧ k ≤ er.length ∧ m = er.length - k) er.length rfl (⟨0, r, by simp only [go_sem, ↓reduceIte, Int.natCast_zero], hp.cast (by simp), Nat.zero_le _, rfl⟩) ?_
  rintro m us S2 ⟨k, r, rfl, hp, hk, hm⟩ II hII
  refine Lwp_seq fun KK5 hKK5 => ?_
  refine Lwp_seq fun KK6 hKK6 => ?_
  refine LregionG [none, none, none, none, none] (by kernel_rfl) (by kernel_rfl) ?_
  simp -dsimp only [go_sem, ↓reduceIte]
  repeat with_reducible refine And.intro (by first | omega | decide) ?_
  refine hKK6 _ _ ?_
  try clear hKK6 KK6
  refine Lwp_cond (by simp only [go_sem, ↓reduceIte]; rfl) (fun ht => ?_) (fun hf => ?_)
  · skip
    have hk : k < er.length := by simpa using ht
    have hokr := ok_mem hor hk
    obtain ⟨q1, q2, q3, q4, q5, q6, q7, q8, q9, hw⟩ := okRep hokr
    have hnx := fm_next (f := enc sRep) hk
    have htk := fm_take (f := enc sRep) hk
    rw [hw] at hnx htk hokr
    have e2 : IntKind.i64.wrap ((k : Int) + 1) = ((k + 1 : Nat) : Int) := w64 (by omega) (by omega)
    refine Lwp_skip ?_
    try simp -dsimp only [go_sem, ↓reduceIte]
    refine hKK5 _ _ ?_
    try clear hKK5 KK5
    refine Lwp_seq fun KK7 hKK7 => ?_
    refine Lwp_block ?_
    refine LregionG [none, none, none, none, none, none, none, none] (by kernel_rfl) (by kernel_rfl) ?_
    simp -dsimp only [go_sem, ↓reduceIte, hw]
    repeat with_reducible refine And.intro (by first | omega | decide | assumption) ?_
    refine Put.kk (PutReport _ hokr) (hp) (by (try clear e1); simp only [List.length_append, List.length_cons, List.length_nil, be_length] at hl hnx ⊢; omega) ?_
    rintro r S2 hp
    simp -dsimp only [go_sem, ↓reduceIte]
    refine hKK7 _ _ ?_
    try clear hKK7 KK7
    refine LregionG [none, none, none] (by kernel_rfl) (by kernel_rfl) ?_
    simp -dsimp only [go_sem, ↓reduceIte, e2]
    repeat with_reducible refine And.intro (by first | omega | decide) ?_
    exact hII (er.length - (k + 1)) _ _ (by omega) ⟨k + 1, r, rfl, hp.cast (by rw [htk]; simp only [List.append_assoc]), hk, rfl⟩
  · skip
    obtain rfl : k = er.length := Nat.le_antisymm hk (Nat.le_of_not_lt (by simpa using hf))
    rw [List.take_length] at hp
    refine Lwp_exit ?_
    simp -dsimp only [go_sem, ↓reduceIte]
    refine hKK3 _ _ ?_
    try clear hKK3 KK3
    refine Lwp_seq fun KK8 hKK8 => ?_
    refine LregionG [none, none, none, none, none] (by kernel_rfl) (by kernel_rfl) ?_
    simp -dsimp only [go_sem, ↓reduceIte]
    repeat with_reducible refine And.intro (by first | omega | decide | assumption) ?_
    refine Put.kk (PutAnalysis _ hA) (hp) (by (try clear e1); simp only [List.length_append, List.length_cons, List.length_nil, be_length] at hl ⊢; omega) ?_
    rintro r S2 hp
    simp -dsimp only [go_sem, ↓reduceIte]
    refine hKK8 _ _ ?_
    try clear hKK8 KK8
    refine Lwp_seq fun KK9 hKK9 => ?_
    refine LdrawE [0,1,2,3,4,6,7,8,10,11,12,5,9,13,14] [] none (by kernel_rfl) (by kernel_rfl) (by kernel_rfl) (by kernel_rfl) (by simp [Watch.holds]) ?_
    simp -dsimp only [go_sem, ↓reduceIte]
    repeat with_reducible refine And.intro (by first | omega | decide | assumption) ?_
    refine Put.kk (PI1 fq ifq) (hp) (by (try clear e1); simp only [List.length_append, List.length_cons, List.length_nil, be_length] at hl ⊢; omega) ?_
    rintro r S2 hp
    simp -dsimp only [go_sem, ↓reduceIte]
    repeat with_reducible refine And.intro (by first | omega | decide | assumption) ?_
    refine Put.kk (PutSlice g1 d1 o1 n1) (hp) (by (try clear e1); simp only [List.length_append, List.length_cons, List.length_nil, be_length] at hl ⊢; omega) ?_
    rintro r S2 hp
    simp -dsimp only [go_sem, ↓reduceIte]
    repeat with_reducible refine And.intro (by first | omega | decide | assumption) ?_
    refine Put.kk (PutSlice g2 d2 o2 n2) (hp) (by (try clear e1); simp only [List.length_append, List.length_cons, List.length_nil, be_length] at hl ⊢; omega) ?_
    rintro r S2 hp
    simp -dsimp only [go_sem, ↓reduceIte]
    refine hKK9 _ _ ?_
    try clear hKK9 KK9
    refine Lwp_seq fun KK10 hKK10 => ?_
    refine LregionG [none, none, none, none, none] (by kernel_rfl) (by kernel_rfl) ?_
    simp -dsimp only [go_sem, ↓reduceIte]
    repeat with_reducible refine And.intro (by first | omega | decide | assumption) ?_
    refine Put.kk (PutHistory _ hH) (hp) (by (try clear e1); simp only [List.length_append, List.length_cons, List.length_nil, be_length] at hl ⊢; omega) ?_
    rintro r S2 hp
    simp -dsimp only [go_sem, ↓reduceIte]
    refine hKK10 _ _ ?_
    try clear hKK10 KK10
    refine Lwp_ret ?_
    simp only [LThen, LBlock, LPost, Try.results47]
    simp -dsimp only [go_sem, ↓reduceIte]
    exact ret_keep (hRR _ _ (hp.cast (by simp only [List.append_assoc])))


def b8 (k : Int) : UInt8 := UInt8.ofNat (k % 256).toNat
theorem u8_wrap (k : Int) : IntKind.u8.wrap k = ((b8 k).toNat : Int) := by
  rw [wu8m, b8]
  have h : (k % 256).toNat < 256 := by omega
  simp only [UInt8.toNat_ofNat']
  omega
def intOf : LV → Int
  | .int _ n => n
  | _ => 0
/-- what is written of an entry: nothing for a kind that does not exist. -/
def bodyE (us : List LV) : Option (List UInt8) :=
  let k := intOf (us.getD 0 .any)
  if k = 1 then some (b8 k :: enc sI (us.drop 1)) else if k = 2 then some (b8 k :: enc sItem (us.drop 2)) else if k = 3 then some (b8 k :: enc (.int (.str sPer)) (us.drop 12)) else if k = 4 then some (b8 k :: enc sCyc (us.drop 21)) else none
theorem enc_nil_app : ∀ {s : Sch} {us vs : List LV}, ok s us → enc s (us ++ vs) = enc s us
  | .nil, [], vs, _ => by cases vs <;> simp [enc]
  | .int r, .int k v :: us, vs, h => by simp only [ok] at h; simp only [List.cons_append, enc, enc_nil_app h.2.2.2]
  | .word r, .int k v :: us, vs, h => by simp only [ok] at h; simp only [List.cons_append, enc, enc_nil_app h.2.2.2]
  | .bool r, .bool b :: us, vs, h => by simp only [ok] at h; simp only [List.cons_append, enc, enc_nil_app (s := r) h]
  | .str r, .str b :: us, vs, h => by simp only [ok] at h; simp only [List.cons_append, enc, enc_nil_app h.2]
  | .sl e r, .sl f es :: us, vs, h => by simp only [ok] at h; simp only [List.cons_append, enc, enc_nil_app h.2.2]
/-- the cells of an entry. -/
abbrev logL (k now : Int) (k0 : Int) (s0 : ByteArray) (t0 f0 x0 y0 z0 : Int) (fl0 : Bool) (es0 : List (List LV)) (co ar st : Int) (nm : ByteArray) (fr : Int) (cl : Bool) (pf px py pz : Int) (fb : Bool) (eb : List (List LV)) (cy : List LV) : List LV :=
  V k :: V now :: V k0 :: .str s0 :: V t0 :: V f0 :: V x0 :: V y0 :: V z0 :: .sl fl0 es0 :: V co :: V ar :: V st :: .str nm :: V fr :: .bool cl :: V pf :: V px :: V py :: V pz :: .sl fb eb :: cy
theorem okCyc_len {us : List LV} (h : ok sCyc us) : us.length = 17 := by
  obtain ⟨nm, us, rfl, inm, h⟩ := ok_int h
  obtain ⟨tm, us, rfl, itm, h⟩ := ok_int h
  obtain ⟨ct, us, rfl, ict, h⟩ := ok_int h
  obtain ⟨fr, er, us, rfl, nr, hor, h⟩ := ok_sl h
  obtain ⟨ua, us, rfl, hA, h⟩ := app_inv h
  obtain ⟨fq, us, rfl, ifq, h⟩ := ok_int h
  obtain ⟨g1, d1, us, rfl, n1, o1, h⟩ := ok_sl h
  obtain ⟨g2, d2, us, rfl, n2, o2, hH⟩ := ok_sl h
  obtain ⟨f1, f2, f3, l1, l2, l3, hi, lo, an, ra, rd, rfl⟩ := okAna hA
  obtain ⟨fc, fl, ec, el, rfl⟩ := okHist hH
  rfl


/-- a slice that the call made, with these bytes. -/
def NewR (S : LS) (ys : List UInt8) (r : LV) (S' : LS) : Prop := PutR S (.sl true []) [] ys r S'
/-- what a call of 'body' gives. -/
def BodyR (us : List LV) (S : LS) (r : LV) (S' : LS) : Prop :=
  match bodyE us with
  | some bs => ∃ u, r = .tup [u, .bool true] ∧ NewR S bs u S'
  | none => r = .tup [.sl true [], .bool false] ∧ Keeps S S' []


theorem okLog {us : List LV} (h : ok sLog us) : ∃ (k now k0 : Int) (s0 : ByteArray) (t0 f0 x0 y0 z0 : Int) (fl0 : Bool) (es0 : List (List LV)) (co ar st : Int) (nm : ByteArray) (fr : Int) (cl : Bool) (pf px py pz : Int) (fb : Bool) (eb : List (List LV)) (cy : List LV),
    us = logL k now k0 s0 t0 f0 x0 y0 z0 fl0 es0 co ar st nm fr cl pf px py pz fb eb cy ∧ isI k ∧ isI now ∧ ok sRep [V k0, .str s0, V t0, V f0, V x0, V y0, V z0, .sl fl0 es0] ∧ isI co ∧ isI ar ∧ isI st ∧ nm.size < 4294967296 ∧ isI fr ∧ isI pf ∧ isI px ∧ isI py ∧ isI pz ∧ (eb.length < 4294967296 ∧ ∀ e ∈ eb, ok sRd e) ∧ ok sCyc cy := by
  obtain ⟨k, us, rfl, hk, h⟩ := ok_int h
  obtain ⟨now, us, rfl, inow, h⟩ := ok_int h
  obtain ⟨it, us, rfl, hI, h⟩ := app_inv h
  obtain ⟨st, us, rfl, ist, h⟩ := ok_int h
  obtain ⟨nm, us, rfl, inm, h⟩ := ok_str h
  obtain ⟨pe, cy, rfl, hP, hC⟩ := app_inv h
  obtain ⟨rep, us, rfl, hRp, h⟩ := app_inv hI
  obtain ⟨co, us, rfl, ico, h⟩ := ok_int h
  obtain ⟨ar, us, rfl, iar, h⟩ := ok_int h
  rw [ok_nil h] at hI ⊢
  obtain ⟨k0, s0, t0, f0, x0, y0, z0, fl0, es0, rfl⟩ := okRep hRp
  obtain ⟨fr, us, rfl, ifr, h⟩ := ok_int hP
  obtain ⟨cl, us, rfl, h⟩ := ok_bool h
  obtain ⟨pf, us, rfl, ipf, h⟩ := ok_int h
  obtain ⟨px, us, rfl, ipx, h⟩ := ok_int h
  obtain ⟨py, us, rfl, ipy, h⟩ := ok_int h
  obtain ⟨pz, us, rfl, ipz, h⟩ := ok_int h
  obtain ⟨fb, eb, us, rfl, nb, ob, h⟩ := ok_sl h
  rw [ok_nil h] at hP ⊢
  clear h
  have hcyl := okCyc_len hC
  simp only [List.cons_append, List.nil_append] at hP hI ⊢
  exact ⟨k, now, k0, s0, t0, f0, x0, y0, z0, fl0, es0, co, ar, st, nm, fr, cl, pf, px, py, pz, fb, eb, cy, rfl, hk, inow, hRp, ico, iar, ist, inm, ifr, ipf, ipx, ipy, ipz, ⟨nb, ob⟩, hC⟩
theorem bodyE_log {k now k0 : Int} {s0 : ByteArray} {t0 f0 x0 y0 z0 : Int} {fl0 : Bool} {es0 : List (List LV)} {co ar st : Int} {nm : ByteArray} {fr : Int} {cl : Bool} {pf px py pz : Int} {fb : Bool} {eb : List (List LV)} {cy : List LV} :
    bodyE (logL k now k0 s0 t0 f0 x0 y0 z0 fl0 es0 co ar st nm fr cl pf px py pz fb eb cy) =
    if k = 1 then some (b8 k :: be 8 (u64 now)) else if k = 2 then some (b8 k :: (enc sRep [V k0, .str s0, V t0, V f0, V x0, V y0, V z0, .sl fl0 es0] ++ (be 8 (u64 co) ++ be 8 (u64 ar)))) else if k = 3 then some (b8 k :: (be 8 (u64 st) ++ (be 4 nm.size ++ (nm.data.toList ++ (be 8 (u64 fr) ++ ((if cl then 1 else 0) :: (be 8 (u64 pf) ++ (be 8 (u64 px) ++ (be 8 (u64 py) ++ (be 8 (u64 pz) ++ (be 4 eb.length ++ eb.flatMap (enc sRd)))))))))))) else if k = 4 then some (b8 k :: enc sCyc cy) else none := by
  simp [bodyE, logL, intOf, enc, sI, sItem, sRep, sPer, Sch.app]

set_option maxHeartbeats 400000 in
theorem Body_ok {S : LS} (us : List LV) (h : ok sLog us) (hl : ∀ bs, bodyE us = some bs → bs.length ≤ 1073741824) : LCalls Try.prog 28 [.agg us] S (BodyR us S) := by
  refine LCalls_introK 0 Try.func28 rfl (by kernel_rfl) rfl fun RR hRR => ?_
  obtain ⟨k, now, k0, s0, t0, f0, x0, y0, z0, fl0, es0, co, ar, st, nm, fr, cl, pf, px, py, pz, fb, eb, cy, rfl, hk, inow, hRp, ico, iar, ist, inm, ifr, ipf, ipx, ipy, ipz, ⟨nb, ob⟩, hC⟩ := okLog h
  have hcyl := okCyc_len hC
  have e8 := u8_wrap k
  have htc : cy.take 17 = cy := List.take_of_length_le (by omega)
  unfold BodyR at hRR
  rw [bodyE_log] at hl hRR
  refine Lwp_seq fun KK0 hKK0 => ?_
  refine LregionG [none, none, none] (by kernel_rfl) (by kernel_rfl) ?_
  simp -dsimp only [go_sem, ↓reduceIte, hcyl]
  repeat with_reducible refine And.intro (by first | omega | decide) ?_
  refine hKK0 _ _ ?_
  try clear hKK0 KK0
  refine Lwp_seq fun KK1 hKK1 => ?_
  refine Lwp_boxed (u := .sl true []) (bs := []) 1 38 (logL k now k0 s0 t0 f0 x0 y0 z0 fl0 es0 co ar st nm fr cl pf px py pz fb eb cy) rfl (PutR.refl RowS.nil) (by simp only [go_sem, ↓reduceIte]) fun S1 hpz => ?_
  have hp0 : PutR S (.sl true []) [] [b8 k] (.sl true [[.int .u8 (b8 k).toNat]]) S1 := ⟨⟨fun e he => by simp at he; subst he; rfl, .inl rfl⟩, hpz.2.1, fun _ h => absurd h (by simp [rowIds]), fun h => absurd rfl h⟩
  refine LregionG [none, none, none, none, none] (by kernel_rfl) (by kernel_rfl) ?_
  simp -dsimp only [go_sem, ↓reduceIte, e8]
  repeat with_reducible refine And.intro (by first | omega | decide) ?_
  refine hKK1 _ _ ?_
  try clear hKK1 KK1
  refine Lwp_seq fun KK2 hKK2 => ?_
  refine Lwp_seq fun KK3 hKK3 => ?_
  refine LregionG [none, none] (by kernel_rfl) (by kernel_rfl) ?_
  simp -dsimp only [go_sem, ↓reduceIte]
  repeat with_reducible refine And.intro (by first | omega | decide) ?_
  refine hKK3 _ _ ?_
  try clear hKK3 KK3
  refine Lwp_block ?_
  refine Lwp_seq fun KK4 hKK4 => ?_
  refine LregionG [none, none] (by kernel_rfl) (by kernel_rfl) ?_
  simp -dsimp only [go_sem, ↓reduceIte]
  repeat with_reducible refine And.intro (by first | omega | decide) ?_
  refine hKK4 _ _ ?_
  try clear hKK4 KK4
  refine Lwp_cond (by simp only [go_sem, ↓reduceIte]; rfl) (fun ht => ?_) (fun hf => ?_)
  · skip
    have ht1 : k = 1 := by simpa using ht
    simp only [ht1, Int.reduceEq, if_true, if_false, Option.some.injEq, forall_eq'] at hl hRR
    have hl2 := hl
    refine Lwp_seq fun KK5 hKK5 => ?_
    refine LregionG [none, none, none, none, none, none, none] (by kernel_rfl) (by kernel_rfl) ?_
    simp -dsimp only [go_sem, ↓reduceIte]
    repeat with_reducible refine And.intro (by first | omega | decide | assumption) ?_
    refine Put.kk (PI1 now inow) (hp0) (by (try clear e8); (try clear hbE); simp only [List.length_append, List.length_cons, List.length_nil, be_length] at hl2 ⊢; omega) ?_
    rintro r S2 hp
    simp -dsimp only [go_sem, ↓reduceIte]
    refine hKK5 _ _ ?_
    try clear hKK5 KK5
    refine Lwp_ret ?_
    simp only [LThen, LBlock, LPost, Try.results28]
    simp -dsimp only [go_sem, ↓reduceIte]
    exact ret_keep (hRR _ _ ⟨_, rfl, hp.cast (by simp [ht1])⟩)
  · skip
    have hf1 : ¬ k = 1 := by simpa using hf
    refine Lwp_seq fun KK6 hKK6 => ?_
    refine LregionG [none, none] (by kernel_rfl) (by kernel_rfl) ?_
    simp -dsimp only [go_sem, ↓reduceIte]
    repeat with_reducible refine And.intro (by first | omega | decide) ?_
    refine hKK6 _ _ ?_
    try clear hKK6 KK6
    refine Lwp_cond (by simp only [go_sem, ↓reduceIte]; rfl) (fun ht => ?_) (fun hf => ?_)
    · skip
      have ht1 : k = 2 := by simpa using ht
      simp only [ht1, Int.reduceEq, if_true, if_false, Option.some.injEq, forall_eq'] at hl hRR
      have hl2 := hl
      refine Lwp_seq fun KK7 hKK7 => ?_
      refine LdrawE [0,1,2,3,5,6,7,8,9,10,11,4,12,13,14] [] none (by kernel_rfl) (by kernel_rfl) (by kernel_rfl) (by kernel_rfl) (by simp [Watch.holds]) ?_
      simp -dsimp only [go_sem, ↓reduceIte]
      repeat with_reducible refine And.intro (by first | omega | decide | assumption) ?_
      refine Put.kk (PutReport _ hRp) (hp0) (by (try clear e8); (try clear hbE); simp only [List.length_append, List.length_cons, List.length_nil, be_length] at hl2 ⊢; omega) ?_
      rintro r S2 hp
      simp -dsimp only [go_sem, ↓reduceIte]
      repeat with_reducible refine And.intro (by first | omega | decide | assumption) ?_
      refine Put.kk (PI2 co ar ico iar) (hp) (by (try clear e8); (try clear hbE); simp only [List.length_append, List.length_cons, List.length_nil, be_length] at hl2 ⊢; omega) ?_
      rintro r S2 hp
      simp -dsimp only [go_sem, ↓reduceIte]
      refine hKK7 _ _ ?_
      try clear hKK7 KK7
      refine Lwp_ret ?_
      simp only [LThen, LBlock, LPost, Try.results28]
      simp -dsimp only [go_sem, ↓reduceIte]
      exact ret_keep (hRR _ _ ⟨_, rfl, hp.cast (by simp [ht1])⟩)
    · skip
      have hf2 : ¬ k = 2 := by simpa using hf
      refine Lwp_seq fun KK8 hKK8 => ?_
      refine LregionG [none, none] (by kernel_rfl) (by kernel_rfl) ?_
      simp -dsimp only [go_sem, ↓reduceIte]
      repeat with_reducible refine And.intro (by first | omega | decide) ?_
      refine hKK8 _ _ ?_
      try clear hKK8 KK8
      refine Lwp_cond (by simp only [go_sem, ↓reduceIte]; rfl) (fun ht => ?_) (fun hf => ?_)
      · skip
        have ht1 : k = 3 := by simpa using ht
        simp only [ht1, Int.reduceEq, if_true, if_false, Option.some.injEq, forall_eq'] at hl hRR
        have hl2 := hl
        refine Lwp_seq fun KK9 hKK9 => ?_
        refine LdrawE [0,1,2,3,5,6,4,7,8] [] none (by kernel_rfl) (by kernel_rfl) (by kernel_rfl) (by kernel_rfl) (by simp [Watch.holds]) ?_
        simp -dsimp only [go_sem, ↓reduceIte]
        repeat with_reducible refine And.intro (by first | omega | decide | assumption) ?_
        refine Put.kk (PI1 st ist) (hp0) (by (try clear e8); (try clear hbE); simp only [List.length_append, List.length_cons, List.length_nil, be_length] at hl2 ⊢; omega) ?_
        rintro r S2 hp
        simp -dsimp only [go_sem, ↓reduceIte]
        repeat with_reducible refine And.intro (by first | omega | decide | assumption) ?_
        refine Put.kk (PutString nm inm) (hp) (by (try clear e8); (try clear hbE); simp only [List.length_append, List.length_cons, List.length_nil, be_length] at hl2 ⊢; omega) ?_
        rintro r S2 hp
        simp -dsimp only [go_sem, ↓reduceIte]
        refine hKK9 _ _ ?_
        try clear hKK9 KK9
        refine Lwp_seq fun KK10 hKK10 => ?_
        refine LdrawE [0,1,2,3,4,6,7,8,5,9,10] [] none (by kernel_rfl) (by kernel_rfl) (by kernel_rfl) (by kernel_rfl) (by simp [Watch.holds]) ?_
        simp -dsimp only [go_sem, ↓reduceIte]
        repeat with_reducible refine And.intro (by first | omega | decide | assumption) ?_
        refine Put.kk (PI1 fr ifr) (hp) (by (try clear e8); (try clear hbE); simp only [List.length_append, List.length_cons, List.length_nil, be_length] at hl2 ⊢; omega) ?_
        rintro r S2 hp
        simp -dsimp only [go_sem, ↓reduceIte]
        repeat with_reducible refine And.intro (by first | omega | decide | assumption) ?_
        refine Put.kk (PutBool cl) (hp) (by (try clear e8); (try clear hbE); simp only [List.length_append, List.length_cons, List.length_nil, be_length] at hl2 ⊢; omega) ?_
        rintro r S2 hp
        simp -dsimp only [go_sem, ↓reduceIte]
        refine hKK10 _ _ ?_
        try clear hKK10 KK10
        refine Lwp_seq fun KK11 hKK11 => ?_
        refine LdrawE [0,1,2,3,5,6,7,4,8,9,10] [] none (by kernel_rfl) (by kernel_rfl) (by kernel_rfl) (by kernel_rfl) (by simp [Watch.holds]) ?_
        simp -dsimp only [go_sem, ↓reduceIte]
        repeat with_reducible refine And.intro (by first | omega | decide | assumption) ?_
        refine Put.kk (PutPlace pf px py pz ipf ipx ipy ipz) (hp) (by (try clear e8); (try clear hbE); simp only [List.length_append, List.length_cons, List.length_nil, be_length] at hl2 ⊢; omega) ?_
        rintro r S2 hp
        simp -dsimp only [go_sem, ↓reduceIte]
        repeat with_reducible refine And.intro (by first | omega | decide | assumption) ?_
        refine Put.kk (PutReadings fb eb ob nb) (hp) (by (try clear e8); (try clear hbE); simp only [List.length_append, List.length_cons, List.length_nil, be_length] at hl2 ⊢; omega) ?_
        rintro r S2 hp
        simp -dsimp only [go_sem, ↓reduceIte]
        refine hKK11 _ _ ?_
        try clear hKK11 KK11
        refine Lwp_ret ?_
        simp only [LThen, LBlock, LPost, Try.results28]
        simp -dsimp only [go_sem, ↓reduceIte]
        exact ret_keep (hRR _ _ ⟨_, rfl, hp.cast (by simp [ht1])⟩)
      · skip
        have hf3 : ¬ k = 3 := by simpa using hf
        refine Lwp_seq fun KK12 hKK12 => ?_
        refine LregionG [none, none] (by kernel_rfl) (by kernel_rfl) ?_
        simp -dsimp only [go_sem, ↓reduceIte]
        repeat with_reducible refine And.intro (by first | omega | decide) ?_
        refine hKK12 _ _ ?_
        try clear hKK12 KK12
        refine Lwp_cond (by simp only [go_sem, ↓reduceIte]; rfl) (fun ht => ?_) (fun hf => ?_)
        · skip
          have ht1 : k = 4 := by simpa using ht
          simp only [ht1, Int.reduceEq, if_true, if_false, Option.some.injEq, forall_eq'] at hl hRR
          have hl2 := hl
          refine Lwp_seq fun KK13 hKK13 => ?_
          refine LregionG [none, none, none, none, none, none] (by kernel_rfl) (by kernel_rfl) ?_
          simp -dsimp only [go_sem, ↓reduceIte, htc]
          repeat with_reducible refine And.intro (by first | omega | decide | assumption) ?_
          refine Put.kk (PutCycle cy hC) (hp0) (by (try clear e8); (try clear hbE); simp only [List.length_append, List.length_cons, List.length_nil, be_length] at hl2 ⊢; omega) ?_
          rintro r S2 hp
          simp -dsimp only [go_sem, ↓reduceIte]
          refine hKK13 _ _ ?_
          try clear hKK13 KK13
          refine Lwp_ret ?_
          simp only [LThen, LBlock, LPost, Try.results28]
          simp -dsimp only [go_sem, ↓reduceIte]
          exact ret_keep (hRR _ _ ⟨_, rfl, hp.cast (by simp [ht1])⟩)
        · skip
          have hf4 : ¬ k = 4 := by simpa using hf
          simp only [hf1, hf2, hf3, hf4, if_false] at hRR
          refine Lwp_skip ?_
          try simp -dsimp only [go_sem, ↓reduceIte]
          refine hKK2 _ _ ?_
          try clear hKK2 KK2
          refine Lwp_seq fun KK14 hKK14 => ?_
          refine LregionG [none, none] (by kernel_rfl) (by kernel_rfl) ?_
          simp -dsimp only [go_sem, ↓reduceIte]
          repeat with_reducible refine And.intro (by first | omega | decide) ?_
          refine hKK14 _ _ ?_
          try clear hKK14 KK14
          refine Lwp_ret ?_
          simp only [LThen, LBlock, LPost, Try.results28]
          simp -dsimp only [go_sem, ↓reduceIte]
          exact ret_keep (hRR _ _ ⟨rfl, hpz.2.1⟩)

end Go.Proofs.Ytdhngmldmalbbaa
end
section
set_option linter.all false
namespace Go.Proofs.Ytdhngmldmalbbaa
open Go.Lift Go.RowKit Go.Store
set_option linter.unusedSimpArgs false
set_option linter.unusedVariables false

def chkN (bs : List UInt8) : Nat := bs.foldl (fun s b => (s * 31 + b.toNat) % 4294967291) 1
theorem chkN_take {bs : List UInt8} {k : Nat} (h : k < bs.length) : chkN (bs.take (k + 1)) = (chkN (bs.take k) * 31 + (bs.getD k 0).toNat) % 4294967291 := by
  unfold chkN
  rw [List.take_succ_eq_append_getElem h, List.foldl_append, List.getD_eq_getElem?_getD, List.getElem?_eq_getElem h]
  rfl
theorem chk_lt : ∀ (bs : List UInt8) (s : Nat), s < 4294967291 → bs.foldl (fun s b => (s * 31 + b.toNat) % 4294967291) s < 4294967291
  | [], s, h => h
  | b :: bs, s, h => chk_lt bs _ (Nat.mod_lt _ (by decide))
theorem chkN_lt (bs : List UInt8) : chkN bs < 4294967291 := chk_lt bs 1 (by decide)
theorem chk_step (s b : Nat) (hs : s < 4294967291) (hb : b < 256) : Int.tmod (IntKind.u64.wrap (IntKind.u64.wrap ((s : Int) * 31) + (b : Int))) 4294967291 = (((s * 31 + b) % 4294967291 : Nat) : Int) := by
  have e1 : IntKind.u64.wrap ((s : Int) * 31) = (s : Int) * 31 := wu64 (by omega) (by omega)
  have e2 : IntKind.u64.wrap ((s : Int) * 31 + (b : Int)) = (s : Int) * 31 + b := wu64 (by omega) (by omega)
  rw [e1, e2, Int.tmod_eq_emod_of_nonneg (by omega)]
  omega
/-- a slice of bytes, known or in the store. -/
def Rd (S : LS) (u : LV) (bs : List UInt8) : Prop := (∃ f, u = .sl f (bs.map u8c)) ∨ ∃ id, u = .ref id 0 bs.length ∧ S[id]? = some (some (1, bs.map u8c))
theorem Acc.rd {S : LS} {u : LV} {bs : List UInt8} (h : Acc S u bs) : Rd S u bs := by
  rcases h.2 with h | ⟨id, g1, g2, g3⟩
  · exact .inl ⟨_, h⟩
  · exact .inr ⟨id, by rw [g2, List.length_map], g3⟩

set_option maxHeartbeats 400000 in
theorem Chk_sl {S : LS} (bs : List UInt8) (hn : bs.length ≤ 1099511627776) (f : Bool) : LCalls Try.prog 13 [.sl f (bs.map u8c)] S (fun r S' => r = .int .u64 (chkN bs) ∧ S' = S) := by
  refine LCalls_introK 0 Try.func13 rfl (by kernel_rfl) rfl fun RR hRR => ?_
  refine Lwp_seq fun KK0 hKK0 => ?_
  refine LregionG [none] (by kernel_rfl) (by kernel_rfl) ?_
  simp -dsimp only [go_sem, ↓reduceIte]
  repeat with_reducible refine And.intro (by first | omega | decide) ?_
  refine hKK0 _ _ ?_
  try clear hKK0 KK0
  refine Lwp_seq fun KK1 hKK1 => ?_
  refine LregionG [none] (by kernel_rfl) (by kernel_rfl) ?_
  simp -dsimp only [go_sem, ↓reduceIte]
  repeat with_reducible refine And.intro (by first | omega | decide) ?_
  refine hKK1 _ _ ?_
  try clear hKK1 KK1
  refine Lwp_seq fun KK2 hKK2 => ?_
  refine Lwp_seq fun KK3 hKK3 => ?_
  refine LregionG [none] (by kernel_rfl) (by kernel_rfl) ?_
  simp -dsimp only [go_sem, ↓reduceIte]
  repeat with_reducible refine And.intro (by first | omega | decide) ?_
  refine hKK3 _ _ ?_
  try clear hKK3 KK3
  refine Lwp_block ?_
  refine Lwp_loopK [0, 3, 4] (fun m us S' => ∃ k : Nat, us = [.sl f (bs.map u8c), .int .u64 (chkN (bs.take k)), V k] ∧ S' = S ∧ k ≤ bs.length ∧ m = bs.length - k) bs.length rfl (⟨0, by simp only [go_sem, ↓reduceIte, Int.natCast_zero]; rfl, rfl, Nat.zero_le _, rfl⟩) ?_
  rintro m us S2 ⟨k, rfl, rfl, hk, hm⟩ II hII
  refine Lwp_seq fun KK4 hKK4 => ?_
  refine Lwp_seq fun KK5 hKK5 => ?_
  refine LregionG [none, none, none, none] (by kernel_rfl) (by kernel_rfl) ?_
  simp -dsimp only [go_sem, ↓reduceIte]
  repeat with_reducible refine And.intro (by first | omega | decide) ?_
  refine hKK5 _ _ ?_
  try clear hKK5 KK5
  refine Lwp_cond (by simp only [go_sem, ↓reduceIte]; rfl) (fun ht => ?_) (fun hf => ?_)
  · skip
    have hk : k < bs.length := by simpa using ht
    have hb : (bs.getD k 0).toNat < 256 := (bs.getD k 0).toNat_lt
    have e1 := chk_step (chkN (bs.take k)) (bs.getD k 0).toNat (chkN_lt _) hb
    have e0 := u8c_getD hk
    have e5 : (bs.map u8c)[k]? = some [.int .u8 (bs.getD k 0).toNat] := by
      rw [List.getElem?_map, List.getD_eq_getElem?_getD, List.getElem?_eq_getElem hk]; rfl
    rw [← chkN_take hk] at e1
    have e2 : IntKind.i64.wrap ((k : Int) + 1) = ((k + 1 : Nat) : Int) := w64 (by omega) (by omega)
    have e3 : IntKind.u64.wrap (((bs.getD k 0).toNat : Nat) : Int) = (((bs.getD k 0).toNat : Nat) : Int) := wu64 (by omega) (by omega)
    refine Lwp_skip ?_
    try simp -dsimp only [go_sem, ↓reduceIte]
    refine hKK4 _ _ ?_
    try clear hKK4 KK4
    refine Lwp_seq fun KK6 hKK6 => ?_
    refine Lwp_block ?_
    refine LregionG [none, none, none, none, none, none, none, none, none, none] (by kernel_rfl) (by kernel_rfl) ?_
    simp -dsimp only [go_sem, ↓reduceIte, e0, e1, e3]
    repeat with_reducible refine And.intro (by first | omega | decide) ?_
    refine hKK6 _ _ ?_
    try clear hKK6 KK6
    refine LregionG [none, none, none] (by kernel_rfl) (by kernel_rfl) ?_
    simp -dsimp only [go_sem, ↓reduceIte, e2]
    repeat with_reducible refine And.intro (by first | omega | decide) ?_
    exact hII (bs.length - (k + 1)) _ _ (by omega) ⟨k + 1, rfl, rfl, hk, rfl⟩
  · skip
    obtain rfl : k = bs.length := Nat.le_antisymm hk (Nat.le_of_not_lt (by simpa using hf))
    rw [List.take_length]
    refine Lwp_exit ?_
    simp -dsimp only [go_sem, ↓reduceIte]
    refine hKK2 _ _ ?_
    try clear hKK2 KK2
    refine Lwp_seq fun KK7 hKK7 => ?_
    refine LregionG [none, none] (by kernel_rfl) (by kernel_rfl) ?_
    simp -dsimp only [go_sem, ↓reduceIte]
    repeat with_reducible refine And.intro (by first | omega | decide) ?_
    refine hKK7 _ _ ?_
    try clear hKK7 KK7
    refine Lwp_ret ?_
    simp only [LThen, LBlock, LPost, Try.results13]
    simp -dsimp only [go_sem, ↓reduceIte]
    refine ret_self (by simp only [go_sem, ↓reduceIte, LV.lt, ltL, ltLL]) ?_
    try simp only [go_sem, ↓reduceIte]
    exact hRR _ _ ⟨rfl, rfl⟩

set_option maxHeartbeats 400000 in
theorem Chk_ref {S : LS} (bs : List UInt8) (hn : bs.length ≤ 1099511627776) (id : Nat) (hid : S[id]? = some (some (1, bs.map u8c))) : LCalls Try.prog 13 [.ref id 0 bs.length] S (fun r S' => r = .int .u64 (chkN bs) ∧ S' = S) := by
  refine LCalls_introK 0 Try.func13 rfl (by kernel_rfl) rfl fun RR hRR => ?_
  refine Lwp_seq fun KK0 hKK0 => ?_
  refine LregionG [none] (by kernel_rfl) (by kernel_rfl) ?_
  simp -dsimp only [go_sem, ↓reduceIte]
  repeat with_reducible refine And.intro (by first | omega | decide) ?_
  refine hKK0 _ _ ?_
  try clear hKK0 KK0
  refine Lwp_seq fun KK1 hKK1 => ?_
  refine LregionG [none] (by kernel_rfl) (by kernel_rfl) ?_
  simp -dsimp only [go_sem, ↓reduceIte]
  repeat with_reducible refine And.intro (by first | omega | decide) ?_
  refine hKK1 _ _ ?_
  try clear hKK1 KK1
  refine Lwp_seq fun KK2 hKK2 => ?_
  refine Lwp_seq fun KK3 hKK3 => ?_
  refine LregionG [none] (by kernel_rfl) (by kernel_rfl) ?_
  simp -dsimp only [go_sem, ↓reduceIte]
  repeat with_reducible refine And.intro (by first | omega | decide) ?_
  refine hKK3 _ _ ?_
  try clear hKK3 KK3
  refine Lwp_block ?_
  refine Lwp_loopK [0, 3, 4] (fun m us S' => ∃ k : Nat, us = [.ref id 0 bs.length, .int .u64 (chkN (bs.take k)), V k] ∧ S' = S ∧ k ≤ bs.length ∧ m = bs.length - k) bs.length rfl (⟨0, by simp only [go_sem, ↓reduceIte, Int.natCast_zero]; rfl, rfl, Nat.zero_le _, rfl⟩) ?_
  rintro m us S2 ⟨k, rfl, rfl, hk, hm⟩ II hII
  refine Lwp_seq fun KK4 hKK4 => ?_
  refine Lwp_seq fun KK5 hKK5 => ?_
  refine LregionG [none, none, none, none] (by kernel_rfl) (by kernel_rfl) ?_
  simp -dsimp only [go_sem, ↓reduceIte]
  repeat with_reducible refine And.intro (by first | omega | decide) ?_
  refine hKK5 _ _ ?_
  try clear hKK5 KK5
  refine Lwp_cond (by simp only [go_sem, ↓reduceIte]; rfl) (fun ht => ?_) (fun hf => ?_)
  · skip
    have hk : k < bs.length := by simpa using ht
    have hb : (bs.getD k 0).toNat < 256 := (bs.getD k 0).toNat_lt
    have e1 := chk_step (chkN (bs.take k)) (bs.getD k 0).toNat (chkN_lt _) hb
    have e0 := u8c_getD hk
    have e5 : (bs.map u8c)[k]? = some [.int .u8 (bs.getD k 0).toNat] := by
      rw [List.getElem?_map, List.getD_eq_getElem?_getD, List.getElem?_eq_getElem hk]; rfl
    rw [← chkN_take hk] at e1
    have e2 : IntKind.i64.wrap ((k : Int) + 1) = ((k + 1 : Nat) : Int) := w64 (by omega) (by omega)
    have e3 : IntKind.u64.wrap (((bs.getD k 0).toNat : Nat) : Int) = (((bs.getD k 0).toNat : Nat) : Int) := wu64 (by omega) (by omega)
    refine Lwp_skip ?_
    try simp -dsimp only [go_sem, ↓reduceIte]
    refine hKK4 _ _ ?_
    try clear hKK4 KK4
    refine Lwp_seq fun KK6 hKK6 => ?_
    refine Lwp_block ?_
    refine LregionG [none, none, none, none, none, none, none, none, none, none] (by kernel_rfl) (by kernel_rfl) ?_
    simp -dsimp only [go_sem, ↓reduceIte, e0, e1, e3, hid, Option.join_some, Nat.zero_add, e5]
    repeat with_reducible refine And.intro (by first | omega | decide) ?_
    refine hKK6 _ _ ?_
    try clear hKK6 KK6
    refine LregionG [none, none, none] (by kernel_rfl) (by kernel_rfl) ?_
    simp -dsimp only [go_sem, ↓reduceIte, e2]
    repeat with_reducible refine And.intro (by first | omega | decide) ?_
    exact hII (bs.length - (k + 1)) _ _ (by omega) ⟨k + 1, rfl, rfl, hk, rfl⟩
  · skip
    obtain rfl : k = bs.length := Nat.le_antisymm hk (Nat.le_of_not_lt (by simpa using hf))
    rw [List.take_length]
    refine Lwp_exit ?_
    simp -dsimp only [go_sem, ↓reduceIte]
    refine hKK2 _ _ ?_
    try clear hKK2 KK2
    refine Lwp_seq fun KK7 hKK7 => ?_
    refine LregionG [none, none] (by kernel_rfl) (by kernel_rfl) ?_
    simp -dsimp only [go_sem, ↓reduceIte]
    repeat with_reducible refine And.intro (by first | omega | decide) ?_
    refine hKK7 _ _ ?_
    try clear hKK7 KK7
    refine Lwp_ret ?_
    simp only [LThen, LBlock, LPost, Try.results13]
    simp -dsimp only [go_sem, ↓reduceIte]
    refine ret_self (by simp only [go_sem, ↓reduceIte, LV.lt, ltL, ltLL]) ?_
    try simp only [go_sem, ↓reduceIte]
    exact hRR _ _ ⟨rfl, rfl⟩


theorem Chk_ok {S : LS} {u : LV} {bs : List UInt8} (h : Rd S u bs) (hn : bs.length ≤ 1099511627776) : LCalls Try.prog 13 [u] S (fun r S' => r = .int .u64 (chkN bs) ∧ S' = S) := by
  rcases h with ⟨f, rfl⟩ | ⟨id, rfl, hid⟩
  · exact Chk_sl bs hn f
  · exact Chk_ref bs hn id hid

end Go.Proofs.Ytdhngmldmalbbaa
end
section
set_option linter.all false
namespace Go.Proofs.Ytdhngmldmalbbaa
open Go.Lift Go.RowKit Go.Store
set_option linter.unusedSimpArgs false
set_option linter.unusedVariables false

theorem okLog_len {us : List LV} (h : ok sLog us) : us.length = 38 := by
  obtain ⟨k, now, k0, s0, t0, f0, x0, y0, z0, fl0, es0, co, ar, st, nm, fr, cl, pf, px, py, pz, fb, eb, cy, rfl, hk, inow, hRp, ico, iar, ist, inm, ifr, ipf, ipx, ipy, ipz, ⟨nb, ob⟩, hC⟩ := okLog h
  simp [logL, okCyc_len hC]
theorem Rd.src {S : LS} {u : LV} {bs : List UInt8} (h : Rd S u bs) : srcC S.g u ∧ srcG S.g u = some (bs.map u8c) := by
  rcases h with ⟨f, rfl⟩ | ⟨id, rfl, hid⟩
  · exact ⟨trivial, rfl⟩
  · have hg : S.g id = some (1, bs.map u8c) := by simp [LS.g, hid]
    have ht : (bs.map u8c).take bs.length = bs.map u8c := List.take_of_length_le (by simp)
    constructor
    · simp [srcC, hg]
    · simp [srcG, hg, ht]
theorem Rd.keep {S S' : LS} {u : LV} {bs : List UInt8} {ids : List Nat} (h : Rd S u bs) (hk : Keeps S S' ids) (hd : ∀ id ∈ rowIds u, id ∉ ids) : Rd S' u bs := by
  rcases h with h | ⟨id, rfl, hid⟩
  · exact .inl h
  · exact .inr ⟨id, rfl, hk.get hid (hd id (by simp [rowIds]))⟩
theorem NewR.after {S S1 S' : LS} {ys : List UInt8} {r : LV} (h : Keeps S S1 []) (h' : NewR S1 ys r S') : NewR S ys r S' :=
  ⟨h'.1, h.trans h'.2.1 (fun _ _ h => h.elim id id), fun id hid => (h'.2.2.1 id hid).elim (fun h => absurd h (by simp [rowIds])) fun hh => .inr (Nat.le_trans h.1 hh), h'.2.2.2⟩
theorem NewR.acc {S S' : LS} {ys : List UInt8} {r : LV} (h : NewR S ys r S') : Acc S' r ys := by
  have := h.1
  rwa [List.nil_append] at this
theorem NewR.nil (S : LS) : NewR S [] (.sl true []) S := PutR.refl RowS.nil

/-- the entry as it is kept. -/
def framed (bs : List UInt8) : List UInt8 := be 4 bs.length ++ bs ++ be 4 (chkN (be 4 bs.length ++ bs))
/-- what a call of 'Encode' gives. -/
def EncR (us : List LV) (S : LS) (r : LV) (S' : LS) : Prop :=
  match bodyE us with
  | some bs => if bs.length + 8 ≤ 1048576 then ∃ u, r = .tup [u, V 0] ∧ NewR S (framed bs) u S' else r = .tup [.sl true [], V 2] ∧ Keeps S S' []
  | none => r = .tup [.sl true [], V 4] ∧ Keeps S S' []


theorem BodyR.cs {us : List LV} {S S' : LS} {r : LV} (h : BodyR us S r S') : (bodyE us = none ∧ r = .tup [.sl true [], .bool false] ∧ Keeps S S' []) ∨ (∃ bs f, bodyE us = some bs ∧ r = .tup [.sl f (bs.map u8c), .bool true] ∧ NewR S bs (.sl f (bs.map u8c)) S') ∨
    ∃ bs id, bodyE us = some bs ∧ r = .tup [.ref id 0 bs.length, .bool true] ∧ S'[id]? = some (some (1, bs.map u8c)) ∧ NewR S bs (.ref id 0 bs.length) S' := by
  unfold BodyR at h
  cases hE : bodyE us with
  | none => rw [hE] at h; exact .inl ⟨rfl, h.1, h.2⟩
  | some bs =>
    rw [hE] at h
    obtain ⟨u, rfl, hN⟩ := h
    rcases hN.acc.rd with ⟨f, rfl⟩ | ⟨id, rfl, hid⟩
    · exact .inr (.inl ⟨bs, f, rfl, rfl, hN⟩)
    · exact .inr (.inr ⟨bs, id, rfl, rfl, hid, hN⟩)

set_option maxHeartbeats 400000 in
theorem Encode_ok {S : LS} (us : List LV) (h : ok sLog us) (hl : ∀ bs, bodyE us = some bs → bs.length ≤ 1073741824) : LCalls Try.prog 10 [.agg us] S (EncR us S) := by
  refine LCalls_introK 0 Try.func10 rfl (by kernel_rfl) rfl fun RR hRR => ?_
  have hlen := okLog_len h
  have htk : us.take 38 = us := List.take_of_length_le (by omega)
  unfold EncR at hRR
  refine Lwp_seq fun KK0 hKK0 => ?_
  refine LregionG [none, none, none] (by kernel_rfl) (by kernel_rfl) ?_
  simp -dsimp only [go_sem, ↓reduceIte, hlen]
  repeat with_reducible refine And.intro (by first | omega | decide) ?_
  refine hKK0 _ _ ?_
  try clear hKK0 KK0
  refine Lwp_seq fun KK1 hKK1 => ?_
  refine Lwp_boxed (u := .sl true []) (bs := []) 1 38 us rfl (PutR.refl RowS.nil) (by simp only [go_sem, ↓reduceIte]) fun S1 hpz => ?_
  have hK1 : Keeps S S1 [] := hpz.2.1
  refine LregionG [none, none, none, none, none, none, none] (by kernel_rfl) (by kernel_rfl) ?_
  simp -dsimp only [go_sem, ↓reduceIte, hlen, htk]
  refine (Body_ok us h hl).k ?_
  intro r S2 hb
  rcases hb.cs with hb | hb | hb
  · skip
    obtain ⟨hE, rfl, hK2⟩ := hb
    rw [hE] at hRR
    have hK := hK1.trans hK2 (ids'' := []) (fun _ _ h => h.elim id id)
    simp -dsimp only [go_sem, ↓reduceIte]
    refine hKK1 _ _ ?_
    try clear hKK1 KK1
    refine Lwp_seq fun KK2 hKK2 => ?_
    refine Lwp_seq fun KK3 hKK3 => ?_
    refine LregionG [none, none] (by kernel_rfl) (by kernel_rfl) ?_
    simp -dsimp only [go_sem, ↓reduceIte]
    repeat with_reducible refine And.intro (by first | omega | decide) ?_
    refine hKK3 _ _ ?_
    try clear hKK3 KK3
    refine Lwp_cond (by simp only [go_sem, ↓reduceIte]; rfl) (fun ht => ?_) (fun hf => ?_)
    · skip
      
      refine Lwp_seq fun KK4 hKK4 => ?_
      refine LregionG [none, none] (by kernel_rfl) (by kernel_rfl) ?_
      simp -dsimp only [go_sem, ↓reduceIte]
      repeat with_reducible refine And.intro (by first | omega | decide) ?_
      refine hKK4 _ _ ?_
      try clear hKK4 KK4
      refine Lwp_ret ?_
      simp only [LThen, LBlock, LPost, Try.results10]
      simp -dsimp only [go_sem, ↓reduceIte]
      exact ret_keep (hRR _ _ ⟨rfl, hK⟩)
    · skip
      cases hf
  · skip
    obtain ⟨bs, f, hE, rfl, hN⟩ := hb
    have hK := hK1.trans hN.2.1 (ids'' := []) (fun _ _ h => h.elim id id)
    have hbl := hl bs hE
    have hrd := hN.acc.rd
    rw [hE] at hRR
    simp only [] at hRR
    have e1 : IntKind.i64.wrap ((bs.length : Int) + 8) = (bs.length : Int) + 8 := w64 (by omega) (by omega)
    have e2 := u64_wrapN (n := bs.length) (by clear e1; omega)
    simp -dsimp only [go_sem, ↓reduceIte]
    refine hKK1 _ _ ?_
    try clear hKK1 KK1
    refine Lwp_seq fun KK5 hKK5 => ?_
    refine Lwp_seq fun KK6 hKK6 => ?_
    refine LregionG [none, none] (by kernel_rfl) (by kernel_rfl) ?_
    simp -dsimp only [go_sem, ↓reduceIte]
    repeat with_reducible refine And.intro (by first | omega | decide) ?_
    refine hKK6 _ _ ?_
    try clear hKK6 KK6
    refine Lwp_cond (by simp only [go_sem, ↓reduceIte]; rfl) (fun ht => ?_) (fun hf => ?_)
    · skip
      cases ht
    · skip
      refine Lwp_skip ?_
      try simp -dsimp only [go_sem, ↓reduceIte]
      refine hKK5 _ _ ?_
      try clear hKK5 KK5
      refine Lwp_seq fun KK7 hKK7 => ?_
      refine Lwp_seq fun KK8 hKK8 => ?_
      refine LregionG [none, none, none, none] (by kernel_rfl) (by kernel_rfl) ?_
      simp -dsimp only [go_sem, ↓reduceIte, e1]
      repeat with_reducible refine And.intro (by first | omega | decide) ?_
      refine hKK8 _ _ ?_
      try clear hKK8 KK8
      refine Lwp_cond (by simp only [go_sem, ↓reduceIte]; rfl) (fun ht => ?_) (fun hf => ?_)
      · skip
        have hgt : ¬ bs.length + 8 ≤ 1048576 := by simp at ht; omega
        simp only [hgt, if_false] at hRR
        refine Lwp_seq fun KK9 hKK9 => ?_
        refine LregionG [none, none] (by kernel_rfl) (by kernel_rfl) ?_
        simp -dsimp only [go_sem, ↓reduceIte]
        repeat with_reducible refine And.intro (by first | omega | decide) ?_
        refine hKK9 _ _ ?_
        try clear hKK9 KK9
        refine Lwp_ret ?_
        simp only [LThen, LBlock, LPost, Try.results10]
        simp -dsimp only [go_sem, ↓reduceIte]
        exact ret_keep (hRR _ _ ⟨rfl, hK⟩)
      · skip
        have hle : bs.length + 8 ≤ 1048576 := by simp at hf; omega
        simp only [hle, if_true] at hRR
        refine Lwp_skip ?_
        try simp -dsimp only [go_sem, ↓reduceIte]
        refine hKK7 _ _ ?_
        try clear hKK7 KK7
        refine Lwp_seq fun KK10 hKK10 => ?_
        refine LregionG [none, none, none, none, none, none, none] (by kernel_rfl) (by kernel_rfl) ?_
        simp -dsimp only [go_sem, ↓reduceIte, e2]
        repeat with_reducible refine And.intro (by first | omega | decide | assumption) ?_
        refine Put.kk (Put4 bs.length (by clear e1 e2; omega)) (NewR.nil S2) (by (try clear e1 e2 e3); simp only [List.length_append, List.length_nil, be_length]; omega) ?_
        rintro r S3 hp
        simp -dsimp only [go_sem, ↓reduceIte]
        have hrd3 := hrd.keep hp.2.1 (fun _ _ h => absurd h (by simp [rowIds]))
        repeat with_reducible refine And.intro (by first | omega | decide | assumption) ?_
        refine PutR.apd (zs := bs) hp rfl (by simp only [go_sem]; rfl) (by simp only [go_sem]; first | exact ⟨rfl, rfl⟩ | exact ⟨rfl, rfl, rfl⟩ | rfl) (by simp only [go_sem]) (hrd3.src.1) (hrd3.src.2) (by (try clear e1 e2 e3); simp only [List.length_append, List.length_nil, be_length]; omega) ?_
        rintro r2 S4 hp2
        have e3 := u64_wrapN (n := chkN (be 4 bs.length ++ bs)) (by have := chkN_lt (be 4 bs.length ++ bs); omega)
        have hN4 : NewR S2 (be 4 bs.length ++ bs) r2 S4 := hp2
        simp -dsimp only [go_sem, ↓reduceIte]
        refine hKK10 _ _ ?_
        try clear hKK10 KK10
        refine Lwp_seq fun KK11 hKK11 => ?_
        refine LregionG [none, none, none, none, none, none] (by kernel_rfl) (by kernel_rfl) ?_
        simp -dsimp only [go_sem, ↓reduceIte]
        refine (Chk_ok hN4.acc.rd (by simp only [List.length_append, be_length]; omega)).k ?_
        rintro _ _ ⟨rfl, rfl⟩
        simp -dsimp only [go_sem, ↓reduceIte, e3]
        repeat with_reducible refine And.intro (by first | omega | decide | assumption) ?_
        refine Put.kk (Put4 (chkN (be 4 bs.length ++ bs)) (by have := chkN_lt (be 4 bs.length ++ bs); omega)) hN4 (by (try clear e1 e2 e3); simp only [List.length_append, List.length_nil, be_length]; omega) ?_
        rintro r5 S5 hp5
        simp -dsimp only [go_sem, ↓reduceIte]
        refine hKK11 _ _ ?_
        try clear hKK11 KK11
        refine Lwp_ret ?_
        simp only [LThen, LBlock, LPost, Try.results10]
        simp -dsimp only [go_sem, ↓reduceIte]
        exact ret_keep (hRR _ _ ⟨_, rfl, NewR.after hK hp5⟩)
  · skip
    obtain ⟨bs, jd, hE, rfl, hid, hN⟩ := hb
    have hK := hK1.trans hN.2.1 (ids'' := []) (fun _ _ h => h.elim id id)
    have hbl := hl bs hE
    have hrd := hN.acc.rd
    rw [hE] at hRR
    simp only [] at hRR
    have e1 : IntKind.i64.wrap ((bs.length : Int) + 8) = (bs.length : Int) + 8 := w64 (by omega) (by omega)
    have e2 := u64_wrapN (n := bs.length) (by clear e1; omega)
    simp -dsimp only [go_sem, ↓reduceIte]
    refine hKK1 _ _ ?_
    try clear hKK1 KK1
    refine Lwp_seq fun KK12 hKK12 => ?_
    refine Lwp_seq fun KK13 hKK13 => ?_
    refine LregionG [none, none] (by kernel_rfl) (by kernel_rfl) ?_
    simp -dsimp only [go_sem, ↓reduceIte]
    repeat with_reducible refine And.intro (by first | omega | decide) ?_
    refine hKK13 _ _ ?_
    try clear hKK13 KK13
    refine Lwp_cond (by simp only [go_sem, ↓reduceIte]; rfl) (fun ht => ?_) (fun hf => ?_)
    · skip
      cases ht
    · skip
      refine Lwp_skip ?_
      try simp -dsimp only [go_sem, ↓reduceIte]
      refine hKK12 _ _ ?_
      try clear hKK12 KK12
      refine Lwp_seq fun KK14 hKK14 => ?_
      refine Lwp_seq fun KK15 hKK15 => ?_
      refine LregionG [none, none, none, none] (by kernel_rfl) (by kernel_rfl) ?_
      simp -dsimp only [go_sem, ↓reduceIte, e1]
      repeat with_reducible refine And.intro (by first | omega | decide) ?_
      refine hKK15 _ _ ?_
      try clear hKK15 KK15
      refine Lwp_cond (by simp only [go_sem, ↓reduceIte]; rfl) (fun ht => ?_) (fun hf => ?_)
      · skip
        have hgt : ¬ bs.length + 8 ≤ 1048576 := by simp at ht; omega
        simp only [hgt, if_false] at hRR
        refine Lwp_seq fun KK16 hKK16 => ?_
        refine LregionG [none, none] (by kernel_rfl) (by kernel_rfl) ?_
        simp -dsimp only [go_sem, ↓reduceIte]
        repeat with_reducible refine And.intro (by first | omega | decide) ?_
        refine hKK16 _ _ ?_
        try clear hKK16 KK16
        refine Lwp_ret ?_
        simp only [LThen, LBlock, LPost, Try.results10]
        simp -dsimp only [go_sem, ↓reduceIte]
        exact ret_keep (hRR _ _ ⟨rfl, hK⟩)
      · skip
        have hle : bs.length + 8 ≤ 1048576 := by simp at hf; omega
        simp only [hle, if_true] at hRR
        refine Lwp_skip ?_
        try simp -dsimp only [go_sem, ↓reduceIte]
        refine hKK14 _ _ ?_
        try clear hKK14 KK14
        refine Lwp_seq fun KK17 hKK17 => ?_
        refine LregionG [none, none, none, none, none, none, none] (by kernel_rfl) (by kernel_rfl) ?_
        simp -dsimp only [go_sem, ↓reduceIte, e2]
        repeat with_reducible refine And.intro (by first | omega | decide | assumption) ?_
        refine Put.kk (Put4 bs.length (by clear e1 e2; omega)) (NewR.nil S2) (by (try clear e1 e2 e3); simp only [List.length_append, List.length_nil, be_length]; omega) ?_
        rintro r S3 hp
        simp -dsimp only [go_sem, ↓reduceIte]
        have hrd3 := hrd.keep hp.2.1 (fun _ _ h => absurd h (by simp [rowIds]))
        repeat with_reducible refine And.intro (by first | omega | decide | assumption) ?_
        refine PutR.apd (zs := bs) hp rfl (by simp only [go_sem]; rfl) (by simp only [go_sem]; first | exact ⟨rfl, rfl⟩ | exact ⟨rfl, rfl, rfl⟩ | rfl) (by simp only [go_sem]) (hrd3.src.1) (hrd3.src.2) (by (try clear e1 e2 e3); simp only [List.length_append, List.length_nil, be_length]; omega) ?_
        rintro r2 S4 hp2
        have e3 := u64_wrapN (n := chkN (be 4 bs.length ++ bs)) (by have := chkN_lt (be 4 bs.length ++ bs); omega)
        have hN4 : NewR S2 (be 4 bs.length ++ bs) r2 S4 := hp2
        simp -dsimp only [go_sem, ↓reduceIte]
        refine hKK17 _ _ ?_
        try clear hKK17 KK17
        refine Lwp_seq fun KK18 hKK18 => ?_
        refine LregionG [none, none, none, none, none, none] (by kernel_rfl) (by kernel_rfl) ?_
        simp -dsimp only [go_sem, ↓reduceIte]
        refine (Chk_ok hN4.acc.rd (by simp only [List.length_append, be_length]; omega)).k ?_
        rintro _ _ ⟨rfl, rfl⟩
        simp -dsimp only [go_sem, ↓reduceIte, e3]
        repeat with_reducible refine And.intro (by first | omega | decide | assumption) ?_
        refine Put.kk (Put4 (chkN (be 4 bs.length ++ bs)) (by have := chkN_lt (be 4 bs.length ++ bs); omega)) hN4 (by (try clear e1 e2 e3); simp only [List.length_append, List.length_nil, be_length]; omega) ?_
        rintro r5 S5 hp5
        simp -dsimp only [go_sem, ↓reduceIte]
        refine hKK18 _ _ ?_
        try clear hKK18 KK18
        refine Lwp_ret ?_
        simp only [LThen, LBlock, LPost, Try.results10]
        simp -dsimp only [go_sem, ↓reduceIte]
        exact ret_keep (hRR _ _ ⟨_, rfl, NewR.after hK hp5⟩)

end Go.Proofs.Ytdhngmldmalbbaa
end
section
set_option linter.all false
namespace Go.Proofs.Ytdhngmldmalbbaa
open Go.Lift Go.RowKit Go.Store
set_option linter.unusedSimpArgs false
set_option linter.unusedVariables false

theorem BodyR.rd {us : List LV} {S S' : LS} {r : LV} (h : BodyR us S r S') : ∃ u b, r = .tup [u, .bool b] ∧ Rd S' u ((bodyE us).getD []) ∧ Keeps S S' [] := by
  rcases h.cs with ⟨hE, rfl, hK⟩ | ⟨bs, f, hE, rfl, hN⟩ | ⟨bs, id, hE, rfl, hid, hN⟩
  · exact ⟨_, _, rfl, by rw [hE]; exact .inl ⟨true, rfl⟩, hK⟩
  · exact ⟨_, _, rfl, by rw [hE]; exact hN.acc.rd, hN.2.1⟩
  · exact ⟨_, _, rfl, by rw [hE]; exact hN.acc.rd, hN.2.1⟩
theorem Lwp_boxed2 {N : Nat} {c : Code} {Q : Exit → Env → LS → Prop} {env : Env} {S : LS} (t1 t2 n : Nat) (us vs : List LV) (h1 : Nat.blt t1 N = true) (h2 : Nat.blt t2 N = true) (hu : env t1 = some (.ptr S.length 0 0)) (hv : env t2 = some (.ptr (S.length + 1) 0 0)) (hne : t2 ≠ t1)
    (h : ∀ S1, Keeps S S1 [] → Lwp Try.prog N c Q ((env.put t1 (.eptr us 0)).put t2 (.eptr vs 0)) S1) : Lwp Try.prog N c Q env (S ++ [some (n, [us]), some (n, [vs])]) := by
  refine Lwp_freezeP t1 S.length 0 0 n [us] us h1 hu (by simp) rfl ?_
  have e0 : (S ++ [some (n, [us]), some (n, [vs])]).set S.length none = S ++ [none, some (n, [vs])] := by simp
  rw [e0]
  refine Lwp_freezeP t2 (S.length + 1) 0 0 n [vs] vs h2 (by rw [← hv]; simp [Env.put, hne]) (by simp) rfl ?_
  have e1 : (S ++ [none, some (n, [vs])]).set (S.length + 1) none = S ++ [none, none] := by simp
  rw [e1]
  exact h _ (Keeps.app _ _ _)
theorem bytesC_map (bs : List UInt8) : bytesC (some (bs.map u8c)) = True := eq_true ⟨bs, rfl⟩
theorem byteE_map (bs : List UInt8) : (bs.map u8c).map byteE = bs := by
  induction bs with
  | nil => rfl
  | cons b bs ih => simp only [List.map_cons, ih]; congr 1; simp [byteE, u8c]
theorem take_u8c (bs : List UInt8) : (bs.map u8c).take bs.length = bs.map u8c := List.take_of_length_le (by simp)
theorem strOf_inj {a b : List UInt8} : (strOf a = strOf b) = (a = b) := propext ⟨fun h => by simpa [strOf] using h, fun h => by rw [h]⟩
def sameE (us vs : List LV) : Bool := decide (intOf (us.getD 0 .any) = intOf (vs.getD 0 .any)) && decide ((bodyE us).getD [] = (bodyE vs).getD [])
theorem log_kind {us : List LV} (h : ok sLog us) : ∃ us', us = V (intOf (us.getD 0 .any)) :: us' := by
  obtain ⟨v, us', rfl, h1, h2⟩ := ok_int (r := ((.int (sItem.app (.int (.str (sPer.app sCyc)))))) ) h
  exact ⟨us', rfl⟩

set_option maxHeartbeats 400000 in
theorem Same_ok {S : LS} (us vs : List LV) (h : ok sLog us) (hv : ok sLog vs) (hl : ∀ bs, bodyE us = some bs → bs.length ≤ 1073741824) (hlv : ∀ bs, bodyE vs = some bs → bs.length ≤ 1073741824) : LCalls Try.prog 12 [.agg us, .agg vs] S (fun r S' => r = .bool (sameE us vs) ∧ Keeps S S' []) := by
  refine LCalls_introK 0 Try.func12 rfl (by kernel_rfl) rfl fun RR hRR => ?_
  have hlen := okLog_len h
  have htk : us.take 38 = us := List.take_of_length_le (by omega)
  have hlen2 := okLog_len hv
  have htk2 : vs.take 38 = vs := List.take_of_length_le (by omega)
  obtain ⟨us', hus⟩ := log_kind h
  obtain ⟨vs', hvs⟩ := log_kind hv
  obtain ⟨k, hk⟩ : ∃ k, intOf (us.getD 0 .any) = k := ⟨_, rfl⟩
  obtain ⟨k2, hk2⟩ : ∃ k, intOf (vs.getD 0 .any) = k := ⟨_, rfl⟩
  have g0 : us.getD 0 .any = V k := by rw [hk] at hus; rw [hus]; rfl
  have g1 : vs.getD 0 .any = V k2 := by rw [hk2] at hvs; rw [hvs]; rfl
  clear hus hvs
  unfold sameE at hRR
  rw [hk, hk2] at hRR
  refine Lwp_seq fun KK0 hKK0 => ?_
  refine LregionG [none, none, none] (by kernel_rfl) (by kernel_rfl) ?_
  simp -dsimp only [go_sem, ↓reduceIte, hlen, hlen2]
  repeat with_reducible refine And.intro (by first | omega | decide) ?_
  refine hKK0 _ _ ?_
  try clear hKK0 KK0
  refine Lwp_seq fun KK1 hKK1 => ?_
  refine Lwp_boxed2 2 3 38 us vs rfl rfl (by simp only [go_sem, ↓reduceIte]) (by simp only [go_sem, ↓reduceIte]) (by decide) fun S1 hK1 => ?_
  refine LregionG [none, none, none, none, none, none, none] (by kernel_rfl) (by kernel_rfl) ?_
  simp -dsimp only [go_sem, ↓reduceIte, hlen, htk]
  refine (Body_ok us h hl).k ?_
  intro r S2 hb
  obtain ⟨u, b, rfl, hR, hK2⟩ := hb.rd
  simp -dsimp only [go_sem, ↓reduceIte]
  refine hKK1 _ _ ?_
  try clear hKK1 KK1
  refine Lwp_seq fun KK2 hKK2 => ?_
  refine LregionG [none, none, none, none, none, none, none] (by kernel_rfl) (by kernel_rfl) ?_
  simp -dsimp only [go_sem, ↓reduceIte, hlen2, htk2]
  refine (Body_ok vs hv hlv).k ?_
  intro r S3 hb
  obtain ⟨v, b3, rfl, hR3, hK3⟩ := hb.rd
  have hK := (hK1.trans hK2 (ids'' := []) (fun _ _ h => h.elim id id)).trans hK3 (ids'' := []) (fun _ _ h => h.elim id id)
  have hRu := hR.keep hK3 (fun _ _ h => absurd h (by simp))
  clear hR hK1 hK2 hK3
  simp -dsimp only [go_sem, ↓reduceIte]
  refine hKK2 _ _ ?_
  try clear hKK2 KK2
  refine Lwp_seq fun KK3 hKK3 => ?_
  refine LregionG [none, none, none, none, none, none, some (24, true), some (24, true), some (24, true), some (24, true), some (24, true), none, none] (by kernel_rfl) (by kernel_rfl) ?_
  simp -dsimp only [go_sem, ↓reduceIte, hlen, hlen2, g0, g1]
  by_cases hkk : k = k2
  rcases hRu with ⟨f, rfl⟩ | ⟨i1, rfl, hid⟩ <;> rcases hR3 with ⟨f3, rfl⟩ | ⟨i3, rfl, hid3⟩
  · skip
    simp -dsimp only [go_sem, ↓reduceIte, hkk, bytesC_map, byteE_map, take_u8c, strOf_inj, Nat.zero_add, Nat.le_refl, true_and, and_true]
    
    refine hKK3 _ _ ?_
    try clear hKK3 KK3
    refine Lwp_ret ?_
    simp only [LThen, LBlock, LPost, Try.results12]
    simp -dsimp only [go_sem, ↓reduceIte]
    exact ret_keep (hRR _ _ ⟨by simp [hkk], hK⟩)
  · skip
    simp -dsimp only [go_sem, ↓reduceIte, hkk, hid3, Option.join_some, List.drop_zero, bytesC_map, byteE_map, take_u8c, strOf_inj, Nat.zero_add, Nat.le_refl, true_and, and_true]
    
    refine hKK3 _ _ ?_
    try clear hKK3 KK3
    refine Lwp_ret ?_
    simp only [LThen, LBlock, LPost, Try.results12]
    simp -dsimp only [go_sem, ↓reduceIte]
    exact ret_keep (hRR _ _ ⟨by simp [hkk], hK⟩)
  · skip
    simp -dsimp only [go_sem, ↓reduceIte, hkk, hid, Option.join_some, List.drop_zero, bytesC_map, byteE_map, take_u8c, strOf_inj, Nat.zero_add, Nat.le_refl, true_and, and_true]
    
    refine hKK3 _ _ ?_
    try clear hKK3 KK3
    refine Lwp_ret ?_
    simp only [LThen, LBlock, LPost, Try.results12]
    simp -dsimp only [go_sem, ↓reduceIte]
    exact ret_keep (hRR _ _ ⟨by simp [hkk], hK⟩)
  · skip
    simp -dsimp only [go_sem, ↓reduceIte, hkk, hid, hid3, Option.join_some, List.drop_zero, bytesC_map, byteE_map, take_u8c, strOf_inj, Nat.zero_add, Nat.le_refl, true_and, and_true]
    
    refine hKK3 _ _ ?_
    try clear hKK3 KK3
    refine Lwp_ret ?_
    simp only [LThen, LBlock, LPost, Try.results12]
    simp -dsimp only [go_sem, ↓reduceIte]
    exact ret_keep (hRR _ _ ⟨by simp [hkk], hK⟩)
  · skip
    simp -dsimp only [go_sem, ↓reduceIte, hkk, Bool.false_and]
    
    refine hKK3 _ _ ?_
    try clear hKK3 KK3
    refine Lwp_ret ?_
    simp only [LThen, LBlock, LPost, Try.results12]
    simp -dsimp only [go_sem, ↓reduceIte]
    exact ret_keep (hRR _ _ ⟨by simp [hkk], hK⟩)

end Go.Proofs.Ytdhngmldmalbbaa
end
section
set_option linter.all false
namespace Go.Proofs.Ytdhngmldmalbbaa
open Go.Lift Go.RowKit Go.Store
set_option linter.unusedSimpArgs false
set_option linter.unusedVariables false

/-! ### A walker: what the writer and the reader share -/
structure Wk where
  ty : TypeId
  St : Type
  inv : LS → Nat → List Nat → St → Prop
  fits : St → Prop
  int : St → Int → Int × St
  word : St → Nat → Nat × St
  bool : St → Bool → Bool × St
  str : St → ByteArray → ByteArray × St
  count : St → Nat → Nat × St
  fInt : FuncId
  fWord : FuncId
  fBool : FuncId
  fText : FuncId
  fCount : FuncId

def natOf : LV → Nat
  | .int _ n => n.toNat
  | _ => 0
def boolOf : LV → Bool
  | .bool b => b
  | _ => false
def bytesOf : LV → ByteArray
  | .str s => s
  | _ => ByteArray.empty
def elemsOf : LV → List (List LV)
  | .sl _ es => es
  | _ => []

/-- the cells of a zero value. -/
def zs : Sch → List LV
  | .nil => []
  | .int r => .int .i64 0 :: zs r
  | .word r => .int .u64 0 :: zs r
  | .bool r => .bool false :: zs r
  | .str r => .str ⟨#[]⟩ :: zs r
  | .sl _ r => .sl true [] :: zs r
theorem ok_zs : ∀ {s : Sch}, ok s (zs s)
  | .nil => trivial
  | .int r => ⟨rfl, by omega, by omega, ok_zs⟩
  | .word r => ⟨rfl, by omega, by omega, ok_zs⟩
  | .bool r => ok_zs (s := r)
  | .str r => ⟨by decide, ok_zs⟩
  | .sl e r => ⟨by decide, by simp, ok_zs⟩

def walN {σ : Type} (f : List LV → σ → List LV × σ) (z : List LV) : Nat → List (List LV) → σ → List (List LV) × σ
  | 0, _, st => ([], st)
  | n + 1, es, st => ((f (es.headD z) st).1 :: (walN f z n es.tail (f (es.headD z) st).2).1, (walN f z n es.tail (f (es.headD z) st).2).2)

theorem walN_succ {σ : Type} {f : List LV → σ → List LV × σ} {z : List LV} : ∀ {k : Nat} {es : List (List LV)} {st : σ},
    walN f z (k + 1) es st = ((walN f z k es st).1 ++ [(f (es.getD k z) (walN f z k es st).2).1], (f (es.getD k z) (walN f z k es st).2).2)
  | 0, es, st => by cases es <;> rfl
  | k + 1, es, st => by
    have ih := walN_succ (f := f) (z := z) (k := k) (es := es.tail) (st := (f (es.headD z) st).2)
    have e : es.getD (k + 1) z = es.tail.getD k z := by cases es <;> simp
    rw [walN, ih, e]
    rfl

/-- the state after a walk over a value. -/
def wal (W : Wk) : Sch → List LV → W.St → List LV × W.St
  | .int r, u :: us, st => (.int .i64 (W.int st (intOf u)).1 :: (wal W r us (W.int st (intOf u)).2).1, (wal W r us (W.int st (intOf u)).2).2)
  | .word r, u :: us, st => (.int .u64 ((W.word st (natOf u)).1 : Nat) :: (wal W r us (W.word st (natOf u)).2).1, (wal W r us (W.word st (natOf u)).2).2)
  | .bool r, u :: us, st => (.bool (W.bool st (boolOf u)).1 :: (wal W r us (W.bool st (boolOf u)).2).1, (wal W r us (W.bool st (boolOf u)).2).2)
  | .str r, u :: us, st => (.str (W.str st (bytesOf u)).1 :: (wal W r us (W.str st (bytesOf u)).2).1, (wal W r us (W.str st (bytesOf u)).2).2)
  | .sl e r, u :: us, st =>
    (.sl false (walN (wal W e) (zs e) (W.count st (elemsOf u).length).1 (elemsOf u) (W.count st (elemsOf u).length).2).1 ::
      (wal W r us (walN (wal W e) (zs e) (W.count st (elemsOf u).length).1 (elemsOf u) (W.count st (elemsOf u).length).2).2).1,
      (wal W r us (walN (wal W e) (zs e) (W.count st (elemsOf u).length).1 (elemsOf u) (W.count st (elemsOf u).length).2).2).2)
  | .nil, _, st => ([], st)
  | _, [], st => ([], st)

theorem ok_len : ∀ {s : Sch} {us : List LV}, ok s us → us.length = s.n
  | .nil, [], _ => rfl
  | .int r, .int k v :: us, h => by simp only [ok] at h; simp only [List.length_cons, Sch.n, ok_len h.2.2.2]
  | .word r, .int k v :: us, h => by simp only [ok] at h; simp only [List.length_cons, Sch.n, ok_len h.2.2.2]
  | .bool r, .bool b :: us, h => by simp only [ok] at h; simp only [List.length_cons, Sch.n, ok_len h]
  | .str r, .str b :: us, h => by simp only [ok] at h; simp only [List.length_cons, Sch.n, ok_len h.2]
  | .sl e r, .sl f es :: us, h => by simp only [ok] at h; simp only [List.length_cons, Sch.n, ok_len h.2.2]

theorem wal_app {W : Wk} : ∀ {s t : Sch} {us vs : List LV} {st : W.St}, ok s us → wal W (s.app t) (us ++ vs) st = ((wal W s us st).1 ++ (wal W t vs (wal W s us st).2).1, (wal W t vs (wal W s us st).2).2)
  | .nil, t, [], vs, st, _ => rfl
  | .int r, t, .int k v :: us, vs, st, h => by simp only [ok] at h; simp only [Sch.app, List.cons_append, wal, wal_app h.2.2.2]
  | .word r, t, .int k v :: us, vs, st, h => by simp only [ok] at h; simp only [Sch.app, List.cons_append, wal, wal_app h.2.2.2]
  | .bool r, t, .bool b :: us, vs, st, h => by simp only [ok] at h; simp only [Sch.app, List.cons_append, wal, wal_app (s := r) h]
  | .str r, t, .str b :: us, vs, st, h => by simp only [ok] at h; simp only [Sch.app, List.cons_append, wal, wal_app h.2]
  | .sl e r, t, .sl f es :: us, vs, st, h => by simp only [ok] at h; simp only [Sch.app, List.cons_append, wal, wal_app h.2.2]

theorem nz_app : ∀ {s t : Sch} {us vs : List LV}, ok s us → nz (s.app t) (us ++ vs) = nz s us ++ nz t vs
  | .nil, t, [], vs, _ => by simp [Sch.app, nz]
  | .int r, t, .int k v :: us, vs, h => by simp only [ok] at h; simp only [Sch.app, List.cons_append, nz, nz_app h.2.2.2]
  | .word r, t, .int k v :: us, vs, h => by simp only [ok] at h; simp only [Sch.app, List.cons_append, nz, nz_app h.2.2.2]
  | .bool r, t, .bool b :: us, vs, h => by simp only [ok] at h; simp only [Sch.app, List.cons_append, nz, nz_app (s := r) h]
  | .str r, t, .str b :: us, vs, h => by simp only [ok] at h; simp only [Sch.app, List.cons_append, nz, nz_app h.2]
  | .sl e r, t, .sl f es :: us, vs, h => by simp only [ok] at h; simp only [Sch.app, List.cons_append, nz, nz_app h.2.2]

/-- how far a walk has come: 's' was walked. -/
def WP (W : Wk) (S : LS) (w l n : Nat) (pre : List LV) (own : List Nat) (s : Sch) (us : List LV) (st : W.St) (rest : List LV) (S' : LS) : Prop :=
  ok s us ∧ ∃ own' us', W.inv S' w own' (wal W s us st).2 ∧ nz s us' = (wal W s us st).1 ∧ ok s us' ∧ S'[l]? = some (some (n, [pre ++ (us' ++ rest)])) ∧ Keeps S S' (l :: own) ∧ ∀ id ∈ own', id ∈ own ∨ S.length ≤ id

/-- 'g', with these arguments, walks over a value of the schema 's'. -/
def WOk (W : Wk) (A : Nat → Nat → Nat → List LV) (g : FuncId) (s : Sch) : Prop :=
  ∀ (S : LS) (w l n off : Nat) (pre us post : List LV) (own : List Nat) (st : W.St),
    W.inv S w own st → l ∉ own → S[l]? = some (some (n, [pre ++ (us ++ post)])) → pre.length = off → ok s us → W.fits (wal W s us st).2 →
    LCalls Try.prog g (A w l off) S (fun _ S' => WP W S w l n pre own s us st post S')

abbrev aP : Nat → Nat → Nat → List LV := fun w l off => [.ptr w 0 0, .ptr l 0 off]
abbrev aI (W : Wk) : Nat → Nat → Nat → List LV := fun w l off => [.iface W.ty (.ptr w 0 0), .ptr l 0 off]
abbrev aF (W : Wk) (h : FuncId) : Nat → Nat → Nat → List LV := fun w l off => [.iface W.ty (.ptr w 0 0), .ptr l 0 off, .func (.func h) [] []]
def ptrs (l off k : Nat) : List (List LV) := (List.range k).map fun j => [LV.ptr l 0 (off + j)]
abbrev aN (W : Wk) (k : Nat) : Nat → Nat → Nat → List LV := fun w l off => [.iface W.ty (.ptr w 0 0), .sl true (ptrs l off k)]

structure WkL (W : Wk) : Prop where
  lt : ∀ {S w own st}, W.inv S w own st → ∀ id ∈ own, id < S.length
  keep : ∀ {S S' w own st ids}, W.inv S w own st → Keeps S S' ids → (∀ id ∈ own, id ∉ ids) → W.inv S' w own st
  iint : ∀ {st v}, W.fits (W.int st v).2 → W.fits st
  iword : ∀ {st v}, W.fits (W.word st v).2 → W.fits st
  ibool : ∀ {st v}, W.fits (W.bool st v).2 → W.fits st
  istr : ∀ {st v}, W.fits (W.str st v).2 → W.fits st
  icount : ∀ {st v}, W.fits (W.count st v).2 → W.fits st
  cnt : ∀ {S w own st m}, W.inv S w own st → m < 4294967296 → (W.count st m).1 < 4294967296
  mInt : methT Try.prog W.ty "synoptic/store.int" = some W.fInt
  mWord : methT Try.prog W.ty "synoptic/store.word" = some W.fWord
  mBool : methT Try.prog W.ty "synoptic/store.bool" = some W.fBool
  mText : methT Try.prog W.ty "synoptic/store.text" = some W.fText
  mCount : methT Try.prog W.ty "synoptic/store.count" = some W.fCount
  hInt : WOk W aP W.fInt sI
  hWord : WOk W aP W.fWord (.word .nil)
  hBool : WOk W aP W.fBool (.bool .nil)
  hText : WOk W aP W.fText sStr
  hCount : ∀ (S : LS) (w : Nat) (own : List Nat) (st : W.St) (m : Nat), W.inv S w own st → m < 4294967296 → W.fits (W.count st m).2 →
    LCalls Try.prog W.fCount [.ptr w 0 0, V m] S (fun r S' => r = V (W.count st m).1 ∧ ∃ own', W.inv S' w own' (W.count st m).2 ∧ Keeps S S' own ∧ ∀ id ∈ own', id ∈ own ∨ S.length ≤ id)

theorem walN_fits {σ : Type} {P : σ → Prop} {f : List LV → σ → List LV × σ} {z : List LV} (h : ∀ x st, P (f x st).2 → P st) : ∀ {n : Nat} {es : List (List LV)} {st : σ}, P (walN f z n es st).2 → P st
  | 0, _, _, hp => hp
  | n + 1, es, st, hp => h _ _ (walN_fits h hp)
theorem wal_fits {W : Wk} (hW : WkL W) : ∀ {s : Sch} {us : List LV} {st : W.St}, W.fits (wal W s us st).2 → W.fits st
  | .nil, _, _, h => by simp only [wal] at h; exact h
  | .int r, [], _, h => h
  | .word r, [], _, h => h
  | .bool r, [], _, h => h
  | .str r, [], _, h => h
  | .sl e r, [], _, h => h
  | .int r, u :: us, st, h => by simp only [wal] at h; exact hW.iint (wal_fits hW h)
  | .word r, u :: us, st, h => by simp only [wal] at h; exact hW.iword (wal_fits hW h)
  | .bool r, u :: us, st, h => by simp only [wal] at h; exact hW.ibool (wal_fits hW h)
  | .str r, u :: us, st, h => by simp only [wal] at h; exact hW.istr (wal_fits hW h)
  | .sl e r, u :: us, st, h => by simp only [wal] at h; exact hW.icount (v := (elemsOf u).length) (walN_fits (P := W.fits) (f := wal W e) (z := zs e) (fun x st hx => wal_fits (s := e) hW hx) (wal_fits (s := r) hW h))
theorem fitsL {W : Wk} (hW : WkL W) {s t : Sch} {us vs : List LV} {st : W.St} (h : ok s us) (hf : W.fits (wal W (s.app t) (us ++ vs) st).2) : W.fits (wal W s us st).2 := by
  rw [wal_app h] at hf; exact wal_fits hW hf
theorem fitsN {W : Wk} (hW : WkL W) {e : Sch} {z : List LV} {n k : Nat} (h : k ≤ n) {es : List (List LV)} {st : W.St} (hf : W.fits (walN (wal W e) z n es st).2) : W.fits (walN (wal W e) z k es st).2 := by
  induction h with
  | refl => exact hf
  | step h ih => rw [walN_succ] at hf; exact ih (wal_fits hW hf)

theorem WP.refl {W : Wk} {S : LS} {w l n : Nat} {pre : List LV} {own : List Nat} {st : W.St} {rest : List LV} (hi : W.inv S w own st) (h : S[l]? = some (some (n, [pre ++ rest]))) : WP W S w l n pre own .nil [] st rest S :=
  ⟨trivial, own, [], hi, rfl, trivial, h, Keeps.refl _ _, fun _ h => .inl h⟩

theorem WOk.at {W : Wk} (hW : WkL W) {A : Nat → Nat → Nat → List LV} {g : FuncId} {t : Sch} (h : WOk W A g t) {S S1 : LS} {w l n off o : Nat} {pre us rest0 us2 rest : List LV} {own : List Nat} {s : Sch} {st : W.St}
    (hp : WP W S w l n pre own s us st rest0 S1) (hl : l ∉ own) (hlS : l < S.length) (hpre : pre.length = off) (ho : o = off + s.n) (hr : rest0 = us2 ++ rest) (h2 : ok t us2) (hf : W.fits (wal W (s.app t) (us ++ us2) st).2) :
    LCalls Try.prog g (A w l o) S1 (fun _ S2 => WP W S w l n pre own (s.app t) (us ++ us2) st rest S2) := by
  obtain ⟨h0, own', us', hi, hz, hok, hS1, hK, hown⟩ := hp
  subst hr hpre ho
  have hl' : l ∉ own' := fun hm => (hown l hm).elim hl (fun hh => by omega)
  rw [wal_app h0] at hf
  refine (h S1 w l n (pre.length + s.n) (pre ++ us') us2 rest own' _ hi hl' (by rw [hS1]; simp only [List.append_assoc]) (by rw [List.length_append, ok_len hok]) h2 hf).mono fun r S2 hq => ?_
  obtain ⟨-, own2, us3, gi, gz, gok, gS, gK, gown⟩ := hq
  refine ⟨app_ok h0 h2, own2, us' ++ us3, by rw [wal_app h0]; exact gi, by rw [nz_app hok, wal_app h0, hz, gz], app_ok hok gok, by rw [gS]; simp only [List.append_assoc], hK.trans gK fun j hj hm => ?_, fun id hid => ?_⟩
  · rcases hm with hm | hm
    · exact hm
    · rcases List.mem_cons.1 hm with rfl | hm
      · exact List.mem_cons_self ..
      · rcases hown j hm with hm | hm
        · exact List.mem_cons_of_mem _ hm
        · omega
  · rcases gown id hid with hid | hid
    · exact hown id hid
    · exact .inr (Nat.le_trans hK.1 hid)

theorem WOk.kk {W : Wk} (hW : WkL W) {A : Nat → Nat → Nat → List LV} {g : FuncId} {t : Sch} (h : WOk W A g t) {S S1 : LS} {w l n off o : Nat} {pre us rest0 rest : List LV} (us2 : List LV) {al : List LV} {own : List Nat} {s : Sch} {st : W.St} {d : Option Tmp} {K : Env → LS → Prop} {tg : Tag K} {env : Env}
    (hp : WP W S w l n pre own s us st rest0 S1) (hl : l ∉ own) (hlS : l < S.length) (hpre : pre.length = off) (hA : al = A w l o) (ho : o = off + s.n) (hr : rest0 = us2 ++ rest) (h2 : ok t us2) (hf : W.fits (wal W (s.app t) (us ++ us2) st).2)
    (hk : ∀ r S2, WP W S w l n pre own (s.app t) (us ++ us2) st rest S2 → K (env.putO d r) S2) : LCK Try.prog g al S1 d K tg env :=
  hA ▸ (h.at hW hp hl hlS hpre ho hr h2 hf).k hk

theorem WOk_intro {W : Wk} {A : Nat → Nat → Nat → List LV} {g : FuncId} {s : Sch} {fn : Func} {c : Code} (d : Nat) (hfn : Try.prog.funcs[g]? = some fn) (hb : fn.body = some c) (hg : goT Try.prog g = true) (hn : ∀ w l off, Nat.ble (A w l off).length fn.ntmps = true)
    (h : ∀ (S : LS) (w l n off : Nat) (pre us post : List LV) (own : List Nat) (st : W.St) (RR : LV → LS → Prop), W.inv S w own st → l ∉ own → S[l]? = some (some (n, [pre ++ (us ++ post)])) → pre.length = off → ok s us → W.fits (wal W s us st).2 →
      (∀ r S', WP W S w l n pre own s us st post S' → RR r S') → Lwp Try.prog fn.ntmps c (LPost Try.prog fn d S RR) (argsEnv (A w l off)) S) : WOk W A g s := fun S w l n off pre us post own st hi hl hS hpre hok hf =>
  LCalls_introK d hfn hb hg (hn w l off) fun RR hRR => h S w l n off pre us post own st RR hi hl hS hpre hok hf hRR

end Go.Proofs.Ytdhngmldmalbbaa
end
section
set_option linter.all false
namespace Go.Proofs.Ytdhngmldmalbbaa
open Go.Lift Go.RowKit Go.Store
set_option linter.unusedSimpArgs false
set_option linter.unusedVariables false

def sN : Nat → Sch
  | 0 => .nil
  | k + 1 => .int (sN k)
theorem sN_succ : ∀ {k : Nat}, (sN k).app sI = sN (k + 1)
  | 0 => rfl
  | k + 1 => by simp only [sN, Sch.app, sN_succ]
theorem sN_add : ∀ {a b : Nat}, (sN a).app (sN b) = sN (a + b)
  | 0, b => by rw [Nat.zero_add]; rfl
  | a + 1, b => by rw [Nat.add_right_comm]; simp only [sN, Sch.app, sN_add]
theorem sN_n : ∀ {k : Nat}, (sN k).n = k
  | 0 => rfl
  | k + 1 => by simp only [sN, Sch.n, sN_n]
theorem ok_sN : ∀ {k : Nat} {us : List LV}, ok (sN k) us → ∀ {j : Nat}, j < k → ok (sN j) (us.take j) ∧ ok sI [us.getD j .any] ∧ us.take (j + 1) = us.take j ++ [us.getD j .any] ∧ us.drop j = us.getD j .any :: us.drop (j + 1)
  | 0, _, _, _, hj => absurd hj (by omega)
  | k + 1, us, h, 0, _ => by
    obtain ⟨v, us', rfl, h1, h2⟩ := ok_int h
    exact ⟨trivial, ⟨rfl, h1.1, h1.2, trivial⟩, rfl, rfl⟩
  | k + 1, us, h, j + 1, hj => by
    obtain ⟨v, us', rfl, h1, h2⟩ := ok_int h
    obtain ⟨g1, g2, g3, g4⟩ := ok_sN h2 (j := j) (by omega)
    exact ⟨⟨rfl, h1.1, h1.2, g1⟩, by simpa using g2, by simpa using g3, by simpa using g4⟩
theorem ptrs_len {l off k : Nat} : (ptrs l off k).length = k := by simp [ptrs]
theorem ptrs_getD {l off k j : Nat} (h : j < k) : (ptrs l off k).getD j [] = [.ptr l 0 (off + j)] := by
  rw [List.getD_eq_getElem?_getD, ptrs, List.getElem?_map, List.getElem?_range h]; rfl
theorem fits_sN {W : Wk} (hW : WkL W) {k j : Nat} {us : List LV} {st : W.St} (hok : ok (sN k) us) (hj : j ≤ k) (hf : W.fits (wal W (sN k) us st).2) : W.fits (wal W (sN j) (us.take j) st).2 := by
  have h1 : ok (sN j) (us.take j) := by
    rcases Nat.lt_or_eq_of_le hj with h | rfl
    · exact (ok_sN hok h).1
    · rw [List.take_of_length_le (by rw [ok_len hok, sN_n]; exact Nat.le_refl _)]; exact hok
  refine fitsL hW (t := sN (k - j)) (vs := us.drop j) h1 ?_
  rw [List.take_append_drop, sN_add, show j + (k - j) = k by omega]
  exact hf

set_option maxHeartbeats 400000 in
theorem Ints_ok (W : Wk) (hW : WkL W) (k : Nat) (hk : k ≤ 100) : WOk W (aN W k) 58 (sN k) := by
  refine WOk_intro 0 Try.func58 rfl (by kernel_rfl) (fun _ _ _ => rfl) fun S w l n off pre us post own st RR hi hl hS hpre hok hfit hRR => ?_
  have hlS := lt_of_get hS
  have ktk : us.take k = us := List.take_of_length_le (by rw [ok_len hok, sN_n]; exact Nat.le_refl _)
  have kdr : us.drop k = [] := List.drop_of_length_le (by rw [ok_len hok, sN_n]; exact Nat.le_refl _)
  refine Lwp_seq fun KK0 hKK0 => ?_
  refine LregionG [none, none, none] (by kernel_rfl) (by kernel_rfl) ?_
  simp -dsimp only [go_sem, ↓reduceIte, ptrs_len]
  repeat with_reducible refine And.intro (by first | omega | decide) ?_
  refine hKK0 _ _ ?_
  try clear hKK0 KK0
  refine Lwp_block ?_
  refine Lwp_loopK [0, 6, 7, 8] (fun m vs S' => ∃ j : Nat, vs = [LV.iface W.ty (.ptr w 0 0), .sl true (ptrs l off k), V k, V j] ∧ WP W S w l n pre own (sN j) (us.take j) st (us.drop j ++ post) S' ∧ j ≤ k ∧ m = k - j) k rfl (⟨0, by simp only [go_sem, ↓reduceIte, ptrs_len]; rfl, WP.refl hi hS, Nat.zero_le _, rfl⟩) ?_
  rintro m us S2 ⟨j, rfl, hp, hj, hm⟩ II hII
  refine Lwp_seq fun KK1 hKK1 => ?_
  refine LregionG [none] (by kernel_rfl) (by kernel_rfl) ?_
  simp -dsimp only [go_sem, ↓reduceIte]
  repeat with_reducible refine And.intro (by first | omega | decide) ?_
  refine hKK1 _ _ ?_
  try clear hKK1 KK1
  refine Lwp_seq fun KK2 hKK2 => ?_
  refine Lwp_cond (by simp only [go_sem, ↓reduceIte]; rfl) (fun ht => ?_) (fun hf => ?_)
  · skip
    have hjk : j < k := by simpa using ht
    obtain ⟨g1, g2, g3, g4⟩ := ok_sN hok hjk
    have e0 := ptrs_getD (l := l) (off := off) hjk
    have e2 : IntKind.i64.wrap ((j : Int) + 1) = ((j + 1 : Nat) : Int) := w64 (by omega) (by omega)
    refine Lwp_skip ?_
    try simp -dsimp only [go_sem, ↓reduceIte]
    refine hKK2 _ _ ?_
    try clear hKK2 KK2
    refine Lwp_seq fun KK3 hKK3 => ?_
    refine Lwp_block ?_
    refine Lwp_seq fun KK4 hKK4 => ?_
    refine LregionG [none, none, none] (by kernel_rfl) (by kernel_rfl) ?_
    simp -dsimp only [go_sem, ↓reduceIte, e0, ptrs_len, hjk]
    repeat with_reducible refine And.intro (by first | omega | decide) ?_
    refine hKK4 _ _ ?_
    try clear hKK4 KK4
    refine LregionG [none, none, none] (by kernel_rfl) (by kernel_rfl) ?_
    simp -dsimp only [go_sem, ↓reduceIte, hW.mInt]
    refine hW.hInt.kk hW [us.getD j .any] hp hl hlS hpre rfl (by rw [sN_n]) (by rw [g4]; rfl) g2 ?_ ?_
    · rw [← g3, sN_succ]; exact fits_sN hW hok hjk hfit
    rintro r S3 hp3
    rw [← g3, sN_succ] at hp3
    simp -dsimp only [go_sem, ↓reduceIte]
    refine hKK3 _ _ ?_
    try clear hKK3 KK3
    refine LregionG [none, none] (by kernel_rfl) (by kernel_rfl) ?_
    simp -dsimp only [go_sem, ↓reduceIte, e2]
    repeat with_reducible refine And.intro (by first | omega | decide) ?_
    exact hII (k - (j + 1)) _ _ (by omega) ⟨j + 1, rfl, hp3, hjk, rfl⟩
  · skip
    obtain rfl : j = k := Nat.le_antisymm hj (Nat.le_of_not_lt (by simpa using hf))
    refine Lwp_exit ?_
    simp -dsimp only [go_sem, ↓reduceIte]
    simp only [LThen, LBlock, LPost, Try.results58]
    simp -dsimp only [go_sem, ↓reduceIte]
    rw [ktk, kdr] at hp
    exact ret_keep (hRR _ _ hp)

end Go.Proofs.Ytdhngmldmalbbaa
end
section
set_option linter.all false
namespace Go.Proofs.Ytdhngmldmalbbaa
open Go.Lift Go.RowKit Go.Store
set_option linter.unusedSimpArgs false
set_option linter.unusedVariables false
set_option maxHeartbeats 400000 in
theorem Place_ok (W : Wk) (hW : WkL W) : WOk W (aI W) 59 sPlace := by
  refine WOk_intro 0 Try.func59 rfl (by kernel_rfl) (fun _ _ _ => rfl) fun S w l n off pre us post own st RR hi hl hS hpre hok hfit hRR => ?_
  have hlS := lt_of_get hS
  have hp0 : WP W S w l n pre own .nil [] st (us ++ post) S := WP.refl hi hS
  refine LdrawE [0,1,2,3,4,5,6,7,8,9,10,11,12,13,14] [] none (by kernel_rfl) (by kernel_rfl) (by kernel_rfl) (by kernel_rfl) (by simp [Watch.holds]) ?_
  simp -dsimp only [go_sem, ↓reduceIte]
  repeat with_reducible refine And.intro (by first | omega | decide | trivial) ?_
  refine WOk.kk hW ((Ints_ok W hW 4 (by decide))) us hp0 hl hlS hpre rfl rfl (rfl) hok hfit ?_
  rintro r S2 hp
  simp -dsimp only [go_sem, ↓reduceIte]
  simp only [LThen, LBlock, LPost, Try.results59]
  simp -dsimp only [go_sem, ↓reduceIte]
  exact ret_keep (hRR _ _ hp)

set_option maxHeartbeats 400000 in
theorem Reading_ok (W : Wk) (hW : WkL W) : WOk W (aI W) 61 sRd := by
  refine WOk_intro 0 Try.func61 rfl (by kernel_rfl) (fun _ _ _ => rfl) fun S w l n off pre us post own st RR hi hl hS hpre hok hfit hRR => ?_
  have hlS := lt_of_get hS
  have hp0 : WP W S w l n pre own .nil [] st (us ++ post) S := WP.refl hi hS
  refine LdrawE [0,1,2,3,4,5,6,7,8] [] none (by kernel_rfl) (by kernel_rfl) (by kernel_rfl) (by kernel_rfl) (by simp [Watch.holds]) ?_
  simp -dsimp only [go_sem, ↓reduceIte]
  repeat with_reducible refine And.intro (by first | omega | decide | trivial) ?_
  refine WOk.kk hW ((Ints_ok W hW 2 (by decide))) us hp0 hl hlS hpre rfl rfl (rfl) hok hfit ?_
  rintro r S2 hp
  simp -dsimp only [go_sem, ↓reduceIte]
  simp only [LThen, LBlock, LPost, Try.results61]
  simp -dsimp only [go_sem, ↓reduceIte]
  exact ret_keep (hRR _ _ hp)

set_option maxHeartbeats 400000 in
theorem Number_ok (W : Wk) (hW : WkL W) : WOk W (aI W) 65 sI := by
  refine WOk_intro 0 Try.func65 rfl (by kernel_rfl) (fun _ _ _ => rfl) fun S w l n off pre us post own st RR hi hl hS hpre hok hfit hRR => ?_
  have hlS := lt_of_get hS
  have hp0 : WP W S w l n pre own .nil [] st (us ++ post) S := WP.refl hi hS
  refine LregionG [none, none, none] (by kernel_rfl) (by kernel_rfl) ?_
  simp -dsimp only [go_sem, ↓reduceIte, hW.mInt]
  repeat with_reducible refine And.intro (by first | omega | decide | trivial) ?_
  refine WOk.kk hW (hW.hInt) us hp0 hl hlS hpre rfl rfl (rfl) hok hfit ?_
  rintro r S2 hp
  simp -dsimp only [go_sem, ↓reduceIte]
  simp only [LThen, LBlock, LPost, Try.results65]
  simp -dsimp only [go_sem, ↓reduceIte]
  exact ret_keep (hRR _ _ hp)

set_option maxHeartbeats 400000 in
theorem Text_ok (W : Wk) (hW : WkL W) : WOk W (aI W) 69 sStr := by
  refine WOk_intro 0 Try.func69 rfl (by kernel_rfl) (fun _ _ _ => rfl) fun S w l n off pre us post own st RR hi hl hS hpre hok hfit hRR => ?_
  have hlS := lt_of_get hS
  have hp0 : WP W S w l n pre own .nil [] st (us ++ post) S := WP.refl hi hS
  refine LregionG [none, none, none] (by kernel_rfl) (by kernel_rfl) ?_
  simp -dsimp only [go_sem, ↓reduceIte, hW.mText]
  repeat with_reducible refine And.intro (by first | omega | decide | trivial) ?_
  refine WOk.kk hW (hW.hText) us hp0 hl hlS hpre rfl rfl (rfl) hok hfit ?_
  rintro r S2 hp
  simp -dsimp only [go_sem, ↓reduceIte]
  simp only [LThen, LBlock, LPost, Try.results69]
  simp -dsimp only [go_sem, ↓reduceIte]
  exact ret_keep (hRR _ _ hp)

end Go.Proofs.Ytdhngmldmalbbaa
end
section
set_option linter.all false
namespace Go.Proofs.Ytdhngmldmalbbaa
open Go.Lift Go.RowKit Go.Store
set_option linter.unusedSimpArgs false
set_option linter.unusedVariables false

theorem Lwp_frzRowS {N : Nat} {c : Code} {Q : Exit → Env → LS → Prop} {env : Env} {S : LS} {lo sz : Nat} {es : List (List LV)} (t : Nat) (u : LV) (ht : Nat.blt t N = true) (hu : env t = some u) (hr : RowS S lo u sz es)
    (h : ∀ (full : Bool) (S1 : LS), S1.length = S.length → (∀ j, j ∉ rowIds u → S1[j]? = S[j]?) → Lwp Try.prog N c Q (env.put t (.sl full es)) S1) : Lwp Try.prog N c Q env S := by
  rcases hr.2 with he | ⟨id, hk, he, hT⟩
  · have := h true S rfl (fun _ _ => rfl)
    have e : env.put t (.sl true es) = env := by
      funext x
      simp only [Env.put]
      split
      · rename_i e; rw [e, hu, he]
      · rfl
    rwa [e] at this
  · subst he
    refine Lwp_freeze t id ht _ hu ?_
    have e : frzK (fun j => j != id) S 1 (.ref id 0 es.length) = .sl false es := by
      simp only [frzK, bne_self_eq_false, hT]
      simp [frzK]
    rw [e]
    exact h false _ (by simp) (fun j hj => by rw [List.getElem?_set_ne (by simp [rowIds] at hj; omega)])
theorem ovr_mid : ∀ {pre : List LV} {us vs : LV} {post : List LV}, ovr (pre ++ us :: post) pre.length [vs] = pre ++ ([vs] ++ post)
  | [], us, vs, post => by cases post <;> rfl
  | p :: pre, us, vs, post => by
    have := ovr_mid (pre := pre) (us := us) (vs := vs) (post := post)
    simp only [List.cons_append, List.length_cons, ovr, this]

set_option maxHeartbeats 400000 in
theorem SlRd_ok (W : Wk) (hW : WkL W) : WOk W (aF W 61) 60 (.sl sRd .nil) := by
  refine WOk_intro 0 Try.func60 rfl (by kernel_rfl) (fun _ _ _ => rfl) fun S w l n off pre us post own st RR hi hl hS hpre hok hfit hRR => ?_
  have hlS := lt_of_get hS
  have hp0 : WP W S w l n pre own .nil [] st (us ++ post) S := WP.refl hi hS
  obtain ⟨f, es, us', rfl, hn, hes, h0⟩ := ok_sl hok
  obtain rfl := ok_nil h0
  clear h0 hok
  simp only [List.cons_append, List.nil_append] at hS hp0
  have hfit2 : W.fits (walN (wal W sRd) (zs sRd) (W.count st es.length).1 es (W.count st es.length).2).2 := hfit
  have hfitc : W.fits (W.count st es.length).2 := fitsN hW (Nat.zero_le _) hfit2
  have hNlt := hW.cnt (m := es.length) hi hn
  obtain ⟨cells, hcells⟩ : ∃ c, c = pre ++ (.sl f es :: post) := ⟨_, rfl⟩
  have hc1 : off < cells.length := by rw [hcells, ← hpre]; simp
  have hc2 : cells.getD off .any = .sl f es := by rw [hcells, ← hpre]; simp [List.getD_eq_getElem?_getD]
  have hlow := hW.lt hi
  rw [← hcells] at hS
  refine Lwp_seq fun KK0 hKK0 => ?_
  refine LdrawE [0,1,2,3,4,5,6,7,8,9] [(l, (n, [cells]))] none (by kernel_rfl) (by kernel_rfl) (by kernel_rfl) (by kernel_rfl) (by simp only [Watch.holds, List.mem_singleton, forall_eq]; exact hS) ?_
  simp -dsimp only [go_sem, ↓reduceIte, hc1, hc2, hW.mCount]
  repeat with_reducible refine And.intro (by first | omega | decide | trivial) ?_
  refine (hW.hCount S w own st es.length hi hn hfitc).k ?_
  rintro _ S1 ⟨rfl, own1, i1, K1, ow1⟩
  have hl1 : S1[l]? = some (some (n, [cells])) := K1.get hS hl
  simp -dsimp only [go_sem, ↓reduceIte, hl1]
  refine hKK0 _ _ ?_
  try clear hKK0 KK0
  refine Lwp_seq fun KK1 hKK1 => ?_
  refine LregionG [none] (by kernel_rfl) (by kernel_rfl) ?_
  simp -dsimp only [go_sem, ↓reduceIte]
  repeat with_reducible refine And.intro (by first | omega | decide) ?_
  refine hKK1 _ _ ?_
  try clear hKK1 KK1
  refine Lwp_seq fun KK2 hKK2 => ?_
  refine Lwp_seq fun KK3 hKK3 => ?_
  refine LregionG [none, none] (by kernel_rfl) (by kernel_rfl) ?_
  simp -dsimp only [go_sem, ↓reduceIte]
  repeat with_reducible refine And.intro (by first | omega | decide) ?_
  refine hKK3 _ _ ?_
  try clear hKK3 KK3
  refine Lwp_block ?_
  refine Lwp_loopK [0, 1, 2, 6, 7, 19, 20] (fun m vs S' => ∃ (k : Nat) (own1 : List Nat) (xs : List (List LV)) (u7 : LV), vs = [.iface W.ty (.ptr w 0 0), .ptr l 0 off, .func (.func 61) [] [], V (W.count st es.length).1, u7, V (W.count st es.length).1, V k] ∧ W.inv S' w own1 (walN (wal W sRd) (zs sRd) k es (W.count st es.length).2).2 ∧ xs.map (nz sRd) = (walN (wal W sRd) (zs sRd) k es (W.count st es.length).2).1 ∧ (∀ x ∈ xs, ok sRd x) ∧ xs.length = k ∧ RowS S' S.length u7 2 xs ∧ (∀ id ∈ rowIds u7, id ∉ own1) ∧ Keeps S S' own ∧ (∀ id ∈ own1, id ∈ own ∨ S.length ≤ id) ∧ k ≤ (W.count st es.length).1 ∧ m = (W.count st es.length).1 - k) (W.count st es.length).1 rfl (⟨0, own1, [], .sl true [], by simp only [go_sem, ↓reduceIte, Int.natCast_zero], i1, rfl, by simp, rfl, RowS.nil, by simp [rowIds], K1, ow1, Nat.zero_le _, rfl⟩) ?_
  rintro m us S2 ⟨k, own2, xs, u7, rfl, i2, hz, hxs, hxl, hrow, hdis, hK, how, hk, hm⟩ II hII
  refine Lwp_seq fun KK4 hKK4 => ?_
  refine LregionG [none] (by kernel_rfl) (by kernel_rfl) ?_
  simp -dsimp only [go_sem, ↓reduceIte]
  repeat with_reducible refine And.intro (by first | omega | decide) ?_
  refine hKK4 _ _ ?_
  try clear hKK4 KK4
  refine Lwp_seq fun KK5 hKK5 => ?_
  refine Lwp_cond (by simp only [go_sem, ↓reduceIte]; rfl) (fun ht => ?_) (fun hf => ?_)
  · skip
    have hkN : k < (W.count st es.length).1 := by simpa using ht
    have hlow2 := hW.lt i2
    have hl2 : S2[l]? = some (some (n, [cells])) := hK.get hS hl
    have hl3 : ∀ T, (S2 ++ T)[l]? = some (some (n, [cells])) := fun T => by rw [List.getElem?_append_left (lt_of_get hl2)]; exact hl2
    have hS2l : S.length ≤ S2.length := hK.1
    have hx0 : ok sRd (es.getD k (zs sRd)) := by
      rw [List.getD_eq_getElem?_getD]
      by_cases h : k < es.length
      · rw [List.getElem?_eq_getElem h]; exact hes _ (List.getElem_mem h)
      · rw [List.getElem?_eq_none (by omega)]; exact ok_zs
    have e1 : IntKind.i64.wrap ((k : Int) + 1) = ((k + 1 : Nat) : Int) := w64 (by omega) (by omega)
    refine Lwp_skip ?_
    try simp -dsimp only [go_sem, ↓reduceIte]
    refine hKK5 _ _ ?_
    try clear hKK5 KK5
    refine Lwp_seq fun KK6 hKK6 => ?_
    refine Lwp_block ?_
    refine Lwp_seq fun KK7 hKK7 => ?_
    refine LregionG [none, none] (by kernel_rfl) (by kernel_rfl) ?_
    simp -dsimp only [go_sem, ↓reduceIte]
    repeat with_reducible refine And.intro (by first | omega | decide) ?_
    refine hKK7 _ _ ?_
    try clear hKK7 KK7
    refine Lwp_seq fun KK8 hKK8 => ?_
    refine LregionG [none] (by kernel_rfl) (by kernel_rfl) ?_
    simp -dsimp only [go_sem, ↓reduceIte]
    
    refine hKK8 _ _ ?_
    try clear hKK8 KK8
    refine Lwp_seqJ [0, 1, 2, 6, 7, 19, 20, 8, 9] (fun vs S3 => vs = [.iface W.ty (.ptr w 0 0), .ptr l 0 off, .func (.func 61) [] [], V (W.count st es.length).1, u7, V (W.count st es.length).1, V k, V k, .ptr S2.length 0 0] ∧ S3 = S2 ++ [some (2, [es.getD k (zs sRd)])]) rfl (fun KK9 hKK9 => ?_) ?_
    · skip
      refine Lwp_seq fun KK10 hKK10 => ?_
      refine LregionG [none, none, none, none, none, none] (by kernel_rfl) (by kernel_rfl) ?_
      simp -dsimp only [go_sem, ↓reduceIte, hl3, hc1, hc2]
      repeat with_reducible refine And.intro (by first | omega | decide) ?_
      refine hKK10 _ _ ?_
      try clear hKK10 KK10
      refine Lwp_cond (by simp only [go_sem, ↓reduceIte]; rfl) (fun ht => ?_) (fun hf => ?_)
      · skip
        have hke : k < es.length := by simpa using ht
        obtain ⟨x0, hx0e⟩ : ∃ x0, x0 = es.getD k [] := ⟨_, rfl⟩
        have hx0l : x0.length = 2 := by rw [hx0e]; exact ok_len (ok_mem hes hke)
        have hx0t : x0.take 2 = x0 := List.take_of_length_le (by omega)
        have hov0 : ovr (zs sRd) 0 x0 = x0 := ovr_all (by rw [hx0l]; rfl)
        have hx0e2 : es.getD k (zs sRd) = x0 := by rw [hx0e, List.getD_eq_getElem?_getD, List.getD_eq_getElem?_getD, List.getElem?_eq_getElem hke]; rfl
        refine LregionG [none, none, none, none, none, none, none] (by kernel_rfl) (by kernel_rfl) ?_
        simp -dsimp only [go_sem, ↓reduceIte, hl3, hc1, hc2, hke, ← hx0e, hx0l, hx0t]
        repeat with_reducible refine And.intro (by first | omega | decide) ?_
        try simp -dsimp only [go_sem, ↓reduceIte]
        refine hKK9 _ _ ?_
        first | exact ⟨rfl, rfl⟩ | (refine ⟨rfl, ?_⟩; simp [List.getD_eq_getElem?_getD, List.getElem?_eq_none (Nat.le_of_not_lt hke), zs, sRd]; done) | (refine ⟨rfl, ?_⟩; rw [hx0e2]; done) | (refine ⟨rfl, ?_⟩; rw [hx0e2]; exact congrArg (fun z => S2 ++ [some (2, [z])]) hov0)
      · skip
        have hke : ¬ k < es.length := by simpa using hf
        refine Lwp_skip ?_
        try simp -dsimp only [go_sem, ↓reduceIte]
        try simp -dsimp only [go_sem, ↓reduceIte]
        refine hKK9 _ _ ?_
        first | exact ⟨rfl, rfl⟩ | (refine ⟨rfl, ?_⟩; simp [List.getD_eq_getElem?_getD, List.getElem?_eq_none (Nat.le_of_not_lt hke), zs, sRd]; done) | (refine ⟨rfl, ?_⟩; rw [hx0e2]; done) | (refine ⟨rfl, ?_⟩; rw [hx0e2]; exact congrArg (fun z => S2 ++ [some (2, [z])]) hov0)
    · rintro us SJ ⟨rfl, rfl⟩
      refine Lwp_seq fun KK11 hKK11 => ?_
      refine LregionG [none, none, none] (by kernel_rfl) (by kernel_rfl) ?_
      simp -dsimp only [go_sem, ↓reduceIte]
      refine (Reading_ok W hW (S2 ++ [some (2, [es.getD k (zs sRd)])]) w S2.length 2 0 [] (es.getD k (zs sRd)) [] own2 _ (hW.keep i2 (Keeps.app S2 _ []) (by simp)) (fun h => absurd (hlow2 _ h) (Nat.lt_irrefl _)) (by simp) rfl hx0 (by have := fitsN hW hkN hfit2; rw [walN_succ] at this; exact this)).k ?_
      rintro r S3 ⟨-, own3, us3, i3, z3, ok3, hS3, K3, ow3⟩
      simp only [List.nil_append, List.append_nil] at hS3
      have hl3' := ok_len ok3
      have K23 : Keeps S2 S3 own2 := ⟨by have := K3.1; simp at this; omega, fun j hj hn => (K3.2 j (by simp; omega) (by simp [hn]; omega)).trans (List.getElem?_append_left hj)⟩
      have hrow3 := hrow.mono (Nat.le_refl _) (fun id hid b hb => K23.get hb (hdis id hid))
      have hlow3 := hW.lt i3
      have hlen3 := K3.1
      simp only [List.length_append, List.length_cons, List.length_nil, Nat.zero_add] at hlen3 ow3
      simp -dsimp only [go_sem, ↓reduceIte]
      refine hKK11 _ _ ?_
      try clear hKK11 KK11
      have hu3 : us3.take 2 = us3 := List.take_of_length_le (by rw [hl3']; exact Nat.le_refl _)
      simp only [show sRd.n = 2 from rfl] at hl3'
      refine LregionG [none, none, none, none, none] (by kernel_rfl) (by kernel_rfl) ?_
      simp -dsimp only [go_sem, ↓reduceIte, hS3, hl3', hu3]
      repeat with_reducible refine And.intro (by first | omega | decide | trivial) ?_
      refine append_row hrow3 rfl (by simp only [go_sem]; rfl) (by simp only [go_sem]; first | exact ⟨rfl, rfl⟩ | exact ⟨rfl, rfl, rfl⟩ | rfl) (by simp only [go_sem]) (by simp only [go_sem, ↓reduceIte]) (by simp only [go_sem, ↓reduceIte]; rfl) (by simp [hl3']) (.inr (by simp)) (by simp only [LIM, List.length_cons, List.length_nil]; omega) fun S4 hS4l hrow4 hK4 => ?_
      have i4 := hW.keep i3 hK4 (fun id hid hm => (ow3 id hid).elim (fun h => hdis id hm h) (fun h => by have := (hrow.lo id hm).2; omega))
      simp -dsimp only [go_sem, ↓reduceIte]
      refine hKK6 _ _ ?_
      try clear hKK6 KK6
      refine LregionG [none, none] (by kernel_rfl) (by kernel_rfl) ?_
      simp -dsimp only [go_sem, ↓reduceIte, e1]
      repeat with_reducible refine And.intro (by first | omega | decide) ?_
      refine hII ((W.count st es.length).1 - (k + 1)) _ _ (by omega) ⟨k + 1, own3, xs ++ [us3], _, rfl, by rw [walN_succ]; exact i4, by rw [walN_succ, List.map_append, hz]; simp only [List.map_cons, List.map_nil, z3], fun x hx => ?_, by simp [hxl], hrow4.mono (by omega) (fun _ _ _ h => h), fun id hid => ?_, ?_, fun id hid => ?_, hkN, rfl⟩
      · rcases List.mem_append.1 hx with hx | hx
        · exact hxs x hx
        · rw [List.mem_singleton.1 hx]; exact ok3
      · simp only [rowIds, List.mem_singleton] at hid
        subst hid
        exact fun h => absurd (hlow3 _ h) (Nat.lt_irrefl _)
      · refine hK.trans (K23.trans hK4 (ids'' := own2 ++ rowIds u7) (fun j _ h => List.mem_append.2 h)) (fun j hj h => ?_)
        rcases h with h | h
        · exact h
        · rcases List.mem_append.1 h with h | h
          · exact (how j h).elim id fun h => by omega
          · have := (hrow.lo j h).1; omega
      · rcases ow3 id hid with h | h
        · exact how id h
        · exact .inr (by omega)
  · skip
    obtain rfl : k = (W.count st es.length).1 := Nat.le_antisymm hk (Nat.le_of_not_lt (by simpa using hf))
    refine Lwp_exit ?_
    simp -dsimp only [go_sem, ↓reduceIte]
    refine hKK2 _ _ ?_
    try clear hKK2 KK2
    have hl2 : S2[l]? = some (some (n, [cells])) := hK.get hS hl
    have hlu : l ∉ rowIds u7 := fun h => by have := (hrow.lo l h).1; omega
    refine Lwp_frzRowS 7 u7 rfl (by simp only [go_sem, ↓reduceIte]) hrow fun full S3 hS3l hK3 => ?_
    have hl3 : S3[l]? = some (some (n, [cells])) := (hK3 l hlu).trans hl2
    have hov : ovr cells off [.sl full xs] = pre ++ ([.sl full xs] ++ post) := by rw [hcells, ← hpre]; exact ovr_mid
    refine LregionG [none, none, none, none] (by kernel_rfl) (by kernel_rfl) ?_
    simp -dsimp only [go_sem, ↓reduceIte, hl3, hov, hc1]
    repeat with_reducible refine And.intro (by first | omega | decide) ?_
    simp only [LThen, LBlock, LPost, Try.results60]
    simp -dsimp only [go_sem, ↓reduceIte]
    refine ret_keep (hRR _ _ ⟨⟨hn, hes, trivial⟩, own2, [.sl full xs], hW.keep i2 (ids := l :: rowIds u7) ⟨by simp [hS3l], fun j hj hm => ?_⟩ (fun id hid => ?_), by simp only [nz, wal, elemsOf, hz], ⟨by rw [hxl]; exact hNlt, hxs, trivial⟩, ?_, ⟨by rw [List.length_set, hS3l]; exact hK.1, fun j hj hm => ?_⟩, how⟩)
    · simp only [List.mem_cons, not_or] at hm
      rw [List.getElem?_set_ne (by omega)]; exact hK3 j hm.2
    · simp only [List.mem_cons, not_or]
      exact ⟨fun h => (how id hid).elim (fun h' => hl (h ▸ h')) (fun h' => by omega), fun h => hdis id h hid⟩
    · rw [List.getElem?_set_self (lt_of_get hl3)]; rfl
    · simp only [List.mem_cons, not_or] at hm
      rw [List.getElem?_set_ne (by omega), hK3 j (fun h => by have := (hrow.lo j h).1; omega)]
      exact hK.2 j hj hm.2

end Go.Proofs.Ytdhngmldmalbbaa
end
section
set_option linter.all false
namespace Go.Proofs.Ytdhngmldmalbbaa
open Go.Lift Go.RowKit Go.Store
set_option linter.unusedSimpArgs false
set_option linter.unusedVariables false

theorem okI1 {v : Int} (h : isI v) : ok sI [V v] := ⟨rfl, h.1, h.2, trivial⟩

set_option maxHeartbeats 400000 in
theorem Report_ok (W : Wk) (hW : WkL W) : WOk W (aI W) 57 sRep := by
  refine WOk_intro 0 Try.func57 rfl (by kernel_rfl) (fun _ _ _ => rfl) fun S w l n off pre us post own st RR hi hl hS hpre hok hfit hRR => ?_
  have hlS := lt_of_get hS
  have hp0 : WP W S w l n pre own .nil [] st (us ++ post) S := WP.refl hi hS
  obtain ⟨k, us, rfl, hk, h⟩ := ok_int hok
  obtain ⟨s, us, rfl, hs, h⟩ := ok_str h
  obtain ⟨t, us, rfl, htt, h⟩ := ok_int h
  obtain ⟨fc, us, rfl, hff, h⟩ := ok_int h
  obtain ⟨x, us, rfl, hx, h⟩ := ok_int h
  obtain ⟨y, us, rfl, hy, h⟩ := ok_int h
  obtain ⟨z, us, rfl, hz, h⟩ := ok_int h
  obtain ⟨fl, es, us, rfl, hn, hes, h⟩ := ok_sl h
  obtain rfl := ok_nil h
  clear h hok
  have hok1 : ok (Sch.app Sch.nil sI) (([] : List LV) ++ [V k]) := app_ok trivial (okI1 hk)
  have hok2 : ok (Sch.app (Sch.app Sch.nil sI) sStr) ((([] : List LV) ++ [V k]) ++ [.str s]) := app_ok hok1 (⟨hs, trivial⟩)
  have hok3 : ok (Sch.app (Sch.app (Sch.app Sch.nil sI) sStr) sI) (((([] : List LV) ++ [V k]) ++ [.str s]) ++ [V t]) := app_ok hok2 (okI1 htt)
  have hok4 : ok (Sch.app (Sch.app (Sch.app (Sch.app Sch.nil sI) sStr) sI) sPlace) ((((([] : List LV) ++ [V k]) ++ [.str s]) ++ [V t]) ++ [V fc, V x, V y, V z]) := app_ok hok3 (⟨rfl, hff.1, hff.2, rfl, hx.1, hx.2, rfl, hy.1, hy.2, rfl, hz.1, hz.2, trivial⟩)
  have hok5 : ok (Sch.app (Sch.app (Sch.app (Sch.app (Sch.app Sch.nil sI) sStr) sI) sPlace) (.sl sRd .nil)) (((((([] : List LV) ++ [V k]) ++ [.str s]) ++ [V t]) ++ [V fc, V x, V y, V z]) ++ [.sl fl es]) := app_ok hok4 (⟨hn, hes, trivial⟩)
  have hft5 : W.fits (wal W (Sch.app (Sch.app (Sch.app (Sch.app (Sch.app Sch.nil sI) sStr) sI) sPlace) (.sl sRd .nil)) (((((([] : List LV) ++ [V k]) ++ [.str s]) ++ [V t]) ++ [V fc, V x, V y, V z]) ++ [.sl fl es]) st).2 := hfit
  have hft4 := fitsL hW hok4 hft5
  have hft3 := fitsL hW hok3 hft4
  have hft2 := fitsL hW hok2 hft3
  have hft1 := fitsL hW hok1 hft2
  refine Lwp_seq fun KK0 hKK0 => ?_
  refine LdrawE [0,1,2,3,4,5,6,7] [] none (by kernel_rfl) (by kernel_rfl) (by kernel_rfl) (by kernel_rfl) (by simp [Watch.holds]) ?_
  simp -dsimp only [go_sem, ↓reduceIte, hW.mInt]
  repeat with_reducible refine And.intro (by first | omega | decide | trivial) ?_
  refine WOk.kk hW (hW.hInt) [V k] hp0 hl hlS hpre rfl rfl (rfl) (okI1 hk) hft1 ?_
  rintro r S2 hp
  simp -dsimp only [go_sem, ↓reduceIte]
  refine hKK0 _ _ ?_
  try clear hKK0 KK0
  refine Lwp_seq fun KK1 hKK1 => ?_
  refine LdrawE [0,1,2,3,4,5,6,7] [] none (by kernel_rfl) (by kernel_rfl) (by kernel_rfl) (by kernel_rfl) (by simp [Watch.holds]) ?_
  simp -dsimp only [go_sem, ↓reduceIte, hW.mText]
  repeat with_reducible refine And.intro (by first | omega | decide | trivial) ?_
  refine WOk.kk hW (hW.hText) [.str s] hp hl hlS hpre rfl rfl (rfl) (⟨hs, trivial⟩) hft2 ?_
  rintro r S2 hp
  simp -dsimp only [go_sem, ↓reduceIte]
  refine hKK1 _ _ ?_
  try clear hKK1 KK1
  refine Lwp_seq fun KK2 hKK2 => ?_
  refine LdrawE [0,1,2,3,4,5,6,7] [] none (by kernel_rfl) (by kernel_rfl) (by kernel_rfl) (by kernel_rfl) (by simp [Watch.holds]) ?_
  simp -dsimp only [go_sem, ↓reduceIte, hW.mInt]
  repeat with_reducible refine And.intro (by first | omega | decide | trivial) ?_
  refine WOk.kk hW (hW.hInt) [V t] hp hl hlS hpre rfl rfl (rfl) (okI1 htt) hft3 ?_
  rintro r S2 hp
  simp -dsimp only [go_sem, ↓reduceIte]
  refine hKK2 _ _ ?_
  try clear hKK2 KK2
  refine Lwp_seq fun KK3 hKK3 => ?_
  refine LregionG [none, none, none, none, none] (by kernel_rfl) (by kernel_rfl) ?_
  simp -dsimp only [go_sem, ↓reduceIte]
  repeat with_reducible refine And.intro (by first | omega | decide | trivial) ?_
  refine WOk.kk hW (Place_ok W hW) [V fc, V x, V y, V z] hp hl hlS hpre rfl rfl (rfl) (⟨rfl, hff.1, hff.2, rfl, hx.1, hx.2, rfl, hy.1, hy.2, rfl, hz.1, hz.2, trivial⟩) hft4 ?_
  rintro r S2 hp
  simp -dsimp only [go_sem, ↓reduceIte]
  refine hKK3 _ _ ?_
  try clear hKK3 KK3
  refine LregionG [none, none, none, none, none] (by kernel_rfl) (by kernel_rfl) ?_
  simp -dsimp only [go_sem, ↓reduceIte]
  repeat with_reducible refine And.intro (by first | omega | decide | trivial) ?_
  refine WOk.kk hW (SlRd_ok W hW) [.sl fl es] hp hl hlS hpre rfl rfl (rfl) (⟨hn, hes, trivial⟩) hft5 ?_
  rintro r S2 hp
  simp -dsimp only [go_sem, ↓reduceIte]
  simp only [LThen, LBlock, LPost, Try.results57]
  simp -dsimp only [go_sem, ↓reduceIte]
  exact ret_keep (hRR _ _ hp)

set_option maxHeartbeats 400000 in
theorem SlRep_ok (W : Wk) (hW : WkL W) : WOk W (aF W 57) 62 (.sl sRep .nil) := by
  refine WOk_intro 0 Try.func62 rfl (by kernel_rfl) (fun _ _ _ => rfl) fun S w l n off pre us post own st RR hi hl hS hpre hok hfit hRR => ?_
  have hlS := lt_of_get hS
  have hp0 : WP W S w l n pre own .nil [] st (us ++ post) S := WP.refl hi hS
  obtain ⟨f, es, us', rfl, hn, hes, h0⟩ := ok_sl hok
  obtain rfl := ok_nil h0
  clear h0 hok
  simp only [List.cons_append, List.nil_append] at hS hp0
  have hfit2 : W.fits (walN (wal W sRep) (zs sRep) (W.count st es.length).1 es (W.count st es.length).2).2 := hfit
  have hfitc : W.fits (W.count st es.length).2 := fitsN hW (Nat.zero_le _) hfit2
  have hNlt := hW.cnt (m := es.length) hi hn
  obtain ⟨cells, hcells⟩ : ∃ c, c = pre ++ (.sl f es :: post) := ⟨_, rfl⟩
  have hc1 : off < cells.length := by rw [hcells, ← hpre]; simp
  have hc2 : cells.getD off .any = .sl f es := by rw [hcells, ← hpre]; simp [List.getD_eq_getElem?_getD]
  have hlow := hW.lt hi
  rw [← hcells] at hS
  refine Lwp_seq fun KK0 hKK0 => ?_
  refine LdrawE [0,1,2,3,4,5,6,7,8,9] [(l, (n, [cells]))] none (by kernel_rfl) (by kernel_rfl) (by kernel_rfl) (by kernel_rfl) (by simp only [Watch.holds, List.mem_singleton, forall_eq]; exact hS) ?_
  simp -dsimp only [go_sem, ↓reduceIte, hc1, hc2, hW.mCount]
  repeat with_reducible refine And.intro (by first | omega | decide | trivial) ?_
  refine (hW.hCount S w own st es.length hi hn hfitc).k ?_
  rintro _ S1 ⟨rfl, own1, i1, K1, ow1⟩
  have hl1 : S1[l]? = some (some (n, [cells])) := K1.get hS hl
  simp -dsimp only [go_sem, ↓reduceIte, hl1]
  refine hKK0 _ _ ?_
  try clear hKK0 KK0
  refine Lwp_seq fun KK1 hKK1 => ?_
  refine LregionG [none] (by kernel_rfl) (by kernel_rfl) ?_
  simp -dsimp only [go_sem, ↓reduceIte]
  repeat with_reducible refine And.intro (by first | omega | decide) ?_
  refine hKK1 _ _ ?_
  try clear hKK1 KK1
  refine Lwp_seq fun KK2 hKK2 => ?_
  refine Lwp_seq fun KK3 hKK3 => ?_
  refine LregionG [none, none] (by kernel_rfl) (by kernel_rfl) ?_
  simp -dsimp only [go_sem, ↓reduceIte]
  repeat with_reducible refine And.intro (by first | omega | decide) ?_
  refine hKK3 _ _ ?_
  try clear hKK3 KK3
  refine Lwp_block ?_
  refine Lwp_loopK [0, 1, 2, 6, 7, 19, 20] (fun m vs S' => ∃ (k : Nat) (own1 : List Nat) (xs : List (List LV)) (u7 : LV), vs = [.iface W.ty (.ptr w 0 0), .ptr l 0 off, .func (.func 57) [] [], V (W.count st es.length).1, u7, V (W.count st es.length).1, V k] ∧ W.inv S' w own1 (walN (wal W sRep) (zs sRep) k es (W.count st es.length).2).2 ∧ xs.map (nz sRep) = (walN (wal W sRep) (zs sRep) k es (W.count st es.length).2).1 ∧ (∀ x ∈ xs, ok sRep x) ∧ xs.length = k ∧ RowS S' S.length u7 8 xs ∧ (∀ id ∈ rowIds u7, id ∉ own1) ∧ Keeps S S' own ∧ (∀ id ∈ own1, id ∈ own ∨ S.length ≤ id) ∧ k ≤ (W.count st es.length).1 ∧ m = (W.count st es.length).1 - k) (W.count st es.length).1 rfl (⟨0, own1, [], .sl true [], by simp only [go_sem, ↓reduceIte, Int.natCast_zero], i1, rfl, by simp, rfl, RowS.nil, by simp [rowIds], K1, ow1, Nat.zero_le _, rfl⟩) ?_
  rintro m us S2 ⟨k, own2, xs, u7, rfl, i2, hz, hxs, hxl, hrow, hdis, hK, how, hk, hm⟩ II hII
  refine Lwp_seq fun KK4 hKK4 => ?_
  refine LregionG [none] (by kernel_rfl) (by kernel_rfl) ?_
  simp -dsimp only [go_sem, ↓reduceIte]
  repeat with_reducible refine And.intro (by first | omega | decide) ?_
  refine hKK4 _ _ ?_
  try clear hKK4 KK4
  refine Lwp_seq fun KK5 hKK5 => ?_
  refine Lwp_cond (by simp only [go_sem, ↓reduceIte]; rfl) (fun ht => ?_) (fun hf => ?_)
  · skip
    have hkN : k < (W.count st es.length).1 := by simpa using ht
    have hlow2 := hW.lt i2
    have hl2 : S2[l]? = some (some (n, [cells])) := hK.get hS hl
    have hl3 : ∀ T, (S2 ++ T)[l]? = some (some (n, [cells])) := fun T => by rw [List.getElem?_append_left (lt_of_get hl2)]; exact hl2
    have hS2l : S.length ≤ S2.length := hK.1
    have hx0 : ok sRep (es.getD k (zs sRep)) := by
      rw [List.getD_eq_getElem?_getD]
      by_cases h : k < es.length
      · rw [List.getElem?_eq_getElem h]; exact hes _ (List.getElem_mem h)
      · rw [List.getElem?_eq_none (by omega)]; exact ok_zs
    have e1 : IntKind.i64.wrap ((k : Int) + 1) = ((k + 1 : Nat) : Int) := w64 (by omega) (by omega)
    refine Lwp_skip ?_
    try simp -dsimp only [go_sem, ↓reduceIte]
    refine hKK5 _ _ ?_
    try clear hKK5 KK5
    refine Lwp_seq fun KK6 hKK6 => ?_
    refine Lwp_block ?_
    refine Lwp_seq fun KK7 hKK7 => ?_
    refine LregionG [none, none] (by kernel_rfl) (by kernel_rfl) ?_
    simp -dsimp only [go_sem, ↓reduceIte]
    repeat with_reducible refine And.intro (by first | omega | decide) ?_
    refine hKK7 _ _ ?_
    try clear hKK7 KK7
    refine Lwp_seq fun KK8 hKK8 => ?_
    refine LregionG [none] (by kernel_rfl) (by kernel_rfl) ?_
    simp -dsimp only [go_sem, ↓reduceIte]
    
    refine hKK8 _ _ ?_
    try clear hKK8 KK8
    refine Lwp_seqJ [0, 1, 2, 6, 7, 19, 20, 8, 9] (fun vs S3 => vs = [.iface W.ty (.ptr w 0 0), .ptr l 0 off, .func (.func 57) [] [], V (W.count st es.length).1, u7, V (W.count st es.length).1, V k, V k, .ptr S2.length 0 0] ∧ S3 = S2 ++ [some (8, [es.getD k (zs sRep)])]) rfl (fun KK9 hKK9 => ?_) ?_
    · skip
      refine Lwp_seq fun KK10 hKK10 => ?_
      refine LregionG [none, none, none, none, none, none] (by kernel_rfl) (by kernel_rfl) ?_
      simp -dsimp only [go_sem, ↓reduceIte, hl3, hc1, hc2]
      repeat with_reducible refine And.intro (by first | omega | decide) ?_
      refine hKK10 _ _ ?_
      try clear hKK10 KK10
      refine Lwp_cond (by simp only [go_sem, ↓reduceIte]; rfl) (fun ht => ?_) (fun hf => ?_)
      · skip
        have hke : k < es.length := by simpa using ht
        obtain ⟨x0, hx0e⟩ : ∃ x0, x0 = es.getD k [] := ⟨_, rfl⟩
        have hx0l : x0.length = 8 := by rw [hx0e]; exact ok_len (ok_mem hes hke)
        have hx0t : x0.take 8 = x0 := List.take_of_length_le (by omega)
        have hov0 : ovr (zs sRep) 0 x0 = x0 := ovr_all (by rw [hx0l]; rfl)
        have hx0e2 : es.getD k (zs sRep) = x0 := by rw [hx0e, List.getD_eq_getElem?_getD, List.getD_eq_getElem?_getD, List.getElem?_eq_getElem hke]; rfl
        refine LregionG [none, none, none, none, none, none, none] (by kernel_rfl) (by kernel_rfl) ?_
        simp -dsimp only [go_sem, ↓reduceIte, hl3, hc1, hc2, hke, ← hx0e, hx0l, hx0t]
        repeat with_reducible refine And.intro (by first | omega | decide) ?_
        try simp -dsimp only [go_sem, ↓reduceIte]
        refine hKK9 _ _ ?_
        first | exact ⟨rfl, rfl⟩ | (refine ⟨rfl, ?_⟩; simp [List.getD_eq_getElem?_getD, List.getElem?_eq_none (Nat.le_of_not_lt hke), zs, sRep]; done) | (refine ⟨rfl, ?_⟩; rw [hx0e2]; done) | (refine ⟨rfl, ?_⟩; rw [hx0e2]; exact congrArg (fun z => S2 ++ [some (8, [z])]) hov0)
      · skip
        have hke : ¬ k < es.length := by simpa using hf
        refine Lwp_skip ?_
        try simp -dsimp only [go_sem, ↓reduceIte]
        try simp -dsimp only [go_sem, ↓reduceIte]
        refine hKK9 _ _ ?_
        first | exact ⟨rfl, rfl⟩ | (refine ⟨rfl, ?_⟩; simp [List.getD_eq_getElem?_getD, List.getElem?_eq_none (Nat.le_of_not_lt hke), zs, sRep]; done) | (refine ⟨rfl, ?_⟩; rw [hx0e2]; done) | (refine ⟨rfl, ?_⟩; rw [hx0e2]; exact congrArg (fun z => S2 ++ [some (8, [z])]) hov0)
    · rintro us SJ ⟨rfl, rfl⟩
      refine Lwp_seq fun KK11 hKK11 => ?_
      refine LregionG [none, none, none] (by kernel_rfl) (by kernel_rfl) ?_
      simp -dsimp only [go_sem, ↓reduceIte]
      refine (Report_ok W hW (S2 ++ [some (8, [es.getD k (zs sRep)])]) w S2.length 8 0 [] (es.getD k (zs sRep)) [] own2 _ (hW.keep i2 (Keeps.app S2 _ []) (by simp)) (fun h => absurd (hlow2 _ h) (Nat.lt_irrefl _)) (by simp) rfl hx0 (by have := fitsN hW hkN hfit2; rw [walN_succ] at this; exact this)).k ?_
      rintro r S3 ⟨-, own3, us3, i3, z3, ok3, hS3, K3, ow3⟩
      simp only [List.nil_append, List.append_nil] at hS3
      have hl3' := ok_len ok3
      have K23 : Keeps S2 S3 own2 := ⟨by have := K3.1; simp at this; omega, fun j hj hn => (K3.2 j (by simp; omega) (by simp [hn]; omega)).trans (List.getElem?_append_left hj)⟩
      have hrow3 := hrow.mono (Nat.le_refl _) (fun id hid b hb => K23.get hb (hdis id hid))
      have hlow3 := hW.lt i3
      have hlen3 := K3.1
      simp only [List.length_append, List.length_cons, List.length_nil, Nat.zero_add] at hlen3 ow3
      simp -dsimp only [go_sem, ↓reduceIte]
      refine hKK11 _ _ ?_
      try clear hKK11 KK11
      have hu3 : us3.take 8 = us3 := List.take_of_length_le (by rw [hl3']; exact Nat.le_refl _)
      simp only [show sRep.n = 8 from rfl] at hl3'
      refine LregionG [none, none, none, none, none] (by kernel_rfl) (by kernel_rfl) ?_
      simp -dsimp only [go_sem, ↓reduceIte, hS3, hl3', hu3]
      repeat with_reducible refine And.intro (by first | omega | decide | trivial) ?_
      refine append_row hrow3 rfl (by simp only [go_sem]; rfl) (by simp only [go_sem]; first | exact ⟨rfl, rfl⟩ | exact ⟨rfl, rfl, rfl⟩ | rfl) (by simp only [go_sem]) (by simp only [go_sem, ↓reduceIte]) (by simp only [go_sem, ↓reduceIte]; rfl) (by simp [hl3']) (.inr (by simp)) (by simp only [LIM, List.length_cons, List.length_nil]; omega) fun S4 hS4l hrow4 hK4 => ?_
      have i4 := hW.keep i3 hK4 (fun id hid hm => (ow3 id hid).elim (fun h => hdis id hm h) (fun h => by have := (hrow.lo id hm).2; omega))
      simp -dsimp only [go_sem, ↓reduceIte]
      refine hKK6 _ _ ?_
      try clear hKK6 KK6
      refine LregionG [none, none] (by kernel_rfl) (by kernel_rfl) ?_
      simp -dsimp only [go_sem, ↓reduceIte, e1]
      repeat with_reducible refine And.intro (by first | omega | decide) ?_
      refine hII ((W.count st es.length).1 - (k + 1)) _ _ (by omega) ⟨k + 1, own3, xs ++ [us3], _, rfl, by rw [walN_succ]; exact i4, by rw [walN_succ, List.map_append, hz]; simp only [List.map_cons, List.map_nil, z3], fun x hx => ?_, by simp [hxl], hrow4.mono (by omega) (fun _ _ _ h => h), fun id hid => ?_, ?_, fun id hid => ?_, hkN, rfl⟩
      · rcases List.mem_append.1 hx with hx | hx
        · exact hxs x hx
        · rw [List.mem_singleton.1 hx]; exact ok3
      · simp only [rowIds, List.mem_singleton] at hid
        subst hid
        exact fun h => absurd (hlow3 _ h) (Nat.lt_irrefl _)
      · refine hK.trans (K23.trans hK4 (ids'' := own2 ++ rowIds u7) (fun j _ h => List.mem_append.2 h)) (fun j hj h => ?_)
        rcases h with h | h
        · exact h
        · rcases List.mem_append.1 h with h | h
          · exact (how j h).elim id fun h => by omega
          · have := (hrow.lo j h).1; omega
      · rcases ow3 id hid with h | h
        · exact how id h
        · exact .inr (by omega)
  · skip
    obtain rfl : k = (W.count st es.length).1 := Nat.le_antisymm hk (Nat.le_of_not_lt (by simpa using hf))
    refine Lwp_exit ?_
    simp -dsimp only [go_sem, ↓reduceIte]
    refine hKK2 _ _ ?_
    try clear hKK2 KK2
    have hl2 : S2[l]? = some (some (n, [cells])) := hK.get hS hl
    have hlu : l ∉ rowIds u7 := fun h => by have := (hrow.lo l h).1; omega
    refine Lwp_frzRowS 7 u7 rfl (by simp only [go_sem, ↓reduceIte]) hrow fun full S3 hS3l hK3 => ?_
    have hl3 : S3[l]? = some (some (n, [cells])) := (hK3 l hlu).trans hl2
    have hov : ovr cells off [.sl full xs] = pre ++ ([.sl full xs] ++ post) := by rw [hcells, ← hpre]; exact ovr_mid
    refine LregionG [none, none, none, none] (by kernel_rfl) (by kernel_rfl) ?_
    simp -dsimp only [go_sem, ↓reduceIte, hl3, hov, hc1]
    repeat with_reducible refine And.intro (by first | omega | decide) ?_
    simp only [LThen, LBlock, LPost, Try.results62]
    simp -dsimp only [go_sem, ↓reduceIte]
    refine ret_keep (hRR _ _ ⟨⟨hn, hes, trivial⟩, own2, [.sl full xs], hW.keep i2 (ids := l :: rowIds u7) ⟨by simp [hS3l], fun j hj hm => ?_⟩ (fun id hid => ?_), by simp only [nz, wal, elemsOf, hz], ⟨by rw [hxl]; exact hNlt, hxs, trivial⟩, ?_, ⟨by rw [List.length_set, hS3l]; exact hK.1, fun j hj hm => ?_⟩, how⟩)
    · simp only [List.mem_cons, not_or] at hm
      rw [List.getElem?_set_ne (by omega)]; exact hK3 j hm.2
    · simp only [List.mem_cons, not_or]
      exact ⟨fun h => (how id hid).elim (fun h' => hl (h ▸ h')) (fun h' => by omega), fun h => hdis id h hid⟩
    · rw [List.getElem?_set_self (lt_of_get hl3)]; rfl
    · simp only [List.mem_cons, not_or] at hm
      rw [List.getElem?_set_ne (by omega), hK3 j (fun h => by have := (hrow.lo j h).1; omega)]
      exact hK.2 j hj hm.2

end Go.Proofs.Ytdhngmldmalbbaa
end
section
set_option linter.all false
namespace Go.Proofs.Ytdhngmldmalbbaa
open Go.Lift Go.RowKit Go.Store
set_option linter.unusedSimpArgs false
set_option linter.unusedVariables false
set_option maxHeartbeats 400000 in
theorem SlInt_ok (W : Wk) (hW : WkL W) : WOk W (aF W 65) 64 (.sl sI .nil) := by
  refine WOk_intro 0 Try.func64 rfl (by kernel_rfl) (fun _ _ _ => rfl) fun S w l n off pre us post own st RR hi hl hS hpre hok hfit hRR => ?_
  have hlS := lt_of_get hS
  have hp0 : WP W S w l n pre own .nil [] st (us ++ post) S := WP.refl hi hS
  obtain ⟨f, es, us', rfl, hn, hes, h0⟩ := ok_sl hok
  obtain rfl := ok_nil h0
  clear h0 hok
  simp only [List.cons_append, List.nil_append] at hS hp0
  have hfit2 : W.fits (walN (wal W sI) (zs sI) (W.count st es.length).1 es (W.count st es.length).2).2 := hfit
  have hfitc : W.fits (W.count st es.length).2 := fitsN hW (Nat.zero_le _) hfit2
  have hNlt := hW.cnt (m := es.length) hi hn
  obtain ⟨cells, hcells⟩ : ∃ c, c = pre ++ (.sl f es :: post) := ⟨_, rfl⟩
  have hc1 : off < cells.length := by rw [hcells, ← hpre]; simp
  have hc2 : cells.getD off .any = .sl f es := by rw [hcells, ← hpre]; simp [List.getD_eq_getElem?_getD]
  have hlow := hW.lt hi
  rw [← hcells] at hS
  refine Lwp_seq fun KK0 hKK0 => ?_
  refine LdrawE [0,1,2,3,4,5,6,7,8,9] [(l, (n, [cells]))] none (by kernel_rfl) (by kernel_rfl) (by kernel_rfl) (by kernel_rfl) (by simp only [Watch.holds, List.mem_singleton, forall_eq]; exact hS) ?_
  simp -dsimp only [go_sem, ↓reduceIte, hc1, hc2, hW.mCount]
  repeat with_reducible refine And.intro (by first | omega | decide | trivial) ?_
  refine (hW.hCount S w own st es.length hi hn hfitc).k ?_
  rintro _ S1 ⟨rfl, own1, i1, K1, ow1⟩
  have hl1 : S1[l]? = some (some (n, [cells])) := K1.get hS hl
  simp -dsimp only [go_sem, ↓reduceIte, hl1]
  refine hKK0 _ _ ?_
  try clear hKK0 KK0
  refine Lwp_seq fun KK1 hKK1 => ?_
  refine LregionG [none] (by kernel_rfl) (by kernel_rfl) ?_
  simp -dsimp only [go_sem, ↓reduceIte]
  repeat with_reducible refine And.intro (by first | omega | decide) ?_
  refine hKK1 _ _ ?_
  try clear hKK1 KK1
  refine Lwp_seq fun KK2 hKK2 => ?_
  refine Lwp_seq fun KK3 hKK3 => ?_
  refine LregionG [none, none] (by kernel_rfl) (by kernel_rfl) ?_
  simp -dsimp only [go_sem, ↓reduceIte]
  repeat with_reducible refine And.intro (by first | omega | decide) ?_
  refine hKK3 _ _ ?_
  try clear hKK3 KK3
  refine Lwp_block ?_
  refine Lwp_loopK [0, 1, 2, 6, 7, 19, 20] (fun m vs S' => ∃ (k : Nat) (own1 : List Nat) (xs : List (List LV)) (u7 : LV), vs = [.iface W.ty (.ptr w 0 0), .ptr l 0 off, .func (.func 65) [] [], V (W.count st es.length).1, u7, V (W.count st es.length).1, V k] ∧ W.inv S' w own1 (walN (wal W sI) (zs sI) k es (W.count st es.length).2).2 ∧ xs.map (nz sI) = (walN (wal W sI) (zs sI) k es (W.count st es.length).2).1 ∧ (∀ x ∈ xs, ok sI x) ∧ xs.length = k ∧ RowS S' S.length u7 1 xs ∧ (∀ id ∈ rowIds u7, id ∉ own1) ∧ Keeps S S' own ∧ (∀ id ∈ own1, id ∈ own ∨ S.length ≤ id) ∧ k ≤ (W.count st es.length).1 ∧ m = (W.count st es.length).1 - k) (W.count st es.length).1 rfl (⟨0, own1, [], .sl true [], by simp only [go_sem, ↓reduceIte, Int.natCast_zero], i1, rfl, by simp, rfl, RowS.nil, by simp [rowIds], K1, ow1, Nat.zero_le _, rfl⟩) ?_
  rintro m us S2 ⟨k, own2, xs, u7, rfl, i2, hz, hxs, hxl, hrow, hdis, hK, how, hk, hm⟩ II hII
  refine Lwp_seq fun KK4 hKK4 => ?_
  refine LregionG [none] (by kernel_rfl) (by kernel_rfl) ?_
  simp -dsimp only [go_sem, ↓reduceIte]
  repeat with_reducible refine And.intro (by first | omega | decide) ?_
  refine hKK4 _ _ ?_
  try clear hKK4 KK4
  refine Lwp_seq fun KK5 hKK5 => ?_
  refine Lwp_cond (by simp only [go_sem, ↓reduceIte]; rfl) (fun ht => ?_) (fun hf => ?_)
  · skip
    have hkN : k < (W.count st es.length).1 := by simpa using ht
    have hlow2 := hW.lt i2
    have hl2 : S2[l]? = some (some (n, [cells])) := hK.get hS hl
    have hl3 : ∀ T, (S2 ++ T)[l]? = some (some (n, [cells])) := fun T => by rw [List.getElem?_append_left (lt_of_get hl2)]; exact hl2
    have hS2l : S.length ≤ S2.length := hK.1
    have hx0 : ok sI (es.getD k (zs sI)) := by
      rw [List.getD_eq_getElem?_getD]
      by_cases h : k < es.length
      · rw [List.getElem?_eq_getElem h]; exact hes _ (List.getElem_mem h)
      · rw [List.getElem?_eq_none (by omega)]; exact ok_zs
    have e1 : IntKind.i64.wrap ((k : Int) + 1) = ((k + 1 : Nat) : Int) := w64 (by omega) (by omega)
    refine Lwp_skip ?_
    try simp -dsimp only [go_sem, ↓reduceIte]
    refine hKK5 _ _ ?_
    try clear hKK5 KK5
    refine Lwp_seq fun KK6 hKK6 => ?_
    refine Lwp_block ?_
    refine Lwp_seq fun KK7 hKK7 => ?_
    refine LregionG [none, none] (by kernel_rfl) (by kernel_rfl) ?_
    simp -dsimp only [go_sem, ↓reduceIte]
    repeat with_reducible refine And.intro (by first | omega | decide) ?_
    refine hKK7 _ _ ?_
    try clear hKK7 KK7
    refine Lwp_seq fun KK8 hKK8 => ?_
    refine LregionG [none] (by kernel_rfl) (by kernel_rfl) ?_
    simp -dsimp only [go_sem, ↓reduceIte]
    
    refine hKK8 _ _ ?_
    try clear hKK8 KK8
    refine Lwp_seqJ [0, 1, 2, 6, 7, 19, 20, 8, 9] (fun vs S3 => vs = [.iface W.ty (.ptr w 0 0), .ptr l 0 off, .func (.func 65) [] [], V (W.count st es.length).1, u7, V (W.count st es.length).1, V k, V k, .ptr S2.length 0 0] ∧ S3 = S2 ++ [some (1, [es.getD k (zs sI)])]) rfl (fun KK9 hKK9 => ?_) ?_
    · skip
      refine Lwp_seq fun KK10 hKK10 => ?_
      refine LregionG [none, none, none, none, none, none] (by kernel_rfl) (by kernel_rfl) ?_
      simp -dsimp only [go_sem, ↓reduceIte, hl3, hc1, hc2]
      repeat with_reducible refine And.intro (by first | omega | decide) ?_
      refine hKK10 _ _ ?_
      try clear hKK10 KK10
      refine Lwp_cond (by simp only [go_sem, ↓reduceIte]; rfl) (fun ht => ?_) (fun hf => ?_)
      · skip
        have hke : k < es.length := by simpa using ht
        obtain ⟨x0, hx0e⟩ : ∃ x0, x0 = es.getD k [] := ⟨_, rfl⟩
        have hx0l : x0.length = 1 := by rw [hx0e]; exact ok_len (ok_mem hes hke)
        have hx0t : x0.take 1 = x0 := List.take_of_length_le (by omega)
        have hov0 : ovr (zs sI) 0 x0 = x0 := ovr_all (by rw [hx0l]; rfl)
        have hx0e2 : es.getD k (zs sI) = x0 := by rw [hx0e, List.getD_eq_getElem?_getD, List.getD_eq_getElem?_getD, List.getElem?_eq_getElem hke]; rfl
        have okx0 := ok_mem hes hke
        rw [← hx0e] at okx0
        clear hx0l hx0t
        obtain ⟨v0, _, rfl, iv0, h0⟩ := ok_int okx0
        obtain rfl := ok_nil h0
        clear h0
        refine LregionG [none, none, none, none, none, none, none] (by kernel_rfl) (by kernel_rfl) ?_
        simp -dsimp only [go_sem, ↓reduceIte, hl3, hc1, hc2, hke, ← hx0e]
        repeat with_reducible refine And.intro (by first | omega | decide) ?_
        try simp -dsimp only [go_sem, ↓reduceIte]
        refine hKK9 _ _ ?_
        first | exact ⟨rfl, rfl⟩ | (refine ⟨rfl, ?_⟩; simp [List.getD_eq_getElem?_getD, List.getElem?_eq_none (Nat.le_of_not_lt hke), zs, sI]; done) | (refine ⟨rfl, ?_⟩; rw [hx0e2]; done) | (refine ⟨rfl, ?_⟩; rw [hx0e2]; exact congrArg (fun z => S2 ++ [some (1, [z])]) hov0)
      · skip
        have hke : ¬ k < es.length := by simpa using hf
        refine Lwp_skip ?_
        try simp -dsimp only [go_sem, ↓reduceIte]
        try simp -dsimp only [go_sem, ↓reduceIte]
        refine hKK9 _ _ ?_
        first | exact ⟨rfl, rfl⟩ | (refine ⟨rfl, ?_⟩; simp [List.getD_eq_getElem?_getD, List.getElem?_eq_none (Nat.le_of_not_lt hke), zs, sI]; done) | (refine ⟨rfl, ?_⟩; rw [hx0e2]; done) | (refine ⟨rfl, ?_⟩; rw [hx0e2]; exact congrArg (fun z => S2 ++ [some (1, [z])]) hov0)
    · rintro us SJ ⟨rfl, rfl⟩
      refine Lwp_seq fun KK11 hKK11 => ?_
      refine LregionG [none, none, none] (by kernel_rfl) (by kernel_rfl) ?_
      simp -dsimp only [go_sem, ↓reduceIte]
      refine (Number_ok W hW (S2 ++ [some (1, [es.getD k (zs sI)])]) w S2.length 1 0 [] (es.getD k (zs sI)) [] own2 _ (hW.keep i2 (Keeps.app S2 _ []) (by simp)) (fun h => absurd (hlow2 _ h) (Nat.lt_irrefl _)) (by simp) rfl hx0 (by have := fitsN hW hkN hfit2; rw [walN_succ] at this; exact this)).k ?_
      rintro r S3 ⟨-, own3, us3, i3, z3, ok3, hS3, K3, ow3⟩
      simp only [List.nil_append, List.append_nil] at hS3
      have hl3' := ok_len ok3
      have K23 : Keeps S2 S3 own2 := ⟨by have := K3.1; simp at this; omega, fun j hj hn => (K3.2 j (by simp; omega) (by simp [hn]; omega)).trans (List.getElem?_append_left hj)⟩
      have hrow3 := hrow.mono (Nat.le_refl _) (fun id hid b hb => K23.get hb (hdis id hid))
      have hlow3 := hW.lt i3
      have hlen3 := K3.1
      simp only [List.length_append, List.length_cons, List.length_nil, Nat.zero_add] at hlen3 ow3
      clear hl3'
      obtain ⟨v3, _, rfl, iv3, h3⟩ := ok_int ok3
      obtain rfl := ok_nil h3
      clear h3
      simp -dsimp only [go_sem, ↓reduceIte]
      refine hKK11 _ _ ?_
      try clear hKK11 KK11
      
      refine LregionG [none, none, none, none, none] (by kernel_rfl) (by kernel_rfl) ?_
      simp -dsimp only [go_sem, ↓reduceIte, hS3]
      repeat with_reducible refine And.intro (by first | omega | decide | trivial) ?_
      refine append_row hrow3 rfl (by simp only [go_sem]; rfl) (by simp only [go_sem]; first | exact ⟨rfl, rfl⟩ | exact ⟨rfl, rfl, rfl⟩ | rfl) (by simp only [go_sem]) (by simp only [go_sem, ↓reduceIte]) (by simp only [go_sem, ↓reduceIte]; rfl) (by simp) (.inr (by simp)) (by simp only [LIM, List.length_cons, List.length_nil]; omega) fun S4 hS4l hrow4 hK4 => ?_
      have i4 := hW.keep i3 hK4 (fun id hid hm => (ow3 id hid).elim (fun h => hdis id hm h) (fun h => by have := (hrow.lo id hm).2; omega))
      simp -dsimp only [go_sem, ↓reduceIte]
      refine hKK6 _ _ ?_
      try clear hKK6 KK6
      refine LregionG [none, none] (by kernel_rfl) (by kernel_rfl) ?_
      simp -dsimp only [go_sem, ↓reduceIte, e1]
      repeat with_reducible refine And.intro (by first | omega | decide) ?_
      refine hII ((W.count st es.length).1 - (k + 1)) _ _ (by omega) ⟨k + 1, own3, xs ++ [[V v3]], _, rfl, by rw [walN_succ]; exact i4, by rw [walN_succ, List.map_append, hz]; simp only [List.map_cons, List.map_nil, z3], fun x hx => ?_, by simp [hxl], hrow4.mono (by omega) (fun _ _ _ h => h), fun id hid => ?_, ?_, fun id hid => ?_, hkN, rfl⟩
      · rcases List.mem_append.1 hx with hx | hx
        · exact hxs x hx
        · rw [List.mem_singleton.1 hx]; exact ok3
      · simp only [rowIds, List.mem_singleton] at hid
        subst hid
        exact fun h => absurd (hlow3 _ h) (Nat.lt_irrefl _)
      · refine hK.trans (K23.trans hK4 (ids'' := own2 ++ rowIds u7) (fun j _ h => List.mem_append.2 h)) (fun j hj h => ?_)
        rcases h with h | h
        · exact h
        · rcases List.mem_append.1 h with h | h
          · exact (how j h).elim id fun h => by omega
          · have := (hrow.lo j h).1; omega
      · rcases ow3 id hid with h | h
        · exact how id h
        · exact .inr (by omega)
  · skip
    obtain rfl : k = (W.count st es.length).1 := Nat.le_antisymm hk (Nat.le_of_not_lt (by simpa using hf))
    refine Lwp_exit ?_
    simp -dsimp only [go_sem, ↓reduceIte]
    refine hKK2 _ _ ?_
    try clear hKK2 KK2
    have hl2 : S2[l]? = some (some (n, [cells])) := hK.get hS hl
    have hlu : l ∉ rowIds u7 := fun h => by have := (hrow.lo l h).1; omega
    refine Lwp_frzRowS 7 u7 rfl (by simp only [go_sem, ↓reduceIte]) hrow fun full S3 hS3l hK3 => ?_
    have hl3 : S3[l]? = some (some (n, [cells])) := (hK3 l hlu).trans hl2
    have hov : ovr cells off [.sl full xs] = pre ++ ([.sl full xs] ++ post) := by rw [hcells, ← hpre]; exact ovr_mid
    refine LregionG [none, none, none, none] (by kernel_rfl) (by kernel_rfl) ?_
    simp -dsimp only [go_sem, ↓reduceIte, hl3, hov, hc1]
    repeat with_reducible refine And.intro (by first | omega | decide) ?_
    simp only [LThen, LBlock, LPost, Try.results64]
    simp -dsimp only [go_sem, ↓reduceIte]
    refine ret_keep (hRR _ _ ⟨⟨hn, hes, trivial⟩, own2, [.sl full xs], hW.keep i2 (ids := l :: rowIds u7) ⟨by simp [hS3l], fun j hj hm => ?_⟩ (fun id hid => ?_), by simp only [nz, wal, elemsOf, hz], ⟨by rw [hxl]; exact hNlt, hxs, trivial⟩, ?_, ⟨by rw [List.length_set, hS3l]; exact hK.1, fun j hj hm => ?_⟩, how⟩)
    · simp only [List.mem_cons, not_or] at hm
      rw [List.getElem?_set_ne (by omega)]; exact hK3 j hm.2
    · simp only [List.mem_cons, not_or]
      exact ⟨fun h => (how id hid).elim (fun h' => hl (h ▸ h')) (fun h' => by omega), fun h => hdis id h hid⟩
    · rw [List.getElem?_set_self (lt_of_get hl3)]; rfl
    · simp only [List.mem_cons, not_or] at hm
      rw [List.getElem?_set_ne (by omega), hK3 j (fun h => by have := (hrow.lo j h).1; omega)]
      exact hK.2 j hj hm.2

set_option maxHeartbeats 400000 in
theorem SlStr_ok (W : Wk) (hW : WkL W) : WOk W (aF W 69) 68 (.sl sStr .nil) := by
  refine WOk_intro 0 Try.func68 rfl (by kernel_rfl) (fun _ _ _ => rfl) fun S w l n off pre us post own st RR hi hl hS hpre hok hfit hRR => ?_
  have hlS := lt_of_get hS
  have hp0 : WP W S w l n pre own .nil [] st (us ++ post) S := WP.refl hi hS
  obtain ⟨f, es, us', rfl, hn, hes, h0⟩ := ok_sl hok
  obtain rfl := ok_nil h0
  clear h0 hok
  simp only [List.cons_append, List.nil_append] at hS hp0
  have hfit2 : W.fits (walN (wal W sStr) (zs sStr) (W.count st es.length).1 es (W.count st es.length).2).2 := hfit
  have hfitc : W.fits (W.count st es.length).2 := fitsN hW (Nat.zero_le _) hfit2
  have hNlt := hW.cnt (m := es.length) hi hn
  obtain ⟨cells, hcells⟩ : ∃ c, c = pre ++ (.sl f es :: post) := ⟨_, rfl⟩
  have hc1 : off < cells.length := by rw [hcells, ← hpre]; simp
  have hc2 : cells.getD off .any = .sl f es := by rw [hcells, ← hpre]; simp [List.getD_eq_getElem?_getD]
  have hlow := hW.lt hi
  rw [← hcells] at hS
  refine Lwp_seq fun KK0 hKK0 => ?_
  refine LdrawE [0,1,2,3,4,5,6,7,8,9] [(l, (n, [cells]))] none (by kernel_rfl) (by kernel_rfl) (by kernel_rfl) (by kernel_rfl) (by simp only [Watch.holds, List.mem_singleton, forall_eq]; exact hS) ?_
  simp -dsimp only [go_sem, ↓reduceIte, hc1, hc2, hW.mCount]
  repeat with_reducible refine And.intro (by first | omega | decide | trivial) ?_
  refine (hW.hCount S w own st es.length hi hn hfitc).k ?_
  rintro _ S1 ⟨rfl, own1, i1, K1, ow1⟩
  have hl1 : S1[l]? = some (some (n, [cells])) := K1.get hS hl
  simp -dsimp only [go_sem, ↓reduceIte, hl1]
  refine hKK0 _ _ ?_
  try clear hKK0 KK0
  refine Lwp_seq fun KK1 hKK1 => ?_
  refine LregionG [none] (by kernel_rfl) (by kernel_rfl) ?_
  simp -dsimp only [go_sem, ↓reduceIte]
  repeat with_reducible refine And.intro (by first | omega | decide) ?_
  refine hKK1 _ _ ?_
  try clear hKK1 KK1
  refine Lwp_seq fun KK2 hKK2 => ?_
  refine Lwp_seq fun KK3 hKK3 => ?_
  refine LregionG [none, none] (by kernel_rfl) (by kernel_rfl) ?_
  simp -dsimp only [go_sem, ↓reduceIte]
  repeat with_reducible refine And.intro (by first | omega | decide) ?_
  refine hKK3 _ _ ?_
  try clear hKK3 KK3
  refine Lwp_block ?_
  refine Lwp_loopK [0, 1, 2, 6, 7, 19, 20] (fun m vs S' => ∃ (k : Nat) (own1 : List Nat) (xs : List (List LV)) (u7 : LV), vs = [.iface W.ty (.ptr w 0 0), .ptr l 0 off, .func (.func 69) [] [], V (W.count st es.length).1, u7, V (W.count st es.length).1, V k] ∧ W.inv S' w own1 (walN (wal W sStr) (zs sStr) k es (W.count st es.length).2).2 ∧ xs.map (nz sStr) = (walN (wal W sStr) (zs sStr) k es (W.count st es.length).2).1 ∧ (∀ x ∈ xs, ok sStr x) ∧ xs.length = k ∧ RowS S' S.length u7 1 xs ∧ (∀ id ∈ rowIds u7, id ∉ own1) ∧ Keeps S S' own ∧ (∀ id ∈ own1, id ∈ own ∨ S.length ≤ id) ∧ k ≤ (W.count st es.length).1 ∧ m = (W.count st es.length).1 - k) (W.count st es.length).1 rfl (⟨0, own1, [], .sl true [], by simp only [go_sem, ↓reduceIte, Int.natCast_zero], i1, rfl, by simp, rfl, RowS.nil, by simp [rowIds], K1, ow1, Nat.zero_le _, rfl⟩) ?_
  rintro m us S2 ⟨k, own2, xs, u7, rfl, i2, hz, hxs, hxl, hrow, hdis, hK, how, hk, hm⟩ II hII
  refine Lwp_seq fun KK4 hKK4 => ?_
  refine LregionG [none] (by kernel_rfl) (by kernel_rfl) ?_
  simp -dsimp only [go_sem, ↓reduceIte]
  repeat with_reducible refine And.intro (by first | omega | decide) ?_
  refine hKK4 _ _ ?_
  try clear hKK4 KK4
  refine Lwp_seq fun KK5 hKK5 => ?_
  refine Lwp_cond (by simp only [go_sem, ↓reduceIte]; rfl) (fun ht => ?_) (fun hf => ?_)
  · skip
    have hkN : k < (W.count st es.length).1 := by simpa using ht
    have hlow2 := hW.lt i2
    have hl2 : S2[l]? = some (some (n, [cells])) := hK.get hS hl
    have hl3 : ∀ T, (S2 ++ T)[l]? = some (some (n, [cells])) := fun T => by rw [List.getElem?_append_left (lt_of_get hl2)]; exact hl2
    have hS2l : S.length ≤ S2.length := hK.1
    have hx0 : ok sStr (es.getD k (zs sStr)) := by
      rw [List.getD_eq_getElem?_getD]
      by_cases h : k < es.length
      · rw [List.getElem?_eq_getElem h]; exact hes _ (List.getElem_mem h)
      · rw [List.getElem?_eq_none (by omega)]; exact ok_zs
    have e1 : IntKind.i64.wrap ((k : Int) + 1) = ((k + 1 : Nat) : Int) := w64 (by omega) (by omega)
    refine Lwp_skip ?_
    try simp -dsimp only [go_sem, ↓reduceIte]
    refine hKK5 _ _ ?_
    try clear hKK5 KK5
    refine Lwp_seq fun KK6 hKK6 => ?_
    refine Lwp_block ?_
    refine Lwp_seq fun KK7 hKK7 => ?_
    refine LregionG [none, none] (by kernel_rfl) (by kernel_rfl) ?_
    simp -dsimp only [go_sem, ↓reduceIte]
    repeat with_reducible refine And.intro (by first | omega | decide) ?_
    refine hKK7 _ _ ?_
    try clear hKK7 KK7
    refine Lwp_seq fun KK8 hKK8 => ?_
    refine LregionG [none] (by kernel_rfl) (by kernel_rfl) ?_
    simp -dsimp only [go_sem, ↓reduceIte]
    
    refine hKK8 _ _ ?_
    try clear hKK8 KK8
    refine Lwp_seqJ [0, 1, 2, 6, 7, 19, 20, 8, 9] (fun vs S3 => vs = [.iface W.ty (.ptr w 0 0), .ptr l 0 off, .func (.func 69) [] [], V (W.count st es.length).1, u7, V (W.count st es.length).1, V k, V k, .ptr S2.length 0 0] ∧ S3 = S2 ++ [some (1, [es.getD k (zs sStr)])]) rfl (fun KK9 hKK9 => ?_) ?_
    · skip
      refine Lwp_seq fun KK10 hKK10 => ?_
      refine LregionG [none, none, none, none, none, none] (by kernel_rfl) (by kernel_rfl) ?_
      simp -dsimp only [go_sem, ↓reduceIte, hl3, hc1, hc2]
      repeat with_reducible refine And.intro (by first | omega | decide) ?_
      refine hKK10 _ _ ?_
      try clear hKK10 KK10
      refine Lwp_cond (by simp only [go_sem, ↓reduceIte]; rfl) (fun ht => ?_) (fun hf => ?_)
      · skip
        have hke : k < es.length := by simpa using ht
        obtain ⟨x0, hx0e⟩ : ∃ x0, x0 = es.getD k [] := ⟨_, rfl⟩
        have hx0l : x0.length = 1 := by rw [hx0e]; exact ok_len (ok_mem hes hke)
        have hx0t : x0.take 1 = x0 := List.take_of_length_le (by omega)
        have hov0 : ovr (zs sStr) 0 x0 = x0 := ovr_all (by rw [hx0l]; rfl)
        have hx0e2 : es.getD k (zs sStr) = x0 := by rw [hx0e, List.getD_eq_getElem?_getD, List.getD_eq_getElem?_getD, List.getElem?_eq_getElem hke]; rfl
        have okx0 := ok_mem hes hke
        rw [← hx0e] at okx0
        clear hx0l hx0t
        obtain ⟨v0, _, rfl, iv0, h0⟩ := ok_str okx0
        obtain rfl := ok_nil h0
        clear h0
        refine LregionG [none, none, none, none, none, none, none] (by kernel_rfl) (by kernel_rfl) ?_
        simp -dsimp only [go_sem, ↓reduceIte, hl3, hc1, hc2, hke, ← hx0e]
        repeat with_reducible refine And.intro (by first | omega | decide) ?_
        try simp -dsimp only [go_sem, ↓reduceIte]
        refine hKK9 _ _ ?_
        first | exact ⟨rfl, rfl⟩ | (refine ⟨rfl, ?_⟩; simp [List.getD_eq_getElem?_getD, List.getElem?_eq_none (Nat.le_of_not_lt hke), zs, sStr]; done) | (refine ⟨rfl, ?_⟩; rw [hx0e2]; done) | (refine ⟨rfl, ?_⟩; rw [hx0e2]; exact congrArg (fun z => S2 ++ [some (1, [z])]) hov0)
      · skip
        have hke : ¬ k < es.length := by simpa using hf
        refine Lwp_skip ?_
        try simp -dsimp only [go_sem, ↓reduceIte]
        try simp -dsimp only [go_sem, ↓reduceIte]
        refine hKK9 _ _ ?_
        first | exact ⟨rfl, rfl⟩ | (refine ⟨rfl, ?_⟩; simp [List.getD_eq_getElem?_getD, List.getElem?_eq_none (Nat.le_of_not_lt hke), zs, sStr]; done) | (refine ⟨rfl, ?_⟩; rw [hx0e2]; done) | (refine ⟨rfl, ?_⟩; rw [hx0e2]; exact congrArg (fun z => S2 ++ [some (1, [z])]) hov0)
    · rintro us SJ ⟨rfl, rfl⟩
      refine Lwp_seq fun KK11 hKK11 => ?_
      refine LregionG [none, none, none] (by kernel_rfl) (by kernel_rfl) ?_
      simp -dsimp only [go_sem, ↓reduceIte]
      refine (Text_ok W hW (S2 ++ [some (1, [es.getD k (zs sStr)])]) w S2.length 1 0 [] (es.getD k (zs sStr)) [] own2 _ (hW.keep i2 (Keeps.app S2 _ []) (by simp)) (fun h => absurd (hlow2 _ h) (Nat.lt_irrefl _)) (by simp) rfl hx0 (by have := fitsN hW hkN hfit2; rw [walN_succ] at this; exact this)).k ?_
      rintro r S3 ⟨-, own3, us3, i3, z3, ok3, hS3, K3, ow3⟩
      simp only [List.nil_append, List.append_nil] at hS3
      have hl3' := ok_len ok3
      have K23 : Keeps S2 S3 own2 := ⟨by have := K3.1; simp at this; omega, fun j hj hn => (K3.2 j (by simp; omega) (by simp [hn]; omega)).trans (List.getElem?_append_left hj)⟩
      have hrow3 := hrow.mono (Nat.le_refl _) (fun id hid b hb => K23.get hb (hdis id hid))
      have hlow3 := hW.lt i3
      have hlen3 := K3.1
      simp only [List.length_append, List.length_cons, List.length_nil, Nat.zero_add] at hlen3 ow3
      clear hl3'
      obtain ⟨v3, _, rfl, iv3, h3⟩ := ok_str ok3
      obtain rfl := ok_nil h3
      clear h3
      simp -dsimp only [go_sem, ↓reduceIte]
      refine hKK11 _ _ ?_
      try clear hKK11 KK11
      
      refine LregionG [none, none, none, none, none] (by kernel_rfl) (by kernel_rfl) ?_
      simp -dsimp only [go_sem, ↓reduceIte, hS3]
      repeat with_reducible refine And.intro (by first | omega | decide | trivial) ?_
      refine append_row hrow3 rfl (by simp only [go_sem]; rfl) (by simp only [go_sem]; first | exact ⟨rfl, rfl⟩ | exact ⟨rfl, rfl, rfl⟩ | rfl) (by simp only [go_sem]) (by simp only [go_sem, ↓reduceIte]) (by simp only [go_sem, ↓reduceIte]; rfl) (by simp) (.inr (by simp)) (by simp only [LIM, List.length_cons, List.length_nil]; omega) fun S4 hS4l hrow4 hK4 => ?_
      have i4 := hW.keep i3 hK4 (fun id hid hm => (ow3 id hid).elim (fun h => hdis id hm h) (fun h => by have := (hrow.lo id hm).2; omega))
      simp -dsimp only [go_sem, ↓reduceIte]
      refine hKK6 _ _ ?_
      try clear hKK6 KK6
      refine LregionG [none, none] (by kernel_rfl) (by kernel_rfl) ?_
      simp -dsimp only [go_sem, ↓reduceIte, e1]
      repeat with_reducible refine And.intro (by first | omega | decide) ?_
      refine hII ((W.count st es.length).1 - (k + 1)) _ _ (by omega) ⟨k + 1, own3, xs ++ [[.str v3]], _, rfl, by rw [walN_succ]; exact i4, by rw [walN_succ, List.map_append, hz]; simp only [List.map_cons, List.map_nil, z3], fun x hx => ?_, by simp [hxl], hrow4.mono (by omega) (fun _ _ _ h => h), fun id hid => ?_, ?_, fun id hid => ?_, hkN, rfl⟩
      · rcases List.mem_append.1 hx with hx | hx
        · exact hxs x hx
        · rw [List.mem_singleton.1 hx]; exact ok3
      · simp only [rowIds, List.mem_singleton] at hid
        subst hid
        exact fun h => absurd (hlow3 _ h) (Nat.lt_irrefl _)
      · refine hK.trans (K23.trans hK4 (ids'' := own2 ++ rowIds u7) (fun j _ h => List.mem_append.2 h)) (fun j hj h => ?_)
        rcases h with h | h
        · exact h
        · rcases List.mem_append.1 h with h | h
          · exact (how j h).elim id fun h => by omega
          · have := (hrow.lo j h).1; omega
      · rcases ow3 id hid with h | h
        · exact how id h
        · exact .inr (by omega)
  · skip
    obtain rfl : k = (W.count st es.length).1 := Nat.le_antisymm hk (Nat.le_of_not_lt (by simpa using hf))
    refine Lwp_exit ?_
    simp -dsimp only [go_sem, ↓reduceIte]
    refine hKK2 _ _ ?_
    try clear hKK2 KK2
    have hl2 : S2[l]? = some (some (n, [cells])) := hK.get hS hl
    have hlu : l ∉ rowIds u7 := fun h => by have := (hrow.lo l h).1; omega
    refine Lwp_frzRowS 7 u7 rfl (by simp only [go_sem, ↓reduceIte]) hrow fun full S3 hS3l hK3 => ?_
    have hl3 : S3[l]? = some (some (n, [cells])) := (hK3 l hlu).trans hl2
    have hov : ovr cells off [.sl full xs] = pre ++ ([.sl full xs] ++ post) := by rw [hcells, ← hpre]; exact ovr_mid
    refine LregionG [none, none, none, none] (by kernel_rfl) (by kernel_rfl) ?_
    simp -dsimp only [go_sem, ↓reduceIte, hl3, hov, hc1]
    repeat with_reducible refine And.intro (by first | omega | decide) ?_
    simp only [LThen, LBlock, LPost, Try.results68]
    simp -dsimp only [go_sem, ↓reduceIte]
    refine ret_keep (hRR _ _ ⟨⟨hn, hes, trivial⟩, own2, [.sl full xs], hW.keep i2 (ids := l :: rowIds u7) ⟨by simp [hS3l], fun j hj hm => ?_⟩ (fun id hid => ?_), by simp only [nz, wal, elemsOf, hz], ⟨by rw [hxl]; exact hNlt, hxs, trivial⟩, ?_, ⟨by rw [List.length_set, hS3l]; exact hK.1, fun j hj hm => ?_⟩, how⟩)
    · simp only [List.mem_cons, not_or] at hm
      rw [List.getElem?_set_ne (by omega)]; exact hK3 j hm.2
    · simp only [List.mem_cons, not_or]
      exact ⟨fun h => (how id hid).elim (fun h' => hl (h ▸ h')) (fun h' => by omega), fun h => hdis id h hid⟩
    · rw [List.getElem?_set_self (lt_of_get hl3)]; rfl
    · simp only [List.mem_cons, not_or] at hm
      rw [List.getElem?_set_ne (by omega), hK3 j (fun h => by have := (hrow.lo j h).1; omega)]
      exact hK.2 j hj hm.2

set_option maxHeartbeats 400000 in
theorem Counted_ok (W : Wk) (hW : WkL W) : WOk W (aI W) 82 sCnt := by
  refine WOk_intro 0 Try.func82 rfl (by kernel_rfl) (fun _ _ _ => rfl) fun S w l n off pre us post own st RR hi hl hS hpre hok hfit hRR => ?_
  have hlS := lt_of_get hS
  have hp0 : WP W S w l n pre own .nil [] st (us ++ post) S := WP.refl hi hS
  obtain ⟨s, us, rfl, hs, h⟩ := ok_str hok
  obtain ⟨a, us, rfl, ha, h⟩ := ok_int h
  obtain ⟨b, us, rfl, hb, h⟩ := ok_int h
  obtain rfl := ok_nil h
  clear h hok
  have hok1 : ok (Sch.app Sch.nil sStr) (([] : List LV) ++ [.str s]) := app_ok trivial (⟨hs, trivial⟩)
  have hok2 : ok (Sch.app (Sch.app Sch.nil sStr) (sN 2)) ((([] : List LV) ++ [.str s]) ++ [V a, V b]) := app_ok hok1 (⟨rfl, ha.1, ha.2, rfl, hb.1, hb.2, trivial⟩)
  have hft2 : W.fits (wal W (Sch.app (Sch.app Sch.nil sStr) (sN 2)) ((([] : List LV) ++ [.str s]) ++ [V a, V b]) st).2 := hfit
  have hft1 := fitsL hW hok1 hft2
  refine Lwp_seq fun KK0 hKK0 => ?_
  refine LdrawE [0,1,2,3,4,5,6,7] [] none (by kernel_rfl) (by kernel_rfl) (by kernel_rfl) (by kernel_rfl) (by simp [Watch.holds]) ?_
  simp -dsimp only [go_sem, ↓reduceIte, hW.mText]
  repeat with_reducible refine And.intro (by first | omega | decide | trivial) ?_
  refine WOk.kk hW (hW.hText) [.str s] hp0 hl hlS hpre rfl rfl (rfl) (⟨hs, trivial⟩) hft1 ?_
  rintro r S2 hp
  simp -dsimp only [go_sem, ↓reduceIte]
  refine hKK0 _ _ ?_
  try clear hKK0 KK0
  refine LdrawE [0,1,2,3,4,5,6,7,8] [] none (by kernel_rfl) (by kernel_rfl) (by kernel_rfl) (by kernel_rfl) (by simp [Watch.holds]) ?_
  simp -dsimp only [go_sem, ↓reduceIte]
  repeat with_reducible refine And.intro (by first | omega | decide | trivial) ?_
  refine WOk.kk hW ((Ints_ok W hW 2 (by decide))) [V a, V b] hp hl hlS hpre rfl rfl (rfl) (⟨rfl, ha.1, ha.2, rfl, hb.1, hb.2, trivial⟩) hft2 ?_
  rintro r S2 hp
  simp -dsimp only [go_sem, ↓reduceIte]
  simp only [LThen, LBlock, LPost, Try.results82]
  simp -dsimp only [go_sem, ↓reduceIte]
  exact ret_keep (hRR _ _ hp)

set_option maxHeartbeats 400000 in
theorem SlCnt_ok (W : Wk) (hW : WkL W) : WOk W (aF W 82) 81 (.sl sCnt .nil) := by
  refine WOk_intro 0 Try.func81 rfl (by kernel_rfl) (fun _ _ _ => rfl) fun S w l n off pre us post own st RR hi hl hS hpre hok hfit hRR => ?_
  have hlS := lt_of_get hS
  have hp0 : WP W S w l n pre own .nil [] st (us ++ post) S := WP.refl hi hS
  obtain ⟨f, es, us', rfl, hn, hes, h0⟩ := ok_sl hok
  obtain rfl := ok_nil h0
  clear h0 hok
  simp only [List.cons_append, List.nil_append] at hS hp0
  have hfit2 : W.fits (walN (wal W sCnt) (zs sCnt) (W.count st es.length).1 es (W.count st es.length).2).2 := hfit
  have hfitc : W.fits (W.count st es.length).2 := fitsN hW (Nat.zero_le _) hfit2
  have hNlt := hW.cnt (m := es.length) hi hn
  obtain ⟨cells, hcells⟩ : ∃ c, c = pre ++ (.sl f es :: post) := ⟨_, rfl⟩
  have hc1 : off < cells.length := by rw [hcells, ← hpre]; simp
  have hc2 : cells.getD off .any = .sl f es := by rw [hcells, ← hpre]; simp [List.getD_eq_getElem?_getD]
  have hlow := hW.lt hi
  rw [← hcells] at hS
  refine Lwp_seq fun KK0 hKK0 => ?_
  refine LdrawE [0,1,2,3,4,5,6,7,8,9] [(l, (n, [cells]))] none (by kernel_rfl) (by kernel_rfl) (by kernel_rfl) (by kernel_rfl) (by simp only [Watch.holds, List.mem_singleton, forall_eq]; exact hS) ?_
  simp -dsimp only [go_sem, ↓reduceIte, hc1, hc2, hW.mCount]
  repeat with_reducible refine And.intro (by first | omega | decide | trivial) ?_
  refine (hW.hCount S w own st es.length hi hn hfitc).k ?_
  rintro _ S1 ⟨rfl, own1, i1, K1, ow1⟩
  have hl1 : S1[l]? = some (some (n, [cells])) := K1.get hS hl
  simp -dsimp only [go_sem, ↓reduceIte, hl1]
  refine hKK0 _ _ ?_
  try clear hKK0 KK0
  refine Lwp_seq fun KK1 hKK1 => ?_
  refine LregionG [none] (by kernel_rfl) (by kernel_rfl) ?_
  simp -dsimp only [go_sem, ↓reduceIte]
  repeat with_reducible refine And.intro (by first | omega | decide) ?_
  refine hKK1 _ _ ?_
  try clear hKK1 KK1
  refine Lwp_seq fun KK2 hKK2 => ?_
  refine Lwp_seq fun KK3 hKK3 => ?_
  refine LregionG [none, none] (by kernel_rfl) (by kernel_rfl) ?_
  simp -dsimp only [go_sem, ↓reduceIte]
  repeat with_reducible refine And.intro (by first | omega | decide) ?_
  refine hKK3 _ _ ?_
  try clear hKK3 KK3
  refine Lwp_block ?_
  refine Lwp_loopK [0, 1, 2, 6, 7, 19, 20] (fun m vs S' => ∃ (k : Nat) (own1 : List Nat) (xs : List (List LV)) (u7 : LV), vs = [.iface W.ty (.ptr w 0 0), .ptr l 0 off, .func (.func 82) [] [], V (W.count st es.length).1, u7, V (W.count st es.length).1, V k] ∧ W.inv S' w own1 (walN (wal W sCnt) (zs sCnt) k es (W.count st es.length).2).2 ∧ xs.map (nz sCnt) = (walN (wal W sCnt) (zs sCnt) k es (W.count st es.length).2).1 ∧ (∀ x ∈ xs, ok sCnt x) ∧ xs.length = k ∧ RowS S' S.length u7 3 xs ∧ (∀ id ∈ rowIds u7, id ∉ own1) ∧ Keeps S S' own ∧ (∀ id ∈ own1, id ∈ own ∨ S.length ≤ id) ∧ k ≤ (W.count st es.length).1 ∧ m = (W.count st es.length).1 - k) (W.count st es.length).1 rfl (⟨0, own1, [], .sl true [], by simp only [go_sem, ↓reduceIte, Int.natCast_zero], i1, rfl, by simp, rfl, RowS.nil, by simp [rowIds], K1, ow1, Nat.zero_le _, rfl⟩) ?_
  rintro m us S2 ⟨k, own2, xs, u7, rfl, i2, hz, hxs, hxl, hrow, hdis, hK, how, hk, hm⟩ II hII
  refine Lwp_seq fun KK4 hKK4 => ?_
  refine LregionG [none] (by kernel_rfl) (by kernel_rfl) ?_
  simp -dsimp only [go_sem, ↓reduceIte]
  repeat with_reducible refine And.intro (by first | omega | decide) ?_
  refine hKK4 _ _ ?_
  try clear hKK4 KK4
  refine Lwp_seq fun KK5 hKK5 => ?_
  refine Lwp_cond (by simp only [go_sem, ↓reduceIte]; rfl) (fun ht => ?_) (fun hf => ?_)
  · skip
    have hkN : k < (W.count st es.length).1 := by simpa using ht
    have hlow2 := hW.lt i2
    have hl2 : S2[l]? = some (some (n, [cells])) := hK.get hS hl
    have hl3 : ∀ T, (S2 ++ T)[l]? = some (some (n, [cells])) := fun T => by rw [List.getElem?_append_left (lt_of_get hl2)]; exact hl2
    have hS2l : S.length ≤ S2.length := hK.1
    have hx0 : ok sCnt (es.getD k (zs sCnt)) := by
      rw [List.getD_eq_getElem?_getD]
      by_cases h : k < es.length
      · rw [List.getElem?_eq_getElem h]; exact hes _ (List.getElem_mem h)
      · rw [List.getElem?_eq_none (by omega)]; exact ok_zs
    have e1 : IntKind.i64.wrap ((k : Int) + 1) = ((k + 1 : Nat) : Int) := w64 (by omega) (by omega)
    refine Lwp_skip ?_
    try simp -dsimp only [go_sem, ↓reduceIte]
    refine hKK5 _ _ ?_
    try clear hKK5 KK5
    refine Lwp_seq fun KK6 hKK6 => ?_
    refine Lwp_block ?_
    refine Lwp_seq fun KK7 hKK7 => ?_
    refine LregionG [none, none] (by kernel_rfl) (by kernel_rfl) ?_
    simp -dsimp only [go_sem, ↓reduceIte]
    repeat with_reducible refine And.intro (by first | omega | decide) ?_
    refine hKK7 _ _ ?_
    try clear hKK7 KK7
    refine Lwp_seq fun KK8 hKK8 => ?_
    refine LregionG [none] (by kernel_rfl) (by kernel_rfl) ?_
    simp -dsimp only [go_sem, ↓reduceIte]
    
    refine hKK8 _ _ ?_
    try clear hKK8 KK8
    refine Lwp_seqJ [0, 1, 2, 6, 7, 19, 20, 8, 9] (fun vs S3 => vs = [.iface W.ty (.ptr w 0 0), .ptr l 0 off, .func (.func 82) [] [], V (W.count st es.length).1, u7, V (W.count st es.length).1, V k, V k, .ptr S2.length 0 0] ∧ S3 = S2 ++ [some (3, [es.getD k (zs sCnt)])]) rfl (fun KK9 hKK9 => ?_) ?_
    · skip
      refine Lwp_seq fun KK10 hKK10 => ?_
      refine LregionG [none, none, none, none, none, none] (by kernel_rfl) (by kernel_rfl) ?_
      simp -dsimp only [go_sem, ↓reduceIte, hl3, hc1, hc2]
      repeat with_reducible refine And.intro (by first | omega | decide) ?_
      refine hKK10 _ _ ?_
      try clear hKK10 KK10
      refine Lwp_cond (by simp only [go_sem, ↓reduceIte]; rfl) (fun ht => ?_) (fun hf => ?_)
      · skip
        have hke : k < es.length := by simpa using ht
        obtain ⟨x0, hx0e⟩ : ∃ x0, x0 = es.getD k [] := ⟨_, rfl⟩
        have hx0l : x0.length = 3 := by rw [hx0e]; exact ok_len (ok_mem hes hke)
        have hx0t : x0.take 3 = x0 := List.take_of_length_le (by omega)
        have hov0 : ovr (zs sCnt) 0 x0 = x0 := ovr_all (by rw [hx0l]; rfl)
        have hx0e2 : es.getD k (zs sCnt) = x0 := by rw [hx0e, List.getD_eq_getElem?_getD, List.getD_eq_getElem?_getD, List.getElem?_eq_getElem hke]; rfl
        refine LregionG [none, none, none, none, none, none, none] (by kernel_rfl) (by kernel_rfl) ?_
        simp -dsimp only [go_sem, ↓reduceIte, hl3, hc1, hc2, hke, ← hx0e, hx0l, hx0t]
        repeat with_reducible refine And.intro (by first | omega | decide) ?_
        try simp -dsimp only [go_sem, ↓reduceIte]
        refine hKK9 _ _ ?_
        first | exact ⟨rfl, rfl⟩ | (refine ⟨rfl, ?_⟩; simp [List.getD_eq_getElem?_getD, List.getElem?_eq_none (Nat.le_of_not_lt hke), zs, sCnt]; done) | (refine ⟨rfl, ?_⟩; rw [hx0e2]; done) | (refine ⟨rfl, ?_⟩; rw [hx0e2]; exact congrArg (fun z => S2 ++ [some (3, [z])]) hov0)
      · skip
        have hke : ¬ k < es.length := by simpa using hf
        refine Lwp_skip ?_
        try simp -dsimp only [go_sem, ↓reduceIte]
        try simp -dsimp only [go_sem, ↓reduceIte]
        refine hKK9 _ _ ?_
        first | exact ⟨rfl, rfl⟩ | (refine ⟨rfl, ?_⟩; simp [List.getD_eq_getElem?_getD, List.getElem?_eq_none (Nat.le_of_not_lt hke), zs, sCnt]; done) | (refine ⟨rfl, ?_⟩; rw [hx0e2]; done) | (refine ⟨rfl, ?_⟩; rw [hx0e2]; exact congrArg (fun z => S2 ++ [some (3, [z])]) hov0)
    · rintro us SJ ⟨rfl, rfl⟩
      refine Lwp_seq fun KK11 hKK11 => ?_
      refine LregionG [none, none, none] (by kernel_rfl) (by kernel_rfl) ?_
      simp -dsimp only [go_sem, ↓reduceIte]
      refine (Counted_ok W hW (S2 ++ [some (3, [es.getD k (zs sCnt)])]) w S2.length 3 0 [] (es.getD k (zs sCnt)) [] own2 _ (hW.keep i2 (Keeps.app S2 _ []) (by simp)) (fun h => absurd (hlow2 _ h) (Nat.lt_irrefl _)) (by simp) rfl hx0 (by have := fitsN hW hkN hfit2; rw [walN_succ] at this; exact this)).k ?_
      rintro r S3 ⟨-, own3, us3, i3, z3, ok3, hS3, K3, ow3⟩
      simp only [List.nil_append, List.append_nil] at hS3
      have hl3' := ok_len ok3
      have K23 : Keeps S2 S3 own2 := ⟨by have := K3.1; simp at this; omega, fun j hj hn => (K3.2 j (by simp; omega) (by simp [hn]; omega)).trans (List.getElem?_append_left hj)⟩
      have hrow3 := hrow.mono (Nat.le_refl _) (fun id hid b hb => K23.get hb (hdis id hid))
      have hlow3 := hW.lt i3
      have hlen3 := K3.1
      simp only [List.length_append, List.length_cons, List.length_nil, Nat.zero_add] at hlen3 ow3
      simp -dsimp only [go_sem, ↓reduceIte]
      refine hKK11 _ _ ?_
      try clear hKK11 KK11
      have hu3 : us3.take 3 = us3 := List.take_of_length_le (by rw [hl3']; exact Nat.le_refl _)
      simp only [show sCnt.n = 3 from rfl] at hl3'
      refine LregionG [none, none, none, none, none] (by kernel_rfl) (by kernel_rfl) ?_
      simp -dsimp only [go_sem, ↓reduceIte, hS3, hl3', hu3]
      repeat with_reducible refine And.intro (by first | omega | decide | trivial) ?_
      refine append_row hrow3 rfl (by simp only [go_sem]; rfl) (by simp only [go_sem]; first | exact ⟨rfl, rfl⟩ | exact ⟨rfl, rfl, rfl⟩ | rfl) (by simp only [go_sem]) (by simp only [go_sem, ↓reduceIte]) (by simp only [go_sem, ↓reduceIte]; rfl) (by simp [hl3']) (.inr (by simp)) (by simp only [LIM, List.length_cons, List.length_nil]; omega) fun S4 hS4l hrow4 hK4 => ?_
      have i4 := hW.keep i3 hK4 (fun id hid hm => (ow3 id hid).elim (fun h => hdis id hm h) (fun h => by have := (hrow.lo id hm).2; omega))
      simp -dsimp only [go_sem, ↓reduceIte]
      refine hKK6 _ _ ?_
      try clear hKK6 KK6
      refine LregionG [none, none] (by kernel_rfl) (by kernel_rfl) ?_
      simp -dsimp only [go_sem, ↓reduceIte, e1]
      repeat with_reducible refine And.intro (by first | omega | decide) ?_
      refine hII ((W.count st es.length).1 - (k + 1)) _ _ (by omega) ⟨k + 1, own3, xs ++ [us3], _, rfl, by rw [walN_succ]; exact i4, by rw [walN_succ, List.map_append, hz]; simp only [List.map_cons, List.map_nil, z3], fun x hx => ?_, by simp [hxl], hrow4.mono (by omega) (fun _ _ _ h => h), fun id hid => ?_, ?_, fun id hid => ?_, hkN, rfl⟩
      · rcases List.mem_append.1 hx with hx | hx
        · exact hxs x hx
        · rw [List.mem_singleton.1 hx]; exact ok3
      · simp only [rowIds, List.mem_singleton] at hid
        subst hid
        exact fun h => absurd (hlow3 _ h) (Nat.lt_irrefl _)
      · refine hK.trans (K23.trans hK4 (ids'' := own2 ++ rowIds u7) (fun j _ h => List.mem_append.2 h)) (fun j hj h => ?_)
        rcases h with h | h
        · exact h
        · rcases List.mem_append.1 h with h | h
          · exact (how j h).elim id fun h => by omega
          · have := (hrow.lo j h).1; omega
      · rcases ow3 id hid with h | h
        · exact how id h
        · exact .inr (by omega)
  · skip
    obtain rfl : k = (W.count st es.length).1 := Nat.le_antisymm hk (Nat.le_of_not_lt (by simpa using hf))
    refine Lwp_exit ?_
    simp -dsimp only [go_sem, ↓reduceIte]
    refine hKK2 _ _ ?_
    try clear hKK2 KK2
    have hl2 : S2[l]? = some (some (n, [cells])) := hK.get hS hl
    have hlu : l ∉ rowIds u7 := fun h => by have := (hrow.lo l h).1; omega
    refine Lwp_frzRowS 7 u7 rfl (by simp only [go_sem, ↓reduceIte]) hrow fun full S3 hS3l hK3 => ?_
    have hl3 : S3[l]? = some (some (n, [cells])) := (hK3 l hlu).trans hl2
    have hov : ovr cells off [.sl full xs] = pre ++ ([.sl full xs] ++ post) := by rw [hcells, ← hpre]; exact ovr_mid
    refine LregionG [none, none, none, none] (by kernel_rfl) (by kernel_rfl) ?_
    simp -dsimp only [go_sem, ↓reduceIte, hl3, hov, hc1]
    repeat with_reducible refine And.intro (by first | omega | decide) ?_
    simp only [LThen, LBlock, LPost, Try.results81]
    simp -dsimp only [go_sem, ↓reduceIte]
    refine ret_keep (hRR _ _ ⟨⟨hn, hes, trivial⟩, own2, [.sl full xs], hW.keep i2 (ids := l :: rowIds u7) ⟨by simp [hS3l], fun j hj hm => ?_⟩ (fun id hid => ?_), by simp only [nz, wal, elemsOf, hz], ⟨by rw [hxl]; exact hNlt, hxs, trivial⟩, ?_, ⟨by rw [List.length_set, hS3l]; exact hK.1, fun j hj hm => ?_⟩, how⟩)
    · simp only [List.mem_cons, not_or] at hm
      rw [List.getElem?_set_ne (by omega)]; exact hK3 j hm.2
    · simp only [List.mem_cons, not_or]
      exact ⟨fun h => (how id hid).elim (fun h' => hl (h ▸ h')) (fun h' => by omega), fun h => hdis id h hid⟩
    · rw [List.getElem?_set_self (lt_of_get hl3)]; rfl
    · simp only [List.mem_cons, not_or] at hm
      rw [List.getElem?_set_ne (by omega), hK3 j (fun h => by have := (hrow.lo j h).1; omega)]
      exact hK.2 j hj hm.2

set_option maxHeartbeats 400000 in
theorem Counts_ok (W : Wk) (hW : WkL W) : WOk W (aI W) 67 (.sl sCnt .nil) := by
  refine WOk_intro 0 Try.func67 rfl (by kernel_rfl) (fun _ _ _ => rfl) fun S w l n off pre us post own st RR hi hl hS hpre hok hfit hRR => ?_
  have hlS := lt_of_get hS
  have hp0 : WP W S w l n pre own .nil [] st (us ++ post) S := WP.refl hi hS
  refine LregionG [none, none, none] (by kernel_rfl) (by kernel_rfl) ?_
  simp -dsimp only [go_sem, ↓reduceIte]
  repeat with_reducible refine And.intro (by first | omega | decide | trivial) ?_
  refine WOk.kk hW ((SlCnt_ok W hW)) us hp0 hl hlS hpre rfl rfl (rfl) hok hfit ?_
  rintro r S2 hp
  simp -dsimp only [go_sem, ↓reduceIte]
  simp only [LThen, LBlock, LPost, Try.results67]
  simp -dsimp only [go_sem, ↓reduceIte]
  exact ret_keep (hRR _ _ hp)

set_option maxHeartbeats 400000 in
theorem SlCnts_ok (W : Wk) (hW : WkL W) : WOk W (aF W 67) 66 (.sl (.sl sCnt .nil) .nil) := by
  refine WOk_intro 0 Try.func66 rfl (by kernel_rfl) (fun _ _ _ => rfl) fun S w l n off pre us post own st RR hi hl hS hpre hok hfit hRR => ?_
  have hlS := lt_of_get hS
  have hp0 : WP W S w l n pre own .nil [] st (us ++ post) S := WP.refl hi hS
  obtain ⟨f, es, us', rfl, hn, hes, h0⟩ := ok_sl hok
  obtain rfl := ok_nil h0
  clear h0 hok
  simp only [List.cons_append, List.nil_append] at hS hp0
  have hfit2 : W.fits (walN (wal W (.sl sCnt .nil)) (zs (.sl sCnt .nil)) (W.count st es.length).1 es (W.count st es.length).2).2 := hfit
  have hfitc : W.fits (W.count st es.length).2 := fitsN hW (Nat.zero_le _) hfit2
  have hNlt := hW.cnt (m := es.length) hi hn
  obtain ⟨cells, hcells⟩ : ∃ c, c = pre ++ (.sl f es :: post) := ⟨_, rfl⟩
  have hc1 : off < cells.length := by rw [hcells, ← hpre]; simp
  have hc2 : cells.getD off .any = .sl f es := by rw [hcells, ← hpre]; simp [List.getD_eq_getElem?_getD]
  have hlow := hW.lt hi
  rw [← hcells] at hS
  refine Lwp_seq fun KK0 hKK0 => ?_
  refine LdrawE [0,1,2,3,4,5,6,7,8,9] [(l, (n, [cells]))] none (by kernel_rfl) (by kernel_rfl) (by kernel_rfl) (by kernel_rfl) (by simp only [Watch.holds, List.mem_singleton, forall_eq]; exact hS) ?_
  simp -dsimp only [go_sem, ↓reduceIte, hc1, hc2, hW.mCount]
  repeat with_reducible refine And.intro (by first | omega | decide | trivial) ?_
  refine (hW.hCount S w own st es.length hi hn hfitc).k ?_
  rintro _ S1 ⟨rfl, own1, i1, K1, ow1⟩
  have hl1 : S1[l]? = some (some (n, [cells])) := K1.get hS hl
  simp -dsimp only [go_sem, ↓reduceIte, hl1]
  refine hKK0 _ _ ?_
  try clear hKK0 KK0
  refine Lwp_seq fun KK1 hKK1 => ?_
  refine LregionG [none] (by kernel_rfl) (by kernel_rfl) ?_
  simp -dsimp only [go_sem, ↓reduceIte]
  repeat with_reducible refine And.intro (by first | omega | decide) ?_
  refine hKK1 _ _ ?_
  try clear hKK1 KK1
  refine Lwp_seq fun KK2 hKK2 => ?_
  refine Lwp_seq fun KK3 hKK3 => ?_
  refine LregionG [none, none] (by kernel_rfl) (by kernel_rfl) ?_
  simp -dsimp only [go_sem, ↓reduceIte]
  repeat with_reducible refine And.intro (by first | omega | decide) ?_
  refine hKK3 _ _ ?_
  try clear hKK3 KK3
  refine Lwp_block ?_
  refine Lwp_loopK [0, 1, 2, 6, 7, 19, 20] (fun m vs S' => ∃ (k : Nat) (own1 : List Nat) (xs : List (List LV)) (u7 : LV), vs = [.iface W.ty (.ptr w 0 0), .ptr l 0 off, .func (.func 67) [] [], V (W.count st es.length).1, u7, V (W.count st es.length).1, V k] ∧ W.inv S' w own1 (walN (wal W (.sl sCnt .nil)) (zs (.sl sCnt .nil)) k es (W.count st es.length).2).2 ∧ xs.map (nz (.sl sCnt .nil)) = (walN (wal W (.sl sCnt .nil)) (zs (.sl sCnt .nil)) k es (W.count st es.length).2).1 ∧ (∀ x ∈ xs, ok (.sl sCnt .nil) x) ∧ xs.length = k ∧ RowS S' S.length u7 1 xs ∧ (∀ id ∈ rowIds u7, id ∉ own1) ∧ Keeps S S' own ∧ (∀ id ∈ own1, id ∈ own ∨ S.length ≤ id) ∧ k ≤ (W.count st es.length).1 ∧ m = (W.count st es.length).1 - k) (W.count st es.length).1 rfl (⟨0, own1, [], .sl true [], by simp only [go_sem, ↓reduceIte, Int.natCast_zero], i1, rfl, by simp, rfl, RowS.nil, by simp [rowIds], K1, ow1, Nat.zero_le _, rfl⟩) ?_
  rintro m us S2 ⟨k, own2, xs, u7, rfl, i2, hz, hxs, hxl, hrow, hdis, hK, how, hk, hm⟩ II hII
  refine Lwp_seq fun KK4 hKK4 => ?_
  refine LregionG [none] (by kernel_rfl) (by kernel_rfl) ?_
  simp -dsimp only [go_sem, ↓reduceIte]
  repeat with_reducible refine And.intro (by first | omega | decide) ?_
  refine hKK4 _ _ ?_
  try clear hKK4 KK4
  refine Lwp_seq fun KK5 hKK5 => ?_
  refine Lwp_cond (by simp only [go_sem, ↓reduceIte]; rfl) (fun ht => ?_) (fun hf => ?_)
  · skip
    have hkN : k < (W.count st es.length).1 := by simpa using ht
    have hlow2 := hW.lt i2
    have hl2 : S2[l]? = some (some (n, [cells])) := hK.get hS hl
    have hl3 : ∀ T, (S2 ++ T)[l]? = some (some (n, [cells])) := fun T => by rw [List.getElem?_append_left (lt_of_get hl2)]; exact hl2
    have hS2l : S.length ≤ S2.length := hK.1
    have hx0 : ok (.sl sCnt .nil) (es.getD k (zs (.sl sCnt .nil))) := by
      rw [List.getD_eq_getElem?_getD]
      by_cases h : k < es.length
      · rw [List.getElem?_eq_getElem h]; exact hes _ (List.getElem_mem h)
      · rw [List.getElem?_eq_none (by omega)]; exact ok_zs
    have e1 : IntKind.i64.wrap ((k : Int) + 1) = ((k + 1 : Nat) : Int) := w64 (by omega) (by omega)
    refine Lwp_skip ?_
    try simp -dsimp only [go_sem, ↓reduceIte]
    refine hKK5 _ _ ?_
    try clear hKK5 KK5
    refine Lwp_seq fun KK6 hKK6 => ?_
    refine Lwp_block ?_
    refine Lwp_seq fun KK7 hKK7 => ?_
    refine LregionG [none, none] (by kernel_rfl) (by kernel_rfl) ?_
    simp -dsimp only [go_sem, ↓reduceIte]
    repeat with_reducible refine And.intro (by first | omega | decide) ?_
    refine hKK7 _ _ ?_
    try clear hKK7 KK7
    refine Lwp_seq fun KK8 hKK8 => ?_
    refine LregionG [none] (by kernel_rfl) (by kernel_rfl) ?_
    simp -dsimp only [go_sem, ↓reduceIte]
    
    refine hKK8 _ _ ?_
    try clear hKK8 KK8
    refine Lwp_seqJ [0, 1, 2, 6, 7, 19, 20, 8, 9] (fun vs S3 => vs = [.iface W.ty (.ptr w 0 0), .ptr l 0 off, .func (.func 67) [] [], V (W.count st es.length).1, u7, V (W.count st es.length).1, V k, V k, .ptr S2.length 0 0] ∧ S3 = S2 ++ [some (1, [es.getD k (zs (.sl sCnt .nil))])]) rfl (fun KK9 hKK9 => ?_) ?_
    · skip
      refine Lwp_seq fun KK10 hKK10 => ?_
      refine LregionG [none, none, none, none, none, none] (by kernel_rfl) (by kernel_rfl) ?_
      simp -dsimp only [go_sem, ↓reduceIte, hl3, hc1, hc2]
      repeat with_reducible refine And.intro (by first | omega | decide) ?_
      refine hKK10 _ _ ?_
      try clear hKK10 KK10
      refine Lwp_cond (by simp only [go_sem, ↓reduceIte]; rfl) (fun ht => ?_) (fun hf => ?_)
      · skip
        have hke : k < es.length := by simpa using ht
        obtain ⟨x0, hx0e⟩ : ∃ x0, x0 = es.getD k [] := ⟨_, rfl⟩
        have hx0l : x0.length = 1 := by rw [hx0e]; exact ok_len (ok_mem hes hke)
        have hx0t : x0.take 1 = x0 := List.take_of_length_le (by omega)
        have hov0 : ovr (zs (.sl sCnt .nil)) 0 x0 = x0 := ovr_all (by rw [hx0l]; rfl)
        have hx0e2 : es.getD k (zs (.sl sCnt .nil)) = x0 := by rw [hx0e, List.getD_eq_getElem?_getD, List.getD_eq_getElem?_getD, List.getElem?_eq_getElem hke]; rfl
        have okx0 := ok_mem hes hke
        rw [← hx0e] at okx0
        clear hx0l hx0t
        obtain ⟨f0, e0, _, rfl, iv0, jv0, h0⟩ := ok_sl okx0
        obtain rfl := ok_nil h0
        clear h0
        refine LregionG [none, none, none, none, none, none, none] (by kernel_rfl) (by kernel_rfl) ?_
        simp -dsimp only [go_sem, ↓reduceIte, hl3, hc1, hc2, hke, ← hx0e]
        repeat with_reducible refine And.intro (by first | omega | decide) ?_
        try simp -dsimp only [go_sem, ↓reduceIte]
        refine hKK9 _ _ ?_
        first | exact ⟨rfl, rfl⟩ | (refine ⟨rfl, ?_⟩; simp [List.getD_eq_getElem?_getD, List.getElem?_eq_none (Nat.le_of_not_lt hke), zs, sCnt]; done) | (refine ⟨rfl, ?_⟩; rw [hx0e2]; done) | (refine ⟨rfl, ?_⟩; rw [hx0e2]; exact congrArg (fun z => S2 ++ [some (1, [z])]) hov0)
      · skip
        have hke : ¬ k < es.length := by simpa using hf
        refine Lwp_skip ?_
        try simp -dsimp only [go_sem, ↓reduceIte]
        try simp -dsimp only [go_sem, ↓reduceIte]
        refine hKK9 _ _ ?_
        first | exact ⟨rfl, rfl⟩ | (refine ⟨rfl, ?_⟩; simp [List.getD_eq_getElem?_getD, List.getElem?_eq_none (Nat.le_of_not_lt hke), zs, sCnt]; done) | (refine ⟨rfl, ?_⟩; rw [hx0e2]; done) | (refine ⟨rfl, ?_⟩; rw [hx0e2]; exact congrArg (fun z => S2 ++ [some (1, [z])]) hov0)
    · rintro us SJ ⟨rfl, rfl⟩
      refine Lwp_seq fun KK11 hKK11 => ?_
      refine LregionG [none, none, none] (by kernel_rfl) (by kernel_rfl) ?_
      simp -dsimp only [go_sem, ↓reduceIte]
      refine (Counts_ok W hW (S2 ++ [some (1, [es.getD k (zs (.sl sCnt .nil))])]) w S2.length 1 0 [] (es.getD k (zs (.sl sCnt .nil))) [] own2 _ (hW.keep i2 (Keeps.app S2 _ []) (by simp)) (fun h => absurd (hlow2 _ h) (Nat.lt_irrefl _)) (by simp) rfl hx0 (by have := fitsN hW hkN hfit2; rw [walN_succ] at this; exact this)).k ?_
      rintro r S3 ⟨-, own3, us3, i3, z3, ok3, hS3, K3, ow3⟩
      simp only [List.nil_append, List.append_nil] at hS3
      have hl3' := ok_len ok3
      have K23 : Keeps S2 S3 own2 := ⟨by have := K3.1; simp at this; omega, fun j hj hn => (K3.2 j (by simp; omega) (by simp [hn]; omega)).trans (List.getElem?_append_left hj)⟩
      have hrow3 := hrow.mono (Nat.le_refl _) (fun id hid b hb => K23.get hb (hdis id hid))
      have hlow3 := hW.lt i3
      have hlen3 := K3.1
      simp only [List.length_append, List.length_cons, List.length_nil, Nat.zero_add] at hlen3 ow3
      clear hl3'
      obtain ⟨f3, e3, _, rfl, iv3, jv3, h3⟩ := ok_sl ok3
      obtain rfl := ok_nil h3
      clear h3
      simp -dsimp only [go_sem, ↓reduceIte]
      refine hKK11 _ _ ?_
      try clear hKK11 KK11
      
      refine LregionG [none, none, none, none, none] (by kernel_rfl) (by kernel_rfl) ?_
      simp -dsimp only [go_sem, ↓reduceIte, hS3]
      repeat with_reducible refine And.intro (by first | omega | decide | trivial) ?_
      refine append_row hrow3 rfl (by simp only [go_sem]; rfl) (by simp only [go_sem]; first | exact ⟨rfl, rfl⟩ | exact ⟨rfl, rfl, rfl⟩ | rfl) (by simp only [go_sem]) (by simp only [go_sem, ↓reduceIte]) (by simp only [go_sem, ↓reduceIte]; rfl) (by simp) (.inr (by simp)) (by simp only [LIM, List.length_cons, List.length_nil]; omega) fun S4 hS4l hrow4 hK4 => ?_
      have i4 := hW.keep i3 hK4 (fun id hid hm => (ow3 id hid).elim (fun h => hdis id hm h) (fun h => by have := (hrow.lo id hm).2; omega))
      simp -dsimp only [go_sem, ↓reduceIte]
      refine hKK6 _ _ ?_
      try clear hKK6 KK6
      refine LregionG [none, none] (by kernel_rfl) (by kernel_rfl) ?_
      simp -dsimp only [go_sem, ↓reduceIte, e1]
      repeat with_reducible refine And.intro (by first | omega | decide) ?_
      refine hII ((W.count st es.length).1 - (k + 1)) _ _ (by omega) ⟨k + 1, own3, xs ++ [[.sl f3 e3]], _, rfl, by rw [walN_succ]; exact i4, by rw [walN_succ, List.map_append, hz]; simp only [List.map_cons, List.map_nil, z3], fun x hx => ?_, by simp [hxl], hrow4.mono (by omega) (fun _ _ _ h => h), fun id hid => ?_, ?_, fun id hid => ?_, hkN, rfl⟩
      · rcases List.mem_append.1 hx with hx | hx
        · exact hxs x hx
        · rw [List.mem_singleton.1 hx]; exact ok3
      · simp only [rowIds, List.mem_singleton] at hid
        subst hid
        exact fun h => absurd (hlow3 _ h) (Nat.lt_irrefl _)
      · refine hK.trans (K23.trans hK4 (ids'' := own2 ++ rowIds u7) (fun j _ h => List.mem_append.2 h)) (fun j hj h => ?_)
        rcases h with h | h
        · exact h
        · rcases List.mem_append.1 h with h | h
          · exact (how j h).elim id fun h => by omega
          · have := (hrow.lo j h).1; omega
      · rcases ow3 id hid with h | h
        · exact how id h
        · exact .inr (by omega)
  · skip
    obtain rfl : k = (W.count st es.length).1 := Nat.le_antisymm hk (Nat.le_of_not_lt (by simpa using hf))
    refine Lwp_exit ?_
    simp -dsimp only [go_sem, ↓reduceIte]
    refine hKK2 _ _ ?_
    try clear hKK2 KK2
    have hl2 : S2[l]? = some (some (n, [cells])) := hK.get hS hl
    have hlu : l ∉ rowIds u7 := fun h => by have := (hrow.lo l h).1; omega
    refine Lwp_frzRowS 7 u7 rfl (by simp only [go_sem, ↓reduceIte]) hrow fun full S3 hS3l hK3 => ?_
    have hl3 : S3[l]? = some (some (n, [cells])) := (hK3 l hlu).trans hl2
    have hov : ovr cells off [.sl full xs] = pre ++ ([.sl full xs] ++ post) := by rw [hcells, ← hpre]; exact ovr_mid
    refine LregionG [none, none, none, none] (by kernel_rfl) (by kernel_rfl) ?_
    simp -dsimp only [go_sem, ↓reduceIte, hl3, hov, hc1]
    repeat with_reducible refine And.intro (by first | omega | decide) ?_
    simp only [LThen, LBlock, LPost, Try.results66]
    simp -dsimp only [go_sem, ↓reduceIte]
    refine ret_keep (hRR _ _ ⟨⟨hn, hes, trivial⟩, own2, [.sl full xs], hW.keep i2 (ids := l :: rowIds u7) ⟨by simp [hS3l], fun j hj hm => ?_⟩ (fun id hid => ?_), by simp only [nz, wal, elemsOf, hz], ⟨by rw [hxl]; exact hNlt, hxs, trivial⟩, ?_, ⟨by rw [List.length_set, hS3l]; exact hK.1, fun j hj hm => ?_⟩, how⟩)
    · simp only [List.mem_cons, not_or] at hm
      rw [List.getElem?_set_ne (by omega)]; exact hK3 j hm.2
    · simp only [List.mem_cons, not_or]
      exact ⟨fun h => (how id hid).elim (fun h' => hl (h ▸ h')) (fun h' => by omega), fun h => hdis id h hid⟩
    · rw [List.getElem?_set_self (lt_of_get hl3)]; rfl
    · simp only [List.mem_cons, not_or] at hm
      rw [List.getElem?_set_ne (by omega), hK3 j (fun h => by have := (hrow.lo j h).1; omega)]
      exact hK.2 j hj hm.2

end Go.Proofs.Ytdhngmldmalbbaa
end
section
set_option linter.all false
namespace Go.Proofs.Ytdhngmldmalbbaa
open Go.Lift Go.RowKit Go.Store
set_option linter.unusedSimpArgs false
set_option linter.unusedVariables false
set_option maxHeartbeats 400000 in
theorem Analysis_ok (W : Wk) (hW : WkL W) : WOk W (aI W) 63 sAna := by
  refine WOk_intro 0 Try.func63 rfl (by kernel_rfl) (fun _ _ _ => rfl) fun S w l n off pre us post own st RR hi hl hS hpre hok hfit hRR => ?_
  have hlS := lt_of_get hS
  have hp0 : WP W S w l n pre own .nil [] st (us ++ post) S := WP.refl hi hS
  obtain ⟨f1, l1, us, rfl, n1, o1, h⟩ := ok_sl hok
  obtain ⟨f2, l2, us, rfl, n2, o2, h⟩ := ok_sl h
  obtain ⟨f3, l3, us, rfl, n3, o3, h⟩ := ok_sl h
  obtain ⟨v1, us, rfl, i1, h⟩ := ok_int h
  obtain ⟨v2, us, rfl, i2, h⟩ := ok_word h
  obtain ⟨v3, us, rfl, i3, h⟩ := ok_int h
  obtain ⟨v4, us, rfl, i4, h⟩ := ok_int h
  obtain ⟨v5, us, rfl, i5, h⟩ := ok_int h
  obtain rfl := ok_nil h
  clear h hok
  have hok1 : ok (Sch.app Sch.nil (.sl sI .nil)) (([] : List LV) ++ [.sl f1 l1]) := app_ok trivial (⟨n1, o1, trivial⟩)
  have hok2 : ok (Sch.app (Sch.app Sch.nil (.sl sI .nil)) (.sl sI .nil)) ((([] : List LV) ++ [.sl f1 l1]) ++ [.sl f2 l2]) := app_ok hok1 (⟨n2, o2, trivial⟩)
  have hok3 : ok (Sch.app (Sch.app (Sch.app Sch.nil (.sl sI .nil)) (.sl sI .nil)) (.sl sI .nil)) (((([] : List LV) ++ [.sl f1 l1]) ++ [.sl f2 l2]) ++ [.sl f3 l3]) := app_ok hok2 (⟨n3, o3, trivial⟩)
  have hok4 : ok (Sch.app (Sch.app (Sch.app (Sch.app Sch.nil (.sl sI .nil)) (.sl sI .nil)) (.sl sI .nil)) sI) ((((([] : List LV) ++ [.sl f1 l1]) ++ [.sl f2 l2]) ++ [.sl f3 l3]) ++ [V v1]) := app_ok hok3 (okI1 i1)
  have hok5 : ok (Sch.app (Sch.app (Sch.app (Sch.app (Sch.app Sch.nil (.sl sI .nil)) (.sl sI .nil)) (.sl sI .nil)) sI) (.word .nil)) (((((([] : List LV) ++ [.sl f1 l1]) ++ [.sl f2 l2]) ++ [.sl f3 l3]) ++ [V v1]) ++ [.int .u64 v2]) := app_ok hok4 (⟨rfl, by omega, by omega, trivial⟩)
  have hok6 : ok (Sch.app (Sch.app (Sch.app (Sch.app (Sch.app (Sch.app Sch.nil (.sl sI .nil)) (.sl sI .nil)) (.sl sI .nil)) sI) (.word .nil)) (sN 3)) ((((((([] : List LV) ++ [.sl f1 l1]) ++ [.sl f2 l2]) ++ [.sl f3 l3]) ++ [V v1]) ++ [.int .u64 v2]) ++ [V v3, V v4, V v5]) := app_ok hok5 (⟨rfl, i3.1, i3.2, rfl, i4.1, i4.2, rfl, i5.1, i5.2, trivial⟩)
  have hft6 : W.fits (wal W (Sch.app (Sch.app (Sch.app (Sch.app (Sch.app (Sch.app Sch.nil (.sl sI .nil)) (.sl sI .nil)) (.sl sI .nil)) sI) (.word .nil)) (sN 3)) ((((((([] : List LV) ++ [.sl f1 l1]) ++ [.sl f2 l2]) ++ [.sl f3 l3]) ++ [V v1]) ++ [.int .u64 v2]) ++ [V v3, V v4, V v5]) st).2 := hfit
  have hft5 := fitsL hW hok5 hft6
  have hft4 := fitsL hW hok4 hft5
  have hft3 := fitsL hW hok3 hft4
  have hft2 := fitsL hW hok2 hft3
  have hft1 := fitsL hW hok1 hft2
  refine Lwp_seq fun KK0 hKK0 => ?_
  refine LregionG [none, none, none, none, none] (by kernel_rfl) (by kernel_rfl) ?_
  simp -dsimp only [go_sem, ↓reduceIte]
  repeat with_reducible refine And.intro (by first | omega | decide | trivial) ?_
  refine WOk.kk hW (SlInt_ok W hW) [.sl f1 l1] hp0 hl hlS hpre rfl rfl (rfl) (⟨n1, o1, trivial⟩) hft1 ?_
  rintro r S2 hp
  simp -dsimp only [go_sem, ↓reduceIte]
  refine hKK0 _ _ ?_
  try clear hKK0 KK0
  refine Lwp_seq fun KK1 hKK1 => ?_
  refine LregionG [none, none, none, none, none] (by kernel_rfl) (by kernel_rfl) ?_
  simp -dsimp only [go_sem, ↓reduceIte]
  repeat with_reducible refine And.intro (by first | omega | decide | trivial) ?_
  refine WOk.kk hW (SlInt_ok W hW) [.sl f2 l2] hp hl hlS hpre rfl rfl (rfl) (⟨n2, o2, trivial⟩) hft2 ?_
  rintro r S2 hp
  simp -dsimp only [go_sem, ↓reduceIte]
  refine hKK1 _ _ ?_
  try clear hKK1 KK1
  refine Lwp_seq fun KK2 hKK2 => ?_
  refine LregionG [none, none, none, none, none] (by kernel_rfl) (by kernel_rfl) ?_
  simp -dsimp only [go_sem, ↓reduceIte]
  repeat with_reducible refine And.intro (by first | omega | decide | trivial) ?_
  refine WOk.kk hW (SlInt_ok W hW) [.sl f3 l3] hp hl hlS hpre rfl rfl (rfl) (⟨n3, o3, trivial⟩) hft3 ?_
  rintro r S2 hp
  simp -dsimp only [go_sem, ↓reduceIte]
  refine hKK2 _ _ ?_
  try clear hKK2 KK2
  refine Lwp_seq fun KK3 hKK3 => ?_
  refine LdrawE [0,1,2,3,4,5,6,7,8,9] [] none (by kernel_rfl) (by kernel_rfl) (by kernel_rfl) (by kernel_rfl) (by simp [Watch.holds]) ?_
  simp -dsimp only [go_sem, ↓reduceIte, hW.mInt]
  repeat with_reducible refine And.intro (by first | omega | decide | trivial) ?_
  refine WOk.kk hW (hW.hInt) [V v1] hp hl hlS hpre rfl rfl (rfl) (okI1 i1) hft4 ?_
  rintro r S2 hp
  simp -dsimp only [go_sem, ↓reduceIte]
  refine hKK3 _ _ ?_
  try clear hKK3 KK3
  refine Lwp_seq fun KK4 hKK4 => ?_
  refine LdrawE [0,1,2,3,4,5,6,7,8,9] [] none (by kernel_rfl) (by kernel_rfl) (by kernel_rfl) (by kernel_rfl) (by simp [Watch.holds]) ?_
  simp -dsimp only [go_sem, ↓reduceIte, hW.mWord]
  repeat with_reducible refine And.intro (by first | omega | decide | trivial) ?_
  refine WOk.kk hW (hW.hWord) [.int .u64 v2] hp hl hlS hpre rfl rfl (rfl) (⟨rfl, by omega, by omega, trivial⟩) hft5 ?_
  rintro r S2 hp
  simp -dsimp only [go_sem, ↓reduceIte]
  refine hKK4 _ _ ?_
  try clear hKK4 KK4
  refine LdrawE [0,1,2,3,4,5,6,7,8,9,10,11,12,13] [] none (by kernel_rfl) (by kernel_rfl) (by kernel_rfl) (by kernel_rfl) (by simp [Watch.holds]) ?_
  simp -dsimp only [go_sem, ↓reduceIte]
  repeat with_reducible refine And.intro (by first | omega | decide | trivial) ?_
  refine WOk.kk hW ((Ints_ok W hW 3 (by decide))) [V v3, V v4, V v5] hp hl hlS hpre rfl rfl (rfl) (⟨rfl, i3.1, i3.2, rfl, i4.1, i4.2, rfl, i5.1, i5.2, trivial⟩) hft6 ?_
  rintro r S2 hp
  simp -dsimp only [go_sem, ↓reduceIte]
  simp only [LThen, LBlock, LPost, Try.results63]
  simp -dsimp only [go_sem, ↓reduceIte]
  exact ret_keep (hRR _ _ hp)

set_option maxHeartbeats 400000 in
theorem Item_ok (W : Wk) (hW : WkL W) : WOk W (aI W) 38 sItem := by
  refine WOk_intro 0 Try.func38 rfl (by kernel_rfl) (fun _ _ _ => rfl) fun S w l n off pre us post own st RR hi hl hS hpre hok hfit hRR => ?_
  have hlS := lt_of_get hS
  have hp0 : WP W S w l n pre own .nil [] st (us ++ post) S := WP.refl hi hS
  obtain ⟨rep, us, rfl, hRp, h⟩ := app_inv hok
  obtain ⟨co, us, rfl, ico, h⟩ := ok_int h
  obtain ⟨ar, us, rfl, iar, h⟩ := ok_int h
  obtain rfl := ok_nil h
  obtain ⟨k0, s0, t0, f0, x0, y0, z0, fl0, es0, rfl⟩ := okRep hRp
  clear h hok
  have hok1 : ok (Sch.app Sch.nil sRep) (([] : List LV) ++ [V k0, .str s0, V t0, V f0, V x0, V y0, V z0, .sl fl0 es0]) := app_ok trivial (hRp)
  have hok2 : ok (Sch.app (Sch.app Sch.nil sRep) (sN 2)) ((([] : List LV) ++ [V k0, .str s0, V t0, V f0, V x0, V y0, V z0, .sl fl0 es0]) ++ [V co, V ar]) := app_ok hok1 (⟨rfl, ico.1, ico.2, rfl, iar.1, iar.2, trivial⟩)
  have hft2 : W.fits (wal W (Sch.app (Sch.app Sch.nil sRep) (sN 2)) ((([] : List LV) ++ [V k0, .str s0, V t0, V f0, V x0, V y0, V z0, .sl fl0 es0]) ++ [V co, V ar]) st).2 := hfit
  have hft1 := fitsL hW hok1 hft2
  refine Lwp_seq fun KK0 hKK0 => ?_
  refine LregionG [none, none, none, none, none] (by kernel_rfl) (by kernel_rfl) ?_
  simp -dsimp only [go_sem, ↓reduceIte]
  repeat with_reducible refine And.intro (by first | omega | decide | trivial) ?_
  refine WOk.kk hW (Report_ok W hW) [V k0, .str s0, V t0, V f0, V x0, V y0, V z0, .sl fl0 es0] hp0 hl hlS hpre rfl rfl (rfl) (hRp) hft1 ?_
  rintro r S2 hp
  simp -dsimp only [go_sem, ↓reduceIte]
  refine hKK0 _ _ ?_
  try clear hKK0 KK0
  refine LdrawE [0,1,2,3,4,5,6,7,8] [] none (by kernel_rfl) (by kernel_rfl) (by kernel_rfl) (by kernel_rfl) (by simp [Watch.holds]) ?_
  simp -dsimp only [go_sem, ↓reduceIte]
  repeat with_reducible refine And.intro (by first | omega | decide | trivial) ?_
  refine WOk.kk hW ((Ints_ok W hW 2 (by decide))) [V co, V ar] hp hl hlS hpre rfl rfl (rfl) (⟨rfl, ico.1, ico.2, rfl, iar.1, iar.2, trivial⟩) hft2 ?_
  rintro r S2 hp
  simp -dsimp only [go_sem, ↓reduceIte]
  simp only [LThen, LBlock, LPost, Try.results38]
  simp -dsimp only [go_sem, ↓reduceIte]
  exact ret_keep (hRR _ _ hp)

set_option maxHeartbeats 400000 in
theorem Period_ok (W : Wk) (hW : WkL W) : WOk W (aI W) 39 sPer := by
  refine WOk_intro 0 Try.func39 rfl (by kernel_rfl) (fun _ _ _ => rfl) fun S w l n off pre us post own st RR hi hl hS hpre hok hfit hRR => ?_
  have hlS := lt_of_get hS
  have hp0 : WP W S w l n pre own .nil [] st (us ++ post) S := WP.refl hi hS
  obtain ⟨fr, us, rfl, ifr, h⟩ := ok_int hok
  obtain ⟨cl, us, rfl, h⟩ := ok_bool h
  obtain ⟨pf, us, rfl, ipf, h⟩ := ok_int h
  obtain ⟨px, us, rfl, ipx, h⟩ := ok_int h
  obtain ⟨py, us, rfl, ipy, h⟩ := ok_int h
  obtain ⟨pz, us, rfl, ipz, h⟩ := ok_int h
  obtain ⟨fb, eb, us, rfl, nb, ob, h⟩ := ok_sl h
  obtain rfl := ok_nil h
  clear h hok
  have hok1 : ok (Sch.app Sch.nil sI) (([] : List LV) ++ [V fr]) := app_ok trivial (okI1 ifr)
  have hok2 : ok (Sch.app (Sch.app Sch.nil sI) (.bool .nil)) ((([] : List LV) ++ [V fr]) ++ [.bool cl]) := app_ok hok1 (trivial)
  have hok3 : ok (Sch.app (Sch.app (Sch.app Sch.nil sI) (.bool .nil)) sPlace) (((([] : List LV) ++ [V fr]) ++ [.bool cl]) ++ [V pf, V px, V py, V pz]) := app_ok hok2 (⟨rfl, ipf.1, ipf.2, rfl, ipx.1, ipx.2, rfl, ipy.1, ipy.2, rfl, ipz.1, ipz.2, trivial⟩)
  have hok4 : ok (Sch.app (Sch.app (Sch.app (Sch.app Sch.nil sI) (.bool .nil)) sPlace) (.sl sRd .nil)) ((((([] : List LV) ++ [V fr]) ++ [.bool cl]) ++ [V pf, V px, V py, V pz]) ++ [.sl fb eb]) := app_ok hok3 (⟨nb, ob, trivial⟩)
  have hft4 : W.fits (wal W (Sch.app (Sch.app (Sch.app (Sch.app Sch.nil sI) (.bool .nil)) sPlace) (.sl sRd .nil)) ((((([] : List LV) ++ [V fr]) ++ [.bool cl]) ++ [V pf, V px, V py, V pz]) ++ [.sl fb eb]) st).2 := hfit
  have hft3 := fitsL hW hok3 hft4
  have hft2 := fitsL hW hok2 hft3
  have hft1 := fitsL hW hok1 hft2
  refine Lwp_seq fun KK0 hKK0 => ?_
  refine LdrawE [0,1,2,3,4,5,6,7] [] none (by kernel_rfl) (by kernel_rfl) (by kernel_rfl) (by kernel_rfl) (by simp [Watch.holds]) ?_
  simp -dsimp only [go_sem, ↓reduceIte, hW.mInt]
  repeat with_reducible refine And.intro (by first | omega | decide | trivial) ?_
  refine WOk.kk hW (hW.hInt) [V fr] hp0 hl hlS hpre rfl rfl (rfl) (okI1 ifr) hft1 ?_
  rintro r S2 hp
  simp -dsimp only [go_sem, ↓reduceIte]
  refine hKK0 _ _ ?_
  try clear hKK0 KK0
  refine Lwp_seq fun KK1 hKK1 => ?_
  refine LdrawE [0,1,2,3,4,5,6,7] [] none (by kernel_rfl) (by kernel_rfl) (by kernel_rfl) (by kernel_rfl) (by simp [Watch.holds]) ?_
  simp -dsimp only [go_sem, ↓reduceIte, hW.mBool]
  repeat with_reducible refine And.intro (by first | omega | decide | trivial) ?_
  refine WOk.kk hW (hW.hBool) [.bool cl] hp hl hlS hpre rfl rfl (rfl) (trivial) hft2 ?_
  rintro r S2 hp
  simp -dsimp only [go_sem, ↓reduceIte]
  refine hKK1 _ _ ?_
  try clear hKK1 KK1
  refine Lwp_seq fun KK2 hKK2 => ?_
  refine LregionG [none, none, none, none, none] (by kernel_rfl) (by kernel_rfl) ?_
  simp -dsimp only [go_sem, ↓reduceIte]
  repeat with_reducible refine And.intro (by first | omega | decide | trivial) ?_
  refine WOk.kk hW (Place_ok W hW) [V pf, V px, V py, V pz] hp hl hlS hpre rfl rfl (rfl) (⟨rfl, ipf.1, ipf.2, rfl, ipx.1, ipx.2, rfl, ipy.1, ipy.2, rfl, ipz.1, ipz.2, trivial⟩) hft3 ?_
  rintro r S2 hp
  simp -dsimp only [go_sem, ↓reduceIte]
  refine hKK2 _ _ ?_
  try clear hKK2 KK2
  refine LregionG [none, none, none, none, none] (by kernel_rfl) (by kernel_rfl) ?_
  simp -dsimp only [go_sem, ↓reduceIte]
  repeat with_reducible refine And.intro (by first | omega | decide | trivial) ?_
  refine WOk.kk hW (SlRd_ok W hW) [.sl fb eb] hp hl hlS hpre rfl rfl (rfl) (⟨nb, ob, trivial⟩) hft4 ?_
  rintro r S2 hp
  simp -dsimp only [go_sem, ↓reduceIte]
  simp only [LThen, LBlock, LPost, Try.results39]
  simp -dsimp only [go_sem, ↓reduceIte]
  exact ret_keep (hRR _ _ hp)

set_option maxHeartbeats 400000 in
theorem Cycle_ok (W : Wk) (hW : WkL W) : WOk W (aI W) 40 sCyc := by
  refine WOk_intro 0 Try.func40 rfl (by kernel_rfl) (fun _ _ _ => rfl) fun S w l n off pre us post own st RR hi hl hS hpre hok hfit hRR => ?_
  have hlS := lt_of_get hS
  have hp0 : WP W S w l n pre own .nil [] st (us ++ post) S := WP.refl hi hS
  obtain ⟨nm, us, rfl, inm, h⟩ := ok_int hok
  obtain ⟨tm, us, rfl, itm, h⟩ := ok_int h
  obtain ⟨ct, us, rfl, ict, h⟩ := ok_int h
  obtain ⟨fr, er, us, rfl, nr, hor, h⟩ := ok_sl h
  obtain ⟨ua, us, rfl, hA, h⟩ := app_inv h
  obtain ⟨fq, us, rfl, ifq, h⟩ := ok_int h
  obtain ⟨g1, d1, us, rfl, n1, o1, h⟩ := ok_sl h
  obtain ⟨g2, d2, us, rfl, n2, o2, h⟩ := ok_sl h
  obtain ⟨fc, ec, us, rfl, nc, oc, h⟩ := ok_sl h
  obtain ⟨fl, el, us, rfl, nl, ol, h⟩ := ok_sl h
  obtain rfl := ok_nil h
  obtain ⟨f1, f2, f3, l1, l2, l3, hi', lo, an, ra, rd, rfl⟩ := okAna hA
  clear h hok
  have hok1 : ok (Sch.app Sch.nil (sN 3)) (([] : List LV) ++ [V nm, V tm, V ct]) := app_ok trivial (⟨rfl, inm.1, inm.2, rfl, itm.1, itm.2, rfl, ict.1, ict.2, trivial⟩)
  have hok2 : ok (Sch.app (Sch.app Sch.nil (sN 3)) (.sl sRep .nil)) ((([] : List LV) ++ [V nm, V tm, V ct]) ++ [.sl fr er]) := app_ok hok1 (⟨nr, hor, trivial⟩)
  have hok3 : ok (Sch.app (Sch.app (Sch.app Sch.nil (sN 3)) (.sl sRep .nil)) sAna) (((([] : List LV) ++ [V nm, V tm, V ct]) ++ [.sl fr er]) ++ [.sl f1 l1, .sl f2 l2, .sl f3 l3, V hi', .int .u64 lo, V an, V ra, V rd]) := app_ok hok2 (hA)
  have hok4 : ok (Sch.app (Sch.app (Sch.app (Sch.app Sch.nil (sN 3)) (.sl sRep .nil)) sAna) sI) ((((([] : List LV) ++ [V nm, V tm, V ct]) ++ [.sl fr er]) ++ [.sl f1 l1, .sl f2 l2, .sl f3 l3, V hi', .int .u64 lo, V an, V ra, V rd]) ++ [V fq]) := app_ok hok3 (okI1 ifq)
  have hok5 : ok (Sch.app (Sch.app (Sch.app (Sch.app (Sch.app Sch.nil (sN 3)) (.sl sRep .nil)) sAna) sI) (.sl sI .nil)) (((((([] : List LV) ++ [V nm, V tm, V ct]) ++ [.sl fr er]) ++ [.sl f1 l1, .sl f2 l2, .sl f3 l3, V hi', .int .u64 lo, V an, V ra, V rd]) ++ [V fq]) ++ [.sl g1 d1]) := app_ok hok4 (⟨n1, o1, trivial⟩)
  have hok6 : ok (Sch.app (Sch.app (Sch.app (Sch.app (Sch.app (Sch.app Sch.nil (sN 3)) (.sl sRep .nil)) sAna) sI) (.sl sI .nil)) (.sl sI .nil)) ((((((([] : List LV) ++ [V nm, V tm, V ct]) ++ [.sl fr er]) ++ [.sl f1 l1, .sl f2 l2, .sl f3 l3, V hi', .int .u64 lo, V an, V ra, V rd]) ++ [V fq]) ++ [.sl g1 d1]) ++ [.sl g2 d2]) := app_ok hok5 (⟨n2, o2, trivial⟩)
  have hok7 : ok (Sch.app (Sch.app (Sch.app (Sch.app (Sch.app (Sch.app (Sch.app Sch.nil (sN 3)) (.sl sRep .nil)) sAna) sI) (.sl sI .nil)) (.sl sI .nil)) (.sl (.sl sCnt .nil) .nil)) (((((((([] : List LV) ++ [V nm, V tm, V ct]) ++ [.sl fr er]) ++ [.sl f1 l1, .sl f2 l2, .sl f3 l3, V hi', .int .u64 lo, V an, V ra, V rd]) ++ [V fq]) ++ [.sl g1 d1]) ++ [.sl g2 d2]) ++ [.sl fc ec]) := app_ok hok6 (⟨nc, oc, trivial⟩)
  have hok8 : ok (Sch.app (Sch.app (Sch.app (Sch.app (Sch.app (Sch.app (Sch.app (Sch.app Sch.nil (sN 3)) (.sl sRep .nil)) sAna) sI) (.sl sI .nil)) (.sl sI .nil)) (.sl (.sl sCnt .nil) .nil)) (.sl sStr .nil)) ((((((((([] : List LV) ++ [V nm, V tm, V ct]) ++ [.sl fr er]) ++ [.sl f1 l1, .sl f2 l2, .sl f3 l3, V hi', .int .u64 lo, V an, V ra, V rd]) ++ [V fq]) ++ [.sl g1 d1]) ++ [.sl g2 d2]) ++ [.sl fc ec]) ++ [.sl fl el]) := app_ok hok7 (⟨nl, ol, trivial⟩)
  have hft8 : W.fits (wal W (Sch.app (Sch.app (Sch.app (Sch.app (Sch.app (Sch.app (Sch.app (Sch.app Sch.nil (sN 3)) (.sl sRep .nil)) sAna) sI) (.sl sI .nil)) (.sl sI .nil)) (.sl (.sl sCnt .nil) .nil)) (.sl sStr .nil)) ((((((((([] : List LV) ++ [V nm, V tm, V ct]) ++ [.sl fr er]) ++ [.sl f1 l1, .sl f2 l2, .sl f3 l3, V hi', .int .u64 lo, V an, V ra, V rd]) ++ [V fq]) ++ [.sl g1 d1]) ++ [.sl g2 d2]) ++ [.sl fc ec]) ++ [.sl fl el]) st).2 := hfit
  have hft7 := fitsL hW hok7 hft8
  have hft6 := fitsL hW hok6 hft7
  have hft5 := fitsL hW hok5 hft6
  have hft4 := fitsL hW hok4 hft5
  have hft3 := fitsL hW hok3 hft4
  have hft2 := fitsL hW hok2 hft3
  have hft1 := fitsL hW hok1 hft2
  refine Lwp_seq fun KK0 hKK0 => ?_
  refine LdrawE [0,1,2,3,4,5,6,7,8,9,10,11] [] none (by kernel_rfl) (by kernel_rfl) (by kernel_rfl) (by kernel_rfl) (by simp [Watch.holds]) ?_
  simp -dsimp only [go_sem, ↓reduceIte]
  repeat with_reducible refine And.intro (by first | omega | decide | trivial) ?_
  refine WOk.kk hW ((Ints_ok W hW 3 (by decide))) [V nm, V tm, V ct] hp0 hl hlS hpre rfl rfl (rfl) (⟨rfl, inm.1, inm.2, rfl, itm.1, itm.2, rfl, ict.1, ict.2, trivial⟩) hft1 ?_
  rintro r S2 hp
  simp -dsimp only [go_sem, ↓reduceIte]
  refine hKK0 _ _ ?_
  try clear hKK0 KK0
  refine Lwp_seq fun KK1 hKK1 => ?_
  refine LregionG [none, none, none, none, none] (by kernel_rfl) (by kernel_rfl) ?_
  simp -dsimp only [go_sem, ↓reduceIte]
  repeat with_reducible refine And.intro (by first | omega | decide | trivial) ?_
  refine WOk.kk hW (SlRep_ok W hW) [.sl fr er] hp hl hlS hpre rfl rfl (rfl) (⟨nr, hor, trivial⟩) hft2 ?_
  rintro r S2 hp
  simp -dsimp only [go_sem, ↓reduceIte]
  refine hKK1 _ _ ?_
  try clear hKK1 KK1
  refine Lwp_seq fun KK2 hKK2 => ?_
  refine LregionG [none, none, none, none, none] (by kernel_rfl) (by kernel_rfl) ?_
  simp -dsimp only [go_sem, ↓reduceIte]
  repeat with_reducible refine And.intro (by first | omega | decide | trivial) ?_
  refine WOk.kk hW (Analysis_ok W hW) [.sl f1 l1, .sl f2 l2, .sl f3 l3, V hi', .int .u64 lo, V an, V ra, V rd] hp hl hlS hpre rfl rfl (rfl) (hA) hft3 ?_
  rintro r S2 hp
  simp -dsimp only [go_sem, ↓reduceIte]
  refine hKK2 _ _ ?_
  try clear hKK2 KK2
  refine Lwp_seq fun KK3 hKK3 => ?_
  refine LdrawE [0,1,2,3,4,5,6,7,8] [] none (by kernel_rfl) (by kernel_rfl) (by kernel_rfl) (by kernel_rfl) (by simp [Watch.holds]) ?_
  simp -dsimp only [go_sem, ↓reduceIte, hW.mInt]
  repeat with_reducible refine And.intro (by first | omega | decide | trivial) ?_
  refine WOk.kk hW (hW.hInt) [V fq] hp hl hlS hpre rfl rfl (rfl) (okI1 ifq) hft4 ?_
  rintro r S2 hp
  simp -dsimp only [go_sem, ↓reduceIte]
  refine hKK3 _ _ ?_
  try clear hKK3 KK3
  refine Lwp_seq fun KK4 hKK4 => ?_
  refine LregionG [none, none, none, none, none, none] (by kernel_rfl) (by kernel_rfl) ?_
  simp -dsimp only [go_sem, ↓reduceIte]
  repeat with_reducible refine And.intro (by first | omega | decide | trivial) ?_
  refine WOk.kk hW (SlInt_ok W hW) [.sl g1 d1] hp hl hlS hpre rfl rfl (rfl) (⟨n1, o1, trivial⟩) hft5 ?_
  rintro r S2 hp
  simp -dsimp only [go_sem, ↓reduceIte]
  refine hKK4 _ _ ?_
  try clear hKK4 KK4
  refine Lwp_seq fun KK5 hKK5 => ?_
  refine LregionG [none, none, none, none, none, none] (by kernel_rfl) (by kernel_rfl) ?_
  simp -dsimp only [go_sem, ↓reduceIte]
  repeat with_reducible refine And.intro (by first | omega | decide | trivial) ?_
  refine WOk.kk hW (SlInt_ok W hW) [.sl g2 d2] hp hl hlS hpre rfl rfl (rfl) (⟨n2, o2, trivial⟩) hft6 ?_
  rintro r S2 hp
  simp -dsimp only [go_sem, ↓reduceIte]
  refine hKK5 _ _ ?_
  try clear hKK5 KK5
  refine Lwp_seq fun KK6 hKK6 => ?_
  refine LregionG [none, none, none, none, none, none] (by kernel_rfl) (by kernel_rfl) ?_
  simp -dsimp only [go_sem, ↓reduceIte]
  repeat with_reducible refine And.intro (by first | omega | decide | trivial) ?_
  refine WOk.kk hW (SlCnts_ok W hW) [.sl fc ec] hp hl hlS hpre rfl rfl (rfl) (⟨nc, oc, trivial⟩) hft7 ?_
  rintro r S2 hp
  simp -dsimp only [go_sem, ↓reduceIte]
  refine hKK6 _ _ ?_
  try clear hKK6 KK6
  refine LregionG [none, none, none, none, none, none] (by kernel_rfl) (by kernel_rfl) ?_
  simp -dsimp only [go_sem, ↓reduceIte]
  repeat with_reducible refine And.intro (by first | omega | decide | trivial) ?_
  refine WOk.kk hW (SlStr_ok W hW) [.sl fl el] hp hl hlS hpre rfl rfl (rfl) (⟨nl, ol, trivial⟩) hft8 ?_
  rintro r S2 hp
  simp -dsimp only [go_sem, ↓reduceIte]
  simp only [LThen, LBlock, LPost, Try.results40]
  simp -dsimp only [go_sem, ↓reduceIte]
  exact ret_keep (hRR _ _ hp)

end Go.Proofs.Ytdhngmldmalbbaa
end
section
set_option linter.all false
namespace Go.Proofs.Ytdhngmldmalbbaa
open Go.Lift Go.RowKit Go.Store
set_option linter.unusedSimpArgs false
set_option linter.unusedVariables false

/-- what is walked of an entry: where it begins, and its schema. -/
def kSch (k : Int) : Option (Nat × Sch) :=
  if k = 1 then some (1, sI) else if k = 2 then some (2, sItem) else if k = 3 then some (12, .int (.str sPer)) else if k = 4 then some (21, sCyc) else none
theorem log_split {us : List LV} (h : ok sLog us) {off : Nat} {s : Sch} (hk : kSch (intOf (us.getD 0 .any)) = some (off, s)) : ∃ pre u post, us = pre ++ (u ++ post) ∧ pre.length = off ∧ ok s u ∧ us.getD 0 .any = V (intOf (us.getD 0 .any)) ∧ 0 < us.length := by
  obtain ⟨k, now, k0, s0, t0, f0, x0, y0, z0, fl0, es0, co, ar, st, nm, fr, cl, pf, px, py, pz, fb, eb, cy, rfl, hk', inow, hRp, ico, iar, ist, inm, ifr, ipf, ipx, ipy, ipz, ⟨nb, ob⟩, hC⟩ := okLog h
  have e : intOf ((logL k now k0 s0 t0 f0 x0 y0 z0 fl0 es0 co ar st nm fr cl pf px py pz fb eb cy).getD 0 .any) = k := rfl
  rw [e] at hk
  simp only [kSch] at hk
  by_cases h1 : k = 1
  · simp only [h1, if_true, Option.some.injEq, Prod.mk.injEq] at hk
    obtain ⟨rfl, rfl⟩ := hk
    exact ⟨[V k], [V now], _, rfl, rfl, okI1 inow, rfl, by simp⟩
  · by_cases h2 : k = 2
    · simp only [h2, if_true, if_false, Option.some.injEq, Prod.mk.injEq, Int.reduceEq] at hk
      obtain ⟨rfl, rfl⟩ := hk
      exact ⟨[V k, V now], [V k0, .str s0, V t0, V f0, V x0, V y0, V z0, .sl fl0 es0] ++ [V co, V ar], _, rfl, rfl, app_ok hRp ⟨rfl, ico.1, ico.2, rfl, iar.1, iar.2, trivial⟩, rfl, by simp⟩
    · by_cases h3 : k = 3
      · simp only [h3, if_true, if_false, Option.some.injEq, Prod.mk.injEq, Int.reduceEq] at hk
        obtain ⟨rfl, rfl⟩ := hk
        exact ⟨[V k, V now, V k0, .str s0, V t0, V f0, V x0, V y0, V z0, .sl fl0 es0, V co, V ar], [V st, .str nm, V fr, .bool cl, V pf, V px, V py, V pz, .sl fb eb], cy, rfl, rfl, ⟨rfl, ist.1, ist.2, inm, rfl, ifr.1, ifr.2, rfl, ipf.1, ipf.2, rfl, ipx.1, ipx.2, rfl, ipy.1, ipy.2, rfl, ipz.1, ipz.2, nb, ob, trivial⟩, rfl, by simp⟩
      · by_cases h4 : k = 4
        · simp only [h4, if_true, if_false, Option.some.injEq, Prod.mk.injEq, Int.reduceEq] at hk
          obtain ⟨rfl, rfl⟩ := hk
          exact ⟨[V k, V now, V k0, .str s0, V t0, V f0, V x0, V y0, V z0, .sl fl0 es0, V co, V ar, V st, .str nm, V fr, .bool cl, V pf, V px, V py, V pz, .sl fb eb], cy, [], by simp [logL], rfl, hC, rfl, by simp⟩
        · simp [h1, h2, h3, h4] at hk

set_option maxHeartbeats 400000 in
theorem Walk_some (W : Wk) (hW : WkL W) {S : LS} {w l off : Nat} {pre u post cells : List LV} {own : List Nat} {st : W.St} {k : Int} {s : Sch} (hi : W.inv S w own st) (hl : l ∉ own) (hS : S[l]? = some (some (38, [cells]))) (hc0 : cells.getD 0 .any = V k) (hc1 : 0 < cells.length) (hcells : cells = pre ++ (u ++ post)) (hpre : pre.length = off) (hok : ok s u) (hk : kSch k = some (off, s)) (hfit : W.fits (wal W s u st).2) : LCalls Try.prog 25 [.iface W.ty (.ptr w 0 0), .ptr l 0 0] S (fun r S' => r = .bool true ∧ WP W S w l 38 pre own s u st post S') := by
  refine LCalls_introK 0 Try.func25 rfl (by kernel_rfl) rfl fun RR hRR => ?_
  have hlS := lt_of_get hS
  have hp0 : WP W S w l 38 pre own .nil [] st (u ++ post) S := WP.refl hi (hcells ▸ hS)
  refine Lwp_seq fun KK0 hKK0 => ?_
  refine LregionG [none] (by kernel_rfl) (by kernel_rfl) ?_
  simp -dsimp only [go_sem, ↓reduceIte]
  repeat with_reducible refine And.intro (by first | omega | decide) ?_
  refine hKK0 _ _ ?_
  try clear hKK0 KK0
  refine Lwp_seq fun KK1 hKK1 => ?_
  refine Lwp_seq fun KK2 hKK2 => ?_
  refine LregionG [none, none, none, none] (by kernel_rfl) (by kernel_rfl) ?_
  simp -dsimp only [go_sem, ↓reduceIte, hS, hc0, hc1]
  repeat with_reducible refine And.intro (by first | omega | decide) ?_
  refine hKK2 _ _ ?_
  try clear hKK2 KK2
  refine Lwp_block ?_
  refine Lwp_seq fun KK3 hKK3 => ?_
  refine LregionG [none, none] (by kernel_rfl) (by kernel_rfl) ?_
  simp -dsimp only [go_sem, ↓reduceIte]
  repeat with_reducible refine And.intro (by first | omega | decide) ?_
  refine hKK3 _ _ ?_
  try clear hKK3 KK3
  refine Lwp_cond (by simp only [go_sem, ↓reduceIte]; rfl) (fun ht => ?_) (fun hf => ?_)
  · skip
    have hk1 : k = 1 := by simpa using ht
    subst hk1
    obtain ⟨rfl, rfl⟩ : 1 = off ∧ sI = s := by simpa [kSch] using hk
    refine LdrawE [0,1,2,3,4,5,6,7] [] none (by kernel_rfl) (by kernel_rfl) (by kernel_rfl) (by kernel_rfl) (by simp [Watch.holds]) ?_
    simp -dsimp only [go_sem, ↓reduceIte, hW.mInt]
    repeat with_reducible refine And.intro (by first | omega | decide | trivial) ?_
    refine WOk.kk hW (hW.hInt) u hp0 hl hlS hpre rfl rfl (rfl) hok hfit ?_
    rintro r S2 hp
    simp -dsimp only [go_sem, ↓reduceIte]
    refine hKK1 _ _ ?_
    try clear hKK1 KK1
    refine Lwp_seq fun KK4 hKK4 => ?_
    refine LregionG [none] (by kernel_rfl) (by kernel_rfl) ?_
    simp -dsimp only [go_sem, ↓reduceIte]
    repeat with_reducible refine And.intro (by first | omega | decide) ?_
    refine hKK4 _ _ ?_
    try clear hKK4 KK4
    refine Lwp_ret ?_
    simp only [LThen, LBlock, LPost, Try.results25]
    simp -dsimp only [go_sem, ↓reduceIte]
    exact ret_keep (hRR _ _ ⟨rfl, hp⟩)
  · skip
    have hf1 : ¬ k = 1 := by simpa using hf
    refine Lwp_seq fun KK5 hKK5 => ?_
    refine LregionG [none, none] (by kernel_rfl) (by kernel_rfl) ?_
    simp -dsimp only [go_sem, ↓reduceIte]
    repeat with_reducible refine And.intro (by first | omega | decide) ?_
    refine hKK5 _ _ ?_
    try clear hKK5 KK5
    refine Lwp_cond (by simp only [go_sem, ↓reduceIte]; rfl) (fun ht => ?_) (fun hf => ?_)
    · skip
      have hk1 : k = 2 := by simpa using ht
      subst hk1
      obtain ⟨rfl, rfl⟩ : 2 = off ∧ sItem = s := by simpa [kSch] using hk
      refine LregionG [none, none, none, none, none] (by kernel_rfl) (by kernel_rfl) ?_
      simp -dsimp only [go_sem, ↓reduceIte]
      repeat with_reducible refine And.intro (by first | omega | decide | trivial) ?_
      refine WOk.kk hW ((Item_ok W hW)) u hp0 hl hlS hpre rfl rfl (rfl) hok hfit ?_
      rintro r S2 hp
      simp -dsimp only [go_sem, ↓reduceIte]
      refine hKK1 _ _ ?_
      try clear hKK1 KK1
      refine Lwp_seq fun KK6 hKK6 => ?_
      refine LregionG [none] (by kernel_rfl) (by kernel_rfl) ?_
      simp -dsimp only [go_sem, ↓reduceIte]
      repeat with_reducible refine And.intro (by first | omega | decide) ?_
      refine hKK6 _ _ ?_
      try clear hKK6 KK6
      refine Lwp_ret ?_
      simp only [LThen, LBlock, LPost, Try.results25]
      simp -dsimp only [go_sem, ↓reduceIte]
      exact ret_keep (hRR _ _ ⟨rfl, hp⟩)
    · skip
      have hf2 : ¬ k = 2 := by simpa using hf
      refine Lwp_seq fun KK7 hKK7 => ?_
      refine LregionG [none, none] (by kernel_rfl) (by kernel_rfl) ?_
      simp -dsimp only [go_sem, ↓reduceIte]
      repeat with_reducible refine And.intro (by first | omega | decide) ?_
      refine hKK7 _ _ ?_
      try clear hKK7 KK7
      refine Lwp_cond (by simp only [go_sem, ↓reduceIte]; rfl) (fun ht => ?_) (fun hf => ?_)
      · skip
        have hk1 : k = 3 := by simpa using ht
        subst hk1
        obtain ⟨rfl, rfl⟩ : 12 = off ∧ Sch.int (.str sPer) = s := by simpa [kSch] using hk
        obtain ⟨v1, us, rfl, iv1, h⟩ := ok_int hok
        obtain ⟨v2, us, rfl, iv2, h⟩ := ok_str h
        have hok1 : ok (Sch.nil.app sI) ([] ++ [V v1]) := okI1 iv1
        have hok2 : ok ((Sch.nil.app sI).app sStr) ([] ++ [V v1] ++ [.str v2]) := ⟨rfl, iv1.1, iv1.2, iv2, trivial⟩
        have hft3 : W.fits (wal W (((Sch.nil.app sI).app sStr).app sPer) ([] ++ [V v1] ++ [.str v2] ++ us) st).2 := hfit
        have hft2 := fitsL hW hok2 hft3
        have hft1 := fitsL hW hok1 hft2
        refine Lwp_seq fun KK8 hKK8 => ?_
        refine LdrawE [0,1,2,3,4,5,6,7] [] none (by kernel_rfl) (by kernel_rfl) (by kernel_rfl) (by kernel_rfl) (by simp [Watch.holds]) ?_
        simp -dsimp only [go_sem, ↓reduceIte, hW.mInt]
        repeat with_reducible refine And.intro (by first | omega | decide | trivial) ?_
        refine WOk.kk hW (hW.hInt) [V v1] hp0 hl hlS hpre rfl rfl (rfl) (okI1 iv1) hft1 ?_
        rintro r S2 hp
        simp -dsimp only [go_sem, ↓reduceIte]
        refine hKK8 _ _ ?_
        try clear hKK8 KK8
        refine Lwp_seq fun KK9 hKK9 => ?_
        refine LdrawE [0,1,2,3,4,5,6,7] [] none (by kernel_rfl) (by kernel_rfl) (by kernel_rfl) (by kernel_rfl) (by simp [Watch.holds]) ?_
        simp -dsimp only [go_sem, ↓reduceIte, hW.mText]
        repeat with_reducible refine And.intro (by first | omega | decide | trivial) ?_
        refine WOk.kk hW (hW.hText) [.str v2] hp hl hlS hpre rfl rfl (rfl) (show ok sStr [.str v2] from ⟨iv2, trivial⟩) hft2 ?_
        rintro r S2 hp
        simp -dsimp only [go_sem, ↓reduceIte]
        refine hKK9 _ _ ?_
        try clear hKK9 KK9
        refine LregionG [none, none, none, none, none] (by kernel_rfl) (by kernel_rfl) ?_
        simp -dsimp only [go_sem, ↓reduceIte]
        repeat with_reducible refine And.intro (by first | omega | decide | trivial) ?_
        refine WOk.kk hW ((Period_ok W hW)) us hp hl hlS hpre rfl rfl (rfl) h hft3 ?_
        rintro r S2 hp
        simp -dsimp only [go_sem, ↓reduceIte]
        refine hKK1 _ _ ?_
        try clear hKK1 KK1
        refine Lwp_seq fun KK10 hKK10 => ?_
        refine LregionG [none] (by kernel_rfl) (by kernel_rfl) ?_
        simp -dsimp only [go_sem, ↓reduceIte]
        repeat with_reducible refine And.intro (by first | omega | decide) ?_
        refine hKK10 _ _ ?_
        try clear hKK10 KK10
        refine Lwp_ret ?_
        simp only [LThen, LBlock, LPost, Try.results25]
        simp -dsimp only [go_sem, ↓reduceIte]
        exact ret_keep (hRR _ _ ⟨rfl, hp⟩)
      · skip
        have hf3 : ¬ k = 3 := by simpa using hf
        refine Lwp_seq fun KK11 hKK11 => ?_
        refine LregionG [none, none] (by kernel_rfl) (by kernel_rfl) ?_
        simp -dsimp only [go_sem, ↓reduceIte]
        repeat with_reducible refine And.intro (by first | omega | decide) ?_
        refine hKK11 _ _ ?_
        try clear hKK11 KK11
        refine Lwp_cond (by simp only [go_sem, ↓reduceIte]; rfl) (fun ht => ?_) (fun hf => ?_)
        · skip
          have hk1 : k = 4 := by simpa using ht
          subst hk1
          obtain ⟨rfl, rfl⟩ : 21 = off ∧ sCyc = s := by simpa [kSch] using hk
          refine LregionG [none, none, none, none, none] (by kernel_rfl) (by kernel_rfl) ?_
          simp -dsimp only [go_sem, ↓reduceIte]
          repeat with_reducible refine And.intro (by first | omega | decide | trivial) ?_
          refine WOk.kk hW ((Cycle_ok W hW)) u hp0 hl hlS hpre rfl rfl (rfl) hok hfit ?_
          rintro r S2 hp
          simp -dsimp only [go_sem, ↓reduceIte]
          refine hKK1 _ _ ?_
          try clear hKK1 KK1
          refine Lwp_seq fun KK12 hKK12 => ?_
          refine LregionG [none] (by kernel_rfl) (by kernel_rfl) ?_
          simp -dsimp only [go_sem, ↓reduceIte]
          repeat with_reducible refine And.intro (by first | omega | decide) ?_
          refine hKK12 _ _ ?_
          try clear hKK12 KK12
          refine Lwp_ret ?_
          simp only [LThen, LBlock, LPost, Try.results25]
          simp -dsimp only [go_sem, ↓reduceIte]
          exact ret_keep (hRR _ _ ⟨rfl, hp⟩)
        · skip
          have hf4 : ¬ k = 4 := by simpa using hf
          simp [kSch, hf1, hf2, hf3, hf4] at hk

set_option maxHeartbeats 400000 in
theorem Walk_none (W : Wk) (hW : WkL W) {S : LS} {w l : Nat} {cells : List LV} {own : List Nat} {st : W.St} {k : Int} (hi : W.inv S w own st) (hl : l ∉ own) (hS : S[l]? = some (some (38, [cells]))) (hc0 : cells.getD 0 .any = V k) (hc1 : 0 < cells.length) (hk : kSch k = none) : LCalls Try.prog 25 [.iface W.ty (.ptr w 0 0), .ptr l 0 0] S (fun r S' => r = .bool false ∧ S' = S) := by
  refine LCalls_introK 0 Try.func25 rfl (by kernel_rfl) rfl fun RR hRR => ?_
  refine Lwp_seq fun KK0 hKK0 => ?_
  refine LregionG [none] (by kernel_rfl) (by kernel_rfl) ?_
  simp -dsimp only [go_sem, ↓reduceIte]
  repeat with_reducible refine And.intro (by first | omega | decide) ?_
  refine hKK0 _ _ ?_
  try clear hKK0 KK0
  refine Lwp_seq fun KK1 hKK1 => ?_
  refine Lwp_seq fun KK2 hKK2 => ?_
  refine LregionG [none, none, none, none] (by kernel_rfl) (by kernel_rfl) ?_
  simp -dsimp only [go_sem, ↓reduceIte, hS, hc0, hc1]
  repeat with_reducible refine And.intro (by first | omega | decide) ?_
  refine hKK2 _ _ ?_
  try clear hKK2 KK2
  refine Lwp_block ?_
  refine Lwp_seq fun KK3 hKK3 => ?_
  refine LregionG [none, none] (by kernel_rfl) (by kernel_rfl) ?_
  simp -dsimp only [go_sem, ↓reduceIte]
  repeat with_reducible refine And.intro (by first | omega | decide) ?_
  refine hKK3 _ _ ?_
  try clear hKK3 KK3
  refine Lwp_cond (by simp only [go_sem, ↓reduceIte]; rfl) (fun ht => ?_) (fun hf => ?_)
  · skip
    have hk1 : k = 1 := by simpa using ht
    subst hk1
    simp [kSch] at hk
  · skip
    have hf1 : ¬ k = 1 := by simpa using hf
    refine Lwp_seq fun KK4 hKK4 => ?_
    refine LregionG [none, none] (by kernel_rfl) (by kernel_rfl) ?_
    simp -dsimp only [go_sem, ↓reduceIte]
    repeat with_reducible refine And.intro (by first | omega | decide) ?_
    refine hKK4 _ _ ?_
    try clear hKK4 KK4
    refine Lwp_cond (by simp only [go_sem, ↓reduceIte]; rfl) (fun ht => ?_) (fun hf => ?_)
    · skip
      have hk1 : k = 2 := by simpa using ht
      subst hk1
      simp [kSch] at hk
    · skip
      have hf2 : ¬ k = 2 := by simpa using hf
      refine Lwp_seq fun KK5 hKK5 => ?_
      refine LregionG [none, none] (by kernel_rfl) (by kernel_rfl) ?_
      simp -dsimp only [go_sem, ↓reduceIte]
      repeat with_reducible refine And.intro (by first | omega | decide) ?_
      refine hKK5 _ _ ?_
      try clear hKK5 KK5
      refine Lwp_cond (by simp only [go_sem, ↓reduceIte]; rfl) (fun ht => ?_) (fun hf => ?_)
      · skip
        have hk1 : k = 3 := by simpa using ht
        subst hk1
        simp [kSch] at hk
      · skip
        have hf3 : ¬ k = 3 := by simpa using hf
        refine Lwp_seq fun KK6 hKK6 => ?_
        refine LregionG [none, none] (by kernel_rfl) (by kernel_rfl) ?_
        simp -dsimp only [go_sem, ↓reduceIte]
        repeat with_reducible refine And.intro (by first | omega | decide) ?_
        refine hKK6 _ _ ?_
        try clear hKK6 KK6
        refine Lwp_cond (by simp only [go_sem, ↓reduceIte]; rfl) (fun ht => ?_) (fun hf => ?_)
        · skip
          have hk1 : k = 4 := by simpa using ht
          subst hk1
          simp [kSch] at hk
        · skip
          have hf4 : ¬ k = 4 := by simpa using hf
          refine Lwp_seq fun KK7 hKK7 => ?_
          refine LregionG [none] (by kernel_rfl) (by kernel_rfl) ?_
          simp -dsimp only [go_sem, ↓reduceIte]
          repeat with_reducible refine And.intro (by first | omega | decide) ?_
          refine hKK7 _ _ ?_
          try clear hKK7 KK7
          refine Lwp_ret ?_
          simp only [LThen, LBlock, LPost, Try.results25]
          simp -dsimp only [go_sem, ↓reduceIte]
          exact ret_keep (hRR _ _ ⟨rfl, rfl⟩)

end Go.Proofs.Ytdhngmldmalbbaa
end
section
set_option linter.all false
namespace Go.Proofs.Ytdhngmldmalbbaa
open Go.Lift Go.RowKit Go.Store
set_option linter.unusedSimpArgs false
set_option linter.unusedVariables false
set_option maxHeartbeats 400000 in
theorem SPut_ok (v n : Nat) (hv : v < 18446744073709551616) (hn : n ≤ 8) : Put 26 [.int .u64 v, V n] (be n v) := by
  refine Put_intro Try.func26 rfl (by kernel_rfl) rfl fun S u bs RR hacc hl hRR => ?_
  refine Lwp_seq fun KK0 hKK0 => ?_
  refine LregionG [none] (by kernel_rfl) (by kernel_rfl) ?_
  simp -dsimp only [go_sem, ↓reduceIte]
  repeat with_reducible refine And.intro (by first | omega | decide) ?_
  refine hKK0 _ _ ?_
  try clear hKK0 KK0
  refine Lwp_seq fun KK1 hKK1 => ?_
  refine Lwp_seq fun KK2 hKK2 => ?_
  have wn : IntKind.i64.wrap ((n : Int) - 1) = (n : Int) - 1 := w64 (by omega) (by omega)
  have wn2 : IntKind.i64.wrap (8 * ((n : Int) - 1)) = 8 * ((n : Int) - 1) := w64 (by omega) (by omega)
  refine LregionG [none, none, none, none] (by kernel_rfl) (by kernel_rfl) ?_
  simp -dsimp only [go_sem, ↓reduceIte, wn, wn2]
  repeat with_reducible refine And.intro (by first | omega | decide) ?_
  refine hKK2 _ _ ?_
  try clear hKK2 KK2
  refine Lwp_block ?_
  refine Lwp_loopK [0, 1, 7] (fun m us S' => ∃ (k : Nat) (r : LV) (pre : List UInt8), us = [r, .int .u64 v, V (8 * ((k : Int) - 1))] ∧ PutR S u bs pre r S' ∧ pre ++ be k v = be n v ∧ k ≤ n ∧ m = k) n rfl (⟨n, u, [], by simp only [go_sem, ↓reduceIte], PutR.refl hacc, rfl, Nat.le_refl _, rfl⟩) ?_
  rintro m us S2 ⟨k, r, pre, rfl, hp, hpre, hk, hm⟩ II hII
  refine Lwp_seq fun KK3 hKK3 => ?_
  refine Lwp_seq fun KK4 hKK4 => ?_
  refine LregionG [none, none] (by kernel_rfl) (by kernel_rfl) ?_
  simp -dsimp only [go_sem, ↓reduceIte]
  repeat with_reducible refine And.intro (by first | omega | decide) ?_
  refine hKK4 _ _ ?_
  try clear hKK4 KK4
  refine Lwp_cond (by simp only [go_sem, ↓reduceIte]; rfl) (fun ht => ?_) (fun hf => ?_)
  · skip
    obtain ⟨j, rfl⟩ : ∃ j, k = j + 1 := ⟨k - 1, by simp only [decide_eq_true_eq] at ht; omega⟩
    rw [be_split, ← List.append_assoc] at hpre
    have hpl := congrArg List.length hpre
    simp only [List.length_append, be_length, List.length_cons, List.length_nil] at hpl
    have e0 : (8 : Int) * (((j + 1 : Nat) : Int) - 1) = 8 * (j : Int) := by omega
    have e3 : min (8 * (j : Int)).toNat 64 = 8 * j := by omega
    have e4 : Int.fdiv (v : Int) (2 ^ (8 * j)) = ((v / 256 ^ j : Nat) : Int) := by
      have : (2 : Int) ^ (8 * j) = ((256 ^ j : Nat) : Int) := by rw [Int.pow_mul]; norm_cast
      rw [this, Int.fdiv_eq_ediv_of_nonneg _ (Int.natCast_nonneg _)]; rfl
    have e5 : IntKind.u8.wrap ((v / 256 ^ j : Nat) : Int) = ((UInt8.ofNat (v / 256 ^ j)).toNat : Int) := by
      rw [wu8m]; simp
    have e6 : IntKind.i64.wrap (8 * (j : Int) - 8) = 8 * ((j : Int) - 1) := by rw [w64 (by omega) (by omega)]; omega
    have e7 : (0 : Int) ≤ 8 * (j : Int) := by omega
    simp only [e0]
    refine Lwp_skip ?_
    try simp -dsimp only [go_sem, ↓reduceIte]
    refine hKK3 _ _ ?_
    try clear hKK3 KK3
    refine Lwp_seq fun KK5 hKK5 => ?_
    refine Lwp_block ?_
    refine LregionG [none, none, none, none, none, none, none, none] (by kernel_rfl) (by kernel_rfl) ?_
    simp -dsimp only [go_sem, ↓reduceIte, e3, e4, e5, e7]
    repeat with_reducible refine And.intro (by first | omega | decide | assumption) ?_
    refine PutR.apd (zs := [UInt8.ofNat (v / 256 ^ j)]) hp rfl (by simp only [go_sem]; rfl) (by simp only [go_sem]; first | exact ⟨rfl, rfl⟩ | exact ⟨rfl, rfl, rfl⟩ | rfl) (by simp only [go_sem]) (by simp only [go_sem, ↓reduceIte]) (by simp only [go_sem, ↓reduceIte, e3, e4, e5]; rfl) (by (try clear e1); simp only [List.length_append, List.length_cons, List.length_nil, be_length] at hl ⊢; omega) ?_
    rintro r2 S2 hp2
    simp -dsimp only [go_sem, ↓reduceIte]
    refine hKK5 _ _ ?_
    try clear hKK5 KK5
    refine LregionG [none, none, none] (by kernel_rfl) (by kernel_rfl) ?_
    simp -dsimp only [go_sem, ↓reduceIte, e6]
    repeat with_reducible refine And.intro (by first | omega | decide) ?_
    exact hII j _ _ (by omega) ⟨j, r2, _, rfl, hp2, hpre, by omega, rfl⟩
  · skip
    obtain rfl : k = 0 := by simp only [decide_eq_false_iff_not] at hf; omega
    refine Lwp_exit ?_
    simp -dsimp only [go_sem, ↓reduceIte]
    refine hKK1 _ _ ?_
    try clear hKK1 KK1
    refine Lwp_seq fun KK6 hKK6 => ?_
    refine LregionG [none, none] (by kernel_rfl) (by kernel_rfl) ?_
    simp -dsimp only [go_sem, ↓reduceIte]
    repeat with_reducible refine And.intro (by first | omega | decide) ?_
    refine hKK6 _ _ ?_
    try clear hKK6 KK6
    refine Lwp_ret ?_
    simp only [LThen, LBlock, LPost, Try.results26]
    simp -dsimp only [go_sem, ↓reduceIte]
    exact ret_keep (hRR _ _ (hp.cast (by simpa [be] using hpre)))


theorem SPut8 (v : Nat) (hv : v < 18446744073709551616) : Put 26 [.int .u64 v, .int .i64 8] (be 8 v) := by
  have h := SPut_ok v 8 hv (Nat.le_refl 8)
  rw [show ((8 : Nat) : Int) = 8 from rfl] at h
  exact h
theorem SPut4 (v : Nat) (hv : v < 18446744073709551616) : Put 26 [.int .u64 v, .int .i64 4] (be 4 v) := by
  have h := SPut_ok v 4 hv (by omega)
  rw [show ((4 : Nat) : Int) = 4 from rfl] at h
  exact h
theorem schk_step (s b : Nat) (hs : s < 4294967291) (hb : b < 256) : Int.tmod (IntKind.i64.wrap (IntKind.i64.wrap ((s : Int) * 31) + (b : Int))) 4294967291 = (((s * 31 + b) % 4294967291 : Nat) : Int) := by
  have e1 : IntKind.i64.wrap ((s : Int) * 31) = (s : Int) * 31 := w64 (by omega) (by omega)
  have e2 : IntKind.i64.wrap ((s : Int) * 31 + (b : Int)) = (s : Int) * 31 + b := w64 (by omega) (by omega)
  rw [e1, e2, Int.tmod_eq_emod_of_nonneg (by omega)]
  omega

set_option maxHeartbeats 400000 in
theorem SChk_sl {S : LS} (bs : List UInt8) (hn : bs.length ≤ 1099511627776) (f : Bool) : LCalls Try.prog 27 [.sl f (bs.map u8c)] S (fun r S' => r = V (chkN bs) ∧ S' = S) := by
  refine LCalls_introK 0 Try.func27 rfl (by kernel_rfl) rfl fun RR hRR => ?_
  refine Lwp_seq fun KK0 hKK0 => ?_
  refine LregionG [none] (by kernel_rfl) (by kernel_rfl) ?_
  simp -dsimp only [go_sem, ↓reduceIte]
  repeat with_reducible refine And.intro (by first | omega | decide) ?_
  refine hKK0 _ _ ?_
  try clear hKK0 KK0
  refine Lwp_seq fun KK1 hKK1 => ?_
  refine LregionG [none] (by kernel_rfl) (by kernel_rfl) ?_
  simp -dsimp only [go_sem, ↓reduceIte]
  repeat with_reducible refine And.intro (by first | omega | decide) ?_
  refine hKK1 _ _ ?_
  try clear hKK1 KK1
  refine Lwp_seq fun KK2 hKK2 => ?_
  refine Lwp_seq fun KK3 hKK3 => ?_
  refine LregionG [none, none, none] (by kernel_rfl) (by kernel_rfl) ?_
  simp -dsimp only [go_sem, ↓reduceIte]
  repeat with_reducible refine And.intro (by first | omega | decide) ?_
  refine hKK3 _ _ ?_
  try clear hKK3 KK3
  refine Lwp_block ?_
  refine Lwp_loopK [3, 6, 7, 8] (fun m us S' => ∃ k : Nat, us = [V (chkN (bs.take k)), .sl f (bs.map u8c), V bs.length, V k] ∧ S' = S ∧ k ≤ bs.length ∧ m = bs.length - k) bs.length rfl (⟨0, by simp only [go_sem, ↓reduceIte, Int.natCast_zero]; rfl, rfl, Nat.zero_le _, rfl⟩) ?_
  rintro m us S2 ⟨k, rfl, rfl, hk, hm⟩ II hII
  refine Lwp_seq fun KK4 hKK4 => ?_
  refine LregionG [none] (by kernel_rfl) (by kernel_rfl) ?_
  simp -dsimp only [go_sem, ↓reduceIte]
  repeat with_reducible refine And.intro (by first | omega | decide) ?_
  refine hKK4 _ _ ?_
  try clear hKK4 KK4
  refine Lwp_seq fun KK5 hKK5 => ?_
  refine Lwp_cond (by simp only [go_sem, ↓reduceIte]; rfl) (fun ht => ?_) (fun hf => ?_)
  · skip
    have hk : k < bs.length := by simpa using ht
    have hb : (bs.getD k 0).toNat < 256 := (bs.getD k 0).toNat_lt
    have e1 := schk_step (chkN (bs.take k)) (bs.getD k 0).toNat (chkN_lt _) hb
    have e0 := u8c_getD hk
    have e5 : (bs.map u8c)[k]? = some [.int .u8 (bs.getD k 0).toNat] := by
      rw [List.getElem?_map, List.getD_eq_getElem?_getD, List.getElem?_eq_getElem hk]; rfl
    rw [← chkN_take hk] at e1
    have e2 : IntKind.i64.wrap ((k : Int) + 1) = ((k + 1 : Nat) : Int) := w64 (by omega) (by omega)
    have e3 : IntKind.i64.wrap (((bs.getD k 0).toNat : Nat) : Int) = (((bs.getD k 0).toNat : Nat) : Int) := w64 (by omega) (by omega)
    refine Lwp_skip ?_
    try simp -dsimp only [go_sem, ↓reduceIte]
    refine hKK5 _ _ ?_
    try clear hKK5 KK5
    refine Lwp_seq fun KK6 hKK6 => ?_
    refine Lwp_block ?_
    refine Lwp_seq fun KK7 hKK7 => ?_
    refine LregionG [none, none, none] (by kernel_rfl) (by kernel_rfl) ?_
    simp -dsimp only [go_sem, ↓reduceIte, e0]
    repeat with_reducible refine And.intro (by first | omega | decide) ?_
    refine hKK7 _ _ ?_
    try clear hKK7 KK7
    refine LregionG [none, none, none, none, none, none, none] (by kernel_rfl) (by kernel_rfl) ?_
    simp -dsimp only [go_sem, ↓reduceIte, e1, e3]
    repeat with_reducible refine And.intro (by first | omega | decide) ?_
    refine hKK6 _ _ ?_
    try clear hKK6 KK6
    refine LregionG [none, none] (by kernel_rfl) (by kernel_rfl) ?_
    simp -dsimp only [go_sem, ↓reduceIte, e2]
    repeat with_reducible refine And.intro (by first | omega | decide) ?_
    exact hII (bs.length - (k + 1)) _ _ (by omega) ⟨k + 1, rfl, rfl, hk, rfl⟩
  · skip
    obtain rfl : k = bs.length := Nat.le_antisymm hk (Nat.le_of_not_lt (by simpa using hf))
    rw [List.take_length]
    refine Lwp_exit ?_
    simp -dsimp only [go_sem, ↓reduceIte]
    refine hKK2 _ _ ?_
    try clear hKK2 KK2
    refine Lwp_seq fun KK8 hKK8 => ?_
    refine LregionG [none, none] (by kernel_rfl) (by kernel_rfl) ?_
    simp -dsimp only [go_sem, ↓reduceIte]
    repeat with_reducible refine And.intro (by first | omega | decide) ?_
    refine hKK8 _ _ ?_
    try clear hKK8 KK8
    refine Lwp_ret ?_
    simp only [LThen, LBlock, LPost, Try.results27]
    simp -dsimp only [go_sem, ↓reduceIte]
    refine ret_self (by simp only [go_sem, ↓reduceIte, LV.lt, ltL, ltLL]) ?_
    try simp only [go_sem, ↓reduceIte]
    exact hRR _ _ ⟨rfl, rfl⟩

set_option maxHeartbeats 400000 in
theorem SChk_ref {S : LS} (bs : List UInt8) (hn : bs.length ≤ 1099511627776) (id : Nat) (hid : S[id]? = some (some (1, bs.map u8c))) : LCalls Try.prog 27 [.ref id 0 bs.length] S (fun r S' => r = V (chkN bs) ∧ S' = S) := by
  refine LCalls_introK 0 Try.func27 rfl (by kernel_rfl) rfl fun RR hRR => ?_
  refine Lwp_seq fun KK0 hKK0 => ?_
  refine LregionG [none] (by kernel_rfl) (by kernel_rfl) ?_
  simp -dsimp only [go_sem, ↓reduceIte]
  repeat with_reducible refine And.intro (by first | omega | decide) ?_
  refine hKK0 _ _ ?_
  try clear hKK0 KK0
  refine Lwp_seq fun KK1 hKK1 => ?_
  refine LregionG [none] (by kernel_rfl) (by kernel_rfl) ?_
  simp -dsimp only [go_sem, ↓reduceIte]
  repeat with_reducible refine And.intro (by first | omega | decide) ?_
  refine hKK1 _ _ ?_
  try clear hKK1 KK1
  refine Lwp_seq fun KK2 hKK2 => ?_
  refine Lwp_seq fun KK3 hKK3 => ?_
  refine LregionG [none, none, none] (by kernel_rfl) (by kernel_rfl) ?_
  simp -dsimp only [go_sem, ↓reduceIte]
  repeat with_reducible refine And.intro (by first | omega | decide) ?_
  refine hKK3 _ _ ?_
  try clear hKK3 KK3
  refine Lwp_block ?_
  refine Lwp_loopK [3, 6, 7, 8] (fun m us S' => ∃ k : Nat, us = [V (chkN (bs.take k)), .ref id 0 bs.length, V bs.length, V k] ∧ S' = S ∧ k ≤ bs.length ∧ m = bs.length - k) bs.length rfl (⟨0, by simp only [go_sem, ↓reduceIte, Int.natCast_zero]; rfl, rfl, Nat.zero_le _, rfl⟩) ?_
  rintro m us S2 ⟨k, rfl, rfl, hk, hm⟩ II hII
  refine Lwp_seq fun KK4 hKK4 => ?_
  refine LregionG [none] (by kernel_rfl) (by kernel_rfl) ?_
  simp -dsimp only [go_sem, ↓reduceIte]
  repeat with_reducible refine And.intro (by first | omega | decide) ?_
  refine hKK4 _ _ ?_
  try clear hKK4 KK4
  refine Lwp_seq fun KK5 hKK5 => ?_
  refine Lwp_cond (by simp only [go_sem, ↓reduceIte]; rfl) (fun ht => ?_) (fun hf => ?_)
  · skip
    have hk : k < bs.length := by simpa using ht
    have hb : (bs.getD k 0).toNat < 256 := (bs.getD k 0).toNat_lt
    have e1 := schk_step (chkN (bs.take k)) (bs.getD k 0).toNat (chkN_lt _) hb
    have e0 := u8c_getD hk
    have e5 : (bs.map u8c)[k]? = some [.int .u8 (bs.getD k 0).toNat] := by
      rw [List.getElem?_map, List.getD_eq_getElem?_getD, List.getElem?_eq_getElem hk]; rfl
    rw [← chkN_take hk] at e1
    have e2 : IntKind.i64.wrap ((k : Int) + 1) = ((k + 1 : Nat) : Int) := w64 (by omega) (by omega)
    have e3 : IntKind.i64.wrap (((bs.getD k 0).toNat : Nat) : Int) = (((bs.getD k 0).toNat : Nat) : Int) := w64 (by omega) (by omega)
    refine Lwp_skip ?_
    try simp -dsimp only [go_sem, ↓reduceIte]
    refine hKK5 _ _ ?_
    try clear hKK5 KK5
    refine Lwp_seq fun KK6 hKK6 => ?_
    refine Lwp_block ?_
    refine Lwp_seq fun KK7 hKK7 => ?_
    refine LregionG [none, none, none] (by kernel_rfl) (by kernel_rfl) ?_
    simp -dsimp only [go_sem, ↓reduceIte, e0, hid, Option.join_some, Nat.zero_add, e5]
    repeat with_reducible refine And.intro (by first | omega | decide) ?_
    refine hKK7 _ _ ?_
    try clear hKK7 KK7
    refine LregionG [none, none, none, none, none, none, none] (by kernel_rfl) (by kernel_rfl) ?_
    simp -dsimp only [go_sem, ↓reduceIte, e1, e3]
    repeat with_reducible refine And.intro (by first | omega | decide) ?_
    refine hKK6 _ _ ?_
    try clear hKK6 KK6
    refine LregionG [none, none] (by kernel_rfl) (by kernel_rfl) ?_
    simp -dsimp only [go_sem, ↓reduceIte, e2]
    repeat with_reducible refine And.intro (by first | omega | decide) ?_
    exact hII (bs.length - (k + 1)) _ _ (by omega) ⟨k + 1, rfl, rfl, hk, rfl⟩
  · skip
    obtain rfl : k = bs.length := Nat.le_antisymm hk (Nat.le_of_not_lt (by simpa using hf))
    rw [List.take_length]
    refine Lwp_exit ?_
    simp -dsimp only [go_sem, ↓reduceIte]
    refine hKK2 _ _ ?_
    try clear hKK2 KK2
    refine Lwp_seq fun KK8 hKK8 => ?_
    refine LregionG [none, none] (by kernel_rfl) (by kernel_rfl) ?_
    simp -dsimp only [go_sem, ↓reduceIte]
    repeat with_reducible refine And.intro (by first | omega | decide) ?_
    refine hKK8 _ _ ?_
    try clear hKK8 KK8
    refine Lwp_ret ?_
    simp only [LThen, LBlock, LPost, Try.results27]
    simp -dsimp only [go_sem, ↓reduceIte]
    refine ret_self (by simp only [go_sem, ↓reduceIte, LV.lt, ltL, ltLL]) ?_
    try simp only [go_sem, ↓reduceIte]
    exact hRR _ _ ⟨rfl, rfl⟩


theorem SChk_ok {S : LS} {u : LV} {bs : List UInt8} (h : Rd S u bs) (hn : bs.length ≤ 1099511627776) : LCalls Try.prog 27 [u] S (fun r S' => r = V (chkN bs) ∧ S' = S) := by
  rcases h with ⟨f, rfl⟩ | ⟨id, rfl, hid⟩
  · exact SChk_sl bs hn f
  · exact SChk_ref bs hn id hid
theorem or_step (s b : Nat) (hs : s < 72057594037927936) (hb : b < 256) : IntKind.u64.wrap ((BitVec.ofInt IntKind.u64.bits (IntKind.u64.wrap ((s : Int) * 256)) ||| BitVec.ofInt IntKind.u64.bits (b : Int)).toNat : Int) = ((s * 256 + b : Nat) : Int) := by
  have e1 : IntKind.u64.wrap ((s : Int) * 256) = ((s * 256 : Nat) : Int) := by rw [wu64 (by omega) (by omega)]; omega
  have h2 : 2 ^ 8 * s + b = 2 ^ 8 * s ||| b := Nat.two_pow_add_eq_or_of_lt hb s
  have e : (BitVec.ofInt IntKind.u64.bits ((s * 256 : Nat) : Int) ||| BitVec.ofInt IntKind.u64.bits (b : Int)).toNat = s * 256 + b := by
    rw [BitVec.toNat_or, BitVec.ofInt_natCast, BitVec.ofInt_natCast, BitVec.toNat_ofNat, BitVec.toNat_ofNat]
    have e3 : (2 : Nat) ^ IntKind.u64.bits = 18446744073709551616 := rfl
    rw [e3, Nat.mod_eq_of_lt (by omega), Nat.mod_eq_of_lt (by omega), show s * 256 = 2 ^ 8 * s by omega, ← h2]
  rw [e1, e, wu64 (by omega) (by omega)]
theorem num_take {bs : List UInt8} {k : Nat} (h : k < bs.length) : num (bs.take (k + 1)) = num (bs.take k) * 256 + (bs.getD k 0).toNat := by
  unfold num
  rw [List.take_succ_eq_append_getElem h, List.foldl_append, List.getD_eq_getElem?_getD, List.getElem?_eq_getElem h]
  rfl

set_option maxHeartbeats 400000 in
theorem SGet_ok {S : LS} (bs : List UInt8) (hn : bs.length ≤ 8) (f : Bool) : LCalls Try.prog 31 [.sl f (bs.map u8c)] S (fun r S' => r = .int .u64 (num bs) ∧ S' = S) := by
  refine LCalls_introK 0 Try.func31 rfl (by kernel_rfl) rfl fun RR hRR => ?_
  refine Lwp_seq fun KK0 hKK0 => ?_
  refine LregionG [none] (by kernel_rfl) (by kernel_rfl) ?_
  simp -dsimp only [go_sem, ↓reduceIte]
  repeat with_reducible refine And.intro (by first | omega | decide) ?_
  refine hKK0 _ _ ?_
  try clear hKK0 KK0
  refine Lwp_seq fun KK1 hKK1 => ?_
  refine LregionG [none] (by kernel_rfl) (by kernel_rfl) ?_
  simp -dsimp only [go_sem, ↓reduceIte]
  repeat with_reducible refine And.intro (by first | omega | decide) ?_
  refine hKK1 _ _ ?_
  try clear hKK1 KK1
  refine Lwp_seq fun KK2 hKK2 => ?_
  refine Lwp_seq fun KK3 hKK3 => ?_
  refine LregionG [none, none, none] (by kernel_rfl) (by kernel_rfl) ?_
  simp -dsimp only [go_sem, ↓reduceIte]
  repeat with_reducible refine And.intro (by first | omega | decide) ?_
  refine hKK3 _ _ ?_
  try clear hKK3 KK3
  refine Lwp_block ?_
  refine Lwp_loopK [3, 6, 7, 8] (fun m us S' => ∃ k : Nat, us = [.int .u64 (num (bs.take k)), .sl f (bs.map u8c), V bs.length, V k] ∧ S' = S ∧ k ≤ bs.length ∧ m = bs.length - k) bs.length rfl (⟨0, by simp only [go_sem, ↓reduceIte, Int.natCast_zero]; rfl, rfl, Nat.zero_le _, rfl⟩) ?_
  rintro m us S2 ⟨k, rfl, rfl, hk, hm⟩ II hII
  refine Lwp_seq fun KK4 hKK4 => ?_
  refine LregionG [none] (by kernel_rfl) (by kernel_rfl) ?_
  simp -dsimp only [go_sem, ↓reduceIte]
  repeat with_reducible refine And.intro (by first | omega | decide) ?_
  refine hKK4 _ _ ?_
  try clear hKK4 KK4
  refine Lwp_seq fun KK5 hKK5 => ?_
  refine Lwp_cond (by simp only [go_sem, ↓reduceIte]; rfl) (fun ht => ?_) (fun hf => ?_)
  · skip
    have hk : k < bs.length := by simpa using ht
    have hb : (bs.getD k 0).toNat < 256 := (bs.getD k 0).toNat_lt
    have e0 := u8c_getD hk
    have e2 : IntKind.i64.wrap ((k : Int) + 1) = ((k + 1 : Nat) : Int) := w64 (by omega) (by omega)
    have e7 : num (bs.take k) < 72057594037927936 := by
      refine Nat.lt_of_lt_of_le (num_lt _) ?_
      rw [List.length_take, Nat.min_eq_left (Nat.le_of_lt hk)]
      exact Nat.le_trans (Nat.pow_le_pow_right (by decide) (show k ≤ 7 by omega)) (by decide)
    have e6 := or_step (num (bs.take k)) (bs.getD k 0).toNat e7 hb
    rw [← num_take hk] at e6
    have e3 : IntKind.u64.wrap (((bs.getD k 0).toNat : Nat) : Int) = (((bs.getD k 0).toNat : Nat) : Int) := wu64 (by omega) (by omega)
    refine Lwp_skip ?_
    try simp -dsimp only [go_sem, ↓reduceIte]
    refine hKK5 _ _ ?_
    try clear hKK5 KK5
    refine Lwp_seq fun KK6 hKK6 => ?_
    refine Lwp_block ?_
    refine Lwp_seq fun KK7 hKK7 => ?_
    refine LregionG [none, none, none] (by kernel_rfl) (by kernel_rfl) ?_
    simp -dsimp only [go_sem, ↓reduceIte, e0]
    repeat with_reducible refine And.intro (by first | omega | decide) ?_
    refine hKK7 _ _ ?_
    try clear hKK7 KK7
    refine LregionG [none, none, none, none, none, none] (by kernel_rfl) (by kernel_rfl) ?_
    simp -dsimp only [go_sem, ↓reduceIte, e3, e6]
    repeat with_reducible refine And.intro (by first | omega | decide) ?_
    refine hKK6 _ _ ?_
    try clear hKK6 KK6
    refine LregionG [none, none] (by kernel_rfl) (by kernel_rfl) ?_
    simp -dsimp only [go_sem, ↓reduceIte, e2]
    repeat with_reducible refine And.intro (by first | omega | decide) ?_
    exact hII (bs.length - (k + 1)) _ _ (by omega) ⟨k + 1, rfl, rfl, hk, rfl⟩
  · skip
    obtain rfl : k = bs.length := Nat.le_antisymm hk (Nat.le_of_not_lt (by simpa using hf))
    rw [List.take_length]
    refine Lwp_exit ?_
    simp -dsimp only [go_sem, ↓reduceIte]
    refine hKK2 _ _ ?_
    try clear hKK2 KK2
    refine Lwp_seq fun KK8 hKK8 => ?_
    refine LregionG [none, none] (by kernel_rfl) (by kernel_rfl) ?_
    simp -dsimp only [go_sem, ↓reduceIte]
    repeat with_reducible refine And.intro (by first | omega | decide) ?_
    refine hKK8 _ _ ?_
    try clear hKK8 KK8
    refine Lwp_ret ?_
    simp only [LThen, LBlock, LPost, Try.results31]
    simp -dsimp only [go_sem, ↓reduceIte]
    refine ret_self (by simp only [go_sem, ↓reduceIte, LV.lt, ltL, ltLL]) ?_
    try simp only [go_sem, ↓reduceIte]
    exact hRR _ _ ⟨rfl, rfl⟩

end Go.Proofs.Ytdhngmldmalbbaa
end
section
set_option linter.all false
namespace Go.Proofs.Ytdhngmldmalbbaa
open Go.Lift Go.RowKit Go.Store
set_option linter.unusedSimpArgs false
set_option linter.unusedVariables false

/-- the writer. -/
def wW (rf : Bool) : Wk where
  ty := 83
  St := List UInt8
  inv := fun S w own bs => ∃ u, S[w]? = some (some (1, [[u]])) ∧ Acc S u bs ∧ w ∉ rowIds u ∧ own = w :: rowIds u ∧ (rf = true → rowIds u ≠ [])
  fits := fun bs => bs.length ≤ 1073741824
  int := fun st v => (v, st ++ be 8 (u64 v))
  word := fun st v => (v, st ++ be 8 v)
  bool := fun st b => (b, st ++ [if b then 1 else 0])
  str := fun st s => (s, st ++ (be 4 s.size ++ s.data.toList))
  count := fun st n => (n, st ++ be 4 n)
  fInt := 115
  fWord := 117
  fBool := 113
  fText := 116
  fCount := 114
theorem Acc.lt {S : LS} {u : LV} {bs : List UInt8} (h : Acc S u bs) : ∀ id ∈ rowIds u, id < S.length := fun id hid => (RowS.lo h id hid).2
theorem Acc.cells {S : LS} {u : LV} {bs : List UInt8} (h : Acc S u bs) : u.cells? = some [u] := by
  rcases h.2 with rfl | ⟨id, -, rfl, -⟩ <;> rfl
/-- what was appended is kept by the writer. -/
theorem wstep {rf : Bool} {S S2 : LS} {w : Nat} {u r : LV} {bs ys : List UInt8} (hw : S[w]? = some (some (1, [[u]]))) (hwu : w ∉ rowIds u) (hrf : rf = true → rowIds u ≠ []) (hp : PutR S u bs ys r S2) :
    (wW rf).inv (S2.set w (some (1, [[r]]))) w (w :: rowIds r) (bs ++ ys) ∧ Keeps S (S2.set w (some (1, [[r]]))) (w :: rowIds u) ∧ (∀ id ∈ w :: rowIds r, id ∈ w :: rowIds u ∨ S.length ≤ id) ∧ S2[w]? = some (some (1, [[u]])) := by
  obtain ⟨h1, h2, h3, h4⟩ := hp
  have hwl := lt_of_get hw
  have hw2 := h2.get hw hwu
  have hwr : w ∉ rowIds r := fun h => (h3 w h).elim hwu (fun h => by omega)
  refine ⟨⟨r, List.getElem?_set_self (lt_of_get hw2), RowS.mono h1 (Nat.le_refl _) (fun id hid b hb => ?_), hwr, rfl, fun h => h4 (hrf h)⟩, ⟨by rw [List.length_set]; exact h2.1, fun j hj hm => ?_⟩, fun id hid => ?_, hw2⟩
  · rw [List.getElem?_set_ne (fun e => hwr (by rw [e]; exact hid))]; exact hb
  · simp only [List.mem_cons, not_or] at hm
    rw [List.getElem?_set_ne (fun e => hm.1 e.symm)]; exact h2.2 j hj hm.2
  · rcases List.mem_cons.1 hid with rfl | hid
    · exact .inl (List.mem_cons_self ..)
    · exact (h3 id hid).imp_left (fun h => List.mem_cons_of_mem _ h)
theorem wprim {rf : Bool} {S S2 : LS} {w l n : Nat} {u r : LV} {bs ys : List UInt8} {pre us post : List LV} {s : Sch} (hok : ok s us) (hS : S[l]? = some (some (n, [pre ++ (us ++ post)]))) (hl : l ∉ w :: rowIds u) (hw : S[w]? = some (some (1, [[u]]))) (hwu : w ∉ rowIds u) (hrf : rf = true → rowIds u ≠ []) (hp : PutR S u bs ys r S2)
    (h1 : wal (wW rf) s us bs = (nz s us, bs ++ ys)) : WP (wW rf) S w l n pre (w :: rowIds u) s us bs post (S2.set w (some (1, [[r]]))) := by
  obtain ⟨g1, g2, g3, -⟩ := wstep hw hwu hrf hp
  exact ⟨hok, w :: rowIds r, us, by rw [h1]; exact g1, by rw [h1], hok, g2.get hS hl, g2.mono (fun j hj => List.mem_cons_of_mem _ hj), g3⟩

set_option maxHeartbeats 400000 in
theorem WInt_ok {rf : Bool} : WOk (wW rf) aP 115 sI := by
  refine WOk_intro 0 Try.func115 rfl (by kernel_rfl) (fun _ _ _ => rfl) fun S w l n off pre us post own st RR hi hl hS hpre hok hfit hRR => ?_
  have hlS := lt_of_get hS
  obtain ⟨bs, rfl⟩ : ∃ b : List UInt8, b = st := ⟨st, rfl⟩
  obtain ⟨u, hw, hacc, hwu, rfl, hrf⟩ := hi
  obtain ⟨v, us, rfl, iv, h0⟩ := ok_int hok
  obtain rfl := ok_nil h0
  obtain ⟨cells, hcells⟩ : ∃ c, c = pre ++ ([V v] ++ post) := ⟨_, rfl⟩
  have hc1 : off < cells.length := by rw [hcells, ← hpre]; simp
  have hc2 : cells.getD off .any = V v := by rw [hcells, ← hpre]; simp [List.getD_eq_getElem?_getD]
  have hlw : l ≠ w := fun e => hl (e ▸ List.mem_cons_self ..)
  have hlu : l ∉ rowIds u := fun e => hl (List.mem_cons_of_mem _ e)
  have hSc := hS
  rw [← hcells] at hSc
  clear h0
  have e1 := u64_wrap v
  refine LdrawE [0,1,2,3,4,5,6,7,8,9,10,11,12] [(w, (1, [[u]])), (l, (n, [cells]))] (some 12) (by kernel_rfl) (by kernel_rfl) (by kernel_rfl) (by kernel_rfl) (by simp [Watch.holds, hw, hSc]) ?_
  simp -dsimp only [go_sem, ↓reduceIte, hc1, hc2, hlw, e1]
  repeat with_reducible refine And.intro (by first | omega | decide | assumption) ?_
  have hfl : (bs ++ (be 8 (u64 v))).length ≤ 1073741824 := hfit
  simp only [List.length_append, be_length] at hfl
  refine LCalls.k (SPut8 (u64 v) (u64_lt v) S u bs hacc (by simp only [be_length]; omega)) ?_
  rintro r S2 hp
  have hrc := hp.1.cells
  simp only [LV.cells?] at hrc
  obtain ⟨q1, q2, q3, hw2⟩ := wstep hw hwu hrf hp
  have hl2 : S2[l]? = some (some (n, [cells])) := hp.2.1.get hSc hlu
  simp -dsimp only [go_sem, ↓reduceIte, List.mem_cons, forall_eq_or_imp, hrc, hw2, hl2]
  simp only [LThen, LBlock, LPost, Try.results115]
  simp -dsimp only [go_sem, ↓reduceIte]
  exact ret_keep (hRR _ _ (wprim hok hS hl hw hwu hrf hp (by simp [wal, nz, wW, intOf, natOf, boolOf, bytesOf, sI, sStr])))

set_option maxHeartbeats 400000 in
theorem WWord_ok {rf : Bool} : WOk (wW rf) aP 117 (.word .nil) := by
  refine WOk_intro 0 Try.func117 rfl (by kernel_rfl) (fun _ _ _ => rfl) fun S w l n off pre us post own st RR hi hl hS hpre hok hfit hRR => ?_
  have hlS := lt_of_get hS
  obtain ⟨bs, rfl⟩ : ∃ b : List UInt8, b = st := ⟨st, rfl⟩
  obtain ⟨u, hw, hacc, hwu, rfl, hrf⟩ := hi
  obtain ⟨v, us, rfl, iv, h0⟩ := ok_word hok
  obtain rfl := ok_nil h0
  obtain ⟨cells, hcells⟩ : ∃ c, c = pre ++ ([.int .u64 v] ++ post) := ⟨_, rfl⟩
  have hc1 : off < cells.length := by rw [hcells, ← hpre]; simp
  have hc2 : cells.getD off .any = .int .u64 v := by rw [hcells, ← hpre]; simp [List.getD_eq_getElem?_getD]
  have hlw : l ≠ w := fun e => hl (e ▸ List.mem_cons_self ..)
  have hlu : l ∉ rowIds u := fun e => hl (List.mem_cons_of_mem _ e)
  have hSc := hS
  rw [← hcells] at hSc
  clear h0
  refine LdrawE [0,1,2,3,4,5,6,7,8,9,10,11] [(w, (1, [[u]])), (l, (n, [cells]))] (some 11) (by kernel_rfl) (by kernel_rfl) (by kernel_rfl) (by kernel_rfl) (by simp [Watch.holds, hw, hSc]) ?_
  simp -dsimp only [go_sem, ↓reduceIte, hc1, hc2, hlw]
  repeat with_reducible refine And.intro (by first | omega | decide | assumption) ?_
  have hfl : (bs ++ (be 8 v)).length ≤ 1073741824 := hfit
  simp only [List.length_append, be_length] at hfl
  refine LCalls.k (SPut8 v iv S u bs hacc (by simp only [be_length]; omega)) ?_
  rintro r S2 hp
  have hrc := hp.1.cells
  simp only [LV.cells?] at hrc
  obtain ⟨q1, q2, q3, hw2⟩ := wstep hw hwu hrf hp
  have hl2 : S2[l]? = some (some (n, [cells])) := hp.2.1.get hSc hlu
  simp -dsimp only [go_sem, ↓reduceIte, List.mem_cons, forall_eq_or_imp, hrc, hw2, hl2]
  simp only [LThen, LBlock, LPost, Try.results117]
  simp -dsimp only [go_sem, ↓reduceIte]
  exact ret_keep (hRR _ _ (wprim hok hS hl hw hwu hrf hp (by simp [wal, nz, wW, intOf, natOf, boolOf, bytesOf, sI, sStr])))

set_option maxHeartbeats 400000 in
theorem WText_ok {rf : Bool} : WOk (wW rf) aP 116 sStr := by
  refine WOk_intro 0 Try.func116 rfl (by kernel_rfl) (fun _ _ _ => rfl) fun S w l n off pre us post own st RR hi hl hS hpre hok hfit hRR => ?_
  have hlS := lt_of_get hS
  obtain ⟨bs, rfl⟩ : ∃ b : List UInt8, b = st := ⟨st, rfl⟩
  obtain ⟨u, hw, hacc, hwu, rfl, hrf⟩ := hi
  obtain ⟨s, us, rfl, hs, h0⟩ := ok_str hok
  obtain rfl := ok_nil h0
  obtain ⟨cells, hcells⟩ : ∃ c, c = pre ++ ([.str s] ++ post) := ⟨_, rfl⟩
  have hc1 : off < cells.length := by rw [hcells, ← hpre]; simp
  have hc2 : cells.getD off .any = .str s := by rw [hcells, ← hpre]; simp [List.getD_eq_getElem?_getD]
  have hlw : l ≠ w := fun e => hl (e ▸ List.mem_cons_self ..)
  have hlu : l ∉ rowIds u := fun e => hl (List.mem_cons_of_mem _ e)
  have hSc := hS
  rw [← hcells] at hSc
  clear h0
  have e1 := u64_wrapN (n := s.size) (by omega)
  have hsl : s.data.toList.length = s.size := by rw [Array.length_toList]; rfl
  have hfl : (bs ++ (be 4 s.size ++ s.data.toList)).length ≤ 1073741824 := hfit
  simp only [List.length_append, be_length, hsl] at hfl
  refine LdrawE [0,1,2,3,4,5,6,7,8,9,11,12,13,10,14,15,16,17] [(w, (1, [[u]])), (l, (n, [cells]))] (some 17) (by kernel_rfl) (by kernel_rfl) (by kernel_rfl) (by kernel_rfl) (by simp [Watch.holds, hw, hSc]) ?_
  simp -dsimp only [go_sem, ↓reduceIte, hc1, hc2, hlw, e1]
  repeat with_reducible refine And.intro (by first | omega | decide | assumption) ?_
  refine LCalls.k (SPut4 s.size (by clear e1; omega) S u bs hacc (by simp only [be_length]; clear e1; omega)) ?_
  rintro r1 S1 hp1
  obtain ⟨q1, q2, q3, hw2⟩ := wstep hw hwu hrf hp1
  have hl2 : S1[l]? = some (some (n, [cells])) := hp1.2.1.get hSc hlu
  simp -dsimp only [go_sem, ↓reduceIte, List.mem_cons, forall_eq_or_imp, hw2, hl2]
  repeat with_reducible refine And.intro (by first | omega | decide | assumption) ?_
  refine PutR.apd (zs := s.data.toList) hp1 rfl (by simp only [go_sem]; rfl) (by simp only [go_sem]; first | exact ⟨rfl, rfl⟩ | exact ⟨rfl, rfl, rfl⟩ | rfl) (by simp only [go_sem]) (by simp only [go_sem, ↓reduceIte]) (by simp only [go_sem, ↓reduceIte]) (by simp only [be_length, hsl]; clear e1; omega) ?_
  rintro r S2 hp
  have hrc := hp.1.cells
  simp only [LV.cells?] at hrc
  obtain ⟨q4, q5, q6, hw3⟩ := wstep hw hwu hrf hp
  have hl3 : S2[l]? = some (some (n, [cells])) := hp.2.1.get hSc hlu
  simp -dsimp only [go_sem, ↓reduceIte, List.mem_cons, forall_eq_or_imp, hrc, hw3, hl3]
  simp only [LThen, LBlock, LPost, Try.results116]
  simp -dsimp only [go_sem, ↓reduceIte]
  exact ret_keep (hRR _ _ (wprim hok hS hl hw hwu hrf hp (by simp [wal, nz, wW, bytesOf, sStr])))

set_option maxHeartbeats 400000 in
theorem WBool_ok {rf : Bool} : WOk (wW rf) aP 113 (.bool .nil) := by
  refine WOk_intro 0 Try.func113 rfl (by kernel_rfl) (fun _ _ _ => rfl) fun S w l n off pre us post own st RR hi hl hS hpre hok hfit hRR => ?_
  have hlS := lt_of_get hS
  obtain ⟨bs, rfl⟩ : ∃ b : List UInt8, b = st := ⟨st, rfl⟩
  obtain ⟨u, hw, hacc, hwu, rfl, hrf⟩ := hi
  obtain ⟨b, us, rfl, h0⟩ := ok_bool hok
  obtain rfl := ok_nil h0
  obtain ⟨cells, hcells⟩ : ∃ c, c = pre ++ ([.bool b] ++ post) := ⟨_, rfl⟩
  have hc1 : off < cells.length := by rw [hcells, ← hpre]; simp
  have hc2 : cells.getD off .any = .bool b := by rw [hcells, ← hpre]; simp [List.getD_eq_getElem?_getD]
  have hlw : l ≠ w := fun e => hl (e ▸ List.mem_cons_self ..)
  have hlu : l ∉ rowIds u := fun e => hl (List.mem_cons_of_mem _ e)
  have hSc := hS
  rw [← hcells] at hSc
  clear h0
  have hfl : (bs ++ [if b then 1 else 0]).length ≤ 1073741824 := hfit
  simp only [List.length_append, List.length_cons, List.length_nil] at hfl
  refine Lwp_seq fun KK0 hKK0 => ?_
  refine LregionG [none] (by kernel_rfl) (by kernel_rfl) ?_
  simp -dsimp only [go_sem, ↓reduceIte, hw]
  repeat with_reducible refine And.intro (by first | omega | decide) ?_
  refine hKK0 _ _ ?_
  try clear hKK0 KK0
  refine Lwp_seq fun KK1 hKK1 => ?_
  refine Lwp_seq fun KK2 hKK2 => ?_
  refine LregionG [none, none, none] (by kernel_rfl) (by kernel_rfl) ?_
  simp -dsimp only [go_sem, ↓reduceIte, hw, hSc, hc1, hc2]
  repeat with_reducible refine And.intro (by first | omega | decide) ?_
  refine hKK2 _ _ ?_
  try clear hKK2 KK2
  refine Lwp_cond (by simp only [go_sem, ↓reduceIte, hw]; rfl) (fun ht => ?_) (fun hf => ?_)
  · skip
    subst ht
    refine LregionG [none] (by kernel_rfl) (by kernel_rfl) ?_
    simp -dsimp only [go_sem, ↓reduceIte, hw]
    repeat with_reducible refine And.intro (by first | omega | decide) ?_
    refine hKK1 _ _ ?_
    try clear hKK1 KK1
    refine LregionG [none, none, none, none, none, none, none, none, none, none, none] (by kernel_rfl) (by kernel_rfl) ?_
    simp -dsimp only [go_sem, ↓reduceIte, hw]
    repeat with_reducible refine And.intro (by first | omega | decide | assumption) ?_
    first | refine PutR.apd (zs := [0]) (PutR.refl hacc) rfl (by simp only [go_sem]; rfl) (by simp only [go_sem]; first | exact ⟨rfl, rfl⟩ | exact ⟨rfl, rfl, rfl⟩ | rfl) (by simp only [go_sem]) (by simp only [go_sem, ↓reduceIte]) (by simp only [go_sem, ↓reduceIte]; rfl) (by simp only [List.length_cons, List.length_nil]; omega) ?_ | refine PutR.apd (zs := [1]) (PutR.refl hacc) rfl (by simp only [go_sem]; rfl) (by simp only [go_sem]; first | exact ⟨rfl, rfl⟩ | exact ⟨rfl, rfl, rfl⟩ | rfl) (by simp only [go_sem]) (by simp only [go_sem, ↓reduceIte]) (by simp only [go_sem, ↓reduceIte]; rfl) (by simp only [List.length_cons, List.length_nil]; omega) ?_
    rintro r S2 hp
    simp only [List.nil_append] at hp
    have hrc := hp.1.cells
    simp only [LV.cells?] at hrc
    obtain ⟨q1, q2, q3, hw2⟩ := wstep hw hwu hrf hp
    have hl2 : S2[l]? = some (some (n, [cells])) := hp.2.1.get hSc hlu
    simp -dsimp only [go_sem, ↓reduceIte, hw, hrc, hw2]
    simp only [LThen, LBlock, LPost, Try.results113]
    simp -dsimp only [go_sem, ↓reduceIte, hw]
    exact ret_keep (hRR _ _ (wprim hok hS hl hw hwu hrf hp (by simp [wal, nz, wW, boolOf])))
  · skip
    subst hf
    refine Lwp_skip ?_
    try simp -dsimp only [go_sem, ↓reduceIte, hw]
    refine hKK1 _ _ ?_
    try clear hKK1 KK1
    refine LregionG [none, none, none, none, none, none, none, none, none, none, none] (by kernel_rfl) (by kernel_rfl) ?_
    simp -dsimp only [go_sem, ↓reduceIte, hw]
    repeat with_reducible refine And.intro (by first | omega | decide | assumption) ?_
    first | refine PutR.apd (zs := [0]) (PutR.refl hacc) rfl (by simp only [go_sem]; rfl) (by simp only [go_sem]; first | exact ⟨rfl, rfl⟩ | exact ⟨rfl, rfl, rfl⟩ | rfl) (by simp only [go_sem]) (by simp only [go_sem, ↓reduceIte]) (by simp only [go_sem, ↓reduceIte]; rfl) (by simp only [List.length_cons, List.length_nil]; omega) ?_ | refine PutR.apd (zs := [1]) (PutR.refl hacc) rfl (by simp only [go_sem]; rfl) (by simp only [go_sem]; first | exact ⟨rfl, rfl⟩ | exact ⟨rfl, rfl, rfl⟩ | rfl) (by simp only [go_sem]) (by simp only [go_sem, ↓reduceIte]) (by simp only [go_sem, ↓reduceIte]; rfl) (by simp only [List.length_cons, List.length_nil]; omega) ?_
    rintro r S2 hp
    simp only [List.nil_append] at hp
    have hrc := hp.1.cells
    simp only [LV.cells?] at hrc
    obtain ⟨q1, q2, q3, hw2⟩ := wstep hw hwu hrf hp
    have hl2 : S2[l]? = some (some (n, [cells])) := hp.2.1.get hSc hlu
    simp -dsimp only [go_sem, ↓reduceIte, hw, hrc, hw2]
    simp only [LThen, LBlock, LPost, Try.results113]
    simp -dsimp only [go_sem, ↓reduceIte, hw]
    exact ret_keep (hRR _ _ (wprim hok hS hl hw hwu hrf hp (by simp [wal, nz, wW, boolOf])))

set_option maxHeartbeats 400000 in
theorem WCount_ok {rf : Bool} (S : LS) (w : Nat) (own : List Nat) (bs : List UInt8) (m : Nat) (hi : (wW rf).inv S w own bs) (hm : m < 4294967296) (hfit : (bs ++ be 4 m).length ≤ 1073741824) : LCalls Try.prog 114 [.ptr w 0 0, V m] S (fun r S' => r = V m ∧ ∃ own', (wW rf).inv S' w own' (bs ++ be 4 m) ∧ Keeps S S' own ∧ ∀ id ∈ own', id ∈ own ∨ S.length ≤ id) := by
  refine LCalls_introK 0 Try.func114 rfl (by kernel_rfl) rfl fun RR hRR => ?_
  obtain ⟨u, hw, hacc, hwu, rfl, hrf⟩ := hi
  simp only [List.length_append, be_length] at hfit
  have e1 := u64_wrapN (n := m) (by omega)
  refine Lwp_seq fun KK0 hKK0 => ?_
  refine LregionG [none] (by kernel_rfl) (by kernel_rfl) ?_
  simp -dsimp only [go_sem, ↓reduceIte]
  repeat with_reducible refine And.intro (by first | omega | decide) ?_
  refine hKK0 _ _ ?_
  try clear hKK0 KK0
  refine Lwp_seq fun KK1 hKK1 => ?_
  refine LregionG [none, none, none, none, none, none, none, none, none, none, none] (by kernel_rfl) (by kernel_rfl) ?_
  simp -dsimp only [go_sem, ↓reduceIte, hw, e1]
  repeat with_reducible refine And.intro (by first | omega | decide | assumption) ?_
  refine LCalls.k (SPut4 m (by clear e1; omega) S u bs hacc (by simp only [be_length]; clear e1; omega)) ?_
  rintro r S2 hp
  obtain ⟨q1, q2, q3, hw2⟩ := wstep hw hwu hrf hp
  have hrc := hp.1.cells
  simp only [LV.cells?] at hrc
  simp -dsimp only [go_sem, ↓reduceIte, hw2, hrc]
  refine hKK1 _ _ ?_
  try clear hKK1 KK1
  refine Lwp_seq fun KK2 hKK2 => ?_
  refine LregionG [none, none] (by kernel_rfl) (by kernel_rfl) ?_
  simp -dsimp only [go_sem, ↓reduceIte]
  repeat with_reducible refine And.intro (by first | omega | decide) ?_
  refine hKK2 _ _ ?_
  try clear hKK2 KK2
  refine Lwp_ret ?_
  simp only [LThen, LBlock, LPost, Try.results114]
  simp -dsimp only [go_sem, ↓reduceIte]
  exact ret_keep (hRR _ _ ⟨rfl, _, q1, q2, q3⟩)


theorem len_le (a b : List UInt8) (h : (a ++ b).length ≤ 1073741824) : a.length ≤ 1073741824 := by rw [List.length_append] at h; omega
theorem wW_law {rf : Bool} : WkL (wW rf) where
  lt := by
    rintro S w own st ⟨u, hw, hacc, hwu, rfl, hrf⟩ id hid
    rcases List.mem_cons.1 hid with rfl | hid
    · exact lt_of_get hw
    · exact hacc.lt id hid
  keep := by
    rintro S S' w own st ids ⟨u, hw, hacc, hwu, rfl, hrf⟩ hK hd
    exact ⟨u, hK.get hw (hd w (List.mem_cons_self ..)), RowS.mono hacc (Nat.le_refl _) (fun id hid b hb => hK.get hb (hd id (List.mem_cons_of_mem _ hid))), hwu, rfl, hrf⟩
  iint := fun {st v} h => len_le (st : List UInt8) _ h
  iword := fun {st v} h => len_le (st : List UInt8) _ h
  ibool := fun {st v} h => len_le (st : List UInt8) _ h
  istr := fun {st v} h => len_le (st : List UInt8) _ h
  icount := fun {st v} h => len_le (st : List UInt8) _ h
  cnt := fun {S w own st m} _ h => h
  mInt := by kernel_rfl
  mWord := by kernel_rfl
  mBool := by kernel_rfl
  mText := by kernel_rfl
  mCount := by kernel_rfl
  hInt := WInt_ok
  hWord := WWord_ok
  hBool := WBool_ok
  hText := WText_ok
  hCount := WCount_ok

end Go.Proofs.Ytdhngmldmalbbaa
end
