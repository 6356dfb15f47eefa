/-
  A part of a proof: StoreJournals answers true for all codes, bytes and numbers, without conditions.
-/
import Derived.Test.YtdhngmldmalbbaaGreatR5
import Derived.Test.YtdhngmldmalbbaaGreatRows
import Derived.WalkKit
import Derived.ProofKit
import Derived.OpenShut
import Derived.JoinedCond
import Derived.Carry
section
set_option linter.all false
namespace Go.Proofs.YtdhngmldmalbbaaGreat
open Go.Lift Go.RowKit Go.Store
set_option linter.unusedSimpArgs false
set_option linter.unusedVariables false

/-! ### What was written is read -/
def minB : Sch → Nat
  | .nil => 0
  | .int r => 8 + minB r
  | .word r => 8 + minB r
  | .bool r => 1 + minB r
  | .str r => 4 + minB r
  | .sl _ r => 4 + minB r
def wfS : Sch → Bool
  | .nil => true
  | .int r => wfS r
  | .word r => wfS r
  | .bool r => wfS r
  | .str r => wfS r
  | .sl e r => Nat.ble 4 (minB e) && wfS e && wfS r
theorem enc_min : ∀ {s : Sch} {us : List LV}, ok s us → minB s ≤ (enc s us).length
  | .nil, [], _ => Nat.zero_le _
  | .int r, .int k v :: us, h => by simp only [ok] at h; have := enc_min h.2.2.2; simp only [minB, enc, List.length_append, be_length]; omega
  | .word r, .int k v :: us, h => by simp only [ok] at h; have := enc_min h.2.2.2; simp only [minB, enc, List.length_append, be_length]; omega
  | .bool r, .bool b :: us, h => by simp only [ok] at h; have := enc_min (s := r) h; simp only [minB, enc, List.length_cons]; omega
  | .str r, .str b :: us, h => by simp only [ok] at h; have := enc_min h.2; simp only [minB, enc, List.length_append, be_length]; omega
  | .sl e r, .sl f es :: us, h => by simp only [ok] at h; have := enc_min h.2.2; simp only [minB, enc, List.length_append, be_length]; omega
theorem fm_min {e : Sch} (he : 4 ≤ minB e) : ∀ {es : List (List LV)}, (∀ x ∈ es, ok e x) → 4 * es.length ≤ (es.flatMap (enc e)).length
  | [], _ => by simp
  | x :: es, h => by
    have h1 := enc_min (h x (List.mem_cons_self ..))
    have h2 := fm_min he (es := es) (fun y hy => h y (List.mem_cons_of_mem _ hy))
    simp only [List.length_cons, List.flatMap_cons, List.length_append]; omega
theorem rTake_app {x r : List UInt8} {k : Nat} (h : x.length = k) : rTake (x ++ r, false) k = (x, (r, false)) := by
  subst h
  rw [rTake_ok (by simp)]
  simp
theorem num_be8 {v : Nat} (h : v < 18446744073709551616) : num (be 8 v) = v := by rw [num_be]; exact Nat.mod_eq_of_lt h
theorem num_be4 {v : Nat} (h : v < 4294967296) : num (be 4 v) = v := by rw [num_be]; exact Nat.mod_eq_of_lt h
theorem s64_u64 {v : Int} (h1 : -9223372036854775808 ≤ v) (h2 : v ≤ 9223372036854775807) : s64 (u64 v) = v := by
  have : IntKind.i64.wrap ((u64 v : Nat) : Int) = v := by
    have e : ((u64 v : Nat) : Int) = v % 18446744073709551616 := by unfold u64; omega
    rw [e]
    simp only [IntKind.wrap, IntKind.signed, IntKind.bits, IntKind.max, IntKind.min]
    simp; omega
  exact this
theorem strOf_data (s : ByteArray) : strOf s.data.toList = s := rfl
theorem walR_enc : ∀ {s : Sch} {us : List LV} {rest : List UInt8}, ok s us → wfS s = true → wal rR s us ((enc s us ++ rest, false) : List UInt8 × Bool) = (nz s us, ((rest, false) : List UInt8 × Bool))
  | .nil, [], rest, _, _ => rfl
  | .int r, .int k v :: us, rest, h, hw => by
    simp only [ok] at h
    obtain ⟨rfl, h1, h2, h⟩ := h
    have e := walR_enc (rest := rest) h hw
    have t : rTake (enc (.int r) (.int .i64 v :: us) ++ rest, false) 8 = (be 8 (u64 v), (enc r us ++ rest, false)) := by
      simp only [enc, List.append_assoc]; exact rTake_app (be_length 8 _)
    show ((LV.int .i64 (s64 (num (rTake (enc (.int r) (.int .i64 v :: us) ++ rest, false) 8).1)) :: (wal rR r us (rTake (enc (.int r) (.int .i64 v :: us) ++ rest, false) 8).2).1, (wal rR r us (rTake (enc (.int r) (.int .i64 v :: us) ++ rest, false) 8).2).2) : List LV × rR.St) = _
    rw [t]; simp only []; rw [e, num_be8 (u64_lt v), s64_u64 h1 h2]; rfl
  | .word r, .int k v :: us, rest, h, hw => by
    simp only [ok] at h
    obtain ⟨rfl, h1, h2, h⟩ := h
    have e := walR_enc (rest := rest) h hw
    have t : rTake (enc (.word r) (.int .u64 v :: us) ++ rest, false) 8 = (be 8 v.toNat, (enc r us ++ rest, false)) := by
      simp only [enc, List.append_assoc]; exact rTake_app (be_length 8 _)
    show ((LV.int .u64 ((num (rTake (enc (.word r) (.int .u64 v :: us) ++ rest, false) 8).1 : Nat) : Int) :: (wal rR r us (rTake (enc (.word r) (.int .u64 v :: us) ++ rest, false) 8).2).1, (wal rR r us (rTake (enc (.word r) (.int .u64 v :: us) ++ rest, false) 8).2).2) : List LV × rR.St) = _
    rw [t]; simp only []; rw [e, num_be8 (by omega), Int.toNat_of_nonneg h1]; rfl
  | .bool r, .bool b :: us, rest, h, hw => by
    simp only [ok] at h
    have e := walR_enc (s := r) (rest := rest) h hw
    have t : rTake (enc (.bool r) (.bool b :: us) ++ rest, false) 1 = ([if b then 1 else 0], (enc r us ++ rest, false)) := by
      simp only [enc, List.cons_append]; exact rTake_app (x := [if b then 1 else 0]) rfl
    show ((LV.bool (num (rTake (enc (.bool r) (.bool b :: us) ++ rest, false) 1).1 == 1) :: (wal rR r us ((rTake (enc (.bool r) (.bool b :: us) ++ rest, false) 1).2.1, (rTake (enc (.bool r) (.bool b :: us) ++ rest, false) 1).2.2 || decide (1 < num (rTake (enc (.bool r) (.bool b :: us) ++ rest, false) 1).1))).1, (wal rR r us ((rTake (enc (.bool r) (.bool b :: us) ++ rest, false) 1).2.1, (rTake (enc (.bool r) (.bool b :: us) ++ rest, false) 1).2.2 || decide (1 < num (rTake (enc (.bool r) (.bool b :: us) ++ rest, false) 1).1))).2) : List LV × rR.St) = _
    rw [t]; simp only []
    have hb : (false || decide (1 < num [if b = true then (1 : UInt8) else 0])) = false := by cases b <;> rfl
    have hb2 : (num [if b = true then (1 : UInt8) else 0] == 1) = b := by cases b <;> rfl
    rw [hb, hb2, e]; rfl
  | .str r, .str b :: us, rest, h, hw => by
    simp only [ok] at h
    have e := walR_enc (rest := rest) h.2 hw
    have t : rTake (enc (.str r) (.str b :: us) ++ rest, false) 4 = (be 4 b.size, (b.data.toList ++ (enc r us ++ rest), false)) := by
      simp only [enc, List.append_assoc]; exact rTake_app (be_length 4 _)
    have t2 : rTake (b.data.toList ++ (enc r us ++ rest), false) b.size = (b.data.toList, (enc r us ++ rest, false)) := rTake_app (by rw [Array.length_toList]; rfl)
    show ((LV.str (strOf (rTake (rTake (enc (.str r) (.str b :: us) ++ rest, false) 4).2 (num (rTake (enc (.str r) (.str b :: us) ++ rest, false) 4).1)).1) :: (wal rR r us (rTake (rTake (enc (.str r) (.str b :: us) ++ rest, false) 4).2 (num (rTake (enc (.str r) (.str b :: us) ++ rest, false) 4).1)).2).1, (wal rR r us (rTake (rTake (enc (.str r) (.str b :: us) ++ rest, false) 4).2 (num (rTake (enc (.str r) (.str b :: us) ++ rest, false) 4).1)).2).2) : List LV × rR.St) = _
    rw [t]; simp only []; rw [num_be4 h.1, t2]; simp only []; rw [e, strOf_data]; rfl
  | .sl e r, .sl f es :: us, rest, h, hw => by
    simp only [ok] at h
    simp only [wfS, Bool.and_eq_true] at hw
    obtain ⟨⟨hm, hwe⟩, hwr⟩ := hw
    have hm4 : 4 ≤ minB e := Nat.le_of_ble_eq_true hm
    have er := walR_enc (rest := rest) h.2.2 hwr
    have hN : ∀ (es : List (List LV)) (rest : List UInt8), (∀ x ∈ es, ok e x) → walN (wal rR e) (zs e) es.length es ((es.flatMap (enc e) ++ rest, false) : List UInt8 × Bool) = (es.map (nz e), ((rest, false) : List UInt8 × Bool)) := by
      intro es
      induction es with
      | nil => intro rest _; rfl
      | cons x es ih =>
        intro rest hx
        have e1 := walR_enc (rest := es.flatMap (enc e) ++ rest) (hx x (List.mem_cons_self ..)) hwe
        have e2 := ih rest (fun y hy => hx y (List.mem_cons_of_mem _ hy))
        simp only [List.flatMap_cons, List.append_assoc, List.length_cons, walN, List.headD_cons, List.tail_cons, List.map_cons]
        rw [e1]; simp only []; rw [e2]; rfl
    have t : rTake (enc (.sl e r) (.sl f es :: us) ++ rest, false) 4 = (be 4 es.length, (es.flatMap (enc e) ++ (enc r us ++ rest), false)) := by
      simp only [enc, List.append_assoc]; exact rTake_app (be_length 4 _)
    have hc : rCount (enc (.sl e r) (.sl f es :: us) ++ rest, false) = (es.length, (es.flatMap (enc e) ++ (enc r us ++ rest), false)) := by
      unfold rCount
      rw [t]
      simp only []
      rw [num_be4 h.1, if_neg]
      have := fm_min hm4 h.2.1
      simp only [List.length_append, Bool.false_eq_true, false_or]
      omega
    show ((LV.sl false (walN (wal rR e) (zs e) (rCount (enc (.sl e r) (.sl f es :: us) ++ rest, false)).1 es (rCount (enc (.sl e r) (.sl f es :: us) ++ rest, false)).2).1 :: (wal rR r us (walN (wal rR e) (zs e) (rCount (enc (.sl e r) (.sl f es :: us) ++ rest, false)).1 es (rCount (enc (.sl e r) (.sl f es :: us) ++ rest, false)).2).2).1, (wal rR r us (walN (wal rR e) (zs e) (rCount (enc (.sl e r) (.sl f es :: us) ++ rest, false)).1 es (rCount (enc (.sl e r) (.sl f es :: us) ++ rest, false)).2).2).2) : List LV × rR.St) = _
    rw [hc]; simp only []; rw [hN es (enc r us ++ rest) h.2.1]; simp only []; rw [er]; rfl
theorem framed_len (body : List UInt8) : (framed body).length = body.length + 8 := by simp [framed, be_length]; omega
theorem b8_nat {k : Int} (h0 : 0 ≤ k) (h : k < 256) : ((b8 k).toNat : Int) = k := by
  unfold b8
  rw [UInt8.toNat_ofNat']
  omega
theorem wf_kSch {k : Int} {off : Nat} {s : Sch} (hk : kSch k = some (off, s)) : wfS s = true := by
  rcases kSch_off hk with ⟨-, rfl, rfl⟩ | ⟨-, rfl, rfl⟩ | ⟨-, rfl, rfl⟩ | ⟨-, rfl, rfl⟩ <;> rfl
/-- an entry that was written is read, whatever follows. -/
theorem decS_framed {k : Int} {off : Nat} {s : Sch} {u : List LV} {body rest : List UInt8} (hk : kSch k = some (off, s)) (hok : ok s u) (hb : body = b8 k :: enc s u) (hl : body.length + 8 ≤ 1048576) : decS (framed body ++ rest) = .inr (k, off, s, nz s u, body.length + 8) := by
  have hk14 : 0 ≤ k ∧ k < 256 := by rcases kSch_off hk with ⟨rfl, -, -⟩ | ⟨rfl, -, -⟩ | ⟨rfl, -, -⟩ | ⟨rfl, -, -⟩ <;> decide
  have hN4 : num (be 4 body.length) = body.length := num_be4 (by omega)
  have e4 : (framed body ++ rest).take 4 = be 4 body.length := by
    simp only [framed, List.append_assoc]; exact List.take_left' (be_length 4 _)
  have eN : (framed body ++ rest).take (body.length + 4) = be 4 body.length ++ body := by
    simp only [framed, List.append_assoc]
    rw [← List.append_assoc]
    exact List.take_left' (by simp [be_length]; omega)
  have eD : ((framed body ++ rest).drop (body.length + 4)).take 4 = be 4 (chkN (be 4 body.length ++ body)) := by
    have h1 : (framed body ++ rest).drop (body.length + 4) = be 4 (chkN (be 4 body.length ++ body)) ++ rest := by
      simp only [framed, List.append_assoc]
      rw [← List.append_assoc]
      exact List.drop_left' (by simp [be_length]; omega)
    rw [h1]; exact List.take_left' (be_length 4 _)
  have hlen : (framed body ++ rest).length = body.length + 8 + rest.length := by rw [List.length_append, framed_len]
  have eG : (framed body ++ rest).getD 4 0 = b8 k := by
    simp only [framed, List.append_assoc]
    rw [List.getD_eq_getElem?_getD, List.getElem?_append_right (by simp [be_length]), be_length, hb]
    rfl
  have ep : (be 4 body.length ++ body).drop 5 = enc s u := by
    rw [show (5 : Nat) = (be 4 body.length).length + 1 by rw [be_length], List.drop_append, hb]
    simp
  have hw := walR_enc (rest := []) hok (wf_kSch hk)
  have hz := zs_walR (st := ((enc s u, false) : List UInt8 × Bool)) hok (ok_zs (s := s))
  rw [List.append_nil, hz] at hw
  unfold decS
  rw [e4, hN4, hlen, eN, eD, num_be4 (by have := chkN_lt (be 4 body.length ++ body); omega), eG, b8_nat hk14.1 hk14.2, hk, ep]
  have hbl : body.length ≠ 0 := by rw [hb]; simp
  rw [if_neg (by omega), if_neg (by omega), if_neg (by omega), if_neg (by simp), if_neg hbl]
  simp only []
  rw [hw]
  simp only [List.length_nil, Nat.lt_irrefl, or_false, Bool.false_eq_true, if_false]

end Go.Proofs.YtdhngmldmalbbaaGreat
end
section
set_option linter.all false
namespace Go.Proofs.YtdhngmldmalbbaaGreat
open Go.Lift Go.RowKit Go.Store
set_option linter.unusedSimpArgs false
set_option linter.unusedVariables false

/-! ### Entries that were made are small -/
theorem fm_max {α β : Type} {f : α → List β} {m : Nat} : ∀ {es : List α}, (∀ e ∈ es, (f e).length ≤ m) → (es.flatMap f).length ≤ m * es.length
  | [], _ => by simp
  | x :: es, h => by
    have h1 := h x (List.mem_cons_self ..)
    have h2 := fm_max (f := f) (m := m) (es := es) (fun y hy => h y (List.mem_cons_of_mem _ hy))
    simp only [List.flatMap_cons, List.length_append, List.length_cons, Nat.mul_add]; omega
theorem rd_len {e : List LV} (h : ok sRd e) : (enc sRd e).length ≤ 16 := by
  obtain ⟨a, us, rfl, ha, h⟩ := ok_int h
  obtain ⟨b, us, rfl, hb, h⟩ := ok_int h
  rw [ok_nil h]; simp [enc, sRd, be_length]
theorem i_len {e : List LV} (h : ok sI e) : (enc sI e).length ≤ 8 := by
  obtain ⟨a, us, rfl, ha, h⟩ := ok_int h
  rw [ok_nil h]; simp [enc, sI, be_length]
theorem rep_len {us : List LV} (h : RepOk us) : (enc sRep us).length ≤ 100 := by
  obtain ⟨k, s, t, f, x, y, z, fl, es, rfl, -, hs, -, -, -, -, -, hn, he⟩ := h
  have := fm_max (f := enc sRd) (m := 16) (es := es) (fun e h => rd_len (he e h))
  simp only [enc, sRep, List.length_append, be_length, List.append_nil, Array.length_toList]
  have e1 : s.data.size = s.size := rfl
  omega
theorem cat_len (a1 a2 a3 a4 a5 a6 a7 a8 a9 a10 a11 a12 a13 a14 a15 a16 a17 : Nat) (l1 l2 l3 l4 l5 l6 l7 l8 : List UInt8) (h1 : l1.length ≤ 200) (h2 : l2.length ≤ 200) (h3 : l3.length ≤ 200) (h4 : l4.length ≤ 200) (h5 : l5.length ≤ 200) (h6 : l6.length ≤ 600) (h7 : l7.length ≤ 300) (h8 : l8.length ≤ 300) :
    (be 8 a1 ++ (be 8 a2 ++ (be 8 a3 ++ (be 4 a4 ++ (l1 ++ (be 4 a5 ++ (l2 ++ (be 4 a6 ++ (l3 ++ (be 4 a7 ++ (l4 ++ (be 8 a8 ++ (be 8 a9 ++ (be 8 a10 ++ (be 8 a11 ++ (be 8 a12 ++ (be 8 a13 ++ (be 4 a14 ++ (l5 ++ (be 4 a15 ++ (l6 ++ (be 4 a16 ++ (l7 ++ (be 4 a17 ++ (l8 ++ []))))))))))))))))))))))))).length ≤ 4000 := by
  simp only [List.length_append, be_length, List.length_nil]
  simp only [← Nat.add_assoc]
  omega
theorem cyc_len2 (nm tm ct rd hi lo an ra fq : Int) (fr fc fl' b1 b2 b3 g1 g2 : Bool) (er ec el v1s v2s v3s d1 d2 : List (List LV)) (h1 : (er.flatMap (enc sRep)).length ≤ 200) (h2 : (v1s.flatMap (enc sI)).length ≤ 200) (h3 : (v2s.flatMap (enc sI)).length ≤ 200) (h4 : (v3s.flatMap (enc sI)).length ≤ 200) (h5 : (d1.flatMap (enc sI)).length ≤ 200) (h6 : (d2.flatMap (enc sI)).length ≤ 600) (h7 : (ec.flatMap (enc (.sl sCnt .nil))).length ≤ 300) (h8 : (el.flatMap (enc sStr)).length ≤ 300) :
    (enc sCyc [V nm, V tm, V ct, .sl fr er, .sl b1 v1s, .sl b2 v2s, .sl b3 v3s, V hi, .int .u64 lo, V an, V ra, V rd, V fq, .sl g1 d1, .sl g2 d2, .sl fc ec, .sl fl' el]).length ≤ 4000 := by
  have hE : enc sCyc [V nm, V tm, V ct, .sl fr er, .sl b1 v1s, .sl b2 v2s, .sl b3 v3s, V hi, .int .u64 lo, V an, V ra, V rd, V fq, .sl g1 d1, .sl g2 d2, .sl fc ec, .sl fl' el] = be 8 (u64 nm) ++ (be 8 (u64 tm) ++ (be 8 (u64 ct) ++ (be 4 er.length ++ (er.flatMap (enc sRep) ++ (be 4 v1s.length ++ (v1s.flatMap (enc sI) ++ (be 4 v2s.length ++ (v2s.flatMap (enc sI) ++ (be 4 v3s.length ++ (v3s.flatMap (enc sI) ++ (be 8 (u64 hi) ++ (be 8 lo.toNat ++ (be 8 (u64 an) ++ (be 8 (u64 ra) ++ (be 8 (u64 rd) ++ (be 8 (u64 fq) ++ (be 4 d1.length ++ (d1.flatMap (enc sI) ++ (be 4 d2.length ++ (d2.flatMap (enc sI) ++ (be 4 ec.length ++ (ec.flatMap (enc (.sl sCnt .nil)) ++ (be 4 el.length ++ (el.flatMap (enc sStr) ++ [])))))))))))))))))))))))) := by
    simp only [enc, sCyc, sAna, sHist, Sch.app]
  rw [hE]
  exact cat_len _ _ _ _ _ _ _ _ _ _ _ _ _ _ _ _ _ _ _ _ _ _ _ _ _ h1 h2 h3 h4 h5 h6 h7 h8
theorem cyc_len {us : List LV} (h : CycOk us) : (enc sCyc us).length ≤ 4000 := by
  obtain ⟨nm, tm, ct, rd, hi, lo, an, ra, fq, fr, fc, fl', b1, b2, b3, g1, g2, er, ec, el, v1s, v2s, v3s, d1, d2, rfl, -, -, -, -, -, -, -, -, -, ⟨n1, o1⟩, ⟨n2, o2⟩, ⟨n3, o3⟩, ⟨n4, o4⟩, ⟨n5, o5⟩, ⟨n6, o6⟩, ⟨n7, o7⟩, ⟨n8, o8⟩⟩ := h
  have mul : ∀ {x m n k : Nat}, x ≤ m * n → n ≤ k → x ≤ m * k := fun h1 h2 => Nat.le_trans h1 (Nat.mul_le_mul_left _ h2)
  refine cyc_len2 _ _ _ _ _ _ _ _ _ _ _ _ _ _ _ _ _ _ _ _ _ _ _ _ _ ?_ ?_ ?_ ?_ ?_ ?_ ?_ ?_
  · exact mul (fm_max (m := 100) fun e h => rep_len (o1 e h)) n1
  · exact Nat.le_trans (mul (fm_max (m := 8) fun e h => i_len (o2 e h)) n2) (by decide)
  · exact Nat.le_trans (mul (fm_max (m := 8) fun e h => i_len (o3 e h)) n3) (by decide)
  · exact Nat.le_trans (mul (fm_max (m := 8) fun e h => i_len (o4 e h)) n4) (by decide)
  · exact Nat.le_trans (mul (fm_max (m := 8) fun e h => i_len (o5 e h)) n5) (by decide)
  · exact Nat.le_trans (mul (fm_max (m := 8) fun e h => i_len (o6 e h)) n6) (by decide)
  · refine Nat.le_trans (mul (fm_max (m := 100) fun e h => ?_) n7) (by decide)
    obtain ⟨f, l, rfl, hl, hx⟩ := o7 e h
    have h9 := fm_max (f := enc sCnt) (m := 30) (es := l) (fun x hxl => by
      obtain ⟨s, t, r, rfl, hs⟩ := (hx x hxl).2
      simp only [enc, sCnt, List.length_append, be_length, List.append_nil, Array.length_toList]
      have e1 : s.data.size = s.size := rfl
      omega)
    simp only [enc, List.length_append, be_length, List.append_nil]; omega
  · refine Nat.le_trans (mul (fm_max (m := 10) fun e h => ?_) n8) (by decide)
    obtain ⟨s, rfl, hs⟩ := o8 e h
    simp only [enc, sStr, List.length_append, be_length, List.append_nil, Array.length_toList]
    have e1 : s.data.size = s.size := rfl
    omega
theorem ent_body {us : List LV} (h : EntOk us) : ∃ body, bodyE us = some body ∧ body.length ≤ 5000 := by
  obtain ⟨k, now, st, nm, it, pe, cy, rfl, ⟨k1, k2⟩, -, -, hnm, ⟨rep, co, ar, rfl, hrep, -, -⟩, ⟨fr, cl, f, x, y, z, fl, es, rfl, -, -, -, -, -, hn, he⟩, hcy⟩ := h
  have hr := rep_len hrep
  have hc := cyc_len hcy
  obtain ⟨k0, s0, t0, f0, x0, y0, z0, fl0, es0, rfl, -⟩ := hrep
  have hr' : (enc sRep [V k0, .str s0, V t0, V f0, V x0, V y0, V z0, .sl fl0 es0]).length ≤ 100 := hr
  clear hr
  have hb := bodyE_log (k := k) (now := now) (k0 := k0) (s0 := s0) (t0 := t0) (f0 := f0) (x0 := x0) (y0 := y0) (z0 := z0) (fl0 := fl0) (es0 := es0) (co := co) (ar := ar) (st := st) (nm := nm) (fr := fr) (cl := cl) (pf := f) (px := x) (py := y) (pz := z) (fb := fl) (eb := es) (cy := cy)
  have hu : [V k, V now] ++ ([V k0, .str s0, V t0, V f0, V x0, V y0, V z0, .sl fl0 es0] ++ [V co, V ar]) ++ [V st, .str nm] ++ [V fr, .bool cl, V f, V x, V y, V z, .sl fl es] ++ cy = logL k now k0 s0 t0 f0 x0 y0 z0 fl0 es0 co ar st nm fr cl f x y z fl es cy := rfl
  rw [hu, hb]
  have hrd := fm_max (f := enc sRd) (m := 16) (es := es) (fun e h => rd_len (he e h))
  by_cases h1 : k = 1
  · rw [if_pos h1]; exact ⟨_, rfl, by simp [be_length]⟩
  · rw [if_neg h1]
    by_cases h2 : k = 2
    · rw [if_pos h2]; exact ⟨_, rfl, by
      simp only [List.length_cons, List.length_append, be_length]
      generalize (enc sRep [V k0, .str s0, V t0, V f0, V x0, V y0, V z0, .sl fl0 es0]).length = m at *
      omega⟩
    · rw [if_neg h2]
      by_cases h3 : k = 3
      · rw [if_pos h3]
        refine ⟨_, rfl, ?_⟩
        simp only [List.length_cons, List.length_append, be_length, Array.length_toList]
        have e1 : nm.data.size = nm.size := rfl
        omega
      · rw [if_neg h3, if_pos (by omega)]
        exact ⟨_, rfl, by simp only [List.length_cons]; omega⟩
theorem enc_nz : ∀ {s : Sch} {us : List LV}, ok s us → enc s (nz s us) = enc s us
  | .nil, [], _ => rfl
  | .int r, .int k v :: us, h => by simp only [ok] at h; simp only [nz, enc, enc_nz h.2.2.2]
  | .word r, .int k v :: us, h => by simp only [ok] at h; simp only [nz, enc, enc_nz h.2.2.2]
  | .bool r, .bool b :: us, h => by simp only [ok] at h; simp only [nz, enc, enc_nz (s := r) h]
  | .str r, .str b :: us, h => by simp only [ok] at h; simp only [nz, enc, enc_nz h.2]
  | .sl e r, .sl f es :: us, h => by
    simp only [ok] at h
    have : ∀ es : List (List LV), (∀ x ∈ es, ok e x) → (es.map (nz e)).flatMap (enc e) = es.flatMap (enc e) := by
      intro es
      induction es with
      | nil => intro _; rfl
      | cons x es ih => intro hx; rw [List.map_cons, List.flatMap_cons, List.flatMap_cons, enc_nz (hx x (List.mem_cons_self ..)), ih fun y hy => hx y (List.mem_cons_of_mem _ hy)]
    simp only [nz, enc, List.length_map, this es h.2.1, enc_nz h.2.2]
/-- an entry that is there to be written: its kind, what is walked, its body. -/
def Fits (us : List LV) (k : Int) (off : Nat) (s : Sch) (u : List LV) (body : List UInt8) : Prop :=
  ok sLog us ∧ us.getD 0 .any = V k ∧ kSch k = some (off, s) ∧ ok s u ∧ body = b8 k :: enc s u ∧ bodyE us = some body ∧ body.length ≤ 5000
theorem ent_fits {us : List LV} (h : EntOk us) : ∃ k off s u body, Fits us k off s u body := by
  obtain ⟨body, hb, hl⟩ := ent_body h
  have hok := EntOk_ok h
  obtain ⟨us', hus⟩ := log_kind hok
  obtain ⟨k, hk⟩ : ∃ k, intOf (us.getD 0 .any) = k := ⟨_, rfl⟩
  rw [hk] at hus
  have g0 : us.getD 0 .any = V k := by rw [hus]; rfl
  cases hks : kSch k with
  | none => rw [bodyE_none g0 hks] at hb; cases hb
  | some p =>
    obtain ⟨off, s⟩ := p
    obtain ⟨pre, u, post, hcells, hpre, hu, -, -⟩ := log_split hok (off := off) (s := s) (by rw [hk]; exact hks)
    have hE := bodyE_some g0 hks hcells hpre hu
    rw [hb] at hE; cases hE
    exact ⟨k, off, s, u, _, hok, g0, hks, hu, rfl, hb, hl⟩
/-- what was read of what was written is the same. -/
theorem dec_same {us : List LV} {k : Int} {off : Nat} {s : Sch} {u : List LV} {body rest : List UInt8} (h : Fits us k off s u body) {r : LV} (hd : DecO (decS (framed body ++ rest)) r) :
    ∃ vs, r = .tup [.agg vs, V (framed body).length, V 0] ∧ ok sLog vs ∧ sameE us vs = true ∧ sameE vs us = true ∧ bodyE vs = some body := by
  obtain ⟨hok, g0, hks, hu, rfl, hb, hl⟩ := h
  rw [decS_framed hks hu rfl (by omega)] at hd
  obtain ⟨vs, pre, u', post, rfl, okv, gv, hvs, hpre, hu', hz⟩ := hd
  have hbv : bodyE vs = some (b8 k :: enc s u) := by
    rw [bodyE_some gv hks hvs hpre hu', ← enc_nz hu', hz, enc_nz hu]
  refine ⟨vs, by rw [framed_len], okv, ?_, ?_, hbv⟩
  · unfold sameE; rw [g0, gv, hb, hbv]; simp
  · unfold sameE; rw [g0, gv, hb, hbv]; simp

end Go.Proofs.YtdhngmldmalbbaaGreat
end
section
set_option linter.all false
namespace Go.Proofs.YtdhngmldmalbbaaGreat
open Go.Lift Go.RowKit Go.Store
set_option linter.unusedSimpArgs false
set_option linter.unusedVariables false

/-- a row that is handed over and written no more. -/
theorem LCalls_frz {P : Program} {f : FuncId} {args : List LV} {S : LS} {R : LV → LS → Prop} {id n : Nat} {es : List (List LV)} (hid : S[id]? = some (some (n, es))) (h : LCalls P f (.sl false es :: args) (S.set id none) R) : LCalls P f (.ref id 0 es.length :: args) S R := by
  refine ⟨h.1, fun B w0 K φ w vs hS hv => ?_⟩
  cases hv with
  | cons hx hs =>
    obtain ⟨K', h1, h2, h3⟩ := SimS.freezeL [id] hS
    have hr := frzK_sound (keep := fun j => j != id) (S := S) (fun j hj => by simp at hj; subst hj; exact h3 _ (by simp)) 1 (hx.mono h1 (List.prefix_refl _))
    have e : frzK (fun j => j != id) S 1 (.ref id 0 es.length) = .sl false es := by
      simp only [frzK, bne_self_eq_false, hid]
      simp [frzK]
    rw [e] at hr
    refine (h.2 B w0 K' φ w _ h2 (.cons hr (hs.mono h1 (List.prefix_refl _)))).mono fun e w' => ?_
    rintro ⟨v, he, u, S', K2, φ', hk, g1, g2, g3, g4⟩
    exact ⟨v, he, u, S', K2, φ', hk, Know.le_trans h1 g1, g2, g3, g4⟩
/-- bytes that a call takes. -/
theorem LCalls_bytes {f : FuncId} {args : List LV} {S : LS} {R : LV → LS → Prop} {u : LV} {bs : List UInt8} (hu : Rd S u bs) (h : ∀ (fl : Bool) (S1 : LS), S1.length = S.length → (∀ j, j ∉ rowIds u → S1[j]? = S[j]?) → LCalls Tryz.prog f (.sl fl (bs.map u8c) :: args) S1 R) : LCalls Tryz.prog f (u :: args) S R := by
  rcases hu with ⟨fl, rfl⟩ | ⟨id, rfl, hid⟩
  · exact h fl S rfl (fun _ _ => rfl)
  · have := LCalls_frz (args := args) hid (h false _ (by simp) (fun j hj => by rw [List.getElem?_set_ne (by simp [rowIds] at hj; omega)]))
    rwa [List.length_map] at this
theorem rdRow {S : LS} {u : LV} {bs : List UInt8} (h : Rd S u bs) : ∀ (N : Nat) (c : Code) (Q : Exit → Env → LS → Prop) (env : Env) (t : Nat), Nat.blt t N = true → env t = some u → (∀ (full : Bool) (S1 : LS), S1.length = S.length → (∀ j, j ∉ rowIds u → S1[j]? = S[j]?) → Lwp Tryz.prog N c Q (env.put t (.sl full (bs.map u8c))) S1) → Lwp Tryz.prog N c Q env S := by
  intro N c Q env t ht hu hk
  rcases h with ⟨fl, rfl⟩ | ⟨id, rfl, hid⟩
  · have e : env.put t (.sl fl (bs.map u8c)) = env := by
      funext x
      simp only [Env.put]
      split
      · rename_i e; rw [e, hu]
      · rfl
    have := hk fl S rfl (fun _ _ => rfl)
    rwa [e] at this
  · refine Lwp_frzRowS (lo := 0) (sz := 1) (es := bs.map u8c) t _ ht hu ⟨fun e he => ?_, .inr ⟨id, Nat.zero_le _, by rw [List.length_map], hid⟩⟩ hk
    obtain ⟨y, _, rfl⟩ := List.mem_map.1 he; rfl

set_option maxHeartbeats 400000 in
theorem Awake_ok {S : LS} : LCalls Tryz.prog 4 [] S (fun r S' => r = .bool true ∧ Keeps S S' []) := by
  refine LCalls_introK 0 Tryz.func4 rfl (by kernel_rfl) rfl fun RR hRR => ?_
  have hE : ok sLog (V 1 :: V 9 :: (zs sLog).drop 2) := ⟨rfl, by decide, by decide, rfl, by decide, by decide, (ok_zs (s := sLog)).2.2.2.2.2.2⟩
  have hB : bodyE (V 1 :: V 9 :: (zs sLog).drop 2) = some (b8 1 :: be 8 9) := by decide
  refine Lwp_seq fun KK0 hKK0 => ?_
  refine LregionG [none] (by kernel_rfl) (by kernel_rfl) ?_
  simp -dsimp only [go_sem, ↓reduceIte]
  repeat with_reducible refine And.intro (by first | omega | decide) ?_
  refine hKK0 _ _ ?_
  try clear hKK0 KK0
  refine Lwp_seq fun KK1 hKK1 => ?_
  refine LregionG [none, none, none, none, none, none, none] (by kernel_rfl) (by kernel_rfl) ?_
  simp -dsimp only [go_sem, ↓reduceIte]
  refine LCalls.k (SEncode_ok (V 1 :: V 9 :: (zs sLog).drop 2) hE (fun b hb => by rw [hB] at hb; cases hb; decide)) ?_
  rintro r S1 hr
  unfold EncR at hr
  rw [hB] at hr
  simp only [] at hr
  rw [if_pos (by decide)] at hr
  obtain ⟨u, rfl, hN⟩ := hr
  obtain ⟨fb, hfb⟩ : ∃ x, x = framed (b8 1 :: be 8 9) := ⟨_, rfl⟩
  have hfl : fb.length = 17 := by rw [hfb, framed_len]; rfl
  have hrd := hN.acc.rd
  rw [← hfb] at hrd
  simp -dsimp only [go_sem, ↓reduceIte]
  refine hKK1 _ _ ?_
  try clear hKK1 KK1
  refine Lwp_seq fun KK2 hKK2 => ?_
  refine rdRow hrd _ _ _ _ 1 rfl (by simp only [go_sem, ↓reduceIte]) fun full S2 hl2 hK2 => ?_
  have hK12 : Keeps S S2 [] := ⟨by rw [hl2]; exact hN.2.1.1, fun j hj _ => (hK2 j (fun h => (hN.2.2.1 j h).elim (by simp [rowIds]) (fun h => by omega))).trans (hN.2.1.2 j hj (by simp [rowIds]))⟩
  refine LregionG [none, none, none, none, none, none, none, none, none, none] (by kernel_rfl) (by kernel_rfl) ?_
  simp -dsimp only [go_sem, ↓reduceIte]
  refine LCalls.k (SDecode_ok fb full (by rw [hfl]; decide)) ?_
  rintro r S3 ⟨hK3, hd⟩
  have hdd : decS fb = .inr (1, 1, sI, nz sI [V 9], 17) := by
    have := decS_framed (k := 1) (off := 1) (s := sI) (u := [V 9]) (body := b8 1 :: be 8 9) (rest := []) rfl ⟨rfl, by decide, by decide, trivial⟩ rfl (by decide)
    rw [List.append_nil, ← hfb] at this
    exact this
  rw [hdd] at hd
  obtain ⟨vs, pre, u', post, rfl, okv, gv, hvs, hpre, hu', hz⟩ := hd
  have hv1 : vs.getD 1 .any = V 9 := by
    obtain ⟨x, us3, rfl, -, h3⟩ := ok_int hu'
    obtain rfl := ok_nil h3
    have hx : V x = V 9 := by simpa [nz, sI] using hz
    rw [hvs, hx, List.getD_eq_getElem?_getD, List.getElem?_append_right (by omega), hpre]
    rfl
  have hov : ∀ cs : List LV, cs.length = 38 → ovr cs 0 vs = vs := fun cs h => ovr_all (by rw [okLog_len okv, h])
  have h17 : ((17 : Nat) : Int) = 17 := rfl
  have hvl := okLog_len okv
  have hvt : vs.take 38 = vs := List.take_of_length_le (by omega)
  have hK := hK12.trans hK3 (ids'' := []) (fun _ _ h => h.elim id id)
  simp -dsimp only [go_sem, ↓reduceIte, hvl]
  refine hKK2 _ _ ?_
  try clear hKK2 KK2
  refine Lwp_seq fun KK3 hKK3 => ?_
  refine LregionG [none, none, none, some (19, true), some (19, true), none, none, some (23, true), some (23, true), some (23, true), none, none, some (28, true), some (28, true), none, none, some (32, true), some (32, true), some (32, true), none, none] (by kernel_rfl) (by kernel_rfl) ?_
  simp -dsimp only [go_sem, ↓reduceIte, hfl, hvl, hv1, hvt, h17, hov, List.length_cons, List.length_nil]
  repeat with_reducible refine And.intro (by first | omega | decide) ?_
  refine hKK3 _ _ ?_
  try clear hKK3 KK3
  refine Lwp_ret ?_
  simp only [LThen, LBlock, LPost, Tryz.results4]
  simp -dsimp only [go_sem, ↓reduceIte]
  exact ret_keep (hRR _ _ ⟨rfl, hK.trans (Keeps.app _ _ []) (fun _ _ h => h.elim id id)⟩)

end Go.Proofs.YtdhngmldmalbbaaGreat
end
section
set_option linter.all false
namespace Go.Proofs.YtdhngmldmalbbaaGreat
open Go.Lift Go.RowKit Go.Store
set_option linter.unusedSimpArgs false
set_option linter.unusedVariables false
end Go.Proofs.YtdhngmldmalbbaaGreat
end
section
set_option linter.all false
namespace Go.Proofs.YtdhngmldmalbbaaGreat
open Go.Lift Go.RowKit Go.Store
set_option linter.unusedSimpArgs false
set_option linter.unusedVariables false

/-! ### From lifted calls to the model's -/
def knowW (W : World) : Know := fun b o => W.cell? ⟨b, o, none⟩
theorem SimS_start (W : World) : SimS W.heap.size W (knowW W) [] [] W :=
  ⟨Below.refl _ _, Nat.le_refl _, fun _ _ _ h => h, rfl, by simp, by simp, by simp, by simp⟩
/-- a law that answers true. -/
theorem LCalls.true {P : Program} {f : FuncId} {us : List LV} (h : LCalls P f us [] (fun r _ => r = .bool true)) {W : World} {vs : List Value} (hv : RelL (knowW W) [] vs us) :
    Calls P f vs.toArray W fun e W' => e = .returned (.bool true) ∧ Below W.heap.size W W' := by
  refine (h.2 _ _ _ _ W vs (SimS_start W) hv).mono fun e W' => ?_
  rintro ⟨v, rfl, u, S', K', φ', rfl, hk, hp, hS, hr⟩
  cases hr
  exact ⟨rfl, hS.below⟩


set_option maxRecDepth 100000
open Go.ChangeShapes in
/-- a slice of bytes, as it was handed over. -/
theorem open_bytes {H : Type} {enc : TypeId × Value → H} {W : World} {base : Nat} {v : Value} {d : DataW H} {p : List MemPlace} (hval : Value.okWide Tryz.prog W .any base 22 v) (h : DataW.Trod enc Tryz.prog W 0 (fun _ => true) true 22 v d p) :
    ∃ (f : Bool) (xs : List UInt8), Rel (knowW W) [] v (.sl f (xs.map u8c)) ∧ ((d = .nil ∧ xs = []) ∨ ∃ ls sp, d = .slice ls sp ∧ xs.length = ls.length) := by
  obtain ⟨a0, len0, cap0, rfl⟩ := Go.WideShapes.okWide_slice Tryz.underlying22 hval
  obtain ⟨fuel, hf⟩ := h
  rcases open_ints Tryz.underlying22 Tryz.underlying5 (by kernel_rfl) hf with ⟨hcs, hx⟩ | ⟨a, len, cap, zs, hcs, -, hl, -, hz, hx, hcell, hwf⟩
  · obtain ⟨h1, -⟩ := Prod.mk.inj hx
    simp [Value.cells] at hcs
    obtain ⟨rfl, rfl, rfl⟩ := hcs
    exact ⟨true, [], .slnil _, .inl ⟨h1, rfl⟩⟩
  · obtain ⟨h1, -⟩ := Prod.mk.inj hx
    simp [Value.cells] at hcs
    obtain ⟨rfl, rfl, rfl⟩ := hcs
    simp only [if_true] at hz
    have hsp : a.spot = none := by
      simp only [Value.okWide, Tryz.underlying22, Cell.okWide, Cell.ok] at hval
      exact hval.2.2.2.1
    obtain ⟨b, o, sp⟩ := a
    simp only at hsp
    subst hsp
    have hb : ∀ n ∈ zs, 0 ≤ n ∧ n ≤ 255 := fun n hn => by simpa [Lit.wf, IntKind.min, IntKind.max, IntKind.signed, IntKind.bits] using hwf n hn
    have hxs : (((zs.take len0).map fun n => UInt8.ofNat n.toNat).map u8c) = (zs.take len0).map fun n => [LV.int .u8 n] := by
      rw [List.map_map]
      refine List.map_congr_left fun n hn => ?_
      have := hb n (List.mem_of_mem_take hn)
      simp only [Function.comp, u8c, UInt8.toNat_ofNat']
      congr 2
      omega
    refine ⟨false, (zs.take len0).map fun n => UInt8.ofNat n.toNat, ?_, .inr ⟨_, _, h1, by simp [lits]⟩⟩
    rw [hxs]
    have hlen : (zs.take len0).length = len0 := by rw [List.length_take]; omega
    refine .sl (vs := (zs.take len0).map fun n => Value.int .u8 n) (sz := 1) (fun j v hv => ?_) (fun v hv => ?_) ?_ (fun e he => ?_) (by simp; omega) hl (by simp)
    · rw [List.getElem?_map] at hv
      obtain ⟨n, hn, rfl⟩ := Option.map_eq_some_iff.1 hv
      have hj := (List.getElem?_eq_some_iff.1 hn).1
      rw [hlen] at hj
      have hc := hcell j (by omega)
      have e1 : zs.getD j 0 = n := by
        rw [List.getElem?_take_of_lt hj] at hn
        rw [List.getD_eq_getElem?_getD, hn]; rfl
      rw [e1] at hc
      have e2 : (Addr.add ⟨b, o, none⟩ j) = ⟨b, o + j, none⟩ := by
        unfold Addr.add
        split
        · rename_i h; subst h; rfl
        · rfl
      rw [e2] at hc
      exact hc
    · obtain ⟨n, _, rfl⟩ := List.mem_map.1 hv; rfl
    · generalize zs.take len0 = ys
      induction ys with
      | nil => exact .nil
      | cons y ys ih => exact .cons (.int _ _) ih
    · obtain ⟨n, _, rfl⟩ := List.mem_map.1 he; rfl

end Go.Proofs.YtdhngmldmalbbaaGreat
end
section
set_option linter.all false
namespace Go.Proofs.YtdhngmldmalbbaaGreat
open Go.Lift Go.RowKit Go.Store
set_option linter.unusedSimpArgs false
set_option linter.unusedVariables false
set_option maxHeartbeats 400000 in
theorem Clone_ok {S : LS} {u : LV} {bs : List UInt8} (hu : Rd S u bs) (hl : bs.length ≤ 140737488355328) : LCalls Tryz.prog 24 [u] S (NewR S bs) := by
  refine LCalls_introK 0 Tryz.func24 rfl (by kernel_rfl) rfl fun RR hRR => ?_
  refine Lwp_seq fun KK0 hKK0 => ?_
  refine LregionG [none] (by kernel_rfl) (by kernel_rfl) ?_
  simp -dsimp only [go_sem, ↓reduceIte]
  repeat with_reducible refine And.intro (by first | omega | decide) ?_
  refine hKK0 _ _ ?_
  try clear hKK0 KK0
  refine Lwp_seq fun KK1 hKK1 => ?_
  refine Lwp_seq fun KK2 hKK2 => ?_
  refine LregionG [none, none] (by kernel_rfl) (by kernel_rfl) ?_
  simp -dsimp only [go_sem, ↓reduceIte]
  rcases bs with _ | ⟨b, bs⟩ <;> rcases hu with ⟨f, rfl⟩ | ⟨i1, rfl, hid⟩
  · skip
    simp -dsimp only [go_sem, ↓reduceIte]
    refine hKK2 _ _ ?_
    try clear hKK2 KK2
    refine Lwp_condAny (by simp only [go_sem, ↓reduceIte]) ?_ ?_
    · skip
      refine Lwp_seq fun KK3 hKK3 => ?_
      refine LregionG [none] (by kernel_rfl) (by kernel_rfl) ?_
      simp -dsimp only [go_sem, ↓reduceIte]
      repeat with_reducible refine And.intro (by first | omega | decide) ?_
      refine hKK3 _ _ ?_
      try clear hKK3 KK3
      refine Lwp_ret ?_
      simp only [LThen, LBlock, LPost, Tryz.results24]
      simp -dsimp only [go_sem, ↓reduceIte]
      exact ret_keep (hRR _ _ (NewR.nil S))
    · skip
      refine Lwp_skip ?_
      try simp -dsimp only [go_sem, ↓reduceIte]
      refine hKK1 _ _ ?_
      try clear hKK1 KK1
      refine Lwp_seq fun KK4 hKK4 => ?_
      refine LregionG [none, none, none, none] (by kernel_rfl) (by kernel_rfl) ?_
      simp -dsimp only [go_sem, ↓reduceIte]
      repeat with_reducible refine And.intro (by first | omega | decide | assumption) ?_
      refine PutR.apd (zs := []) (NewR.nil S) rfl (by simp only [go_sem]; rfl) (by simp only [go_sem]; first | exact ⟨rfl, rfl⟩ | exact ⟨rfl, rfl, rfl⟩ | rfl) (by simp only [go_sem]) (by first | exact trivial | simp only [go_sem, ↓reduceIte, hRR, Nat.zero_add, Nat.le_refl]) (by first | rfl | simp only [go_sem, ↓reduceIte, hRR, List.drop_zero, List.take_of_length_le, List.length_map, List.length_cons, List.length_nil, Nat.le_refl]) (by simp only [List.length_nil, List.length_cons] at hl ⊢; omega) ?_
      rintro r2 S2 hp
      simp only [List.nil_append] at hp
      simp -dsimp only [go_sem, ↓reduceIte]
      refine hKK4 _ _ ?_
      try clear hKK4 KK4
      refine Lwp_ret ?_
      simp only [LThen, LBlock, LPost, Tryz.results24]
      simp -dsimp only [go_sem, ↓reduceIte]
      exact ret_keep (hRR _ _ hp)
  · skip
    simp -dsimp only [go_sem, ↓reduceIte]
    refine hKK2 _ _ ?_
    try clear hKK2 KK2
    refine Lwp_condAny (by simp only [go_sem, ↓reduceIte]) ?_ ?_
    · skip
      refine Lwp_seq fun KK5 hKK5 => ?_
      refine LregionG [none] (by kernel_rfl) (by kernel_rfl) ?_
      simp -dsimp only [go_sem, ↓reduceIte]
      repeat with_reducible refine And.intro (by first | omega | decide) ?_
      refine hKK5 _ _ ?_
      try clear hKK5 KK5
      refine Lwp_ret ?_
      simp only [LThen, LBlock, LPost, Tryz.results24]
      simp -dsimp only [go_sem, ↓reduceIte]
      exact ret_keep (hRR _ _ (NewR.nil S))
    · skip
      refine Lwp_skip ?_
      try simp -dsimp only [go_sem, ↓reduceIte]
      refine hKK1 _ _ ?_
      try clear hKK1 KK1
      refine Lwp_seq fun KK6 hKK6 => ?_
      refine LregionG [none, none, none, none] (by kernel_rfl) (by kernel_rfl) ?_
      simp -dsimp only [go_sem, ↓reduceIte]
      repeat with_reducible refine And.intro (by first | omega | decide | assumption) ?_
      refine PutR.apd (zs := []) (NewR.nil S) rfl (by simp only [go_sem]; rfl) (by simp only [go_sem]; first | exact ⟨rfl, rfl⟩ | exact ⟨rfl, rfl, rfl⟩ | rfl) (by simp only [go_sem]) (by first | exact trivial | simp only [go_sem, ↓reduceIte, LS.g, hid, Nat.zero_add, Nat.le_refl]) (by first | rfl | simp only [go_sem, ↓reduceIte, LS.g, hid, List.drop_zero, List.take_of_length_le, List.length_map, List.length_cons, List.length_nil, Nat.le_refl]) (by simp only [List.length_nil, List.length_cons] at hl ⊢; omega) ?_
      rintro r2 S2 hp
      simp only [List.nil_append] at hp
      simp -dsimp only [go_sem, ↓reduceIte]
      refine hKK6 _ _ ?_
      try clear hKK6 KK6
      refine Lwp_ret ?_
      simp only [LThen, LBlock, LPost, Tryz.results24]
      simp -dsimp only [go_sem, ↓reduceIte]
      exact ret_keep (hRR _ _ hp)
  · skip
    simp -dsimp only [go_sem, ↓reduceIte]
    refine hKK2 _ _ ?_
    try clear hKK2 KK2
    refine Lwp_cond (by simp only [go_sem, ↓reduceIte]; rfl) (fun ht => ?_) (fun hf => ?_)
    · skip
      cases ht
    · skip
      refine Lwp_skip ?_
      try simp -dsimp only [go_sem, ↓reduceIte]
      refine hKK1 _ _ ?_
      try clear hKK1 KK1
      refine Lwp_seq fun KK7 hKK7 => ?_
      refine LregionG [none, none, none, none] (by kernel_rfl) (by kernel_rfl) ?_
      simp -dsimp only [go_sem, ↓reduceIte]
      repeat with_reducible refine And.intro (by first | omega | decide | assumption) ?_
      refine PutR.apd (zs := b :: bs) (NewR.nil S) rfl (by simp only [go_sem]; rfl) (by simp only [go_sem]; first | exact ⟨rfl, rfl⟩ | exact ⟨rfl, rfl, rfl⟩ | rfl) (by simp only [go_sem]) (by first | exact trivial | simp only [go_sem, ↓reduceIte, hRR, Nat.zero_add, Nat.le_refl]) (by first | rfl | simp only [go_sem, ↓reduceIte, hRR, List.drop_zero, List.take_of_length_le, List.length_map, List.length_cons, List.length_nil, Nat.le_refl]) (by simp only [List.length_nil, List.length_cons] at hl ⊢; omega) ?_
      rintro r2 S2 hp
      simp only [List.nil_append] at hp
      simp -dsimp only [go_sem, ↓reduceIte]
      refine hKK7 _ _ ?_
      try clear hKK7 KK7
      refine Lwp_ret ?_
      simp only [LThen, LBlock, LPost, Tryz.results24]
      simp -dsimp only [go_sem, ↓reduceIte]
      exact ret_keep (hRR _ _ hp)
  · skip
    simp -dsimp only [go_sem, ↓reduceIte, List.length_cons, Nat.add_eq_zero_iff]
    refine hKK2 _ _ ?_
    try clear hKK2 KK2
    refine Lwp_cond (by simp only [go_sem, ↓reduceIte]; rfl) (fun ht => ?_) (fun hf => ?_)
    · skip
      cases ht
    · skip
      refine Lwp_skip ?_
      try simp -dsimp only [go_sem, ↓reduceIte]
      refine hKK1 _ _ ?_
      try clear hKK1 KK1
      refine Lwp_seq fun KK8 hKK8 => ?_
      refine LregionG [none, none, none, none] (by kernel_rfl) (by kernel_rfl) ?_
      simp -dsimp only [go_sem, ↓reduceIte]
      repeat with_reducible refine And.intro (by first | omega | decide | assumption) ?_
      refine PutR.apd (zs := b :: bs) (NewR.nil S) rfl (by simp only [go_sem]; rfl) (by simp only [go_sem]; first | exact ⟨rfl, rfl⟩ | exact ⟨rfl, rfl, rfl⟩ | rfl) (by simp only [go_sem]) (by first | exact trivial | simp only [go_sem, ↓reduceIte, LS.g, hid, Nat.zero_add, Nat.le_refl]) (by first | rfl | simp only [go_sem, ↓reduceIte, LS.g, hid, List.drop_zero, List.take_of_length_le, List.length_map, List.length_cons, List.length_nil, Nat.le_refl]) (by simp only [List.length_nil, List.length_cons] at hl ⊢; omega) ?_
      rintro r2 S2 hp
      simp only [List.nil_append] at hp
      simp -dsimp only [go_sem, ↓reduceIte]
      refine hKK8 _ _ ?_
      try clear hKK8 KK8
      refine Lwp_ret ?_
      simp only [LThen, LBlock, LPost, Tryz.results24]
      simp -dsimp only [go_sem, ↓reduceIte]
      exact ret_keep (hRR _ _ hp)

end Go.Proofs.YtdhngmldmalbbaaGreat
end
section
set_option linter.all false
namespace Go.Proofs.YtdhngmldmalbbaaGreat
open Go.Lift Go.RowKit Go.Store
set_option linter.unusedSimpArgs false
set_option linter.unusedVariables false

theorem head_u8 (bs : List UInt8) : ∀ (e : List LV), e ∈ (List.map u8c bs).head? → e.length = 1 := fun e he => by
  obtain ⟨y, _, rfl⟩ := List.mem_map.1 (List.mem_of_mem_head? he); rfl

set_option maxHeartbeats 400000 in
theorem Cut_ok {S : LS} (f : Bool) (bs : List UInt8) (n : Int) (hl : bs.length ≤ 140737488355328) : LCalls Tryz.prog 10 [.sl f (bs.map u8c), V n] S (NewR S (bs.take (bs.length - n.toNat))) := by
  refine LCalls_introK 0 Tryz.func10 rfl (by kernel_rfl) rfl fun RR hRR => ?_
  have e1 : IntKind.i64.wrap ((bs.length : Int) - if (bs.length : Int) < if 0 > n then 0 else n then (bs.length : Int) else if 0 > n then 0 else n) = ((bs.length - n.toNat : Nat) : Int) := by
    rw [w64 (by split <;> split <;> omega) (by split <;> split <;> omega)]
    split <;> split at * <;> omega
  refine Lwp_seq fun KK0 hKK0 => ?_
  refine LregionG [none] (by kernel_rfl) (by kernel_rfl) ?_
  simp -dsimp only [go_sem, ↓reduceIte]
  repeat with_reducible refine And.intro (by first | omega | decide) ?_
  refine hKK0 _ _ ?_
  try clear hKK0 KK0
  refine Lwp_seq fun KK1 hKK1 => ?_
  refine LregionG [none, none, none, none, none, none, none, none, none, none, none, none] (by kernel_rfl) (by kernel_rfl) ?_
  simp -dsimp only [go_sem, ↓reduceIte, e1]
  refine ⟨⟨by omega, head_u8 bs⟩, ?_⟩
  rw [show List.take (bs.length - n.toNat - 0) (List.map u8c bs) = List.map u8c (bs.take (bs.length - n.toNat)) by rw [Nat.sub_zero, List.map_take]]
  refine LCalls.k (Clone_ok (.inl ⟨_, rfl⟩) (by simp; omega)) ?_
  rintro r S1 hp
  simp -dsimp only [go_sem, ↓reduceIte]
  refine hKK1 _ _ ?_
  try clear hKK1 KK1
  refine Lwp_ret ?_
  simp only [LThen, LBlock, LPost, Tryz.results10]
  simp -dsimp only [go_sem, ↓reduceIte]
  exact ret_keep (hRR _ _ hp)


/-- what an entry becomes in a journal: an error, or its bytes. -/
def encO (us : List LV) : Int ⊕ List UInt8 :=
  match bodyE us with
  | some b => if b.length + 8 ≤ 1048576 then .inr (framed b) else .inl 2
  | none => .inl 4
def appO : List (List LV) → Int ⊕ List UInt8
  | [] => .inr []
  | us :: l => match encO us with
    | .inl e => .inl e
    | .inr b => match appO l with
      | .inl e => .inl e
      | .inr c => .inr (b ++ c)
def AppR (bs : List UInt8) (es : List (List LV)) (S : LS) (r : LV) (S' : LS) : Prop :=
  match appO es with
  | .inl e => r = .tup [.sl true [], V e] ∧ Keeps S S' []
  | .inr ys => ∃ u, r = .tup [u, V 0] ∧ NewR S (bs ++ ys) u S'
theorem encO_len {us : List LV} {b : List UInt8} (h : encO us = .inr b) : b.length ≤ 1048576 := by
  unfold encO at h
  split at h
  · split at h
    · cases h; rw [framed_len]; omega
    · cases h
  · cases h
theorem appO_len : ∀ {es : List (List LV)} {b : List UInt8}, appO es = .inr b → b.length ≤ es.length * 1048576
  | [], b, h => by cases h; simp
  | us :: l, b, h => by
    simp only [appO] at h
    split at h
    · cases h
    · rename_i c hc
      split at h
      · cases h
      · rename_i d hd
        cases h
        have := encO_len hc
        have := appO_len hd
        simp only [List.length_append, List.length_cons]; omega
theorem EncR.cs {us : List LV} {S S' : LS} {r : LV} (h : EncR us S r S') : (∃ e, encO us = .inl e ∧ e ≠ 0 ∧ r = .tup [.sl true [], V e] ∧ Keeps S S' []) ∨ ∃ b u, encO us = .inr b ∧ r = .tup [u, V 0] ∧ NewR S b u S' := by
  unfold EncR at h
  unfold encO
  cases hE : bodyE us with
  | none => rw [hE] at h; exact .inl ⟨4, rfl, by decide, h.1, h.2⟩
  | some b =>
    rw [hE] at h
    simp only [] at h ⊢
    by_cases hl : b.length + 8 ≤ 1048576
    · rw [if_pos hl] at h ⊢
      obtain ⟨u, rfl, hN⟩ := h
      exact .inr ⟨_, u, rfl, rfl, hN⟩
    · rw [if_neg hl] at h ⊢
      exact .inl ⟨2, rfl, by decide, h.1, h.2⟩
theorem NewR.keep {S S1 S2 : LS} {ys : List UInt8} {r : LV} (h : NewR S ys r S1) (hK : Keeps S1 S2 []) : NewR S ys r S2 :=
  ⟨RowS.mono h.1 (Nat.le_refl _) (fun id _ b hb => hK.get hb (by simp)), h.2.1.trans hK (fun j _ h => h.elim id (fun h => absurd h (by simp))), h.2.2.1, h.2.2.2⟩
theorem appO_snoc : ∀ {es : List (List LV)} {us : List LV} {ys : List UInt8}, appO es = .inr ys → appO (es ++ [us]) = match encO us with | .inl e => .inl e | .inr b => .inr (ys ++ b)
  | [], us, ys, h => by
    cases h
    cases he : encO us <;> simp [appO, he]
  | x :: l, us, ys, h => by
    simp only [appO] at h
    split at h
    · cases h
    · rename_i c hc
      split at h
      · cases h
      · rename_i d hd
        cases h
        simp only [List.cons_append, appO, hc, appO_snoc hd]
        cases encO us <;> simp [List.append_assoc]
theorem appO_err : ∀ {es l : List (List LV)} {e : Int}, appO es = .inl e → appO (es ++ l) = .inl e
  | [], l, e, h => by cases h
  | x :: es, l, e, h => by
    simp only [appO] at h
    simp only [List.cons_append, appO]
    cases hc : encO x with
    | inl e1 => rw [hc] at h; exact h
    | inr c =>
      rw [hc] at h
      simp only [] at h ⊢
      cases hd : appO es with
      | inl e2 => rw [hd] at h; rw [appO_err hd]; exact h
      | inr d => rw [hd] at h; cases h

set_option maxHeartbeats 400000 in
theorem Append_ok {S : LS} {u : LV} {bs : List UInt8} (hu : Rd S u bs) (f : Bool) (es : List (List LV)) (hes : ∀ e ∈ es, ok sLog e ∧ ∀ b, bodyE e = some b → b.length ≤ 1000000000) (hl : bs.length + es.length * 1048576 ≤ 140737488355328) : LCalls Tryz.prog 8 [u, .sl f es] S (AppR bs es S) := by
  refine LCalls_introK 0 Tryz.func8 rfl (by kernel_rfl) rfl fun RR hRR => ?_
  have hh : ∀ (e : List LV), e ∈ es.head? → e.length = 38 := fun e he => okLog_len (hes e (List.mem_of_mem_head? he)).1
  unfold AppR at hRR
  refine Lwp_seq fun KK0 hKK0 => ?_
  refine LregionG [none, none] (by kernel_rfl) (by kernel_rfl) ?_
  simp -dsimp only [go_sem, ↓reduceIte]
  repeat with_reducible refine And.intro (by first | omega | decide) ?_
  refine hKK0 _ _ ?_
  try clear hKK0 KK0
  refine Lwp_seq fun KK1 hKK1 => ?_
  refine LregionG [none, none, none] (by kernel_rfl) (by kernel_rfl) ?_
  simp -dsimp only [go_sem, ↓reduceIte]
  refine LCalls.k (Clone_ok hu (by omega)) ?_
  rintro r0 S0 hp0
  simp -dsimp only [go_sem, ↓reduceIte]
  refine hKK1 _ _ ?_
  try clear hKK1 KK1
  refine Lwp_seq fun KK2 hKK2 => ?_
  refine Lwp_seq fun KK3 hKK3 => ?_
  refine LregionG [none, none, none] (by kernel_rfl) (by kernel_rfl) ?_
  simp -dsimp only [go_sem, ↓reduceIte]
  repeat with_reducible refine And.intro (by first | omega | decide) ?_
  refine hKK3 _ _ ?_
  try clear hKK3 KK3
  refine Lwp_block ?_
  refine Lwp_loopK [6, 15, 13, 14] (fun m us S1 => ∃ (k : Nat) (r : LV) (ys : List UInt8), us = [r, V k, .sl f es, V es.length] ∧ k ≤ es.length ∧ appO (es.take k) = .inr ys ∧ NewR S (bs ++ ys) r S1 ∧ m = es.length - k) es.length rfl (⟨0, r0, [], by simp only [go_sem, ↓reduceIte]; rfl, Nat.zero_le _, rfl, by rw [List.append_nil]; exact hp0, rfl⟩) ?_
  rintro m us S2 ⟨k, r, ys, rfl, hk, hys, hp, hm⟩ II hII
  refine Lwp_seq fun KK4 hKK4 => ?_
  refine LregionG [none] (by kernel_rfl) (by kernel_rfl) ?_
  simp -dsimp only [go_sem, ↓reduceIte]
  repeat with_reducible refine And.intro (by first | omega | decide) ?_
  refine hKK4 _ _ ?_
  try clear hKK4 KK4
  refine Lwp_seq fun KK5 hKK5 => ?_
  refine Lwp_cond (by simp only [go_sem, ↓reduceIte]; rfl) (fun ht => ?_) (fun hf => ?_)
  · skip
    have hk' : k < es.length := by simpa using ht
    obtain ⟨x, hxe⟩ : ∃ x, x = es.getD k [] := ⟨_, rfl⟩
    have hmem : x ∈ es := by rw [hxe, List.getD_eq_getElem?_getD, List.getElem?_eq_getElem hk']; exact List.getElem_mem hk'
    obtain ⟨hok, hbl⟩ := hes x hmem
    have hlen := okLog_len hok
    have htk : x.take 38 = x := List.take_of_length_le (by omega)
    have hov : ∀ cs : List LV, cs.length = 38 → ovr cs 0 x = x := fun cs h => ovr_all (by rw [hlen, h])
    have hts : es.take (k + 1) = es.take k ++ [x] := by rw [List.take_succ_eq_append_getElem hk', hxe, List.getD_eq_getElem?_getD, List.getElem?_eq_getElem hk']; rfl
    have hdr : es = es.take (k + 1) ++ es.drop (k + 1) := (List.take_append_drop _ _).symm
    have e6 : IntKind.i64.wrap ((k : Int) + 1) = ((k + 1 : Nat) : Int) := by rw [w64 (by omega) (by omega)]; rfl
    have hyl := appO_len hys
    rw [List.length_take] at hyl
    have hap := appO_snoc (us := x) hys
    rw [← hts] at hap
    refine Lwp_skip ?_
    try simp -dsimp only [go_sem, ↓reduceIte]
    refine hKK5 _ _ ?_
    try clear hKK5 KK5
    refine Lwp_seq fun KK6 hKK6 => ?_
    refine Lwp_block ?_
    refine Lwp_seq fun KK7 hKK7 => ?_
    refine LregionG [none, none, none, none] (by kernel_rfl) (by kernel_rfl) ?_
    simp -dsimp only [go_sem, ↓reduceIte, ← hxe, hk', hlen, htk, hov, Nat.le_refl]
    refine hKK7 _ _ ?_
    try clear hKK7 KK7
    refine Lwp_seq fun KK8 hKK8 => ?_
    refine Lwp_boxed 8 38 x rfl hp (by simp only [go_sem, ↓reduceIte]) fun S3 hp3 => ?_
    refine LregionG [none, none, none, none, none, none, none] (by kernel_rfl) (by kernel_rfl) ?_
    simp -dsimp only [go_sem, ↓reduceIte, hlen, htk]
    refine LCalls.k (SEncode_ok x hok hbl) ?_
    rintro r1 S4 hr
    rcases hr.cs with ⟨e, hE, he0, rfl, hK4⟩ | ⟨b, u1, hE, rfl, hN⟩
    · skip
      rw [hE] at hap
      simp only [] at hap
      have hall := appO_err (l := es.drop (k + 1)) hap
      rw [← hdr] at hall
      rw [hall] at hRR
      simp -dsimp only [go_sem, ↓reduceIte]
      refine hKK8 _ _ ?_
      try clear hKK8 KK8
      refine Lwp_seq fun KK9 hKK9 => ?_
      refine Lwp_seq fun KK10 hKK10 => ?_
      refine LregionG [none, none] (by kernel_rfl) (by kernel_rfl) ?_
      simp -dsimp only [go_sem, ↓reduceIte]
      repeat with_reducible refine And.intro (by first | omega | decide) ?_
      refine hKK10 _ _ ?_
      try clear hKK10 KK10
      refine Lwp_cond (by simp only [go_sem, ↓reduceIte]; rfl) (fun ht => ?_) (fun hf => ?_)
      · skip
        refine Lwp_seq fun KK11 hKK11 => ?_
        refine LregionG [none, none, none] (by kernel_rfl) (by kernel_rfl) ?_
        simp -dsimp only [go_sem, ↓reduceIte]
        repeat with_reducible refine And.intro (by first | omega | decide) ?_
        refine hKK11 _ _ ?_
        try clear hKK11 KK11
        refine Lwp_ret ?_
        simp only [LThen, LBlock, LPost, Tryz.results8]
        simp -dsimp only [go_sem, ↓reduceIte]
        exact ret_keep (hRR _ _ ⟨rfl, hp3.2.1.trans hK4 (ids'' := []) (fun _ _ h => h.elim id id)⟩)
      · skip
        exact absurd (by simpa using hf) he0
    · skip
      rw [hE] at hap
      simp only [] at hap
      have hbl2 := encO_len hE
      have hp4 := NewR.keep (show NewR S (bs ++ ys) r S3 from hp3) hN.2.1
      have hrd := hN.acc.rd
      simp -dsimp only [go_sem, ↓reduceIte]
      refine hKK8 _ _ ?_
      try clear hKK8 KK8
      refine Lwp_seq fun KK12 hKK12 => ?_
      refine Lwp_seq fun KK13 hKK13 => ?_
      refine LregionG [none, none] (by kernel_rfl) (by kernel_rfl) ?_
      simp -dsimp only [go_sem, ↓reduceIte]
      repeat with_reducible refine And.intro (by first | omega | decide) ?_
      refine hKK13 _ _ ?_
      try clear hKK13 KK13
      refine Lwp_cond (by simp only [go_sem, ↓reduceIte]; rfl) (fun ht => ?_) (fun hf => ?_)
      · skip
        simp at ht
      · skip
        refine Lwp_skip ?_
        try simp -dsimp only [go_sem, ↓reduceIte]
        refine hKK12 _ _ ?_
        try clear hKK12 KK12
        refine LregionG [none, none, none, none] (by kernel_rfl) (by kernel_rfl) ?_
        simp -dsimp only [go_sem, ↓reduceIte]
        repeat with_reducible refine And.intro (by first | omega | decide | assumption) ?_
        refine PutR.apd (zs := b) hp4 rfl (by simp only [go_sem]; rfl) (by simp only [go_sem]; first | exact ⟨rfl, rfl⟩ | exact ⟨rfl, rfl, rfl⟩ | rfl) (by simp only [go_sem]) hrd.src.1 hrd.src.2 (by simp only [List.length_append, List.length_nil]; omega) ?_
        rintro r2 S5 hp5
        simp -dsimp only [go_sem, ↓reduceIte]
        refine hKK6 _ _ ?_
        try clear hKK6 KK6
        refine LregionG [none, none] (by kernel_rfl) (by kernel_rfl) ?_
        simp -dsimp only [go_sem, ↓reduceIte, e6]
        repeat with_reducible refine And.intro (by first | omega | decide) ?_
        exact hII (es.length - (k + 1)) _ _ (by omega) ⟨k + 1, r2, ys ++ b, rfl, hk', hap, by rw [← List.append_assoc]; exact hp5, rfl⟩
  · skip
    have hk2 : k = es.length := by simp at hf; omega
    subst hk2
    rw [List.take_of_length_le (Nat.le_refl _)] at hys
    rw [hys] at hRR
    refine Lwp_exit ?_
    simp -dsimp only [go_sem, ↓reduceIte]
    refine hKK2 _ _ ?_
    try clear hKK2 KK2
    refine Lwp_seq fun KK14 hKK14 => ?_
    refine LregionG [none, none, none] (by kernel_rfl) (by kernel_rfl) ?_
    simp -dsimp only [go_sem, ↓reduceIte]
    repeat with_reducible refine And.intro (by first | omega | decide) ?_
    refine hKK14 _ _ ?_
    try clear hKK14 KK14
    refine Lwp_ret ?_
    simp only [LThen, LBlock, LPost, Tryz.results8]
    simp -dsimp only [go_sem, ↓reduceIte]
    exact ret_keep (hRR _ _ ⟨_, rfl, hp⟩)

end Go.Proofs.YtdhngmldmalbbaaGreat
end
section
set_option linter.all false
namespace Go.Proofs.YtdhngmldmalbbaaGreat
open Go.Lift Go.RowKit Go.Store
set_option linter.unusedSimpArgs false
set_option linter.unusedVariables false

/-- a row of the call's own. -/
def NewRow (S S' : LS) (u : LV) (sz : Nat) (es : List (List LV)) : Prop := RowS S' S.length u sz es ∧ Keeps S S' []
theorem NewRow.nil {S S' : LS} {sz : Nat} (h : Keeps S S' []) : NewRow S S' (.sl true []) sz [] := ⟨RowS.nil, h⟩
theorem NewRow.keep {S S1 S2 : LS} {u : LV} {sz : Nat} {es : List (List LV)} {ids : List Nat} (h : NewRow S S1 u sz es) (hK : Keeps S1 S2 ids) (hd : ∀ id ∈ ids, S.length ≤ id) (hu : ∀ id ∈ rowIds u, id ∉ ids) : NewRow S S2 u sz es :=
  ⟨RowS.mono h.1 (Nat.le_refl _) (fun id hid b hb => hK.get hb (hu id hid)), h.2.trans hK (fun j hj h => h.elim (fun h => absurd h (by simp)) (fun h => by have := hd j h; omega))⟩
theorem NewRow.apd {S S' : LS} {u : LV} {sz b : Nat} {es fs : List (List LV)} {a x : Operand} {sT tx e : TypeId} {zc : List LV} {d : Option Tmp} {K : Env → LS → Prop} {env : Env} (hp : NewRow S S' u sz es) (hu : evalL env a = u) (h1 : elemT Tryz.prog sT = some e) (h2 : layE Tryz.prog e = some (sz, b, zc)) (h3 : srcT Tryz.prog tx = true)
    (h4 : srcC S'.g (evalL env x)) (h5 : srcG S'.g (evalL env x) = some fs) (h6 : ∀ f ∈ fs, f.length = sz) (h7 : fs ≠ []) (h8 : (es.length + fs.length) * b ≤ LIM)
    (hk : ∀ r S2, NewRow S S2 r sz (es ++ fs) → Keeps S' S2 (rowIds u) → (∀ id ∈ rowIds r, S'.length ≤ id) → S2.length = S'.length + 1 → K (env.putO d r) S2) :
    exeE Tryz.prog d K env S' (.call ⟨.builtin .append, #[a, x], #[sT, tx]⟩) := by
  refine append_row hp.1 hu h1 h2 h3 h4 h5 h6 (.inr h7) h8 fun S2 q1 q2 q3 => ?_
  have hlo := hp.1.lo
  refine hk _ _ ⟨RowS.mono q2 hp.2.1 (fun _ _ _ h => h), hp.2.trans q3 (fun j hj h => h.elim (fun h => h) (fun h => by have := (hlo j h).1; omega))⟩ q3 (fun id hid => by simp [rowIds] at hid; omega) q1
/-- what a journal gives, from its beginning. -/
inductive RdTo (bs : List UInt8) : Nat → List (List LV) → Prop
  | nil : RdTo bs 0 []
  | snoc {p n : Nat} {es : List (List LV)} {us : List LV} : RdTo bs p es → DecO (decS (bs.drop p)) (.tup [.agg us, V n, V 0]) → RdTo bs (p + n) (es ++ [us])
theorem decS_inl {bs : List UInt8} {e : Int} (h : decS bs = .inl e) : e ≠ 0 := by
  unfold decS at h
  by_cases h1 : bs.length < 4
  · rw [if_pos h1] at h; cases h; decide
  rw [if_neg h1] at h
  by_cases h2 : 1048576 < num (bs.take 4) + 8
  · rw [if_pos h2] at h; cases h; decide
  rw [if_neg h2] at h
  by_cases h3 : bs.length < num (bs.take 4) + 8
  · rw [if_pos h3] at h; cases h; decide
  rw [if_neg h3] at h
  by_cases h4 : chkN (bs.take (num (bs.take 4) + 4)) ≠ num ((bs.drop (num (bs.take 4) + 4)).take 4)
  · rw [if_pos h4] at h; cases h; decide
  rw [if_neg h4] at h
  by_cases h5 : num (bs.take 4) = 0
  · rw [if_pos h5] at h; cases h; decide
  rw [if_neg h5] at h
  split at h
  · cases h; decide
  · split at h
    · cases h; decide
    · cases h
theorem decS_inr {bs : List UInt8} {k : Int} {off n : Nat} {s : Sch} {p : List LV} (h : decS bs = .inr (k, off, s, p, n)) : 8 ≤ n ∧ n ≤ bs.length ∧ n ≤ 1048576 := by
  unfold decS at h
  by_cases h1 : bs.length < 4
  · rw [if_pos h1] at h; cases h
  rw [if_neg h1] at h
  by_cases h2 : 1048576 < num (bs.take 4) + 8
  · rw [if_pos h2] at h; cases h
  rw [if_neg h2] at h
  by_cases h3 : bs.length < num (bs.take 4) + 8
  · rw [if_pos h3] at h; cases h
  rw [if_neg h3] at h
  by_cases h4 : chkN (bs.take (num (bs.take 4) + 4)) ≠ num ((bs.drop (num (bs.take 4) + 4)).take 4)
  · rw [if_pos h4] at h; cases h
  rw [if_neg h4] at h
  by_cases h5 : num (bs.take 4) = 0
  · rw [if_pos h5] at h; cases h
  rw [if_neg h5] at h
  split at h
  · cases h
  · split at h
    · cases h
    · cases h; omega
theorem DecO.cs {bs : List UInt8} {r : LV} (h : DecO (decS bs) r) : (∃ e, decS bs = .inl e ∧ e ≠ 0 ∧ r = .tup [.agg (zs sLog), V 0, V e]) ∨
    ∃ (us : List LV) (n : Nat), r = .tup [.agg us, V n, V 0] ∧ ok sLog us ∧ 8 ≤ n ∧ n ≤ bs.length ∧ n ≤ 1048576 ∧ DecO (decS bs) (.tup [.agg us, V n, V 0]) := by
  have h0 := h
  unfold DecO at h
  split at h
  · rename_i e he; exact .inl ⟨e, he, decS_inl he, h⟩
  · rename_i k off s p n he
    obtain ⟨us, pre, u', post, rfl, hok, -⟩ := h
    obtain ⟨a, b, c⟩ := decS_inr he
    exact .inr ⟨us, n, rfl, hok, a, b, c, h0⟩
theorem RdTo.le {bs : List UInt8} {p : Nat} {es : List (List LV)} (h : RdTo bs p es) : p ≤ bs.length ∧ 8 * es.length ≤ p ∧ ∀ e ∈ es, ok sLog e := by
  induction h with
  | nil => simp
  | snoc h hd ih =>
    rcases hd.cs with ⟨e, -, he, h2⟩ | ⟨us, n, h2, hok, h8, hn, -, -⟩
    · simp only [LV.tup.injEq, List.cons.injEq, LV.int.injEq] at h2; exact absurd h2.2.2.1.2.symm he
    · simp only [LV.tup.injEq, List.cons.injEq, LV.int.injEq, LV.agg.injEq, true_and, and_true] at h2
      obtain ⟨rfl, h3⟩ := h2
      rw [List.length_drop] at hn
      refine ⟨by omega, by simp only [List.length_append, List.length_cons, List.length_nil]; omega, fun e he => ?_⟩
      rcases List.mem_append.1 he with he | he
      · exact ih.2.2 e he
      · rw [List.mem_singleton.1 he]; exact hok
/-- what 'Read' gives. -/
def ReadR (bs : List UInt8) (S : LS) (r : LV) (S' : LS) : Prop :=
  ∃ (u : LV) (es : List (List LV)) (p : Nat), r = .tup [u, V p] ∧ RdTo bs p es ∧ (∃ e, decS (bs.drop p) = .inl e) ∧ NewRow S S' u 38 es


theorem ovr_zs (cs : List LV) (h : cs.length = 38) : ovr cs 0 (zs sLog) = zs sLog := ovr_all (by rw [h]; rfl)
theorem take_zs : (zs sLog).take 38 = zs sLog := rfl
theorem len_zs : (zs sLog).length = 38 := rfl

set_option maxHeartbeats 400000 in
theorem Read_ok {S : LS} (f : Bool) (bs : List UInt8) (hl : bs.length ≤ 1099511627776) : LCalls Tryz.prog 12 [.sl f (bs.map u8c)] S (ReadR bs S) := by
  refine LCalls_introK 0 Tryz.func12 rfl (by kernel_rfl) rfl fun RR hRR => ?_
  refine Lwp_seq fun KK0 hKK0 => ?_
  refine LregionG [none, none] (by kernel_rfl) (by kernel_rfl) ?_
  simp -dsimp only [go_sem, ↓reduceIte]
  repeat with_reducible refine And.intro (by first | omega | decide) ?_
  refine hKK0 _ _ ?_
  try clear hKK0 KK0
  refine Lwp_seq fun KK1 hKK1 => ?_
  refine LregionG [none] (by kernel_rfl) (by kernel_rfl) ?_
  simp -dsimp only [go_sem, ↓reduceIte]
  repeat with_reducible refine And.intro (by first | omega | decide) ?_
  refine hKK1 _ _ ?_
  try clear hKK1 KK1
  refine Lwp_seq fun KK2 hKK2 => ?_
  refine LregionG [none] (by kernel_rfl) (by kernel_rfl) ?_
  simp -dsimp only [go_sem, ↓reduceIte]
  repeat with_reducible refine And.intro (by first | omega | decide) ?_
  refine hKK2 _ _ ?_
  try clear hKK2 KK2
  refine Lwp_block ?_
  refine Lwp_loopK [4, 5, 0] (fun m us S1 => ∃ (p : Nat) (u : LV) (es : List (List LV)), us = [u, V p, .sl f (bs.map u8c)] ∧ RdTo bs p es ∧ NewRow S S1 u 38 es ∧ m = bs.length - p) bs.length rfl (⟨0, .sl true [], [], by simp only [go_sem, ↓reduceIte]; rfl, .nil, NewRow.nil (Keeps.refl _ _), rfl⟩) ?_
  rintro m us S2 ⟨p, u, es, rfl, hrd, hN, hm⟩ II hII
  refine Lwp_block ?_
  refine Lwp_seq fun KK3 hKK3 => ?_
  refine LregionG [none, none, none, none, none, none, none, none, none, none, none, none] (by kernel_rfl) (by kernel_rfl) ?_
  simp -dsimp only [go_sem, ↓reduceIte]
  have hle := hrd.le
  refine ⟨⟨hle.1, Nat.le_refl _, head_u8 bs⟩, ?_⟩
  have ha : List.take (bs.length - p) (List.drop p (List.map u8c bs)) = List.map u8c (bs.drop p) := by
    rw [← List.map_drop, List.take_of_length_le (by simp)]
  rw [ha]
  clear ha
  refine LCalls.k (SDecode_ok (bs.drop p) f (by rw [List.length_drop]; omega)) ?_
  rintro r S3 ⟨hK3, hd⟩
  rcases hd.cs with ⟨e, he, he0, rfl⟩ | ⟨us, n, rfl, hok, h8, hn, hn2, hd⟩
  · skip
    skip
    simp -dsimp only [go_sem, ↓reduceIte, ovr_zs, take_zs, len_zs, List.length_cons, List.length_nil]
    refine hKK3 _ _ ?_
    try clear hKK3 KK3
    refine Lwp_seq fun KK4 hKK4 => ?_
    refine Lwp_seq fun KK5 hKK5 => ?_
    refine LregionG [none, none] (by kernel_rfl) (by kernel_rfl) ?_
    simp -dsimp only [go_sem, ↓reduceIte]
    repeat with_reducible refine And.intro (by first | omega | decide) ?_
    refine hKK5 _ _ ?_
    try clear hKK5 KK5
    refine Lwp_cond (by simp only [go_sem, ↓reduceIte]; rfl) (fun ht => ?_) (fun hf => ?_)
    · skip
      refine Lwp_seq fun KK6 hKK6 => ?_
      refine LregionG [none, none, none, none] (by kernel_rfl) (by kernel_rfl) ?_
      simp -dsimp only [go_sem, ↓reduceIte]
      repeat with_reducible refine And.intro (by first | omega | decide) ?_
      refine hKK6 _ _ ?_
      try clear hKK6 KK6
      refine Lwp_ret ?_
      simp only [LThen, LBlock, LPost, Tryz.results12]
      simp -dsimp only [go_sem, ↓reduceIte]
      exact ret_keep (hRR _ _ ⟨u, es, p, rfl, hrd, ⟨e, he⟩, (hN.keep hK3 (fun _ h => absurd h (by simp)) (fun _ _ h => absurd h (by simp))).keep (Keeps.app _ _ []) (fun _ h => absurd h (by simp)) (fun _ _ h => absurd h (by simp))⟩)
    · skip
      exact absurd (by simpa using hf) he0
  · skip
    have hlen := okLog_len hok
    have htk : us.take 38 = us := List.take_of_length_le (by omega)
    have hov : ∀ cs : List LV, cs.length = 38 → ovr cs 0 us = us := fun cs h => ovr_all (by rw [hlen, h])
    rw [List.length_drop] at hn
    have e6 : IntKind.i64.wrap ((p : Int) + (n : Int)) = ((p + n : Nat) : Int) := by rw [w64 (by omega) (by omega)]; rfl
    simp -dsimp only [go_sem, ↓reduceIte, hov, htk, hlen, List.length_cons, List.length_nil]
    refine hKK3 _ _ ?_
    try clear hKK3 KK3
    refine Lwp_seq fun KK7 hKK7 => ?_
    refine Lwp_seq fun KK8 hKK8 => ?_
    refine LregionG [none, none] (by kernel_rfl) (by kernel_rfl) ?_
    simp -dsimp only [go_sem, ↓reduceIte]
    repeat with_reducible refine And.intro (by first | omega | decide) ?_
    refine hKK8 _ _ ?_
    try clear hKK8 KK8
    refine Lwp_cond (by simp only [go_sem, ↓reduceIte]; rfl) (fun ht => ?_) (fun hf => ?_)
    · skip
      simp at ht
    · skip
      refine Lwp_skip ?_
      try simp -dsimp only [go_sem, ↓reduceIte]
      refine hKK7 _ _ ?_
      try clear hKK7 KK7
      refine Lwp_store (fun S4 => NewRow S S4 u 38 es ∧ S4[S3.length]? = some (some (38, [us]))) ⟨(hN.keep hK3 (fun _ h => absurd h (by simp)) (fun _ _ h => absurd h (by simp))).keep (Keeps.app _ _ []) (fun _ h => absurd h (by simp)) (fun _ _ h => absurd h (by simp)), by simp⟩ ?_
      rintro S4 ⟨hN4, hS4⟩
      refine LregionG [none, none, none, none, none, none, none, none, none] (by kernel_rfl) (by kernel_rfl) ?_
      simp -dsimp only [go_sem, ↓reduceIte, hS4, hlen, htk, e6]
      repeat with_reducible refine And.intro (by first | omega | decide | assumption) ?_
      refine NewRow.apd (fs := [us]) hN4 rfl (by simp only [go_sem]; rfl) (by simp only [go_sem]; first | exact ⟨rfl, rfl⟩ | exact ⟨rfl, rfl, rfl⟩ | rfl) (by simp only [go_sem]) (by simp only [go_sem, ↓reduceIte]) (by simp only [go_sem, ↓reduceIte]) (by simp [hlen]) (by simp) (by simp only [LIM, List.length_cons, List.length_nil]; omega) ?_
      rintro r S5 hN5 hK5 - -
      simp -dsimp only [go_sem, ↓reduceIte, e6]
      exact hII (bs.length - (p + n)) _ _ (by omega) ⟨p + n, r, es ++ [us], rfl, .snoc hrd hd, hN5, rfl⟩

end Go.Proofs.YtdhngmldmalbbaaGreat
end
section
set_option linter.all false
namespace Go.Proofs.YtdhngmldmalbbaaGreat
open Go.Lift Go.RowKit Go.Store
set_option linter.unusedSimpArgs false
set_option linter.unusedVariables false

/-! ### What is read of a journal -/
/-- entries and their bodies. -/
abbrev EL := List (List LV × List UInt8)
def jr (L : EL) : List UInt8 := L.flatMap fun p => framed p.2
def FitE (p : List LV × List UInt8) : Prop := ∃ k off s u, Fits p.1 k off s u p.2
/-- what was read for an entry. -/
def EqE (v : List LV) (p : List LV × List UInt8) : Prop := ok sLog v ∧ sameE v p.1 = true ∧ bodyE v = some p.2
theorem jr_nil : jr [] = [] := rfl
theorem jr_cons (p : List LV × List UInt8) (L : EL) : jr (p :: L) = framed p.2 ++ jr L := rfl
theorem jr_app (L M : EL) : jr (L ++ M) = jr L ++ jr M := by simp [jr]
theorem dec_fit {p : List LV × List UInt8} (h : FitE p) (rest : List UInt8) {us : List LV} {n : Int} (hd : DecO (decS (framed p.2 ++ rest)) (.tup [.agg us, V n, V 0])) : n = (framed p.2).length ∧ EqE us p := by
  obtain ⟨k, off, s, u, hF⟩ := h
  obtain ⟨vs, hr, hok, h1, h2, h3⟩ := dec_same hF hd
  simp only [LV.tup.injEq, List.cons.injEq, LV.int.injEq, LV.agg.injEq, true_and, and_true] at hr
  obtain ⟨rfl, rfl⟩ := hr
  exact ⟨rfl, hok, h2, h3⟩
theorem dec_fit_inl {p : List LV × List UInt8} (h : FitE p) (rest : List UInt8) {e : Int} : decS (framed p.2 ++ rest) ≠ .inl e := by
  obtain ⟨k, off, s, u, hok, g0, hks, hu, hb, -, hl⟩ := h
  rw [decS_framed hks hu hb (by omega)]
  simp
theorem DecO_inl {bs : List UInt8} {e : Int} (h : decS bs = .inl e) {us : List LV} {n : Int} : ¬ DecO (decS bs) (.tup [.agg us, V n, V 0]) := by
  intro hd
  have he := decS_inl h
  rw [h] at hd
  simp only [DecO, LV.tup.injEq, List.cons.injEq, LV.int.injEq] at hd
  exact he hd.2.2.1.2.symm
theorem RdTo.take {bs : List UInt8} {p : Nat} {es : List (List LV)} (h : RdTo bs p es) : ∀ m, m ≤ es.length → ∃ p', RdTo bs p' (es.take m) := by
  induction h with
  | nil => intro m hm; exact ⟨0, by simpa using RdTo.nil⟩
  | @snoc p n es us h hd ih =>
    intro m hm
    rw [List.length_append, List.length_cons, List.length_nil] at hm
    by_cases e : m = es.length + 1
    · exact ⟨p + n, by rw [List.take_of_length_le (by simp; omega)]; exact .snoc h hd⟩
    · obtain ⟨p', hp⟩ := ih m (by omega)
      exact ⟨p', by rw [List.take_append_of_le_length (by omega)]; exact hp⟩
theorem RdTo.last {bs : List UInt8} {p : Nat} {es : List (List LV)} {us : List LV} (h : RdTo bs p (es ++ [us])) : ∃ p' n : Nat, RdTo bs p' es ∧ p = p' + n ∧ DecO (decS (bs.drop p')) (.tup [.agg us, V n, V 0]) := by
  generalize hf : es ++ [us] = fs at h
  cases h with
  | nil => simp at hf
  | snoc h hd =>
    obtain ⟨rfl, h2⟩ := List.append_inj' hf rfl
    cases h2
    exact ⟨_, _, h, rfl, hd⟩
theorem getE {L : EL} {i : Nat} (h : i < L.length) : L.take (i + 1) = L.take i ++ [L.getD i ([], [])] := by
  rw [List.take_succ_eq_append_getElem h, List.getD_eq_getElem?_getD, List.getElem?_eq_getElem h]; rfl
theorem getE_mem {L : EL} {i : Nat} (h : i < L.length) : L.getD i ([], []) ∈ L := by
  rw [List.getD_eq_getElem?_getD, List.getElem?_eq_getElem h]; exact List.getElem_mem h
theorem dropE {L : EL} {i : Nat} (h : i < L.length) : L.drop i = L.getD i ([], []) :: L.drop (i + 1) := by
  rw [List.drop_eq_getElem_cons h, List.getD_eq_getElem?_getD, List.getElem?_eq_getElem h]; rfl
theorem jr_drop {L : EL} {i : Nat} (h : i < L.length) (rest : List UInt8) : (jr L ++ rest).drop (jr (L.take i)).length = framed (L.getD i ([], [])).2 ++ (jr (L.drop (i + 1)) ++ rest) := by
  have e : jr L = jr (L.take i) ++ (framed (L.getD i ([], [])).2 ++ jr (L.drop (i + 1))) := by
    rw [← jr_cons, ← dropE h, ← jr_app, List.take_append_drop]
  rw [e, List.append_assoc, List.drop_left, List.append_assoc]
theorem RdTo.jr_take {L : EL} (hL : ∀ p ∈ L, FitE p) {rest : List UInt8} {p : Nat} {es : List (List LV)} (h : RdTo (jr L ++ rest) p es) : es.length ≤ L.length → p = (jr (L.take es.length)).length ∧ ∀ i, i < es.length → EqE (es.getD i []) (L.getD i ([], [])) := by
  induction h with
  | nil => intro _; simp [jr_nil]
  | @snoc p n es us h hd ih =>
    intro hl
    rw [List.length_append, List.length_cons, List.length_nil] at hl
    obtain ⟨rfl, h2⟩ := ih (by omega)
    rw [jr_drop (by omega)] at hd
    obtain ⟨hn, hq⟩ := dec_fit (hL _ (getE_mem (by omega))) _ hd
    have hn' : n = (framed (L.getD es.length ([], [])).2).length := by omega
    refine ⟨?_, fun i hi => ?_⟩
    · rw [List.length_append, List.length_cons, List.length_nil, getE (by omega), jr_app, List.length_append, hn']
      simp [jr]
    · rw [List.length_append, List.length_cons, List.length_nil] at hi
      by_cases e : i = es.length
      · subst e
        rw [List.getD_eq_getElem?_getD, List.getElem?_append_right (by omega), Nat.sub_self]; exact hq
      · rw [List.getD_eq_getElem?_getD, List.getElem?_append_left (by omega), ← List.getD_eq_getElem?_getD]; exact h2 i (by omega)
/-- a journal whose first entries are whole. -/
theorem read_whole {L : EL} (hL : ∀ p ∈ L, FitE p) {rest : List UInt8} {p : Nat} {es : List (List LV)} (h : RdTo (jr L ++ rest) p es) (he : ∃ e, decS ((jr L ++ rest).drop p) = .inl e) :
    L.length ≤ es.length ∧ (∀ i, i < L.length → EqE (es.getD i []) (L.getD i ([], []))) ∧ ((∃ e, decS rest = .inl e) → es.length = L.length ∧ p = (jr L).length) := by
  have h1 : L.length ≤ es.length := by
    by_cases hlt : L.length ≤ es.length
    · exact hlt
    · obtain ⟨rfl, -⟩ := h.jr_take hL (by omega)
      rw [jr_drop (by omega)] at he
      obtain ⟨e, he⟩ := he
      exact absurd he (dec_fit_inl (hL _ (getE_mem (by omega))) _)
  refine ⟨h1, fun i hi => ?_, fun ⟨e, hr⟩ => ?_⟩
  · obtain ⟨p', hp⟩ := h.take L.length h1
    have := (hp.jr_take hL (by rw [List.length_take]; omega)).2 i (by rw [List.length_take]; omega)
    rwa [List.getD_eq_getElem?_getD, List.getElem?_take_of_lt hi, ← List.getD_eq_getElem?_getD] at this
  · have h2 : es.length = L.length := by
      by_cases hgt : es.length = L.length
      · exact hgt
      · obtain ⟨p', hp⟩ := h.take (L.length + 1) (by omega)
        rw [List.take_succ_eq_append_getElem (by omega)] at hp
        obtain ⟨p2, n, hp2, -, hd⟩ := hp.last
        obtain ⟨rfl, -⟩ := hp2.jr_take hL (by rw [List.length_take]; omega)
        rw [List.length_take, Nat.min_eq_left h1, List.take_of_length_le (Nat.le_refl _), List.drop_left] at hd
        exact absurd hd (DecO_inl hr)
    refine ⟨h2, ?_⟩
    obtain ⟨rfl, -⟩ := h.jr_take hL (by omega)
    rw [h2, List.take_of_length_le (Nat.le_refl _)]
theorem decS_nil : decS [] = .inl 11 := rfl
theorem decS_cut {p : List LV × List UInt8} (h : FitE p) {q : Nat} (hq : q < (framed p.2).length) : decS ((framed p.2).take q) = .inl 11 := by
  obtain ⟨k, off, s, u, hok, g0, hks, hu, hb, -, hl⟩ := h
  have hlen : ((framed p.2).take q).length = q := by rw [List.length_take]; omega
  unfold decS
  rw [hlen]
  by_cases h4 : q < 4
  · rw [if_pos h4]
  · rw [if_neg h4]
    have e4 : ((framed p.2).take q).take 4 = be 4 p.2.length := by
      rw [List.take_take, Nat.min_eq_left (by omega)]
      simp only [framed, List.append_assoc]; exact List.take_left' (be_length 4 _)
    rw [e4, num_be4 (by omega), if_neg (by omega), if_pos (by rw [framed_len] at hq; omega)]
theorem log_take {us : List LV} (h : ok sLog us) : us.take 38 = us ∧ (∀ cs : List LV, cs.length = 38 → ovr cs 0 us = us) :=
  ⟨List.take_of_length_le (by have := okLog_len h; omega), fun cs hc => ovr_all (by rw [okLog_len h, hc])⟩
theorem fit_ok {p : List LV × List UInt8} (h : FitE p) : ok sLog p.1 ∧ bodyE p.1 = some p.2 ∧ p.2.length ≤ 5000 := by
  obtain ⟨k, off, s, u, hok, -, -, -, -, hb, hl⟩ := h
  exact ⟨hok, hb, hl⟩
theorem fit_enc {p : List LV × List UInt8} (h : FitE p) : encO p.1 = .inr (framed p.2) := by
  obtain ⟨-, hb, hl⟩ := fit_ok h
  unfold encO
  rw [hb]
  simp only []
  rw [if_pos (by omega)]
theorem u8_wrap_ex (n : Int) : ∃ b : UInt8, IntKind.u8.wrap n = (b.toNat : Int) := ⟨UInt8.ofNat (n % 256).toNat, by rw [wu8m]; simp; omega⟩
theorem map_set8 {bs : List UInt8} {k : Nat} {b : UInt8} : (bs.map u8c).set k (u8c b) = (bs.set k b).map u8c := (List.map_set ..).symm

end Go.Proofs.YtdhngmldmalbbaaGreat
end
section
set_option linter.all false
namespace Go.Proofs.YtdhngmldmalbbaaGreat
open Go.Lift Go.RowKit Go.Store
set_option linter.unusedSimpArgs false
set_option linter.unusedVariables false

/-! ### The reader of the store reads as 'dec' does -/
theorem take'_some {k : Nat} {bs : List UInt8} (h : k ≤ bs.length) : take' k bs = some (bs.take k, bs.drop k) := if_pos h
theorem take'_none {k : Nat} {bs : List UInt8} (h : bs.length < k) : take' k bs = none := if_neg (by omega)
theorem cons'_len {u : LV} {o : Option (List LV × List UInt8)} {us : List LV} {r : List UInt8} (h : cons' u o = some (us, r)) : ∃ vs, o = some (vs, r) ∧ us = u :: vs := by
  cases o with
  | none => cases h
  | some p => obtain ⟨a, b⟩ := p; simp only [cons', Option.some.injEq, Prod.mk.injEq] at h; exact ⟨a, by rw [h.2], h.1.symm⟩
theorem decN_len {e : Sch} (he : ∀ (bs : List UInt8) (us : List LV) (r : List UInt8), dec e bs = some (us, r) → minB e + r.length ≤ bs.length) : ∀ (n : Nat) (bs : List UInt8) (xs : List (List LV)) (r : List UInt8), decN (dec e) n bs = some (xs, r) → n * minB e + r.length ≤ bs.length ∧ xs.length = n
  | 0, bs, xs, r, h => by simp only [decN, Option.some.injEq, Prod.mk.injEq] at h; obtain ⟨rfl, rfl⟩ := h; simp
  | n + 1, bs, xs, r, h => by
    simp only [decN] at h
    cases h1 : dec e bs with
    | none => rw [h1] at h; cases h
    | some p =>
      obtain ⟨x, b⟩ := p
      rw [h1] at h
      simp only [] at h
      cases h2 : decN (dec e) n b with
      | none => rw [h2] at h; cases h
      | some q =>
        obtain ⟨ys, b2⟩ := q
        rw [h2] at h
        simp only [Option.some.injEq, Prod.mk.injEq] at h
        obtain ⟨rfl, rfl⟩ := h
        have a1 := he _ _ _ h1
        have a2 := decN_len he n b ys b2 h2
        refine ⟨?_, by simp [a2.2]⟩
        rw [Nat.add_mul, Nat.one_mul]; omega
theorem dec_len : ∀ {s : Sch} {bs : List UInt8} {us : List LV} {r : List UInt8}, dec s bs = some (us, r) → minB s + r.length ≤ bs.length
  | .nil, bs, us, r, h => by simp only [dec, Option.some.injEq, Prod.mk.injEq] at h; obtain ⟨rfl, rfl⟩ := h; simp [minB]
  | .int t, bs, us, r, h => by
    by_cases hb : 8 ≤ bs.length
    · simp only [dec, take'_some hb] at h
      obtain ⟨vs, h1, -⟩ := cons'_len h
      have := dec_len h1
      rw [List.length_drop] at this; simp only [minB]; omega
    · simp only [dec, take'_none (by omega : bs.length < 8)] at h; cases h
  | .word t, bs, us, r, h => by
    by_cases hb : 8 ≤ bs.length
    · simp only [dec, take'_some hb] at h
      obtain ⟨vs, h1, -⟩ := cons'_len h
      have := dec_len h1
      rw [List.length_drop] at this; simp only [minB]; omega
    · simp only [dec, take'_none (by omega : bs.length < 8)] at h; cases h
  | .bool t, bs, us, r, h => by
    by_cases hb : 1 ≤ bs.length
    · simp only [dec, take'_some hb] at h
      split at h
      · obtain ⟨vs, h1, -⟩ := cons'_len h
        have := dec_len h1
        rw [List.length_drop] at this; simp only [minB]; omega
      · cases h
    · simp only [dec, take'_none (by omega : bs.length < 1)] at h; cases h
  | .str t, bs, us, r, h => by
    by_cases hb : 4 ≤ bs.length
    · simp only [dec, take'_some hb] at h
      by_cases hc : num (bs.take 4) ≤ (bs.drop 4).length
      · simp only [take'_some hc] at h
        obtain ⟨vs, h1, -⟩ := cons'_len h
        have := dec_len h1
        rw [List.length_drop, List.length_drop] at this; simp only [minB]; omega
      · simp only [take'_none (by omega : (bs.drop 4).length < num (bs.take 4))] at h; cases h
    · simp only [dec, take'_none (by omega : bs.length < 4)] at h; cases h
  | .sl e t, bs, us, r, h => by
    by_cases hb : 4 ≤ bs.length
    · simp only [dec, take'_some hb] at h
      cases h1 : decN (dec e) (num (bs.take 4)) (bs.drop 4) with
      | none => rw [h1] at h; cases h
      | some p =>
        obtain ⟨xs, b⟩ := p
        rw [h1] at h
        obtain ⟨vs, h2, -⟩ := cons'_len h
        have a1 := (decN_len (fun _ _ _ h => dec_len h) _ _ _ _ h1).1
        have a2 := dec_len h2
        rw [List.length_drop] at a1; simp only [minB]; omega
    · simp only [dec, take'_none (by omega : bs.length < 4)] at h; cases h
/-- what the walk over bytes and 'dec' have to do with one another. -/
def DecW (o : Option (List LV × List UInt8)) (r : List LV × (List UInt8 × Bool)) : Prop :=
  match o with
  | some (us, rest) => r = (us, (rest, false))
  | none => r.2.2 = true
def DecNW (o : Option (List (List LV) × List UInt8)) (r : List (List LV) × (List UInt8 × Bool)) : Prop :=
  match o with
  | some (us, rest) => r = (us, (rest, false))
  | none => r.2.2 = true
theorem walN_bad {e : Sch} (he : ∀ (us : List LV) (bs : List UInt8), ok e us → (wal rR e us ((bs, true) : List UInt8 × Bool)).2.2 = true) : ∀ (n : Nat) (es : List (List LV)) (bs : List UInt8), (∀ x ∈ es, ok e x) → (walN (wal rR e) (zs e) n es ((bs, true) : List UInt8 × Bool)).2.2 = true
  | 0, es, bs, _ => rfl
  | n + 1, es, bs, h => by
    have hd : ok e (es.headD (zs e)) := by
      cases es with
      | nil => exact ok_zs
      | cons x es => exact h x (List.mem_cons_self ..)
    have h1 := he (es.headD (zs e)) bs hd
    obtain ⟨b2, hb2⟩ : ∃ b2 : List UInt8, (wal rR e (es.headD (zs e)) ((bs, true) : List UInt8 × Bool)).2 = ((b2, true) : List UInt8 × Bool) := ⟨_, Prod.ext rfl h1⟩
    show (walN (wal rR e) (zs e) n es.tail (wal rR e (es.headD (zs e)) ((bs, true) : List UInt8 × Bool)).2).2.2 = true
    rw [hb2]
    exact walN_bad he n es.tail b2 (fun x hx => h x (List.mem_of_mem_tail hx))
theorem wal_bad : ∀ {s : Sch} {us : List LV} {bs : List UInt8}, ok s us → (wal rR s us ((bs, true) : List UInt8 × Bool)).2.2 = true
  | .nil, [], bs, _ => rfl
  | .int r, .int k v :: us, bs, h => by
    simp only [ok] at h
    show (wal rR r us (rTake (bs, true) 8).2).2.2 = true
    rw [rTake_bad]; exact wal_bad h.2.2.2
  | .word r, .int k v :: us, bs, h => by
    simp only [ok] at h
    show (wal rR r us (rTake (bs, true) 8).2).2.2 = true
    rw [rTake_bad]; exact wal_bad h.2.2.2
  | .bool r, .bool b :: us, bs, h => by
    simp only [ok] at h
    show (wal rR r us ((rTake (bs, true) 1).2.1, (rTake (bs, true) 1).2.2 || decide (1 < num (rTake (bs, true) 1).1))).2.2 = true
    rw [rTake_bad]; simp only [Bool.true_or]; exact wal_bad (s := r) h
  | .str r, .str b :: us, bs, h => by
    simp only [ok] at h
    show (wal rR r us (rTake (rTake (bs, true) 4).2 (num (rTake (bs, true) 4).1)).2).2.2 = true
    rw [rTake_bad]; simp only []; rw [rTake_bad]; exact wal_bad h.2
  | .sl e r, .sl f es :: us, bs, h => by
    simp only [ok] at h
    have hc : rCount (bs, true) = (0, (bs, true)) := by unfold rCount; rw [rTake_bad]; simp
    show (wal rR r us (walN (wal rR e) (zs e) (rCount (bs, true)).1 es (rCount (bs, true)).2).2).2.2 = true
    rw [hc]
    exact wal_bad h.2.2
theorem walN_dec {e : Sch} (he : ∀ (us : List LV) (bs : List UInt8), ok e us → DecW (dec e bs) (wal rR e us ((bs, false) : List UInt8 × Bool))) : ∀ (n : Nat) (es : List (List LV)) (bs : List UInt8), (∀ x ∈ es, ok e x) → DecNW (decN (dec e) n bs) (walN (wal rR e) (zs e) n es ((bs, false) : List UInt8 × Bool))
  | 0, es, bs, _ => rfl
  | n + 1, es, bs, h => by
    have hd : ok e (es.headD (zs e)) := by
      cases es with
      | nil => exact ok_zs
      | cons x es => exact h x (List.mem_cons_self ..)
    have ht : ∀ x ∈ es.tail, ok e x := fun x hx => h x (List.mem_of_mem_tail hx)
    have h1 := he (es.headD (zs e)) bs hd
    simp only [decN]
    show DecNW _ ((wal rR e (es.headD (zs e)) ((bs, false) : List UInt8 × Bool)).1 :: (walN (wal rR e) (zs e) n es.tail (wal rR e (es.headD (zs e)) ((bs, false) : List UInt8 × Bool)).2).1, (walN (wal rR e) (zs e) n es.tail (wal rR e (es.headD (zs e)) ((bs, false) : List UInt8 × Bool)).2).2)
    cases hx : dec e bs with
    | none =>
      rw [hx] at h1
      obtain ⟨b2, hb2⟩ : ∃ b2 : List UInt8, (wal rR e (es.headD (zs e)) ((bs, false) : List UInt8 × Bool)).2 = ((b2, true) : List UInt8 × Bool) := ⟨_, Prod.ext rfl h1⟩
      rw [hb2]
      exact walN_bad (fun us bs h => wal_bad h) n es.tail b2 ht
    | some p =>
      obtain ⟨x, b⟩ := p
      rw [hx] at h1
      have h1' : wal rR e (es.headD (zs e)) ((bs, false) : List UInt8 × Bool) = (x, ((b, false) : List UInt8 × Bool)) := h1
      rw [h1']
      have h2 := walN_dec he n es.tail b ht
      simp only []
      cases hy : decN (dec e) n b with
      | none => rw [hy] at h2; exact h2
      | some q =>
        obtain ⟨ys, b2⟩ := q
        rw [hy] at h2
        have h2' : walN (wal rR e) (zs e) n es.tail ((b, false) : List UInt8 × Bool) = (ys, ((b2, false) : List UInt8 × Bool)) := h2
        rw [h2']; rfl
theorem DecW_cons {u : LV} {o : Option (List LV × List UInt8)} {r : List LV × (List UInt8 × Bool)} (h : DecW o r) : DecW (cons' u o) (u :: r.1, r.2) := by
  cases o with
  | none => exact h
  | some p => obtain ⟨us, rest⟩ := p; have h' : r = (us, (rest, false)) := h; rw [h']; rfl
theorem walR_dec : ∀ {s : Sch} {us : List LV} {bs : List UInt8}, ok s us → wfS s = true → DecW (dec s bs) (wal rR s us ((bs, false) : List UInt8 × Bool))
  | .nil, [], bs, _, _ => rfl
  | .int r, .int k v :: us, bs, h, hw => by
    simp only [ok] at h
    show DecW _ (LV.int .i64 (s64 (num (rTake (bs, false) 8).1)) :: (wal rR r us (rTake (bs, false) 8).2).1, (wal rR r us (rTake (bs, false) 8).2).2)
    by_cases hb : 8 ≤ bs.length
    · simp only [dec, take'_some hb]
      rw [rTake_ok hb]
      exact DecW_cons (walR_dec h.2.2.2 hw)
    · simp only [dec, take'_none (by omega : bs.length < 8)]
      rw [rTake_few (by omega)]
      exact wal_bad h.2.2.2
  | .word r, .int k v :: us, bs, h, hw => by
    simp only [ok] at h
    show DecW _ (LV.int .u64 ((num (rTake (bs, false) 8).1 : Nat) : Int) :: (wal rR r us (rTake (bs, false) 8).2).1, (wal rR r us (rTake (bs, false) 8).2).2)
    by_cases hb : 8 ≤ bs.length
    · simp only [dec, take'_some hb]
      rw [rTake_ok hb]
      exact DecW_cons (walR_dec h.2.2.2 hw)
    · simp only [dec, take'_none (by omega : bs.length < 8)]
      rw [rTake_few (by omega)]
      exact wal_bad h.2.2.2
  | .bool r, .bool b :: us, bs, h, hw => by
    simp only [ok] at h
    show DecW _ (LV.bool (num (rTake (bs, false) 1).1 == 1) :: (wal rR r us ((rTake (bs, false) 1).2.1, (rTake (bs, false) 1).2.2 || decide (1 < num (rTake (bs, false) 1).1))).1, (wal rR r us ((rTake (bs, false) 1).2.1, (rTake (bs, false) 1).2.2 || decide (1 < num (rTake (bs, false) 1).1))).2)
    by_cases hb : 1 ≤ bs.length
    · simp only [dec, take'_some hb]
      rw [rTake_ok hb]
      simp only [Bool.false_or]
      by_cases h1 : num (bs.take 1) ≤ 1
      · rw [if_pos h1, decide_eq_false (by omega)]
        exact DecW_cons (walR_dec (s := r) h hw)
      · rw [if_neg h1, decide_eq_true (by omega)]
        exact wal_bad (s := r) h
    · simp only [dec, take'_none (by omega : bs.length < 1)]
      rw [rTake_few (by omega)]
      simp only [Bool.true_or]
      exact wal_bad (s := r) h
  | .str r, .str b :: us, bs, h, hw => by
    simp only [ok] at h
    show DecW _ (LV.str (strOf (rTake (rTake (bs, false) 4).2 (num (rTake (bs, false) 4).1)).1) :: (wal rR r us (rTake (rTake (bs, false) 4).2 (num (rTake (bs, false) 4).1)).2).1, (wal rR r us (rTake (rTake (bs, false) 4).2 (num (rTake (bs, false) 4).1)).2).2)
    by_cases hb : 4 ≤ bs.length
    · simp only [dec, take'_some hb]
      rw [rTake_ok hb]
      simp only []
      by_cases hc : num (bs.take 4) ≤ (bs.drop 4).length
      · simp only [take'_some hc]
        rw [rTake_ok hc]
        exact DecW_cons (walR_dec h.2 hw)
      · simp only [take'_none (by omega : (bs.drop 4).length < num (bs.take 4))]
        rw [rTake_few (by omega)]
        exact wal_bad h.2
    · simp only [dec, take'_none (by omega : bs.length < 4)]
      rw [rTake_few (k := 4) (by omega)]
      simp only []
      rw [rTake_bad]
      exact wal_bad h.2
  | .sl e r, .sl f es :: us, bs, h, hw => by
    simp only [ok] at h
    simp only [wfS, Bool.and_eq_true] at hw
    obtain ⟨⟨hm, hwe⟩, hwr⟩ := hw
    have hm4 : 4 ≤ minB e := Nat.le_of_ble_eq_true hm
    show DecW _ (LV.sl false (walN (wal rR e) (zs e) (rCount (bs, false)).1 es (rCount (bs, false)).2).1 :: (wal rR r us (walN (wal rR e) (zs e) (rCount (bs, false)).1 es (rCount (bs, false)).2).2).1, (wal rR r us (walN (wal rR e) (zs e) (rCount (bs, false)).1 es (rCount (bs, false)).2).2).2)
    by_cases hb : 4 ≤ bs.length
    · simp only [dec, take'_some hb]
      by_cases hc : (bs.drop 4).length / 4 < num (bs.take 4)
      · have hr : rCount (bs, false) = (0, (bs.drop 4, true)) := by unfold rCount; rw [rTake_ok hb]; simp only []; rw [if_pos (.inr hc)]
        rw [hr]
        have hn : decN (dec e) (num (bs.take 4)) (bs.drop 4) = none := by
          cases hx : decN (dec e) (num (bs.take 4)) (bs.drop 4) with
          | none => rfl
          | some p =>
            have a1 := (decN_len (fun _ _ _ h => dec_len h) _ _ _ _ hx).1
            have a2 : num (bs.take 4) * 4 ≤ num (bs.take 4) * minB e := Nat.mul_le_mul_left _ hm4
            have a3 := Nat.le_trans (Nat.le_trans a2 (Nat.le_add_right _ p.2.length)) a1
            omega
        rw [hn]
        exact wal_bad h.2.2
      · have hr : rCount (bs, false) = (num (bs.take 4), (bs.drop 4, false)) := by unfold rCount; rw [rTake_ok hb]; simp only []; rw [if_neg (fun h => h.elim (fun h => by cases h) hc)]
        rw [hr]
        have hN := walN_dec (e := e) (fun us bs h => walR_dec h hwe) (num (bs.take 4)) es (bs.drop 4) h.2.1
        simp only []
        cases hx : decN (dec e) (num (bs.take 4)) (bs.drop 4) with
        | none =>
          rw [hx] at hN
          obtain ⟨b2, hb2⟩ : ∃ b2 : List UInt8, (walN (wal rR e) (zs e) (num (bs.take 4)) es ((bs.drop 4, false) : List UInt8 × Bool)).2 = ((b2, true) : List UInt8 × Bool) := ⟨_, Prod.ext rfl hN⟩
          rw [hb2]
          exact wal_bad h.2.2
        | some p =>
          obtain ⟨xs, b2⟩ := p
          rw [hx] at hN
          have hN' : walN (wal rR e) (zs e) (num (bs.take 4)) es ((bs.drop 4, false) : List UInt8 × Bool) = (xs, ((b2, false) : List UInt8 × Bool)) := hN
          rw [hN']
          exact DecW_cons (walR_dec h.2.2 hwr)
    · simp only [dec, take'_none (by omega : bs.length < 4)]
      have hr : rCount (bs, false) = (0, (bs, true)) := by unfold rCount; rw [rTake_few (by omega)]; simp
      rw [hr]
      exact wal_bad h.2.2

end Go.Proofs.YtdhngmldmalbbaaGreat
end
section
set_option linter.all false
namespace Go.Proofs.YtdhngmldmalbbaaGreat
open Go.Lift Go.RowKit Go.Store
set_option linter.unusedSimpArgs false
set_option linter.unusedVariables false

/-! ### The reader of the reference -/
def rdr (f : Bool) (bs : List UInt8) (p : Nat) (o : Bool) : LV := .agg [.sl f (bs.map u8c), V p, .bool o]
/-- what a reading of 's' does: 'o' is whether all went well till then. -/
def GetO (s : Sch) (rem : List UInt8) (o : Bool) (us : List LV) (rem' : List UInt8) (o' : Bool) : Prop :=
  (o' = true ∧ o = true ∧ dec s rem = some (nz s us, rem')) ∨ (o' = false ∧ (o = false ∨ dec s rem = none))
theorem dec_app : ∀ {s t : Sch} {bs : List UInt8}, dec (s.app t) bs = match dec s bs with
    | some (us, r) => match dec t r with
      | some (vs, r') => some (us ++ vs, r')
      | none => none
    | none => none
  | .nil, t, bs => by
    simp only [Sch.app, dec, List.nil_append]
    cases dec t bs with
    | none => rfl
    | some p => rfl
  | .int r, t, bs => by
    simp only [Sch.app, dec]
    cases take' 8 bs with
    | none => rfl
    | some p =>
      simp only [dec_app (s := r) (t := t)]
      cases dec r p.2 with
      | none => rfl
      | some q => simp only [cons']; cases dec t q.2 <;> rfl
  | .word r, t, bs => by
    simp only [Sch.app, dec]
    cases take' 8 bs with
    | none => rfl
    | some p =>
      simp only [dec_app (s := r) (t := t)]
      cases dec r p.2 with
      | none => rfl
      | some q => simp only [cons']; cases dec t q.2 <;> rfl
  | .bool r, t, bs => by
    simp only [Sch.app, dec]
    cases take' 1 bs with
    | none => rfl
    | some p =>
      simp only []
      split
      · simp only [dec_app (s := r) (t := t)]
        cases dec r p.2 with
        | none => rfl
        | some q => simp only [cons']; cases dec t q.2 <;> rfl
      · rfl
  | .str r, t, bs => by
    simp only [Sch.app, dec]
    cases take' 4 bs with
    | none => rfl
    | some p =>
      simp only []
      cases take' (num p.1) p.2 with
      | none => rfl
      | some p =>
        simp only [dec_app (s := r) (t := t)]
        cases dec r p.2 with
        | none => rfl
        | some q => simp only [cons']; cases dec t q.2 <;> rfl
  | .sl e r, t, bs => by
    simp only [Sch.app, dec]
    cases take' 4 bs with
    | none => rfl
    | some p =>
      simp only []
      cases decN (dec e) (num p.1) p.2 with
      | none => rfl
      | some p =>
        simp only [dec_app (s := r) (t := t)]
        cases dec r p.2 with
        | none => rfl
        | some q => simp only [cons']; cases dec t q.2 <;> rfl
theorem GetO.app {s t : Sch} {us vs : List LV} {r r1 r2 : List UInt8} {o o1 o2 : Bool} (h : GetO s r o us r1 o1) (h' : GetO t r1 o1 vs r2 o2) (hok : ok s us) : GetO (s.app t) r o (us ++ vs) r2 o2 := by
  rcases h' with ⟨rfl, rfl, hd⟩ | ⟨rfl, hd⟩
  · rcases h with ⟨-, rfl, hd1⟩ | ⟨h1, -⟩
    · exact .inl ⟨rfl, rfl, by rw [dec_app, hd1]; simp only []; rw [hd]; simp only []; rw [nz_app hok]⟩
    · cases h1
  · refine .inr ⟨rfl, ?_⟩
    rcases h with ⟨rfl, rfl, hd1⟩ | ⟨rfl, h1⟩
    · rcases hd with h | h
      · cases h
      · exact .inr (by rw [dec_app, hd1]; simp only []; rw [h])
    · rcases h1 with h1 | h1
      · exact .inl h1
      · exact .inr (by rw [dec_app, h1])
theorem GetO.nil {r : List UInt8} {o : Bool} : GetO .nil r o [] r o := by cases o; exact .inr ⟨rfl, .inl rfl⟩; exact .inl ⟨rfl, rfl, rfl⟩
/-- a call that reads. -/
def GetC (fid : FuncId) (s : Sch) (W : List LV → LV) : Prop := ∀ (f : Bool) (bs : List UInt8) (p : Nat) (o : Bool), bs.length ≤ 1048576 → p ≤ bs.length →
  Pc fid [rdr f bs p o] (fun r => ∃ p' o' us, r = .tup [rdr f bs p' o', W us] ∧ p' ≤ bs.length ∧ ok s us ∧ GetO s (bs.drop p) o us (bs.drop p') o')

set_option maxHeartbeats 400000 in
theorem Get_ok (f : Bool) (bs : List UInt8) (p n : Nat) (o : Bool) (hb : bs.length ≤ 140737488355328) (hp : p ≤ bs.length) (hn : n ≤ 8) : Pc 36 [rdr f bs p o, V n] (fun r => ∃ (p' : Nat) (o' : Bool) (v : Nat), r = .tup [rdr f bs p' o', .int .u64 v] ∧ p' ≤ bs.length ∧ ((o' = true ∧ o = true ∧ n ≤ (bs.drop p).length ∧ p' = p + n ∧ v = num ((bs.drop p).take n)) ∨ (o' = false ∧ p' = p ∧ v = 0 ∧ (o = false ∨ (bs.drop p).length < n)))) := by
  refine Pc_intro 1 Tryz.func36 rfl (by kernel_rfl) rfl fun S RR hRR => ?_
  have e1 : IntKind.i64.wrap ((bs.length : Int) - (p : Int)) = ((bs.length - p : Nat) : Int) := by rw [w64 (by omega) (by omega)]; omega
  have hdl : (bs.drop p).length = bs.length - p := List.length_drop
  refine Lwp_seq fun KK0 hKK0 => ?_
  refine LregionG [none, none, none] (by kernel_rfl) (by kernel_rfl) ?_
  simp -dsimp only [go_sem, ↓reduceIte, rdr]
  repeat with_reducible refine And.intro (by first | omega | decide) ?_
  refine hKK0 _ _ ?_
  try clear hKK0 KK0
  refine Lwp_seq fun KK1 hKK1 => ?_
  refine Lwp_seq fun KK2 hKK2 => ?_
  refine LregionG [none, none, none, none, some (11, false), some (11, false), some (11, false), some (11, false), some (11, false), some (11, false), some (11, false), some (11, false), none] (by kernel_rfl) (by kernel_rfl) ?_
  simp -dsimp only [go_sem, ↓reduceIte, rdr]
  cases o
  · skip
    simp -dsimp only [go_sem, ↓reduceIte]
    refine hKK2 _ _ ?_
    try clear hKK2 KK2
    refine Lwp_cond (by simp only [go_sem, ↓reduceIte, rdr]; rfl) (fun ht => ?_) (fun hf => ?_)
    · skip
      refine Lwp_seq fun KK3 hKK3 => ?_
      refine LregionG [none, none] (by kernel_rfl) (by kernel_rfl) ?_
      simp -dsimp only [go_sem, ↓reduceIte, rdr]
      repeat with_reducible refine And.intro (by first | omega | decide) ?_
      refine hKK3 _ _ ?_
      try clear hKK3 KK3
      refine Lwp_seq fun KK4 hKK4 => ?_
      refine LregionG [none, none, none] (by kernel_rfl) (by kernel_rfl) ?_
      simp -dsimp only [go_sem, ↓reduceIte, rdr]
      repeat with_reducible refine And.intro (by first | omega | decide) ?_
      refine hKK4 _ _ ?_
      try clear hKK4 KK4
      refine Lwp_ret ?_
      simp only [LThen, LBlock, LPost, Tryz.results36]
      simp -dsimp only [go_sem, ↓reduceIte, rdr]
      refine ret_app (by simp only [go_sem, ↓reduceIte, LV.lt, lt_u8c, ltL, ltLL, vs_frz, vs_lt, Bool.and_self]) ?_
      simp only [go_sem, ↓reduceIte, vs_frz]
      refine hRR _ ?_
      exact ⟨p, false, 0, rfl, hp, .inr ⟨rfl, rfl, rfl, .inl rfl⟩⟩
    · skip
      cases hf
  · skip
    simp -dsimp only [go_sem, ↓reduceIte, e1]
    refine hKK2 _ _ ?_
    try clear hKK2 KK2
    refine Lwp_cond (by simp only [go_sem, ↓reduceIte, rdr]; rfl) (fun ht => ?_) (fun hf => ?_)
    · skip
      have hlt : bs.length - p < n := by simpa using ht
      refine Lwp_seq fun KK5 hKK5 => ?_
      refine LregionG [none, none] (by kernel_rfl) (by kernel_rfl) ?_
      simp -dsimp only [go_sem, ↓reduceIte, rdr]
      repeat with_reducible refine And.intro (by first | omega | decide) ?_
      refine hKK5 _ _ ?_
      try clear hKK5 KK5
      refine Lwp_seq fun KK6 hKK6 => ?_
      refine LregionG [none, none, none] (by kernel_rfl) (by kernel_rfl) ?_
      simp -dsimp only [go_sem, ↓reduceIte, rdr]
      repeat with_reducible refine And.intro (by first | omega | decide) ?_
      refine hKK6 _ _ ?_
      try clear hKK6 KK6
      refine Lwp_ret ?_
      simp only [LThen, LBlock, LPost, Tryz.results36]
      simp -dsimp only [go_sem, ↓reduceIte, rdr]
      refine ret_app (by simp only [go_sem, ↓reduceIte, LV.lt, lt_u8c, ltL, ltLL, vs_frz, vs_lt, Bool.and_self]) ?_
      simp only [go_sem, ↓reduceIte, vs_frz]
      refine hRR _ ?_
      exact ⟨p, false, 0, rfl, hp, .inr ⟨rfl, rfl, rfl, .inr (by omega)⟩⟩
    · skip
      have hge : n ≤ bs.length - p := by simpa using hf
      refine Lwp_skip ?_
      try simp -dsimp only [go_sem, ↓reduceIte, rdr]
      refine hKK1 _ _ ?_
      try clear hKK1 KK1
      refine Lwp_seq fun KK7 hKK7 => ?_
      refine LregionG [none] (by kernel_rfl) (by kernel_rfl) ?_
      simp -dsimp only [go_sem, ↓reduceIte, rdr]
      repeat with_reducible refine And.intro (by first | omega | decide) ?_
      refine hKK7 _ _ ?_
      try clear hKK7 KK7
      refine Lwp_seq fun KK8 hKK8 => ?_
      refine Lwp_seq fun KK9 hKK9 => ?_
      refine LregionG [none] (by kernel_rfl) (by kernel_rfl) ?_
      simp -dsimp only [go_sem, ↓reduceIte, rdr]
      repeat with_reducible refine And.intro (by first | omega | decide) ?_
      refine hKK9 _ _ ?_
      try clear hKK9 KK9
      refine Lwp_block ?_
      refine Lwp_loopK [2, 4, 1, 6, 7] (fun m us S' => ∃ (k : Nat), us = [.ptr S.length 0 0, .ptr (S.length + 1) 0 0, V n, .int .u64 (num ((bs.drop p).take k)), V (k : Int)] ∧ k ≤ n ∧ m = n - k ∧ S' = S ++ [some (3, [[.sl f (bs.map u8c), V p, .bool true]]), some (3, [[.sl true [], V 0, .bool false]])]) n rfl (⟨0, by simp only [go_sem, ↓reduceIte]; rfl, Nat.zero_le _, rfl, rfl⟩) ?_
      rintro m us S2 ⟨k, rfl, hk, hm, rfl⟩ II hII
      refine Lwp_seq fun KK10 hKK10 => ?_
      refine Lwp_seq fun KK11 hKK11 => ?_
      refine LregionG [none, none, none] (by kernel_rfl) (by kernel_rfl) ?_
      simp -dsimp only [go_sem, ↓reduceIte, rdr]
      repeat with_reducible refine And.intro (by first | omega | decide) ?_
      refine hKK11 _ _ ?_
      try clear hKK11 KK11
      refine Lwp_cond (by simp only [go_sem, ↓reduceIte, rdr]; rfl) (fun ht => ?_) (fun hf => ?_)
      · skip
        have hk : k < n := by simpa using ht
        have hb8 : ((bs.drop p).getD k 0).toNat < 256 := ((bs.drop p).getD k 0).toNat_lt
        have e0 : (List.map u8c bs).getD (p + k) [] = [.int .u8 ((bs.drop p).getD k 0).toNat] := by
          rw [u8c_getD (by omega)]
          simp only [List.getD_eq_getElem?_getD, List.getElem?_drop]
        have e2 : IntKind.i64.wrap ((k : Int) + 1) = ((k + 1 : Nat) : Int) := w64 (by omega) (by omega)
        have e7 : num ((bs.drop p).take k) < 72057594037927936 := by
          refine Nat.lt_of_lt_of_le (num_lt _) ?_
          rw [List.length_take, Nat.min_eq_left (by omega)]
          exact Nat.le_trans (Nat.pow_le_pow_right (by decide) (show k ≤ 7 by omega)) (by decide)
        have e6 := or_step (num ((bs.drop p).take k)) ((bs.drop p).getD k 0).toNat e7 hb8
        rw [← num_take (by omega)] at e6
        have e3 : IntKind.u64.wrap ((((bs.drop p).getD k 0).toNat : Nat) : Int) = ((((bs.drop p).getD k 0).toNat : Nat) : Int) := wu64 (by omega) (by omega)
        have e8 : IntKind.i64.wrap ((p : Int) + (k : Int)) = ((p + k : Nat) : Int) := by rw [w64 (by omega) (by omega)]; rfl
        have hpk : p + k < bs.length := by omega
        refine Lwp_skip ?_
        try simp -dsimp only [go_sem, ↓reduceIte, rdr]
        refine hKK10 _ _ ?_
        try clear hKK10 KK10
        refine Lwp_seq fun KK12 hKK12 => ?_
        refine Lwp_block ?_
        refine LregionG [none, none, none, none, none, none, none, none, none, none, none, none, none] (by kernel_rfl) (by kernel_rfl) ?_
        simp -dsimp only [go_sem, ↓reduceIte, rdr, e8, e0, e3, e6, hpk]
        repeat with_reducible refine And.intro (by first | omega | decide) ?_
        refine hKK12 _ _ ?_
        try clear hKK12 KK12
        refine LregionG [none, none, none] (by kernel_rfl) (by kernel_rfl) ?_
        simp -dsimp only [go_sem, ↓reduceIte, rdr, e2]
        repeat with_reducible refine And.intro (by first | omega | decide) ?_
        exact hII (n - (k + 1)) _ _ (by omega) ⟨k + 1, rfl, hk, rfl, rfl⟩
      · skip
        obtain rfl : k = n := Nat.le_antisymm hk (Nat.le_of_not_lt (by simpa using hf))
        have e9 : IntKind.i64.wrap ((p : Int) + (k : Int)) = ((p + k : Nat) : Int) := by rw [w64 (by omega) (by omega)]; rfl
        refine Lwp_exit ?_
        simp -dsimp only [go_sem, ↓reduceIte, rdr]
        refine hKK8 _ _ ?_
        try clear hKK8 KK8
        refine Lwp_seq fun KK13 hKK13 => ?_
        refine LregionG [none, none, none, none, none, none] (by kernel_rfl) (by kernel_rfl) ?_
        simp -dsimp only [go_sem, ↓reduceIte, rdr, e9]
        repeat with_reducible refine And.intro (by first | omega | decide) ?_
        refine hKK13 _ _ ?_
        try clear hKK13 KK13
        refine Lwp_seq fun KK14 hKK14 => ?_
        refine LregionG [none, none, none, none] (by kernel_rfl) (by kernel_rfl) ?_
        simp -dsimp only [go_sem, ↓reduceIte, rdr]
        repeat with_reducible refine And.intro (by first | omega | decide) ?_
        refine hKK14 _ _ ?_
        try clear hKK14 KK14
        refine Lwp_ret ?_
        simp only [LThen, LBlock, LPost, Tryz.results36]
        simp -dsimp only [go_sem, ↓reduceIte, rdr]
        refine ret_app (by simp only [go_sem, ↓reduceIte, LV.lt, lt_u8c, ltL, ltLL, vs_frz, vs_lt, Bool.and_self]) ?_
        simp only [go_sem, ↓reduceIte, vs_frz]
        refine hRR _ ?_
        exact ⟨p + k, true, num ((bs.drop p).take k), rfl, by omega, .inl ⟨rfl, rfl, by omega, rfl, rfl⟩⟩

end Go.Proofs.YtdhngmldmalbbaaGreat
end
section
set_option linter.all false
namespace Go.Proofs.YtdhngmldmalbbaaGreat
open Go.Lift Go.RowKit Go.Store
set_option linter.unusedSimpArgs false
set_option linter.unusedVariables false

/-- what 'get' gave. -/
def GetN (bs : List UInt8) (p n : Nat) (o : Bool) (p' : Nat) (o' : Bool) (v : Nat) : Prop :=
  (o' = true ∧ o = true ∧ n ≤ (bs.drop p).length ∧ p' = p + n ∧ v = num ((bs.drop p).take n)) ∨ (o' = false ∧ p' = p ∧ v = 0 ∧ (o = false ∨ (bs.drop p).length < n))
theorem GetN.lt {bs : List UInt8} {p n p' v : Nat} {o o' : Bool} (h : GetN bs p n o p' o' v) : v < 256 ^ n := by
  rcases h with ⟨-, -, h1, -, rfl⟩ | ⟨-, -, rfl, -⟩
  · have := num_lt ((bs.drop p).take n)
    rwa [List.length_take, Nat.min_eq_left h1] at this
  · exact Nat.pow_pos (by decide)
theorem GetN.int {bs : List UInt8} {p p' v : Nat} {o o' : Bool} (h : GetN bs p 8 o p' o' v) : GetO sI (bs.drop p) o [V (s64 v)] (bs.drop p') o' := by
  rcases h with ⟨rfl, rfl, h1, rfl, rfl⟩ | ⟨rfl, rfl, rfl, h1⟩
  · refine .inl ⟨rfl, rfl, ?_⟩
    simp only [sI, dec, take'_some h1, cons', nz, List.drop_drop]
  · exact .inr ⟨rfl, h1.imp_right fun h => by simp only [sI, dec, take'_none h]⟩
theorem GetN.word {bs : List UInt8} {p p' v : Nat} {o o' : Bool} (h : GetN bs p 8 o p' o' v) : GetO (.word .nil) (bs.drop p) o [.int .u64 v] (bs.drop p') o' := by
  rcases h with ⟨rfl, rfl, h1, rfl, rfl⟩ | ⟨rfl, rfl, rfl, h1⟩
  · refine .inl ⟨rfl, rfl, ?_⟩
    simp only [dec, take'_some h1, cons', nz, List.drop_drop]
  · exact .inr ⟨rfl, h1.imp_right fun h => by simp only [dec, take'_none h]⟩
theorem isI_s64 (v : Nat) : isI (s64 v) := w64_range _
def hd1 (us : List LV) : LV := us.headD .any
/-- what 'count' gave. -/
def CntO (m : Nat) (rem : List UInt8) (o : Bool) (n : Nat) (rem' : List UInt8) (o' : Bool) : Prop :=
  (o' = true ∧ o = true ∧ 4 ≤ rem.length ∧ n = num (rem.take 4) ∧ rem' = rem.drop 4 ∧ n ≤ rem'.length / m) ∨ (o' = false ∧ n = 0 ∧ (o = false ∨ rem.length < 4 ∨ (rem.drop 4).length / m < num (rem.take 4)))

set_option maxHeartbeats 400000 in
theorem GetInt_ok : GetC 52 sI (hd1) := by
  intro f bs p o hb hp
  refine Pc_intro 1 Tryz.func52 rfl (by kernel_rfl) rfl fun S RR hRR => ?_
  refine Lwp_seq fun KK0 hKK0 => ?_
  refine LregionG [none, none, none] (by kernel_rfl) (by kernel_rfl) ?_
  simp -dsimp only [go_sem, ↓reduceIte, rdr]
  repeat with_reducible refine And.intro (by first | omega | decide) ?_
  refine hKK0 _ _ ?_
  try clear hKK0 KK0
  refine Lwp_seq fun KK1 hKK1 => ?_
  refine LregionG [none, none, none, none, none, none, none] (by kernel_rfl) (by kernel_rfl) ?_
  simp -dsimp only [go_sem, ↓reduceIte, rdr]
  refine Pc.k' (Get_ok f bs p 8 o (by omega) hp (by omega)) ?_
  rintro _ ⟨p1, o1, v, rfl, hp1, hN⟩
  replace hN : GetN bs p 8 o p1 o1 v := hN
  simp -dsimp only [go_sem, ↓reduceIte, rdr]
  refine hKK1 _ _ ?_
  try clear hKK1 KK1
  refine Lwp_seq fun KK2 hKK2 => ?_
  refine LregionG [none, none, none, none, none] (by kernel_rfl) (by kernel_rfl) ?_
  simp -dsimp only [go_sem, ↓reduceIte, rdr]
  repeat with_reducible refine And.intro (by first | omega | decide) ?_
  refine hKK2 _ _ ?_
  try clear hKK2 KK2
  refine Lwp_ret ?_
  simp only [LThen, LBlock, LPost, Tryz.results52]
  simp -dsimp only [go_sem, ↓reduceIte, rdr]
  refine ret_app (by simp only [go_sem, ↓reduceIte, LV.lt, lt_u8c, ltL, ltLL, vs_frz, vs_lt, Bool.and_self]) ?_
  simp only [go_sem, ↓reduceIte, vs_frz]
  refine hRR _ ?_
  exact ⟨p1, o1, [V (s64 v)], rfl, hp1, ⟨rfl, (isI_s64 v).1, (isI_s64 v).2, trivial⟩, hN.int⟩

set_option maxHeartbeats 400000 in
theorem RCnt_ok (f : Bool) (bs : List UInt8) (p m : Nat) (o : Bool) (hb : bs.length ≤ 1048576) (hp : p ≤ bs.length) (hm : 1 ≤ m ∧ m ≤ 1000) : Pc 77 [rdr f bs p o, V m] (fun r => ∃ (p' : Nat) (o' : Bool) (n : Nat), r = .tup [rdr f bs p' o', V n] ∧ p' ≤ bs.length ∧ n ≤ bs.length - p' ∧ CntO m (bs.drop p) o n (bs.drop p') o') := by
  refine Pc_intro 1 Tryz.func77 rfl (by kernel_rfl) rfl fun S RR hRR => ?_
  refine Lwp_seq fun KK0 hKK0 => ?_
  refine LregionG [none, none, none] (by kernel_rfl) (by kernel_rfl) ?_
  simp -dsimp only [go_sem, ↓reduceIte, rdr]
  repeat with_reducible refine And.intro (by first | omega | decide) ?_
  refine hKK0 _ _ ?_
  try clear hKK0 KK0
  refine Lwp_seq fun KK1 hKK1 => ?_
  refine LregionG [none, none, none, none, none, none, none] (by kernel_rfl) (by kernel_rfl) ?_
  simp -dsimp only [go_sem, ↓reduceIte, rdr]
  refine Pc.k' (Get_ok f bs p 4 o (by omega) hp (by omega)) ?_
  rintro _ ⟨p1, o1, v, rfl, hp1, hN⟩
  replace hN : GetN bs p 4 o p1 o1 v := hN
  have e1 : IntKind.i64.wrap ((bs.length : Int) - (p1 : Int)) = ((bs.length - p1 : Nat) : Int) := by rw [w64 (by omega) (by omega)]; omega
  have hdv : (bs.length - p1) / m ≤ bs.length - p1 := Nat.div_le_self _ _
  obtain ⟨q, hq⟩ : ∃ q, q = (bs.length - p1) / m := ⟨_, rfl⟩
  rw [← hq] at hdv
  have e2 : IntKind.i64.wrap (((bs.length - p1 : Nat) : Int).tdiv (m : Int)) = (q : Int) := by
    have h : ((bs.length - p1 : Nat) : Int).tdiv (m : Int) = (q : Int) := by
      rw [Int.tdiv_eq_ediv_of_nonneg (by omega), hq]; rfl
    rw [h]; exact w64 (by omega) (by omega)
  have e3 : IntKind.u64.wrap (q : Int) = (q : Int) := wu64 (by omega) (by omega)
  have e4 : ¬ ((m : Int) = 0) := by omega
  have hl1 : (bs.drop p1).length = bs.length - p1 := List.length_drop
  simp -dsimp only [go_sem, ↓reduceIte, rdr]
  refine hKK1 _ _ ?_
  try clear hKK1 KK1
  refine Lwp_seq fun KK2 hKK2 => ?_
  refine Lwp_seq fun KK3 hKK3 => ?_
  refine LregionG [none, none, none, none, none, none, none, none, none, none, none] (by kernel_rfl) (by kernel_rfl) ?_
  simp -dsimp only [go_sem, ↓reduceIte, rdr, e1, e2, e3, e4]
  repeat with_reducible refine And.intro (by first | omega | decide) ?_
  refine hKK3 _ _ ?_
  try clear hKK3 KK3
  refine Lwp_cond (by simp only [go_sem, ↓reduceIte, rdr]; rfl) (fun ht => ?_) (fun hf => ?_)
  · skip
    have hlt : q < v := by simpa using ht
    refine LregionG [none, none] (by kernel_rfl) (by kernel_rfl) ?_
    simp -dsimp only [go_sem, ↓reduceIte, rdr]
    skip
    · skip
      refine hKK2 _ _ ?_
      try clear hKK2 KK2
      refine Lwp_seq fun KK4 hKK4 => ?_
      refine Lwp_seq fun KK5 hKK5 => ?_
      refine LregionG [none, none, none] (by kernel_rfl) (by kernel_rfl) ?_
      simp -dsimp only [go_sem, ↓reduceIte, rdr]
      repeat with_reducible refine And.intro (by first | omega | decide) ?_
      refine hKK5 _ _ ?_
      try clear hKK5 KK5
      refine Lwp_cond (by simp only [go_sem, ↓reduceIte, rdr]; rfl) (fun ht => ?_) (fun hf => ?_)
      · skip
        skip
        refine Lwp_seq fun KK6 hKK6 => ?_
        refine LregionG [none, none, none] (by kernel_rfl) (by kernel_rfl) ?_
        simp -dsimp only [go_sem, ↓reduceIte, rdr]
        repeat with_reducible refine And.intro (by first | omega | decide) ?_
        refine hKK6 _ _ ?_
        try clear hKK6 KK6
        refine Lwp_ret ?_
        simp only [LThen, LBlock, LPost, Tryz.results77]
        simp -dsimp only [go_sem, ↓reduceIte, rdr]
        refine ret_app (by simp only [go_sem, ↓reduceIte, LV.lt, lt_u8c, ltL, ltLL, Bool.and_self]) ?_
        simp only [go_sem, ↓reduceIte]
        refine hRR _ ⟨p1, false, 0, rfl, hp1, Nat.zero_le _, .inr ⟨rfl, rfl, ?_⟩⟩
        rcases hN with ⟨-, -, h1, rfl, rfl⟩ | ⟨-, rfl, rfl, h1⟩
        · refine .inr (.inr ?_)
          rw [List.drop_drop, hl1, ← hq]; exact hlt
        · exact absurd hlt (Nat.not_lt_zero _)
      · skip
        cases hf
  · skip
    have hge : v ≤ q := by simpa using hf
    have e5 : IntKind.i64.wrap (v : Int) = (v : Int) := w64 (by omega) (by omega)
    refine Lwp_skip ?_
    try simp -dsimp only [go_sem, ↓reduceIte, rdr]
    refine hKK2 _ _ ?_
    try clear hKK2 KK2
    refine Lwp_seq fun KK7 hKK7 => ?_
    refine Lwp_seq fun KK8 hKK8 => ?_
    refine LregionG [none, none, none] (by kernel_rfl) (by kernel_rfl) ?_
    simp -dsimp only [go_sem, ↓reduceIte, rdr]
    repeat with_reducible refine And.intro (by first | omega | decide) ?_
    refine hKK8 _ _ ?_
    try clear hKK8 KK8
    refine Lwp_cond (by simp only [go_sem, ↓reduceIte, rdr]; rfl) (fun ht => ?_) (fun hf => ?_)
    · skip
      have ho : o1 = false := by simpa using ht
      refine Lwp_seq fun KK9 hKK9 => ?_
      refine LregionG [none, none, none] (by kernel_rfl) (by kernel_rfl) ?_
      simp -dsimp only [go_sem, ↓reduceIte, rdr]
      repeat with_reducible refine And.intro (by first | omega | decide) ?_
      refine hKK9 _ _ ?_
      try clear hKK9 KK9
      refine Lwp_ret ?_
      simp only [LThen, LBlock, LPost, Tryz.results77]
      simp -dsimp only [go_sem, ↓reduceIte, rdr]
      refine ret_app (by simp only [go_sem, ↓reduceIte, LV.lt, lt_u8c, ltL, ltLL, Bool.and_self]) ?_
      simp only [go_sem, ↓reduceIte]
      refine hRR _ ⟨p1, o1, 0, rfl, hp1, Nat.zero_le _, ?_⟩
      subst ho
      rcases hN with ⟨h0, -⟩ | ⟨-, rfl, rfl, h1⟩
      · cases h0
      · exact .inr ⟨rfl, rfl, h1.imp_right .inl⟩
    · skip
      have ho : o1 = true := by simpa using hf
      refine Lwp_skip ?_
      try simp -dsimp only [go_sem, ↓reduceIte, rdr]
      refine hKK7 _ _ ?_
      try clear hKK7 KK7
      refine Lwp_seq fun KK10 hKK10 => ?_
      refine LregionG [none, none, none, none, none] (by kernel_rfl) (by kernel_rfl) ?_
      simp -dsimp only [go_sem, ↓reduceIte, rdr, e5]
      repeat with_reducible refine And.intro (by first | omega | decide) ?_
      refine hKK10 _ _ ?_
      try clear hKK10 KK10
      refine Lwp_ret ?_
      simp only [LThen, LBlock, LPost, Tryz.results77]
      simp -dsimp only [go_sem, ↓reduceIte, rdr]
      refine ret_app (by simp only [go_sem, ↓reduceIte, LV.lt, lt_u8c, ltL, ltLL, Bool.and_self]) ?_
      simp only [go_sem, ↓reduceIte]
      refine hRR _ ⟨p1, o1, v, rfl, hp1, by omega, ?_⟩
      subst ho
      rcases hN with ⟨-, ho, h1, rfl, rfl⟩ | ⟨h0, -⟩
      · exact .inl ⟨rfl, ho, h1, rfl, (List.drop_drop ..).symm, by rw [hl1, ← hq]; exact hge⟩
      · cases h0

end Go.Proofs.YtdhngmldmalbbaaGreat
end
section
set_option linter.all false
namespace Go.Proofs.YtdhngmldmalbbaaGreat
open Go.Lift Go.RowKit Go.Store
set_option linter.unusedSimpArgs false
set_option linter.unusedVariables false

theorem CntO.str {rem rem' : List UInt8} {o o' : Bool} {n : Nat} (h : CntO 1 rem o n rem' o') : GetO sStr rem o [.str (strOf (rem'.take n))] (rem'.drop n) o' := by
  rcases h with ⟨rfl, rfl, h1, rfl, rfl, h2⟩ | ⟨rfl, rfl, h1⟩
  · refine .inl ⟨rfl, rfl, ?_⟩
    rw [Nat.div_one] at h2
    simp only [sStr, dec, take'_some h1, take'_some h2, cons', nz]
  · refine .inr ⟨rfl, h1.imp_right fun h => ?_⟩
    by_cases h4 : rem.length < 4
    · simp only [sStr, dec, take'_none h4]
    · have h5 := h.resolve_left h4
      rw [Nat.div_one] at h5
      simp only [sStr, dec, take'_some (by omega : 4 ≤ rem.length), take'_none h5]

set_option maxHeartbeats 400000 in
theorem GetStr_ok : GetC 54 (sStr) (hd1) := by
  intro f bs p o hb hp
  refine Pc_intro 1 Tryz.func54 rfl (by kernel_rfl) rfl fun S RR hRR => ?_
  refine Lwp_seq fun KK0 hKK0 => ?_
  refine LregionG [none, none, none] (by kernel_rfl) (by kernel_rfl) ?_
  simp -dsimp only [go_sem, ↓reduceIte, rdr]
  repeat with_reducible refine And.intro (by first | omega | decide) ?_
  refine hKK0 _ _ ?_
  try clear hKK0 KK0
  refine Lwp_seq fun KK1 hKK1 => ?_
  refine LregionG [none, none, none, none, none, none, none] (by kernel_rfl) (by kernel_rfl) ?_
  simp -dsimp only [go_sem, ↓reduceIte, rdr]
  refine Pc.k' (RCnt_ok f bs p 1 o hb hp (by omega)) ?_
  rintro _ ⟨p1, o1, n, rfl, hp1, hn, hC⟩
  have e1 : IntKind.i64.wrap ((p1 : Int) + (n : Int)) = ((p1 + n : Nat) : Int) := by rw [w64 (by omega) (by omega)]; rfl
  have e2 : List.take (p1 + n - p1) (List.drop p1 (bs.map u8c)) = ((bs.drop p1).take n).map u8c := by rw [Nat.add_sub_cancel_left, List.map_take, List.map_drop]
  have h1 : p1 ≤ p1 + n := by omega
  have h2 : p1 + n ≤ bs.length := by omega
  have h3 : ((bs.drop p1).take n).length ≤ n := by simp; omega
  simp -dsimp only [go_sem, ↓reduceIte, rdr]
  refine hKK1 _ _ ?_
  try clear hKK1 KK1
  refine Lwp_seq fun KK2 hKK2 => ?_
  refine LregionG [none, none, none, none, none, none, none, none, none, none, none] (by kernel_rfl) (by kernel_rfl) ?_
  simp -dsimp only [go_sem, ↓reduceIte, rdr, e1, e2, h1, h2]
  refine ⟨head_u8 bs, ⟨_, rfl⟩, ?_⟩
  rw [map_byteE]
  refine hKK2 _ _ ?_
  try clear hKK2 KK2
  refine Lwp_seq fun KK3 hKK3 => ?_
  refine LregionG [none, none, none, none, none, none] (by kernel_rfl) (by kernel_rfl) ?_
  simp -dsimp only [go_sem, ↓reduceIte, rdr, e1]
  repeat with_reducible refine And.intro (by first | omega | decide) ?_
  refine hKK3 _ _ ?_
  try clear hKK3 KK3
  refine Lwp_seq fun KK4 hKK4 => ?_
  refine LregionG [none, none, none, none] (by kernel_rfl) (by kernel_rfl) ?_
  simp -dsimp only [go_sem, ↓reduceIte, rdr]
  repeat with_reducible refine And.intro (by first | omega | decide) ?_
  refine hKK4 _ _ ?_
  try clear hKK4 KK4
  refine Lwp_ret ?_
  simp only [LThen, LBlock, LPost, Tryz.results54]
  simp -dsimp only [go_sem, ↓reduceIte, rdr]
  refine ret_app (by simp only [go_sem, ↓reduceIte, LV.lt, lt_u8c, ltL, ltLL, Bool.and_self]) ?_
  simp only [go_sem, ↓reduceIte]
  refine hRR _ ⟨p1 + n, o1, [.str (strOf ((bs.drop p1).take n))], rfl, by omega, ⟨?_, trivial⟩, ?_⟩
  · show ((bs.drop p1).take n).toArray.size < _
    rw [List.size_toArray]; omega
  · have := hC.str
    rwa [List.drop_drop] at this

end Go.Proofs.YtdhngmldmalbbaaGreat
end
section
set_option linter.all false
namespace Go.Proofs.YtdhngmldmalbbaaGreat
open Go.Lift Go.RowKit Go.Store
set_option linter.unusedSimpArgs false
set_option linter.unusedVariables false

/-- how far a row was read: of 'n' elements, from 'rem1' on. -/
def LoopO (e : Sch) (n : Nat) (rem1 : List UInt8) (o1 : Bool) (k : Nat) (es : List (List LV)) (rem : List UInt8) (o : Bool) : Prop :=
  (o = true ∧ o1 = true ∧ decN (dec e) k rem1 = some (es.map (nz e), rem)) ∨ (o = false ∧ (o1 = false ∨ decN (dec e) n rem1 = none))
theorem decN_snoc {f : List UInt8 → Option (List LV × List UInt8)} : ∀ {k : Nat} {bs : List UInt8}, decN f (k + 1) bs = match decN f k bs with
    | some (xs, b) => match f b with
      | some (x, b') => some (xs ++ [x], b')
      | none => none
    | none => none
  | 0, bs => by
    simp only [decN]
    cases f bs <;> rfl
  | k + 1, bs => by
    rw [decN, decN]
    cases h : f bs with
    | none => rfl
    | some p =>
      simp only []
      rw [decN_snoc (k := k) (bs := p.2)]
      cases h2 : decN f k p.2 with
      | none => rfl
      | some q =>
        simp only []
        cases f q.2 <;> rfl
theorem decN_none {f : List UInt8 → Option (List LV × List UInt8)} {bs : List UInt8} {k : Nat} (h : decN f k bs = none) : ∀ {n : Nat}, k ≤ n → decN f n bs = none := by
  intro n hn
  obtain ⟨m, rfl⟩ : ∃ m, n = k + m := ⟨n - k, by omega⟩
  clear hn
  induction m with
  | zero => exact h
  | succ m ih => rw [← Nat.add_assoc, decN_snoc, ih]
theorem LoopO.start {e : Sch} {n : Nat} {rem1 : List UInt8} {o1 : Bool} : LoopO e n rem1 o1 0 [] rem1 o1 := by
  cases o1
  · exact .inr ⟨rfl, .inl rfl⟩
  · exact .inl ⟨rfl, rfl, rfl⟩
theorem LoopO.step {e : Sch} {n k : Nat} {rem1 rem rem' : List UInt8} {o1 o o' : Bool} {es : List (List LV)} {us : List LV} (h : LoopO e n rem1 o1 k es rem o) (h' : GetO e rem o us rem' o') (hk : k < n) : LoopO e n rem1 o1 (k + 1) (es ++ [us]) rem' o' := by
  rcases h' with ⟨rfl, rfl, hd⟩ | ⟨rfl, hd⟩
  · rcases h with ⟨-, rfl, h1⟩ | ⟨h1, -⟩
    · refine .inl ⟨rfl, rfl, ?_⟩
      rw [decN_snoc, h1]
      simp only []
      rw [hd, List.map_append]; rfl
    · cases h1
  · refine .inr ⟨rfl, ?_⟩
    rcases h with ⟨rfl, rfl, h1⟩ | ⟨-, h1⟩
    · rcases hd with hd | hd
      · cases hd
      · refine .inr (decN_none (k := k + 1) ?_ hk)
        rw [decN_snoc, h1]
        simp only []
        rw [hd]
    · exact h1
theorem LoopO.done {e : Sch} {m n k : Nat} {rem rem1 remk : List UInt8} {o o1 ok_ : Bool} {es : List (List LV)} {full : Bool} (hC : CntO m rem o n rem1 o1) (hm : m = minB e) (hm1 : 1 ≤ m) (h : LoopO e n rem1 o1 k es remk ok_) (hk : ok_ = true → k = n) : GetO (.sl e .nil) rem o [.sl full es] remk ok_ := by
  rcases h with ⟨rfl, rfl, h1⟩ | ⟨rfl, h1⟩
  · obtain rfl := hk rfl
    rcases hC with ⟨-, rfl, h2, rfl, rfl, -⟩ | ⟨h2, -⟩
    · refine .inl ⟨rfl, rfl, ?_⟩
      simp only [dec, take'_some h2]
      rw [h1]
      simp only [cons', nz]
    · cases h2
  · refine .inr ⟨rfl, ?_⟩
    rcases hC with ⟨rfl, rfl, h2, rfl, rfl, -⟩ | ⟨rfl, rfl, h2⟩
    · rcases h1 with h1 | h1
      · cases h1
      · refine .inr ?_
        simp only [dec, take'_some h2]
        rw [h1]
    · rcases h2 with h2 | h2 | h2
      · exact .inl h2
      · exact .inr (by simp only [dec, take'_none h2])
      · refine .inr ?_
        by_cases h4 : rem.length < 4
        · simp only [dec, take'_none h4]
        · simp only [dec, take'_some (by omega : 4 ≤ rem.length)]
          cases hx : decN (dec e) (num (rem.take 4)) (rem.drop 4) with
          | none => rfl
          | some q =>
            exfalso
            have a1 := (decN_len (fun _ _ _ h => dec_len h) _ _ _ _ hx).1
            rw [← hm] at a1
            have a2 := Nat.le_trans (Nat.le_add_right _ _) a1
            have a3 := (Nat.le_div_iff_mul_le (by omega : 0 < m)).2 a2
            omega
/-- the variables of a call that reads: its reader, what it returns. -/
structure RI (S S1 : LS) (f : Bool) (bs : List UInt8) (p : Nat) (o : Bool) (zb : Blk) : Prop where
  keep : Keeps S S1 []
  rd : S1[S.length]? = some (some (3, [[.sl f (bs.map u8c), V p, .bool o]]))
  res : S1[S.length + 1]? = some (some zb)
theorem RI.set {S S1 : LS} {f : Bool} {bs : List UInt8} {p p' : Nat} {o o' : Bool} {zb : Blk} (h : RI S S1 f bs p o zb) : RI S (S1.set S.length (some (3, [[.sl f (bs.map u8c), V p', .bool o']]))) f bs p' o' zb :=
  ⟨h.keep.trans (Keeps.set (ids := [S.length]) _ (by simp)) (fun j hj hm => hm.elim (fun h => h) (fun h => by simp at h; omega)), List.getElem?_set_self (lt_of_get h.rd), by rw [List.getElem?_set_ne (by omega)]; exact h.res⟩
theorem RI.keeps {S S1 S2 : LS} {f : Bool} {bs : List UInt8} {p : Nat} {o : Bool} {zb : Blk} {ids : List Nat} (h : RI S S1 f bs p o zb) (hK : Keeps S1 S2 ids) (hd : ∀ id ∈ ids, S.length + 2 ≤ id) : RI S S2 f bs p o zb :=
  ⟨h.keep.trans hK (fun j hj hm => hm.elim (fun h => h) (fun h => by have := hd _ h; omega)), hK.get h.rd (fun h => by have := hd _ h; omega), hK.get h.res (fun h => by have := hd _ h; omega)⟩
theorem RowS.keeps {S1 S2 : LS} {lo sz : Nat} {u : LV} {es : List (List LV)} {ids : List Nat} (h : RowS S1 lo u sz es) (hK : Keeps S1 S2 ids) (hd : ∀ id ∈ ids, id < lo) : RowS S2 lo u sz es :=
  RowS.mono h (Nat.le_refl _) (fun id hid b hb => hK.get hb (fun hm => by have := hd _ hm; have := (h.lo id hid).1; omega))
theorem Keeps.set1 {S1 : LS} {i : Nat} (v : Option Blk) : Keeps S1 (S1.set i v) [i] := Keeps.set _ (by simp)
theorem ok_memE {s : Sch} {es : List (List LV)} {us : List LV} (h : ∀ e ∈ es, ok s e) (hu : ok s us) : ∀ e ∈ es ++ [us], ok s e := fun e he => by
  rcases List.mem_append.1 he with he | he
  · exact h e he
  · rw [List.mem_singleton.1 he]; exact hu

set_option maxHeartbeats 400000 in
theorem GetSl_ok : GetC 79 (.sl sI .nil) (hd1) := by
  intro f bs p o hb hp
  refine Pc_intro 1 Tryz.func79 rfl (by kernel_rfl) rfl fun S RR hRR => ?_
  refine Lwp_seq fun KK0 hKK0 => ?_
  refine LregionG [none, none, none] (by kernel_rfl) (by kernel_rfl) ?_
  simp -dsimp only [go_sem, ↓reduceIte, rdr]
  repeat with_reducible refine And.intro (by first | omega | decide) ?_
  refine hKK0 _ _ ?_
  try clear hKK0 KK0
  refine Lwp_seq fun KK1 hKK1 => ?_
  refine LregionG [none, none, none, none, none, none, none] (by kernel_rfl) (by kernel_rfl) ?_
  simp -dsimp only [go_sem, ↓reduceIte, rdr]
  refine Pc.k' (RCnt_ok f bs p 8 o hb hp (by omega)) ?_
  rintro _ ⟨p1, o1, n, rfl, hp1, hn, hC⟩
  simp -dsimp only [go_sem, ↓reduceIte, rdr]
  refine hKK1 _ _ ?_
  try clear hKK1 KK1
  refine Lwp_seq fun KK2 hKK2 => ?_
  refine Lwp_store (fun S2 => RI S S2 f bs p1 o1 (3, [[.sl true [], V 0, .bool false]])) ⟨Keeps.app _ _ _, by simp, by simp⟩ ?_
  rintro S2 hI
  refine LregionG [none] (by kernel_rfl) (by kernel_rfl) ?_
  simp -dsimp only [go_sem, ↓reduceIte, rdr]
  repeat with_reducible refine And.intro (by first | omega | decide) ?_
  refine hKK2 _ _ ?_
  try clear hKK2 KK2
  refine Lwp_seq fun KK3 hKK3 => ?_
  refine Lwp_seq fun KK4 hKK4 => ?_
  refine LregionG [none] (by kernel_rfl) (by kernel_rfl) ?_
  simp -dsimp only [go_sem, ↓reduceIte, rdr]
  repeat with_reducible refine And.intro (by first | omega | decide) ?_
  refine hKK4 _ _ ?_
  try clear hKK4 KK4
  refine Lwp_block ?_
  refine Lwp_loopK [1, 2, 4, 5, 6] (fun m us S' => ∃ (k pk : Nat) (ok' : Bool) (u : LV) (es : List (List LV)), us = [.ptr S.length 0 0, .ptr (S.length + 1) 0 0, V n, u, V (k : Int)] ∧ k ≤ n ∧ es.length = k ∧ pk ≤ bs.length ∧ (∀ e ∈ es, ok sI e) ∧ LoopO sI n (bs.drop p1) o1 k es (bs.drop pk) ok' ∧ RI S S' f bs pk ok' (3, [[.sl true [], V 0, .bool false]]) ∧ RowS S' (S.length + 2) u 1 es ∧ m = n - k) n rfl (⟨0, p1, o1, .sl true [], [], by simp only [go_sem, ↓reduceIte]; rfl, Nat.zero_le _, rfl, hp1, by simp, .start, hI, RowS.nil, rfl⟩) ?_
  rintro m us S2 ⟨k, pk, ok', u, es, rfl, hk, hel, hpk, hoe, hL, hI, hR, hm⟩ II hII
  refine Lwp_seq fun KK5 hKK5 => ?_
  refine Lwp_seq fun KK6 hKK6 => ?_
  refine LregionG [none, none, none] (by kernel_rfl) (by kernel_rfl) ?_
  simp -dsimp only [go_sem, ↓reduceIte, rdr]
  repeat with_reducible refine And.intro (by first | omega | decide) ?_
  refine hKK6 _ _ ?_
  try clear hKK6 KK6
  refine Lwp_cond (by simp only [go_sem, ↓reduceIte, rdr]; rfl) (fun ht => ?_) (fun hf => ?_)
  · skip
    have hk' : k < n := by simpa using ht
    have e1 : IntKind.i64.wrap ((k : Int) + 1) = ((k + 1 : Nat) : Int) := by rw [w64 (by omega) (by omega)]; rfl
    have hrd := hI.rd
    refine Lwp_skip ?_
    try simp -dsimp only [go_sem, ↓reduceIte, rdr]
    refine hKK5 _ _ ?_
    try clear hKK5 KK5
    refine Lwp_seq fun KK7 hKK7 => ?_
    refine Lwp_block ?_
    refine Lwp_seq fun KK8 hKK8 => ?_
    refine LregionG [none] (by kernel_rfl) (by kernel_rfl) ?_
    simp -dsimp only [go_sem, ↓reduceIte, rdr]
    repeat with_reducible refine And.intro (by first | omega | decide) ?_
    refine hKK8 _ _ ?_
    try clear hKK8 KK8
    refine Lwp_seq fun KK9 hKK9 => ?_
    refine LregionG [none, none, none, none, none, none, none] (by kernel_rfl) (by kernel_rfl) ?_
    simp -dsimp only [go_sem, ↓reduceIte, rdr, hrd]
    refine Pc.k' (GetInt_ok f bs pk ok' hb hpk) ?_
    rintro _ ⟨p2, o2, us2, rfl, hp2, hok2, hG2⟩
    obtain ⟨v, us', rfl, hv, hok2'⟩ := ok_int hok2
    obtain rfl := ok_nil hok2'
    simp -dsimp only [go_sem, ↓reduceIte, rdr, hd1, List.headD_cons, hrd]
    refine hKK9 _ _ ?_
    try clear hKK9 KK9
    refine Lwp_store (fun S4 => RI S S4 f bs p2 o2 (3, [[.sl true [], V 0, .bool false]]) ∧ RowS S4 (S.length + 2) u 1 es) ⟨hI.set, RowS.keeps hR (Keeps.set1 _) (by simp)⟩ ?_
    rintro S4 ⟨hI4, hR4⟩
    clear hI hR hrd
    refine LregionG [none, none, none, none, none] (by kernel_rfl) (by kernel_rfl) ?_
    simp -dsimp only [go_sem, ↓reduceIte, rdr]
    repeat with_reducible refine And.intro (by first | omega | decide | assumption) ?_
    refine append_row (fs := [[V v]]) hR4 rfl (by simp only [go_sem]; rfl) (by simp only [go_sem]; first | exact ⟨rfl, rfl⟩ | exact ⟨rfl, rfl, rfl⟩ | rfl) (by simp only [go_sem]) (by simp only [go_sem, ↓reduceIte]) (by simp only [go_sem, ↓reduceIte]) (by simp [ok_len hok2, Sch.n, sI]) (.inr (by simp)) (by simp only [LIM, List.length_cons, List.length_nil]; omega) fun S8 hl8 hr8 hK8 => ?_
    simp -dsimp only [go_sem, ↓reduceIte, rdr]
    refine hKK7 _ _ ?_
    try clear hKK7 KK7
    refine LregionG [none, none, none] (by kernel_rfl) (by kernel_rfl) ?_
    simp -dsimp only [go_sem, ↓reduceIte, rdr, e1]
    repeat with_reducible refine And.intro (by first | omega | decide) ?_
    exact hII (n - (k + 1)) _ _ (by omega) ⟨k + 1, p2, o2, _, es ++ [[V v]], rfl, hk', by simp [hel], hp2, ok_memE hoe hok2, hL.step hG2 hk', hI4.keeps hK8 (fun id hid => (hR4.lo id hid).1), RowS.mono hr8 (by have := hI4.keep.1; have := lt_of_get hI4.res; omega) (fun _ _ _ h => h), rfl⟩
  · skip
    have hkn : k = n := by simp at hf; omega
    refine Lwp_exit ?_
    simp -dsimp only [go_sem, ↓reduceIte, rdr]
    refine hKK3 _ _ ?_
    try clear hKK3 KK3
    refine Lwp_seq fun KK10 hKK10 => ?_
    refine Lwp_frzRowS 5 u rfl (by simp only [go_sem, ↓reduceIte]) hR fun full S3 hl3 hK3 => ?_
    have hI3 := hI.keeps (S2 := S3) (ids := rowIds u) ⟨by omega, fun j _ h => hK3 j h⟩ (fun id hid => (hR.lo id hid).1)
    have hrd := hI3.rd
    have hre := hI3.res
    have hlt : ltLL S.length es = true := lt_int fun e he => ok_lt (hoe e he)
    have hsz : ∀ v, (S3.set (S.length + 1) v)[S.length + 1]? = some v := fun v => List.getElem?_set_self (lt_of_get hre)
    refine LregionG [none, none, none, none] (by kernel_rfl) (by kernel_rfl) ?_
    simp -dsimp only [go_sem, ↓reduceIte, rdr, hsz, hrd, hre]
    repeat with_reducible refine And.intro (by first | omega | decide) ?_
    refine hKK10 _ _ ?_
    try clear hKK10 KK10
    refine Lwp_ret ?_
    simp only [LThen, LBlock, LPost, Tryz.results79]
    simp -dsimp only [go_sem, ↓reduceIte, rdr, hsz]
    refine ret_frame (hI3.keep.trans (Keeps.set1 _) (ids'' := []) (fun j hj h => h.elim (fun h => h) (fun h => by simp at h; omega))) (by simp only [go_sem, ↓reduceIte, LV.lt, lt_u8c, ltL, ltLL, Bool.and_self, hlt]) ?_
    simp only [go_sem, ↓reduceIte]
    refine hRR _ ⟨pk, ok', [.sl full es], rfl, hpk, ⟨by omega, hoe, trivial⟩, hL.done hC rfl (by decide) (fun _ => hkn)⟩

end Go.Proofs.YtdhngmldmalbbaaGreat
end
section
set_option linter.all false
namespace Go.Proofs.YtdhngmldmalbbaaGreat
open Go.Lift Go.RowKit Go.Store
set_option linter.unusedSimpArgs false
set_option linter.unusedVariables false
set_option maxHeartbeats 400000 in
theorem GetRds_ok : GetC 76 (.sl sRd .nil) (hd1) := by
  intro f bs p o hb hp
  refine Pc_intro 1 Tryz.func76 rfl (by kernel_rfl) rfl fun S RR hRR => ?_
  refine Lwp_seq fun KK0 hKK0 => ?_
  refine LregionG [none, none, none] (by kernel_rfl) (by kernel_rfl) ?_
  simp -dsimp only [go_sem, ↓reduceIte, rdr]
  repeat with_reducible refine And.intro (by first | omega | decide) ?_
  refine hKK0 _ _ ?_
  try clear hKK0 KK0
  refine Lwp_seq fun KK1 hKK1 => ?_
  refine LregionG [none, none, none, none, none, none, none] (by kernel_rfl) (by kernel_rfl) ?_
  simp -dsimp only [go_sem, ↓reduceIte, rdr]
  refine Pc.k' (RCnt_ok f bs p 16 o hb hp (by omega)) ?_
  rintro _ ⟨p1, o1, n, rfl, hp1, hn1, hC1⟩
  simp -dsimp only [go_sem, ↓reduceIte, rdr]
  refine hKK1 _ _ ?_
  try clear hKK1 KK1
  refine Lwp_seq fun KK2 hKK2 => ?_
  refine Lwp_store (fun S2 => RI S S2 f bs p1 o1 (3, [[.sl true [], V 0, .bool false]])) ⟨Keeps.app _ _ _, by simp, by simp⟩ ?_
  rintro S2 hI
  refine LregionG [none] (by kernel_rfl) (by kernel_rfl) ?_
  simp -dsimp only [go_sem, ↓reduceIte, rdr]
  repeat with_reducible refine And.intro (by first | omega | decide) ?_
  refine hKK2 _ _ ?_
  try clear hKK2 KK2
  refine Lwp_seq fun KK3 hKK3 => ?_
  refine Lwp_seq fun KK4 hKK4 => ?_
  refine LregionG [none] (by kernel_rfl) (by kernel_rfl) ?_
  simp -dsimp only [go_sem, ↓reduceIte, rdr]
  repeat with_reducible refine And.intro (by first | omega | decide) ?_
  refine hKK4 _ _ ?_
  try clear hKK4 KK4
  refine Lwp_block ?_
  refine Lwp_loopK [1, 2, 4, 5, 6] (fun m us S' => ∃ (k pk : Nat) (ok' : Bool) (u : LV) (es : List (List LV)), us = [.ptr S.length 0 0, .ptr (S.length + 1) 0 0, V n, u, V (k : Int)] ∧ k ≤ n ∧ es.length = k ∧ pk ≤ bs.length ∧ (∀ e ∈ es, ok sRd e) ∧ LoopO sRd n (bs.drop p1) o1 k es (bs.drop pk) ok' ∧ RI S S' f bs pk ok' (3, [[.sl true [], V 0, .bool false]]) ∧ RowS S' (S.length + 2) u 2 es ∧ m = n - k) n rfl (⟨0, p1, o1, .sl true [], [], by simp only [go_sem, ↓reduceIte]; rfl, Nat.zero_le _, rfl, hp1, by simp, .start, hI, RowS.nil, rfl⟩) ?_
  rintro m us S2 ⟨k, pk, ok', u, es, rfl, hk, hel, hpk, hoe, hL, hI, hR, hm⟩ II hII
  refine Lwp_seq fun KK5 hKK5 => ?_
  refine Lwp_seq fun KK6 hKK6 => ?_
  refine LregionG [none, none, none] (by kernel_rfl) (by kernel_rfl) ?_
  simp -dsimp only [go_sem, ↓reduceIte, rdr]
  repeat with_reducible refine And.intro (by first | omega | decide) ?_
  refine hKK6 _ _ ?_
  try clear hKK6 KK6
  refine Lwp_cond (by simp only [go_sem, ↓reduceIte, rdr]; rfl) (fun ht => ?_) (fun hf => ?_)
  · skip
    have hk' : k < n := by simpa using ht
    have e1 : IntKind.i64.wrap ((k : Int) + 1) = ((k + 1 : Nat) : Int) := by rw [w64 (by omega) (by omega)]; rfl
    obtain ⟨c, hc⟩ : ∃ c, c = S2.length := ⟨_, rfl⟩
    have hcS : S.length + 2 ≤ c := by have := lt_of_get hI.res; omega
    have h8 : ∀ id ∈ rowIds u, id ≠ c := fun id hid => by have := (hR.lo id hid).2; omega
    refine Lwp_skip ?_
    try simp -dsimp only [go_sem, ↓reduceIte, rdr]
    refine hKK5 _ _ ?_
    try clear hKK5 KK5
    refine Lwp_seq fun KK7 hKK7 => ?_
    refine Lwp_block ?_
    refine Lwp_seq fun KK8 hKK8 => ?_
    refine LregionG [none] (by kernel_rfl) (by kernel_rfl) ?_
    simp -dsimp only [go_sem, ↓reduceIte, rdr, ← hc]
    repeat with_reducible refine And.intro (by first | omega | decide) ?_
    refine hKK8 _ _ ?_
    try clear hKK8 KK8
    refine Lwp_seq fun KK9 hKK9 => ?_
    refine Lwp_store (fun S3 => RI S S3 f bs pk ok' (3, [[.sl true [], V 0, .bool false]]) ∧ RowS S3 (S.length + 2) u 2 es ∧ S3[c]? = some (some (2, [[V 0, V 0]]))) ⟨hI.keeps (Keeps.app _ _ []) (by simp), RowS.keeps hR (Keeps.app _ _ []) (by simp), by rw [hc]; simp⟩ ?_
    rintro S3 ⟨hI3, hR3, hc3⟩
    have hrd3 := hI3.rd
    have hne3 : ∀ v, (S3.set S.length v)[c]? = S3[c]? := fun v => List.getElem?_set_ne (by omega)
    refine LregionG [none, none, none, none, none, none, none, none] (by kernel_rfl) (by kernel_rfl) ?_
    simp -dsimp only [go_sem, ↓reduceIte, rdr, hrd3, hne3, hc3]
    refine Pc.k' (GetInt_ok f bs pk ok' hb hpk) ?_
    rintro _ ⟨p2, o2, us2, rfl, hp2, hok2, hG2⟩
    obtain ⟨va, us', rfl, hva, hok'⟩ := ok_int hok2
    obtain rfl := ok_nil hok'
    simp -dsimp only [go_sem, ↓reduceIte, rdr, hd1, List.headD_cons, hrd3, hne3, hc3]
    refine hKK9 _ _ ?_
    try clear hKK9 KK9
    refine Lwp_seq fun KK10 hKK10 => ?_
    refine Lwp_store (fun S4 => RI S S4 f bs p2 o2 (3, [[.sl true [], V 0, .bool false]]) ∧ RowS S4 (S.length + 2) u 2 es ∧ S4[c]? = some (some (2, [[V va, V 0]]))) ⟨(hI3.set).keeps (Keeps.set1 _) (by simp; omega), RowS.mono hR3 (Nat.le_refl _) (fun id hid b hb => by rw [List.getElem?_set_ne (by have := h8 id hid; omega), List.getElem?_set_ne (by have := (hR3.lo id hid).1; omega)]; exact hb), List.getElem?_set_self (by rw [List.length_set]; exact lt_of_get hc3)⟩ ?_
    rintro S4 ⟨hI4, hR4, hc4⟩
    have hrd4 := hI4.rd
    have hne4 : ∀ v, (S4.set S.length v)[c]? = S4[c]? := fun v => List.getElem?_set_ne (by omega)
    refine LregionG [none, none, none, none, none, none, none, none] (by kernel_rfl) (by kernel_rfl) ?_
    simp -dsimp only [go_sem, ↓reduceIte, rdr, hrd4, hne4, hc4]
    refine Pc.k' (GetInt_ok f bs p2 o2 hb hp2) ?_
    rintro _ ⟨p3, o3, us3, rfl, hp3, hok3, hG3⟩
    obtain ⟨vb, us', rfl, hvb, hok'⟩ := ok_int hok3
    obtain rfl := ok_nil hok'
    simp -dsimp only [go_sem, ↓reduceIte, rdr, hd1, List.headD_cons, hrd4, hne4, hc4]
    refine hKK10 _ _ ?_
    try clear hKK10 KK10
    refine Lwp_store (fun S5 => RI S S5 f bs p3 o3 (3, [[.sl true [], V 0, .bool false]]) ∧ RowS S5 (S.length + 2) u 2 es ∧ S5[c]? = some (some (2, [[V va, V vb]]))) ⟨(hI4.set).keeps (Keeps.set1 _) (by simp; omega), RowS.mono hR4 (Nat.le_refl _) (fun id hid b hb => by rw [List.getElem?_set_ne (by have := h8 id hid; omega), List.getElem?_set_ne (by have := (hR4.lo id hid).1; omega)]; exact hb), List.getElem?_set_self (by rw [List.length_set]; exact lt_of_get hc4)⟩ ?_
    rintro S5 ⟨hI5, hR5, hc5⟩
    have hrd5 := hI5.rd
    have hne5 : ∀ v, (S5.set S.length v)[c]? = S5[c]? := fun v => List.getElem?_set_ne (by omega)
    clear hI hR hI3 hR3 hI4 hR4 hrd3 hrd4 hne3 hne4 hc3 hc4
    have hI4 := hI5
    have hG : GetO sRd (bs.drop pk) ok' [V va, V vb] (bs.drop p3) o3 := hG2.app hG3 hok2
    have hokr : ok sRd [V va, V vb] := app_ok (s := sI) hok2 hok3
    refine LregionG [none, none, none, none, none] (by kernel_rfl) (by kernel_rfl) ?_
    simp -dsimp only [go_sem, ↓reduceIte, rdr, hc5]
    repeat with_reducible refine And.intro (by first | omega | decide | assumption) ?_
    refine append_row (fs := [[V va, V vb]]) hR5 rfl (by simp only [go_sem]; rfl) (by simp only [go_sem]; first | exact ⟨rfl, rfl⟩ | exact ⟨rfl, rfl, rfl⟩ | rfl) (by simp only [go_sem]) (by simp only [go_sem, ↓reduceIte]) (by simp only [go_sem, ↓reduceIte]) (by simp) (.inr (by simp)) (by simp only [LIM, List.length_cons, List.length_nil]; omega) fun S8 hl8 hr8 hK8 => ?_
    simp -dsimp only [go_sem, ↓reduceIte, rdr]
    refine hKK7 _ _ ?_
    try clear hKK7 KK7
    refine LregionG [none, none, none] (by kernel_rfl) (by kernel_rfl) ?_
    simp -dsimp only [go_sem, ↓reduceIte, rdr, e1]
    repeat with_reducible refine And.intro (by first | omega | decide) ?_
    exact hII (n - (k + 1)) _ _ (by omega) ⟨k + 1, p3, o3, _, es ++ [[V va, V vb]], rfl, hk', by simp [hel], hp3, ok_memE hoe hokr, hL.step hG hk', hI4.keeps hK8 (fun id hid => (hR5.lo id hid).1), RowS.mono hr8 (by have := hI4.keep.1; have := lt_of_get hI4.res; omega) (fun _ _ _ h => h), rfl⟩
  · skip
    have hkn : k = n := by simp at hf; omega
    refine Lwp_exit ?_
    simp -dsimp only [go_sem, ↓reduceIte, rdr]
    refine hKK3 _ _ ?_
    try clear hKK3 KK3
    refine Lwp_seq fun KK11 hKK11 => ?_
    refine Lwp_frzRowS 5 u rfl (by simp only [go_sem, ↓reduceIte]) hR fun full S3 hl3 hK3 => ?_
    have hI3 := hI.keeps (S2 := S3) (ids := rowIds u) ⟨by omega, fun j _ h => hK3 j h⟩ (fun id hid => (hR.lo id hid).1)
    have hrd := hI3.rd
    have hre := hI3.res
    have hlt : ltLL S.length es = true := lt_int fun e he => ok_lt (hoe e he)
    have hsz : ∀ v, (S3.set (S.length + 1) v)[S.length + 1]? = some v := fun v => List.getElem?_set_self (lt_of_get hre)
    refine LregionG [none, none, none, none] (by kernel_rfl) (by kernel_rfl) ?_
    simp -dsimp only [go_sem, ↓reduceIte, rdr, hsz, hrd, hre]
    repeat with_reducible refine And.intro (by first | omega | decide) ?_
    refine hKK11 _ _ ?_
    try clear hKK11 KK11
    refine Lwp_ret ?_
    simp only [LThen, LBlock, LPost, Tryz.results76]
    simp -dsimp only [go_sem, ↓reduceIte, rdr, hsz]
    refine ret_frame (hI3.keep.trans (Keeps.set1 _) (ids'' := []) (fun j hj h => h.elim (fun h => h) (fun h => by simp at h; omega))) (by simp only [go_sem, ↓reduceIte, LV.lt, lt_u8c, ltL, ltLL, Bool.and_self, hlt]) ?_
    simp only [go_sem, ↓reduceIte]
    refine hRR _ ⟨pk, ok', [.sl full es], rfl, hpk, ⟨by omega, hoe, trivial⟩, hL.done hC1 rfl (by decide) (fun _ => hkn)⟩

end Go.Proofs.YtdhngmldmalbbaaGreat
end
section
set_option linter.all false
namespace Go.Proofs.YtdhngmldmalbbaaGreat
open Go.Lift Go.RowKit Go.Store
set_option linter.unusedSimpArgs false
set_option linter.unusedVariables false
set_option maxHeartbeats 400000 in
theorem GetPlace_ok : GetC 75 (sPlace) (.agg) := by
  intro f bs p o hb hp
  refine Pc_intro 1 Tryz.func75 rfl (by kernel_rfl) rfl fun S RR hRR => ?_
  refine Lwp_seq fun KK0 hKK0 => ?_
  refine LregionG [none, none, none] (by kernel_rfl) (by kernel_rfl) ?_
  simp -dsimp only [go_sem, ↓reduceIte, rdr]
  repeat with_reducible refine And.intro (by first | omega | decide) ?_
  refine hKK0 _ _ ?_
  try clear hKK0 KK0
  refine Lwp_seq fun KK1 hKK1 => ?_
  refine LregionG [none] (by kernel_rfl) (by kernel_rfl) ?_
  simp -dsimp only [go_sem, ↓reduceIte, rdr]
  repeat with_reducible refine And.intro (by first | omega | decide) ?_
  refine hKK1 _ _ ?_
  try clear hKK1 KK1
  refine Lwp_seq fun KK2 hKK2 => ?_
  refine LregionG [none, none, none, none, none, none, none, none] (by kernel_rfl) (by kernel_rfl) ?_
  simp -dsimp only [go_sem, ↓reduceIte, rdr]
  refine Pc.k' (GetInt_ok f bs p o hb hp) ?_
  rintro _ ⟨p1, o1, us1, rfl, hp1, hok1, hG1⟩
  obtain ⟨w1, us', rfl, hw1, hok'⟩ := ok_int hok1
  obtain rfl := ok_nil hok'
  have G1 := hG1
  have K1 := hok1
  simp -dsimp only [go_sem, ↓reduceIte, rdr, hd1, List.headD_cons]
  refine hKK2 _ _ ?_
  try clear hKK2 KK2
  refine Lwp_seq fun KK3 hKK3 => ?_
  refine LregionG [none, none, none, none, none, none, none, none] (by kernel_rfl) (by kernel_rfl) ?_
  simp -dsimp only [go_sem, ↓reduceIte, rdr]
  refine Pc.k' (GetInt_ok f bs p1 o1 hb hp1) ?_
  rintro _ ⟨p2, o2, us2, rfl, hp2, hok2, hG2⟩
  obtain ⟨w2, us', rfl, hw2, hok'⟩ := ok_int hok2
  obtain rfl := ok_nil hok'
  have G2 := G1.app hG2 K1
  have K2 := app_ok K1 hok2
  simp -dsimp only [go_sem, ↓reduceIte, rdr, hd1, List.headD_cons]
  refine hKK3 _ _ ?_
  try clear hKK3 KK3
  refine Lwp_seq fun KK4 hKK4 => ?_
  refine LregionG [none, none, none, none, none, none, none, none] (by kernel_rfl) (by kernel_rfl) ?_
  simp -dsimp only [go_sem, ↓reduceIte, rdr]
  refine Pc.k' (GetInt_ok f bs p2 o2 hb hp2) ?_
  rintro _ ⟨p3, o3, us3, rfl, hp3, hok3, hG3⟩
  obtain ⟨w3, us', rfl, hw3, hok'⟩ := ok_int hok3
  obtain rfl := ok_nil hok'
  have G3 := G2.app hG3 K2
  have K3 := app_ok K2 hok3
  simp -dsimp only [go_sem, ↓reduceIte, rdr, hd1, List.headD_cons]
  refine hKK4 _ _ ?_
  try clear hKK4 KK4
  refine Lwp_seq fun KK5 hKK5 => ?_
  refine LregionG [none, none, none, none, none, none, none, none] (by kernel_rfl) (by kernel_rfl) ?_
  simp -dsimp only [go_sem, ↓reduceIte, rdr]
  refine Pc.k' (GetInt_ok f bs p3 o3 hb hp3) ?_
  rintro _ ⟨p4, o4, us4, rfl, hp4, hok4, hG4⟩
  obtain ⟨w4, us', rfl, hw4, hok'⟩ := ok_int hok4
  obtain rfl := ok_nil hok'
  have G4 := G3.app hG4 K3
  have K4 := app_ok K3 hok4
  simp -dsimp only [go_sem, ↓reduceIte, rdr, hd1, List.headD_cons]
  refine hKK5 _ _ ?_
  try clear hKK5 KK5
  refine Lwp_seq fun KK6 hKK6 => ?_
  refine LdrawE [0,1,2,3] [(S.length, (3, [[.sl f (bs.map u8c), V p4, .bool o4]])), (S.length + 3, (4, [[V w1, V w2, V w3, V w4]]))] none (by kernel_rfl) (by kernel_rfl) (by kernel_rfl) (by kernel_rfl) (by simp [Watch.holds]) ?_
  simp -dsimp only [go_sem, ↓reduceIte, rdr, List.mem_cons, forall_eq_or_imp, Nat.add_eq_left]
  repeat with_reducible refine And.intro (by first | omega | decide) ?_
  refine hKK6 _ _ ?_
  try clear hKK6 KK6
  refine Lwp_ret ?_
  simp only [LThen, LBlock, LPost, Tryz.results75]
  simp -dsimp only [go_sem, ↓reduceIte, rdr]
  refine ret_app (by simp only [go_sem, ↓reduceIte, LV.lt, lt_u8c, ltL, ltLL, Bool.and_self]) ?_
  simp only [go_sem, ↓reduceIte]
  refine hRR _ ⟨p4, o4, [V w1, V w2, V w3, V w4], rfl, hp4, K4, G4⟩

set_option maxHeartbeats 400000 in
theorem GetRep_ok : GetC 53 (sRep) (.agg) := by
  intro f bs p o hb hp
  refine Pc_intro 1 Tryz.func53 rfl (by kernel_rfl) rfl fun S RR hRR => ?_
  refine Lwp_seq fun KK0 hKK0 => ?_
  refine LregionG [none, none, none] (by kernel_rfl) (by kernel_rfl) ?_
  simp -dsimp only [go_sem, ↓reduceIte, rdr]
  repeat with_reducible refine And.intro (by first | omega | decide) ?_
  refine hKK0 _ _ ?_
  try clear hKK0 KK0
  refine Lwp_seq fun KK1 hKK1 => ?_
  refine LregionG [none] (by kernel_rfl) (by kernel_rfl) ?_
  simp -dsimp only [go_sem, ↓reduceIte, rdr]
  repeat with_reducible refine And.intro (by first | omega | decide) ?_
  refine hKK1 _ _ ?_
  try clear hKK1 KK1
  refine Lwp_seq fun KK2 hKK2 => ?_
  refine LregionG [none, none, none, none, none, none, none, none] (by kernel_rfl) (by kernel_rfl) ?_
  simp -dsimp only [go_sem, ↓reduceIte, rdr]
  refine Pc.k' (GetInt_ok f bs p o hb hp) ?_
  rintro _ ⟨p1, o1, us1, rfl, hp1, hok1, hG1⟩
  obtain ⟨w1, us', rfl, hw1, hok'⟩ := ok_int hok1
  obtain rfl := ok_nil hok'
  have G1 := hG1
  have K1 := hok1
  simp -dsimp only [go_sem, ↓reduceIte, rdr, hd1, List.headD_cons]
  refine hKK2 _ _ ?_
  try clear hKK2 KK2
  refine Lwp_seq fun KK3 hKK3 => ?_
  refine LregionG [none, none, none, none, none, none, none, none] (by kernel_rfl) (by kernel_rfl) ?_
  simp -dsimp only [go_sem, ↓reduceIte, rdr]
  refine Pc.k' (GetStr_ok f bs p1 o1 hb hp1) ?_
  rintro _ ⟨p2, o2, us2, rfl, hp2, hok2, hG2⟩
  obtain ⟨w2, us', rfl, hw2, hok'⟩ := ok_str hok2
  obtain rfl := ok_nil hok'
  have G2 := G1.app hG2 K1
  have K2 := app_ok K1 hok2
  simp -dsimp only [go_sem, ↓reduceIte, rdr, hd1, List.headD_cons]
  refine hKK3 _ _ ?_
  try clear hKK3 KK3
  refine Lwp_seq fun KK4 hKK4 => ?_
  refine LregionG [none, none, none, none, none, none, none, none] (by kernel_rfl) (by kernel_rfl) ?_
  simp -dsimp only [go_sem, ↓reduceIte, rdr]
  refine Pc.k' (GetInt_ok f bs p2 o2 hb hp2) ?_
  rintro _ ⟨p3, o3, us3, rfl, hp3, hok3, hG3⟩
  obtain ⟨w3, us', rfl, hw3, hok'⟩ := ok_int hok3
  obtain rfl := ok_nil hok'
  have G3 := G2.app hG3 K2
  have K3 := app_ok K2 hok3
  simp -dsimp only [go_sem, ↓reduceIte, rdr, hd1, List.headD_cons]
  refine hKK4 _ _ ?_
  try clear hKK4 KK4
  refine Lwp_seq fun KK5 hKK5 => ?_
  refine LregionG [none, none, none, none, none, none, none, none] (by kernel_rfl) (by kernel_rfl) ?_
  simp -dsimp only [go_sem, ↓reduceIte, rdr]
  refine Pc.k' (GetPlace_ok f bs p3 o3 hb hp3) ?_
  rintro _ ⟨p4, o4, us4, rfl, hp4, hok4, hG4⟩
  obtain ⟨wa, u4, rfl, hwa, hk4⟩ := ok_int hok4
  obtain ⟨wb, u5, rfl, hwb, hk5⟩ := ok_int hk4
  obtain ⟨wc, u6, rfl, hwc, hk6⟩ := ok_int hk5
  obtain ⟨wd, u7, rfl, hwd, hk7⟩ := ok_int hk6
  obtain rfl := ok_nil hk7
  have G4 := G3.app hG4 K3
  have K4 := app_ok K3 hok4
  simp -dsimp only [go_sem, ↓reduceIte, rdr, hd1, List.headD_cons]
  refine hKK5 _ _ ?_
  try clear hKK5 KK5
  refine Lwp_seq fun KK6 hKK6 => ?_
  refine LregionG [none, none, none, none, none, none, none, none] (by kernel_rfl) (by kernel_rfl) ?_
  simp -dsimp only [go_sem, ↓reduceIte, rdr]
  refine Pc.k' (GetRds_ok f bs p4 o4 hb hp4) ?_
  rintro _ ⟨p5, o5, us5, rfl, hp5, hok5, hG5⟩
  obtain ⟨fes, es, us', rfl, hles, hoes, hok'⟩ := ok_sl hok5
  obtain rfl := ok_nil hok'
  have hltes : ltLL S.length es = true := lt_int fun e he => ok_lt (hoes e he)
  have G5 := G4.app hG5 K4
  have K5 := app_ok K4 hok5
  simp -dsimp only [go_sem, ↓reduceIte, rdr, hd1, List.headD_cons]
  refine hKK6 _ _ ?_
  try clear hKK6 KK6
  refine Lwp_seq fun KK7 hKK7 => ?_
  refine LdrawE [0,1,2,3] [(S.length, (3, [[.sl f (bs.map u8c), V p5, .bool o5]])), (S.length + 3, (8, [[V w1, .str w2, V w3, V wa, V wb, V wc, V wd, .sl fes es]]))] none (by kernel_rfl) (by kernel_rfl) (by kernel_rfl) (by kernel_rfl) (by simp [Watch.holds]) ?_
  simp -dsimp only [go_sem, ↓reduceIte, rdr, List.mem_cons, forall_eq_or_imp, Nat.add_eq_left]
  repeat with_reducible refine And.intro (by first | omega | decide) ?_
  refine hKK7 _ _ ?_
  try clear hKK7 KK7
  refine Lwp_ret ?_
  simp only [LThen, LBlock, LPost, Tryz.results53]
  simp -dsimp only [go_sem, ↓reduceIte, rdr]
  refine ret_app (by simp only [go_sem, ↓reduceIte, LV.lt, lt_u8c, ltL, ltLL, Bool.and_self, hltes]) ?_
  simp only [go_sem, ↓reduceIte]
  refine hRR _ ⟨p5, o5, [V w1, .str w2, V w3, V wa, V wb, V wc, V wd, .sl fes es], rfl, hp5, K5, G5⟩

set_option maxHeartbeats 400000 in
theorem GetAna_ok : GetC 78 (sAna) (.agg) := by
  intro f bs p o hb hp
  refine Pc_intro 1 Tryz.func78 rfl (by kernel_rfl) rfl fun S RR hRR => ?_
  refine Lwp_seq fun KK0 hKK0 => ?_
  refine LregionG [none, none, none] (by kernel_rfl) (by kernel_rfl) ?_
  simp -dsimp only [go_sem, ↓reduceIte, rdr]
  repeat with_reducible refine And.intro (by first | omega | decide) ?_
  refine hKK0 _ _ ?_
  try clear hKK0 KK0
  refine Lwp_seq fun KK1 hKK1 => ?_
  refine LregionG [none] (by kernel_rfl) (by kernel_rfl) ?_
  simp -dsimp only [go_sem, ↓reduceIte, rdr]
  repeat with_reducible refine And.intro (by first | omega | decide) ?_
  refine hKK1 _ _ ?_
  try clear hKK1 KK1
  refine Lwp_seq fun KK2 hKK2 => ?_
  refine LregionG [none, none, none, none, none, none, none, none] (by kernel_rfl) (by kernel_rfl) ?_
  simp -dsimp only [go_sem, ↓reduceIte, rdr]
  refine Pc.k' (GetSl_ok f bs p o hb hp) ?_
  rintro _ ⟨p1, o1, us1, rfl, hp1, hok1, hG1⟩
  obtain ⟨fe1, e1, us', rfl, hle1, hoe1, hok'⟩ := ok_sl hok1
  obtain rfl := ok_nil hok'
  have hlte1 : ltLL S.length e1 = true := lt_int fun e he => ok_lt (hoe1 e he)
  have G1 := hG1
  have K1 := hok1
  simp -dsimp only [go_sem, ↓reduceIte, rdr, hd1, List.headD_cons]
  refine hKK2 _ _ ?_
  try clear hKK2 KK2
  refine Lwp_seq fun KK3 hKK3 => ?_
  refine LregionG [none, none, none, none, none, none, none, none] (by kernel_rfl) (by kernel_rfl) ?_
  simp -dsimp only [go_sem, ↓reduceIte, rdr]
  refine Pc.k' (GetSl_ok f bs p1 o1 hb hp1) ?_
  rintro _ ⟨p2, o2, us2, rfl, hp2, hok2, hG2⟩
  obtain ⟨fe2, e2, us', rfl, hle2, hoe2, hok'⟩ := ok_sl hok2
  obtain rfl := ok_nil hok'
  have hlte2 : ltLL S.length e2 = true := lt_int fun e he => ok_lt (hoe2 e he)
  have G2 := G1.app hG2 K1
  have K2 := app_ok K1 hok2
  simp -dsimp only [go_sem, ↓reduceIte, rdr, hd1, List.headD_cons]
  refine hKK3 _ _ ?_
  try clear hKK3 KK3
  refine Lwp_seq fun KK4 hKK4 => ?_
  refine LregionG [none, none, none, none, none, none, none, none] (by kernel_rfl) (by kernel_rfl) ?_
  simp -dsimp only [go_sem, ↓reduceIte, rdr]
  refine Pc.k' (GetSl_ok f bs p2 o2 hb hp2) ?_
  rintro _ ⟨p3, o3, us3, rfl, hp3, hok3, hG3⟩
  obtain ⟨fe3, e3, us', rfl, hle3, hoe3, hok'⟩ := ok_sl hok3
  obtain rfl := ok_nil hok'
  have hlte3 : ltLL S.length e3 = true := lt_int fun e he => ok_lt (hoe3 e he)
  have G3 := G2.app hG3 K2
  have K3 := app_ok K2 hok3
  simp -dsimp only [go_sem, ↓reduceIte, rdr, hd1, List.headD_cons]
  refine hKK4 _ _ ?_
  try clear hKK4 KK4
  refine Lwp_seq fun KK5 hKK5 => ?_
  refine LregionG [none, none, none, none, none, none, none, none, none, none] (by kernel_rfl) (by kernel_rfl) ?_
  simp -dsimp only [go_sem, ↓reduceIte, rdr]
  refine Pc.k' (GetInt_ok f bs p3 o3 hb hp3) ?_
  rintro _ ⟨p4, o4, us4, rfl, hp4, hok4, hG4⟩
  obtain ⟨w4, us', rfl, hw4, hok'⟩ := ok_int hok4
  obtain rfl := ok_nil hok'
  have G4 := G3.app hG4 K3
  have K4 := app_ok K3 hok4
  simp -dsimp only [go_sem, ↓reduceIte, rdr, hd1, List.headD_cons]
  refine hKK5 _ _ ?_
  try clear hKK5 KK5
  refine Lwp_seq fun KK6 hKK6 => ?_
  refine LregionG [none, none, none, none, none, none, none, none, none, none] (by kernel_rfl) (by kernel_rfl) ?_
  simp -dsimp only [go_sem, ↓reduceIte, rdr]
  refine Pc.k' (Get_ok f bs p4 8 o4 (by omega) hp4 (by omega)) ?_
  rintro _ ⟨p5, o5, w5, rfl, hp5, hN5⟩
  replace hN5 : GetN bs p4 8 o4 p5 o5 w5 := hN5
  have hG5 := hN5.word
  have hok5 : ok (.word .nil) [.int .u64 (w5 : Nat)] := ⟨rfl, by omega, by have := hN5.lt; omega, trivial⟩
  have G5 := G4.app hG5 K4
  have K5 := app_ok K4 hok5
  simp -dsimp only [go_sem, ↓reduceIte, rdr, hd1, List.headD_cons]
  refine hKK6 _ _ ?_
  try clear hKK6 KK6
  refine Lwp_seq fun KK7 hKK7 => ?_
  refine LregionG [none, none, none, none, none, none, none, none, none] (by kernel_rfl) (by kernel_rfl) ?_
  simp -dsimp only [go_sem, ↓reduceIte, rdr]
  refine Pc.k' (GetInt_ok f bs p5 o5 hb hp5) ?_
  rintro _ ⟨p6, o6, us6, rfl, hp6, hok6, hG6⟩
  obtain ⟨w6, us', rfl, hw6, hok'⟩ := ok_int hok6
  obtain rfl := ok_nil hok'
  have G6 := G5.app hG6 K5
  have K6 := app_ok K5 hok6
  simp -dsimp only [go_sem, ↓reduceIte, rdr, hd1, List.headD_cons]
  refine hKK7 _ _ ?_
  try clear hKK7 KK7
  refine Lwp_seq fun KK8 hKK8 => ?_
  refine LregionG [none, none, none, none, none, none, none, none, none] (by kernel_rfl) (by kernel_rfl) ?_
  simp -dsimp only [go_sem, ↓reduceIte, rdr]
  refine Pc.k' (GetInt_ok f bs p6 o6 hb hp6) ?_
  rintro _ ⟨p7, o7, us7, rfl, hp7, hok7, hG7⟩
  obtain ⟨w7, us', rfl, hw7, hok'⟩ := ok_int hok7
  obtain rfl := ok_nil hok'
  have G7 := G6.app hG7 K6
  have K7 := app_ok K6 hok7
  simp -dsimp only [go_sem, ↓reduceIte, rdr, hd1, List.headD_cons]
  refine hKK8 _ _ ?_
  try clear hKK8 KK8
  refine Lwp_seq fun KK9 hKK9 => ?_
  refine LregionG [none, none, none, none, none, none, none, none] (by kernel_rfl) (by kernel_rfl) ?_
  simp -dsimp only [go_sem, ↓reduceIte, rdr]
  refine Pc.k' (GetInt_ok f bs p7 o7 hb hp7) ?_
  rintro _ ⟨p8, o8, us8, rfl, hp8, hok8, hG8⟩
  obtain ⟨w8, us', rfl, hw8, hok'⟩ := ok_int hok8
  obtain rfl := ok_nil hok'
  have G8 := G7.app hG8 K7
  have K8 := app_ok K7 hok8
  simp -dsimp only [go_sem, ↓reduceIte, rdr, hd1, List.headD_cons]
  refine hKK9 _ _ ?_
  try clear hKK9 KK9
  refine Lwp_seq fun KK10 hKK10 => ?_
  refine LdrawE [0,1,2,3] [(S.length, (3, [[.sl f (bs.map u8c), V p8, .bool o8]])), (S.length + 3, (8, [[.sl fe1 e1, .sl fe2 e2, .sl fe3 e3, V w4, .int .u64 w5, V w6, V w7, V w8]]))] none (by kernel_rfl) (by kernel_rfl) (by kernel_rfl) (by kernel_rfl) (by simp [Watch.holds]) ?_
  simp -dsimp only [go_sem, ↓reduceIte, rdr, List.mem_cons, forall_eq_or_imp, Nat.add_eq_left]
  repeat with_reducible refine And.intro (by first | omega | decide) ?_
  refine hKK10 _ _ ?_
  try clear hKK10 KK10
  refine Lwp_ret ?_
  simp only [LThen, LBlock, LPost, Tryz.results78]
  simp -dsimp only [go_sem, ↓reduceIte, rdr]
  refine ret_app (by simp only [go_sem, ↓reduceIte, LV.lt, lt_u8c, ltL, ltLL, Bool.and_self, hlte1, hlte2, hlte3]) ?_
  simp only [go_sem, ↓reduceIte]
  refine hRR _ ⟨p8, o8, [.sl fe1 e1, .sl fe2 e2, .sl fe3 e3, V w4, .int .u64 w5, V w6, V w7, V w8], rfl, hp8, K8, G8⟩

end Go.Proofs.YtdhngmldmalbbaaGreat
end
section
set_option linter.all false
namespace Go.Proofs.YtdhngmldmalbbaaGreat
open Go.Lift Go.RowKit Go.Store
set_option linter.unusedSimpArgs false
set_option linter.unusedVariables false

theorem GetN.bool {bs : List UInt8} {p p' v : Nat} {o o' : Bool} (h : GetN bs p 1 o p' o' v) : GetO (.bool .nil) (bs.drop p) o [.bool (decide ((v : Int) = 1))] (bs.drop p') (o' && decide ((v : Int) ≤ 1)) := by
  rcases h with ⟨rfl, rfl, h1, rfl, rfl⟩ | ⟨rfl, rfl, rfl, h1⟩
  · obtain ⟨v, hv⟩ : ∃ v, v = num ((bs.drop p).take 1) := ⟨_, rfl⟩
    rw [← hv]
    by_cases hle : v ≤ 1
    · rw [decide_eq_true (show (v : Int) ≤ 1 by omega)]
      refine .inl ⟨rfl, rfl, ?_⟩
      simp only [dec, take'_some h1, ← hv, if_pos hle, cons', nz, List.drop_drop]
      have : (v == 1) = decide ((v : Int) = 1) := by
        by_cases h1 : v = 1
        · subst h1; rfl
        · rw [decide_eq_false (by omega)]; simp [h1]
      rw [this]
    · rw [decide_eq_false (show ¬ (v : Int) ≤ 1 by omega)]
      refine .inr ⟨rfl, .inr ?_⟩
      simp only [dec, take'_some h1, ← hv, if_neg hle]
  · exact .inr ⟨rfl, h1.imp_right fun h => by simp only [dec, take'_none h]⟩

set_option maxHeartbeats 400000 in
theorem GetPer_ok : GetC 55 (sPer) (.agg) := by
  intro f bs p o hb hp
  refine Pc_intro 1 Tryz.func55 rfl (by kernel_rfl) rfl fun S RR hRR => ?_
  refine Lwp_seq fun KK0 hKK0 => ?_
  refine LregionG [none, none, none] (by kernel_rfl) (by kernel_rfl) ?_
  simp -dsimp only [go_sem, ↓reduceIte, rdr]
  repeat with_reducible refine And.intro (by first | omega | decide) ?_
  refine hKK0 _ _ ?_
  try clear hKK0 KK0
  refine Lwp_seq fun KK1 hKK1 => ?_
  refine LregionG [none] (by kernel_rfl) (by kernel_rfl) ?_
  simp -dsimp only [go_sem, ↓reduceIte, rdr]
  repeat with_reducible refine And.intro (by first | omega | decide) ?_
  refine hKK1 _ _ ?_
  try clear hKK1 KK1
  refine Lwp_seq fun KK2 hKK2 => ?_
  refine LregionG [none, none, none, none, none, none, none, none] (by kernel_rfl) (by kernel_rfl) ?_
  simp -dsimp only [go_sem, ↓reduceIte, rdr]
  refine Pc.k' (GetInt_ok f bs p o hb hp) ?_
  rintro _ ⟨p1, o1, us1, rfl, hp1, hok1, hG1⟩
  obtain ⟨w1, us', rfl, hw1, hok'⟩ := ok_int hok1
  obtain rfl := ok_nil hok'
  have G1 := hG1
  have K1 := hok1
  simp -dsimp only [go_sem, ↓reduceIte, rdr, hd1, List.headD_cons]
  refine hKK2 _ _ ?_
  try clear hKK2 KK2
  refine Lwp_seq fun KK3 hKK3 => ?_
  refine LregionG [none, none, none, none, none, none, none] (by kernel_rfl) (by kernel_rfl) ?_
  simp -dsimp only [go_sem, ↓reduceIte, rdr]
  refine Pc.k' (Get_ok f bs p1 1 o1 (by omega) hp1 (by omega)) ?_
  rintro _ ⟨p2, o2, v, rfl, hp2, hN2⟩
  replace hN2 : GetN bs p1 1 o1 p2 o2 v := hN2
  have hG2 := hN2.bool
  have hok2 : ok (.bool .nil) [.bool (decide ((v : Int) = 1))] := trivial
  have G2 := G1.app hG2 K1
  have K2 := app_ok K1 hok2
  simp -dsimp only [go_sem, ↓reduceIte, rdr, hd1, List.headD_cons]
  cases o2
  · skip
    simp only [Bool.false_and] at G2 hG2
    refine hKK3 _ _ ?_
    try clear hKK3 KK3
    refine Lwp_seq fun KK4 hKK4 => ?_
    refine LregionG [none, none, none, some (19, true), some (19, true), none, none, none] (by kernel_rfl) (by kernel_rfl) ?_
    simp -dsimp only [go_sem, ↓reduceIte, rdr]
    repeat with_reducible refine And.intro (by first | omega | decide) ?_
    refine hKK4 _ _ ?_
    try clear hKK4 KK4
    refine Lwp_seq fun KK5 hKK5 => ?_
    refine LregionG [none, none, none, none] (by kernel_rfl) (by kernel_rfl) ?_
    simp -dsimp only [go_sem, ↓reduceIte, rdr]
    repeat with_reducible refine And.intro (by first | omega | decide) ?_
    refine hKK5 _ _ ?_
    try clear hKK5 KK5
    refine Lwp_seq fun KK6 hKK6 => ?_
    refine LregionG [none, none, none, none, none, none, none, none] (by kernel_rfl) (by kernel_rfl) ?_
    simp -dsimp only [go_sem, ↓reduceIte, rdr]
    refine Pc.k' (GetPlace_ok f bs p2 false hb hp2) ?_
    rintro _ ⟨p3, o3, us3, rfl, hp3, hok3, hG3⟩
    obtain ⟨wa, u4, rfl, hwa, hk4⟩ := ok_int hok3
    obtain ⟨wb, u5, rfl, hwb, hk5⟩ := ok_int hk4
    obtain ⟨wc, u6, rfl, hwc, hk6⟩ := ok_int hk5
    obtain ⟨wd, u7, rfl, hwd, hk7⟩ := ok_int hk6
    obtain rfl := ok_nil hk7
    have G3 := G2.app hG3 K2
    have K3 := app_ok K2 hok3
    simp -dsimp only [go_sem, ↓reduceIte, rdr, hd1, List.headD_cons]
    refine hKK6 _ _ ?_
    try clear hKK6 KK6
    refine Lwp_seq fun KK7 hKK7 => ?_
    refine LregionG [none, none, none, none, none, none, none, none] (by kernel_rfl) (by kernel_rfl) ?_
    simp -dsimp only [go_sem, ↓reduceIte, rdr]
    refine Pc.k' (GetRds_ok f bs p3 o3 hb hp3) ?_
    rintro _ ⟨p4, o4, us4, rfl, hp4, hok4, hG4⟩
    obtain ⟨fes, es, us', rfl, hles, hoes, hok'⟩ := ok_sl hok4
    obtain rfl := ok_nil hok'
    have hltes : ltLL S.length es = true := lt_int fun e he => ok_lt (hoes e he)
    have G4 := G3.app hG4 K3
    have K4 := app_ok K3 hok4
    simp -dsimp only [go_sem, ↓reduceIte, rdr, hd1, List.headD_cons]
    refine hKK7 _ _ ?_
    try clear hKK7 KK7
    refine Lwp_seq fun KK8 hKK8 => ?_
    refine LdrawE [0,1,2,3] [(S.length, (3, [[.sl f (bs.map u8c), V p4, .bool o4]])), (S.length + 3, (7, [[V w1, .bool (decide ((v : Int) = 1)), V wa, V wb, V wc, V wd, .sl fes es]]))] none (by kernel_rfl) (by kernel_rfl) (by kernel_rfl) (by kernel_rfl) (by simp [Watch.holds]) ?_
    simp -dsimp only [go_sem, ↓reduceIte, rdr, List.mem_cons, forall_eq_or_imp, Nat.add_eq_left]
    repeat with_reducible refine And.intro (by first | omega | decide) ?_
    refine hKK8 _ _ ?_
    try clear hKK8 KK8
    refine Lwp_ret ?_
    simp only [LThen, LBlock, LPost, Tryz.results55]
    simp -dsimp only [go_sem, ↓reduceIte, rdr]
    refine ret_app (by simp only [go_sem, ↓reduceIte, LV.lt, lt_u8c, ltL, ltLL, Bool.and_self, hltes]) ?_
    simp only [go_sem, ↓reduceIte]
    refine hRR _ ⟨p4, o4, [V w1, .bool (decide ((v : Int) = 1)), V wa, V wb, V wc, V wd, .sl fes es], rfl, hp4, K4, G4⟩
  · skip
    simp only [Bool.true_and] at G2 hG2
    obtain ⟨ob, hob⟩ : ∃ ob : Bool, decide ((v : Int) ≤ 1) = ob := ⟨_, rfl⟩
    rw [hob] at G2 hG2
    have hob2 : decide (v ≤ 1) = ob := by rw [← hob]; exact decide_eq_decide.2 (by omega)
    refine hKK3 _ _ ?_
    try clear hKK3 KK3
    refine Lwp_seq fun KK9 hKK9 => ?_
    refine LregionG [none, none, none, some (19, true), some (19, true), none, none, none] (by kernel_rfl) (by kernel_rfl) ?_
    simp -dsimp only [go_sem, ↓reduceIte, rdr, hob, hob2]
    repeat with_reducible refine And.intro (by first | omega | decide) ?_
    refine hKK9 _ _ ?_
    try clear hKK9 KK9
    refine Lwp_seq fun KK10 hKK10 => ?_
    refine LregionG [none, none, none, none] (by kernel_rfl) (by kernel_rfl) ?_
    simp -dsimp only [go_sem, ↓reduceIte, rdr]
    repeat with_reducible refine And.intro (by first | omega | decide) ?_
    refine hKK10 _ _ ?_
    try clear hKK10 KK10
    refine Lwp_seq fun KK11 hKK11 => ?_
    refine LregionG [none, none, none, none, none, none, none, none] (by kernel_rfl) (by kernel_rfl) ?_
    simp -dsimp only [go_sem, ↓reduceIte, rdr]
    refine Pc.k' (GetPlace_ok f bs p2 ob hb hp2) ?_
    rintro _ ⟨p3, o3, us3, rfl, hp3, hok3, hG3⟩
    obtain ⟨wa, u4, rfl, hwa, hk4⟩ := ok_int hok3
    obtain ⟨wb, u5, rfl, hwb, hk5⟩ := ok_int hk4
    obtain ⟨wc, u6, rfl, hwc, hk6⟩ := ok_int hk5
    obtain ⟨wd, u7, rfl, hwd, hk7⟩ := ok_int hk6
    obtain rfl := ok_nil hk7
    have G3 := G2.app hG3 K2
    have K3 := app_ok K2 hok3
    simp -dsimp only [go_sem, ↓reduceIte, rdr, hd1, List.headD_cons]
    refine hKK11 _ _ ?_
    try clear hKK11 KK11
    refine Lwp_seq fun KK12 hKK12 => ?_
    refine LregionG [none, none, none, none, none, none, none, none] (by kernel_rfl) (by kernel_rfl) ?_
    simp -dsimp only [go_sem, ↓reduceIte, rdr]
    refine Pc.k' (GetRds_ok f bs p3 o3 hb hp3) ?_
    rintro _ ⟨p4, o4, us4, rfl, hp4, hok4, hG4⟩
    obtain ⟨fes, es, us', rfl, hles, hoes, hok'⟩ := ok_sl hok4
    obtain rfl := ok_nil hok'
    have hltes : ltLL S.length es = true := lt_int fun e he => ok_lt (hoes e he)
    have G4 := G3.app hG4 K3
    have K4 := app_ok K3 hok4
    simp -dsimp only [go_sem, ↓reduceIte, rdr, hd1, List.headD_cons]
    refine hKK12 _ _ ?_
    try clear hKK12 KK12
    refine Lwp_seq fun KK13 hKK13 => ?_
    refine LdrawE [0,1,2,3] [(S.length, (3, [[.sl f (bs.map u8c), V p4, .bool o4]])), (S.length + 3, (7, [[V w1, .bool (decide ((v : Int) = 1)), V wa, V wb, V wc, V wd, .sl fes es]]))] none (by kernel_rfl) (by kernel_rfl) (by kernel_rfl) (by kernel_rfl) (by simp [Watch.holds]) ?_
    simp -dsimp only [go_sem, ↓reduceIte, rdr, List.mem_cons, forall_eq_or_imp, Nat.add_eq_left]
    repeat with_reducible refine And.intro (by first | omega | decide) ?_
    refine hKK13 _ _ ?_
    try clear hKK13 KK13
    refine Lwp_ret ?_
    simp only [LThen, LBlock, LPost, Tryz.results55]
    simp -dsimp only [go_sem, ↓reduceIte, rdr]
    refine ret_app (by simp only [go_sem, ↓reduceIte, LV.lt, lt_u8c, ltL, ltLL, Bool.and_self, hltes]) ?_
    simp only [go_sem, ↓reduceIte]
    refine hRR _ ⟨p4, o4, [V w1, .bool (decide ((v : Int) = 1)), V wa, V wb, V wc, V wd, .sl fes es], rfl, hp4, K4, G4⟩

end Go.Proofs.YtdhngmldmalbbaaGreat
end
section
set_option linter.all false
namespace Go.Proofs.YtdhngmldmalbbaaGreat
open Go.Lift Go.RowKit Go.Store
set_option linter.unusedSimpArgs false
set_option linter.unusedVariables false

/-- the call's own variables but four are forgotten; a row in a cell of the fourth is known from now on. -/
theorem Lwp_frzEnd {N : Nat} {c : Code} {Q : Exit → Env → LS → Prop} {env : Env} {S S1 : LS} {b1 b2 b3 : Blk} {sz sz' : Nat} {cells : List LV} {es : List (List LV)} (j : Nat) (u : LV) (ts : List Nat) (us : List LV) (hK : Keeps S S1 []) (h1 : S1[S.length]? = some (some b1)) (h2 : S1[S.length + 1]? = some (some b2)) (h3 : S1[S.length + 2]? = some (some b3))
    (h4 : S1[S.length + 3]? = some (some (sz, [cells]))) (hj : cells[j]? = some u) (hr : RowS S1 (S.length + 4) u sz' es)
    (hf : ∀ (keep : Nat → Bool) (S' : LS), ∀ x ∈ cells.eraseIdx j, frzK keep S' 1 x = x) (hl : allLt N ts = true) (hus : slotsOf env ts = us) (hfz : ∀ (keep : Nat → Bool) (S' : LS), us.map (frzK keep S' 1) = us)
    (h : ∀ (full : Bool) (R : LS), Lwp Tryz.prog N c Q (envZ ts us) (S ++ (some b1 :: some b2 :: some b3 :: some (sz, [cells.set j (.sl full es)]) :: R))) : Lwp Tryz.prog N c Q env S1 := by
  have h4l := lt_of_get h4
  let keep : Nat → Bool := fun i => decide (i < S.length + 4)
  obtain ⟨full, hu⟩ : ∃ full, frzK keep S1 1 u = .sl full es := by
    rcases hr.2 with hu | ⟨k, hk, hu, hT⟩
    · exact ⟨true, by rw [hu]; rfl⟩
    · refine ⟨false, ?_⟩
      rw [hu]
      have hkk : keep k = false := by simp only [keep]; exact decide_eq_false (by omega)
      simp only [frzK, hkk, cond_false, hT, Nat.zero_add, Nat.le_refl, if_true, List.drop_zero, List.take_length]
      simp
  have hcell : cells.map (frzK keep S1 1) = cells.set j (.sl full es) := by
    rw [map_set_erase (hf _ _) hj, hu]
  refine Lwp_freezeB keep 1 (S ++ (some b1 :: some b2 :: some b3 :: some (sz, [cells.set j (.sl full es)]) :: List.replicate (S1.length - (S.length + 4)) none)) (by simp; omega) (fun id b hb => ?_) ts hl (by rw [hus, hfz]; exact h full _)
  by_cases hlt : id < S.length
  · rw [List.getElem?_append_left hlt] at hb
    exact ⟨decide_eq_true (by omega), b, by rw [hK.2 id hlt (by simp)]; exact hb, .inl rfl⟩
  · rw [List.getElem?_append_right (by omega)] at hb
    obtain ⟨m, rfl⟩ : ∃ m, id = S.length + m := ⟨id - S.length, by omega⟩
    rw [Nat.add_sub_cancel_left] at hb
    match m, hb with
    | 0, hb => cases hb; exact ⟨decide_eq_true (by omega), _, h1, .inl rfl⟩
    | 1, hb => cases hb; exact ⟨decide_eq_true (by omega), _, h2, .inl rfl⟩
    | 2, hb => cases hb; exact ⟨decide_eq_true (by omega), _, h3, .inl rfl⟩
    | 3, hb =>
      cases hb
      refine ⟨decide_eq_true (by omega), _, h4, .inr ?_⟩
      simp only [frzKB, List.map_cons, List.map_nil, hcell]
    | m + 4, hb =>
      simp only [List.getElem?_cons_succ] at hb
      rw [List.getElem?_replicate] at hb
      split at hb <;> cases hb

end Go.Proofs.YtdhngmldmalbbaaGreat
end
section
set_option linter.all false
namespace Go.Proofs.YtdhngmldmalbbaaGreat
open Go.Lift Go.RowKit Go.Store
set_option linter.unusedSimpArgs false
set_option linter.unusedVariables false
set_option maxHeartbeats 1000000 in
theorem GetHist_ok : GetC 80 (sHist) (.agg) := by
  intro f bs p o hb hp
  refine Pc_intro 1 Tryz.func80 rfl (by kernel_rfl) rfl fun S RR hRR => ?_
  refine Lwp_seq fun KK0 hKK0 => ?_
  refine LregionG [none, none, none] (by kernel_rfl) (by kernel_rfl) ?_
  simp -dsimp only [go_sem, ↓reduceIte, rdr]
  repeat with_reducible refine And.intro (by first | omega | decide) ?_
  refine hKK0 _ _ ?_
  try clear hKK0 KK0
  refine Lwp_seq fun KK1 hKK1 => ?_
  refine LregionG [none] (by kernel_rfl) (by kernel_rfl) ?_
  simp -dsimp only [go_sem, ↓reduceIte, rdr]
  repeat with_reducible refine And.intro (by first | omega | decide) ?_
  refine hKK1 _ _ ?_
  try clear hKK1 KK1
  refine Lwp_seq fun KK2 hKK2 => ?_
  refine LregionG [none, none, none, none, none, none, none] (by kernel_rfl) (by kernel_rfl) ?_
  simp -dsimp only [go_sem, ↓reduceIte, rdr]
  refine Pc.k' (RCnt_ok f bs p 4 o hb hp (by omega)) ?_
  rintro _ ⟨p1, o1, n, rfl, hp1, hn1, hC1⟩
  simp -dsimp only [go_sem, ↓reduceIte, rdr]
  refine hKK2 _ _ ?_
  try clear hKK2 KK2
  refine Lwp_seq fun KK3 hKK3 => ?_
  refine Lwp_seq fun KK4 hKK4 => ?_
  refine Lwp_store (fun S2 => RI S S2 f bs p1 o1 (3, [[.sl true [], V 0, .bool false]]) ∧ S2[S.length + 2]? = some (some (2, [[.sl true [], .sl true []]])) ∧ S2[S.length + 3]? = some (some (2, [[.sl true [], .sl true []]]))) ⟨⟨Keeps.app _ _ _, by simp, by simp⟩, by simp, by simp⟩ ?_
  rintro S2 ⟨hI, hz, hst⟩
  refine LregionG [none] (by kernel_rfl) (by kernel_rfl) ?_
  simp -dsimp only [go_sem, ↓reduceIte, rdr]
  repeat with_reducible refine And.intro (by first | omega | decide) ?_
  refine hKK4 _ _ ?_
  try clear hKK4 KK4
  refine Lwp_block ?_
  refine Lwp_loopK [1, 2, 3, 4, 5, 6] (fun m us S' => ∃ (k pk : Nat) (ok' : Bool) (u : LV) (es : List (List LV)), us = [.ptr S.length 0 0, .ptr (S.length + 1) 0 0, .ptr (S.length + 2) 0 0, .ptr (S.length + 3) 0 0, V n, V (k : Int)] ∧ k ≤ n ∧ es.length = k ∧ pk ≤ bs.length ∧ (∀ e ∈ es, ok (.sl sCnt .nil) e) ∧ LoopO (.sl sCnt .nil) n (bs.drop p1) o1 k es (bs.drop pk) ok' ∧ RI S S' f bs pk ok' (3, [[.sl true [], V 0, .bool false]]) ∧ S'[S.length + 2]? = some (some (2, [[.sl true [], .sl true []]])) ∧ S'[S.length + 3]? = some (some (2, [[u, .sl true []]])) ∧ RowS S' (S.length + 4) u 1 es ∧ m = n - k) n rfl (⟨0, p1, o1, .sl true [], [], by simp only [go_sem, ↓reduceIte]; rfl, Nat.zero_le _, rfl, hp1, by simp, .start, hI, hz, hst, RowS.nil, rfl⟩) ?_
  rintro m us S2 ⟨k, pk, ok', u, es, rfl, hk, hel, hpk, hoe, hL, hI, hz, hst, hR, hm⟩ II hII
  have hrd := hI.rd
  refine Lwp_seq fun KK5 hKK5 => ?_
  refine Lwp_seq fun KK6 hKK6 => ?_
  refine LregionG [none, none, none, none, some (21, true), some (21, true), none] (by kernel_rfl) (by kernel_rfl) ?_
  simp -dsimp only [go_sem, ↓reduceIte, rdr]
  by_cases hin : k < n
  · skip
    simp -dsimp only [go_sem, ↓reduceIte, hin, hrd]
    refine hKK6 _ _ ?_
    try clear hKK6 KK6
    refine Lwp_cond (by simp only [go_sem, ↓reduceIte, rdr, hin]; rfl) (fun ht => ?_) (fun hf => ?_)
    · skip
      have hot : ok' = true := by simpa using ht
      have e1 : IntKind.i64.wrap ((k : Int) + 1) = ((k + 1 : Nat) : Int) := by rw [w64 (by omega) (by omega)]; rfl
      refine Lwp_skip ?_
      try simp -dsimp only [go_sem, ↓reduceIte, rdr, hin]
      refine hKK5 _ _ ?_
      try clear hKK5 KK5
      refine Lwp_seq fun KK7 hKK7 => ?_
      refine Lwp_block ?_
      refine Lwp_seq fun KK8 hKK8 => ?_
      refine LregionG [none] (by kernel_rfl) (by kernel_rfl) ?_
      simp -dsimp only [go_sem, ↓reduceIte, rdr, hin]
      repeat with_reducible refine And.intro (by first | omega | decide) ?_
      refine hKK8 _ _ ?_
      try clear hKK8 KK8
      refine Lwp_seq fun KK9 hKK9 => ?_
      refine LregionG [none, none, none, none, none, none, none] (by kernel_rfl) (by kernel_rfl) ?_
      simp -dsimp only [go_sem, ↓reduceIte, rdr, hin, hrd]
      refine Pc.k' (RCnt_ok f bs pk 20 ok' hb hpk (by omega)) ?_
      rintro _ ⟨p2, o2, n2, rfl, hp2, hn2, hC2⟩
      simp -dsimp only [go_sem, ↓reduceIte, rdr, hin, hrd]
      refine hKK9 _ _ ?_
      try clear hKK9 KK9
      refine Lwp_seq fun KK10 hKK10 => ?_
      refine Lwp_store (fun S3 => RI S S3 f bs p2 o2 (3, [[.sl true [], V 0, .bool false]]) ∧ S3[S.length + 2]? = some (some (2, [[.sl true [], .sl true []]])) ∧ S3[S.length + 3]? = some (some (2, [[u, .sl true []]])) ∧ RowS S3 (S.length + 4) u 1 es) ⟨hI.set, by rw [List.getElem?_set_ne (by omega)]; exact hz, by rw [List.getElem?_set_ne (by omega)]; exact hst, RowS.keeps hR (Keeps.set1 _) (by simp)⟩ ?_
      rintro S3 ⟨hI3, hz3, hst3, hR3⟩
      obtain ⟨B, hB⟩ : ∃ B, B = S3.length := ⟨_, rfl⟩
      have hBS : S.length + 4 ≤ B := by have := lt_of_get hst3; omega
      have hub : ∀ id ∈ rowIds u, id < B := fun id hid => by have := (hR3.lo id hid).2; omega
      clear hI hz hst hR hrd
      refine LregionG [none] (by kernel_rfl) (by kernel_rfl) ?_
      simp -dsimp only [go_sem, ↓reduceIte, rdr, hin]
      repeat with_reducible refine And.intro (by first | omega | decide) ?_
      refine hKK10 _ _ ?_
      try clear hKK10 KK10
      refine Lwp_seq fun KK11 hKK11 => ?_
      refine Lwp_seq fun KK12 hKK12 => ?_
      refine LregionG [none] (by kernel_rfl) (by kernel_rfl) ?_
      simp -dsimp only [go_sem, ↓reduceIte, rdr, hin]
      repeat with_reducible refine And.intro (by first | omega | decide) ?_
      refine hKK12 _ _ ?_
      try clear hKK12 KK12
      refine Lwp_block ?_
      refine Lwp_loopK [1, 2, 3, 4, 5, 6, 7, 8, 9] (fun m us S' => ∃ (k2 pk2 : Nat) (ok2 : Bool) (u2 : LV) (es2 : List (List LV)), us = [.ptr S.length 0 0, .ptr (S.length + 1) 0 0, .ptr (S.length + 2) 0 0, .ptr (S.length + 3) 0 0, V n, V (k : Int), V n2, u2, V (k2 : Int)] ∧ k2 ≤ n2 ∧ es2.length = k2 ∧ pk2 ≤ bs.length ∧ (∀ e ∈ es2, ok sCnt e) ∧ LoopO sCnt n2 (bs.drop p2) o2 k2 es2 (bs.drop pk2) ok2 ∧ RI S S' f bs pk2 ok2 (3, [[.sl true [], V 0, .bool false]]) ∧ S'[S.length + 2]? = some (some (2, [[.sl true [], .sl true []]])) ∧ S'[S.length + 3]? = some (some (2, [[u, .sl true []]])) ∧ RowS S' (S.length + 4) u 1 es ∧ RowS S' B u2 3 es2 ∧ B ≤ S'.length ∧ m = n2 - k2) n2 rfl (⟨0, p2, o2, .sl true [], [], by simp only [go_sem, ↓reduceIte]; rfl, Nat.zero_le _, rfl, hp2, by simp, .start, hI3, hz3, hst3, hR3, RowS.nil, by omega, rfl⟩) ?_
      rintro m2 us S2b ⟨k2, pk2, ok2, u2, es2, rfl, hk2, hel2, hpk2, hoe2, hL2, hI2, hz2, hst2, hR2, hQ2, hBl, hm2⟩ II2 hII2
      have hrd2 := hI2.rd
      refine Lwp_seq fun KK13 hKK13 => ?_
      refine Lwp_seq fun KK14 hKK14 => ?_
      refine LregionG [none, none, none, none, some (35, true), some (35, true), none] (by kernel_rfl) (by kernel_rfl) ?_
      simp -dsimp only [go_sem, ↓reduceIte, rdr, hin]
      by_cases hin2 : k2 < n2
      · skip
        simp -dsimp only [go_sem, ↓reduceIte, hin2, hrd2]
        refine hKK14 _ _ ?_
        try clear hKK14 KK14
        refine Lwp_cond (by simp only [go_sem, ↓reduceIte, rdr, hin, hin2, hrd2]; rfl) (fun ht => ?_) (fun hf => ?_)
        · skip
          have e2 : IntKind.i64.wrap ((k2 : Int) + 1) = ((k2 + 1 : Nat) : Int) := by rw [w64 (by omega) (by omega)]; rfl
          obtain ⟨c, hc⟩ : ∃ c, c = S2b.length := ⟨_, rfl⟩
          have hcS : S.length + 4 ≤ c := by have := lt_of_get hst2; omega
          have h8 : ∀ id ∈ rowIds u2, id ≠ c := fun id hid => by have := (hQ2.lo id hid).2; omega
          refine Lwp_skip ?_
          try simp -dsimp only [go_sem, ↓reduceIte, rdr, hin, hin2, hrd2]
          refine hKK13 _ _ ?_
          try clear hKK13 KK13
          refine Lwp_seq fun KK15 hKK15 => ?_
          refine Lwp_block ?_
          refine Lwp_seq fun KK16 hKK16 => ?_
          refine LregionG [none] (by kernel_rfl) (by kernel_rfl) ?_
          simp -dsimp only [go_sem, ↓reduceIte, rdr, hin, hin2, hrd2, ← hc]
          repeat with_reducible refine And.intro (by first | omega | decide) ?_
          refine hKK16 _ _ ?_
          try clear hKK16 KK16
          refine Lwp_seq fun KK17 hKK17 => ?_
          refine Lwp_store (fun S3 => RI S S3 f bs pk2 ok2 (3, [[.sl true [], V 0, .bool false]]) ∧ S3[S.length + 2]? = some (some (2, [[.sl true [], .sl true []]])) ∧ S3[S.length + 3]? = some (some (2, [[u, .sl true []]])) ∧ RowS S3 (S.length + 4) u 1 es ∧ RowS S3 B u2 3 es2 ∧ S3[c]? = some (some (3, [[.str ⟨#[]⟩, V 0, V 0]]))) ⟨hI2.keeps (Keeps.app _ _ []) (by simp), (Keeps.app _ _ []).get hz2 (by simp), (Keeps.app _ _ []).get hst2 (by simp), RowS.keeps hR2 (Keeps.app _ _ []) (by simp), RowS.keeps hQ2 (Keeps.app _ _ []) (by simp), by rw [hc]; simp⟩ ?_
          rintro S3 ⟨hI3, hz3, hst3, hR3, hQ3, hc3⟩
          have hrd3 := hI3.rd
          have hne0 : ∀ (X : LS) (v : Option Blk), (X.set (S.length) v)[c]? = X[c]? := fun X v => List.getElem?_set_ne (by omega)
          refine LregionG [none, none, none, none, none, none, none, none] (by kernel_rfl) (by kernel_rfl) ?_
          simp -dsimp only [go_sem, ↓reduceIte, rdr, hin, hin2, hrd2, hrd3, hne0, hc3]
          refine Pc.k' (GetStr_ok f bs pk2 ok2 hb hpk2) ?_
          rintro _ ⟨p7, o7, us7, rfl, hp7, hok7, hG7⟩
          obtain ⟨sa, us', rfl, hsa, hok'⟩ := ok_str hok7
          obtain rfl := ok_nil hok'
          simp -dsimp only [go_sem, ↓reduceIte, rdr, hin, hin2, hrd2, hd1, List.headD_cons, hrd3, hne0, hc3]
          refine hKK17 _ _ ?_
          try clear hKK17 KK17
          refine Lwp_seq fun KK18 hKK18 => ?_
          refine Lwp_store (fun S4 => RI S S4 f bs p7 o7 (3, [[.sl true [], V 0, .bool false]]) ∧ S4[S.length + 2]? = some (some (2, [[.sl true [], .sl true []]])) ∧ S4[S.length + 3]? = some (some (2, [[u, .sl true []]])) ∧ RowS S4 (S.length + 4) u 1 es ∧ RowS S4 B u2 3 es2 ∧ S4[c]? = some (some (3, [[.str sa, V 0, V 0]]))) ⟨(hI3.set).keeps (Keeps.set1 _) (by simp; omega), by rw [List.getElem?_set_ne (by omega), List.getElem?_set_ne (by omega)]; exact hz3, by rw [List.getElem?_set_ne (by omega), List.getElem?_set_ne (by omega)]; exact hst3, RowS.mono hR3 (Nat.le_refl _) (fun id hid b hb => by rw [List.getElem?_set_ne (by have := hub id hid; omega), List.getElem?_set_ne (by have := (hR3.lo id hid).1; omega)]; exact hb), RowS.mono hQ3 (Nat.le_refl _) (fun id hid b hb => by rw [List.getElem?_set_ne (by have := h8 id hid; omega), List.getElem?_set_ne (by have := (hQ3.lo id hid).1; omega)]; exact hb), List.getElem?_set_self (by rw [List.length_set]; exact lt_of_get hc3)⟩ ?_
          rintro S4 ⟨hI4, hz4, hst4, hR4, hQ4, hc4⟩
          have hrd4 := hI4.rd
          refine LregionG [none, none, none, none, none, none, none, none] (by kernel_rfl) (by kernel_rfl) ?_
          simp -dsimp only [go_sem, ↓reduceIte, rdr, hin, hin2, hrd2, hrd4, hne0, hc4]
          refine Pc.k' (GetInt_ok f bs p7 o7 hb hp7) ?_
          rintro _ ⟨p8, o8, us8, rfl, hp8, hok8, hG8⟩
          obtain ⟨ib, us', rfl, hib, hok'⟩ := ok_int hok8
          obtain rfl := ok_nil hok'
          simp -dsimp only [go_sem, ↓reduceIte, rdr, hin, hin2, hrd2, hd1, List.headD_cons, hrd4, hne0, hc4]
          refine hKK18 _ _ ?_
          try clear hKK18 KK18
          refine Lwp_seq fun KK19 hKK19 => ?_
          refine Lwp_store (fun S5 => RI S S5 f bs p8 o8 (3, [[.sl true [], V 0, .bool false]]) ∧ S5[S.length + 2]? = some (some (2, [[.sl true [], .sl true []]])) ∧ S5[S.length + 3]? = some (some (2, [[u, .sl true []]])) ∧ RowS S5 (S.length + 4) u 1 es ∧ RowS S5 B u2 3 es2 ∧ S5[c]? = some (some (3, [[.str sa, V ib, V 0]]))) ⟨(hI4.set).keeps (Keeps.set1 _) (by simp; omega), by rw [List.getElem?_set_ne (by omega), List.getElem?_set_ne (by omega)]; exact hz4, by rw [List.getElem?_set_ne (by omega), List.getElem?_set_ne (by omega)]; exact hst4, RowS.mono hR4 (Nat.le_refl _) (fun id hid b hb => by rw [List.getElem?_set_ne (by have := hub id hid; omega), List.getElem?_set_ne (by have := (hR4.lo id hid).1; omega)]; exact hb), RowS.mono hQ4 (Nat.le_refl _) (fun id hid b hb => by rw [List.getElem?_set_ne (by have := h8 id hid; omega), List.getElem?_set_ne (by have := (hQ4.lo id hid).1; omega)]; exact hb), List.getElem?_set_self (by rw [List.length_set]; exact lt_of_get hc4)⟩ ?_
          rintro S5 ⟨hI5, hz5, hst5, hR5, hQ5, hc5⟩
          have hrd5 := hI5.rd
          refine LregionG [none, none, none, none, none, none, none, none] (by kernel_rfl) (by kernel_rfl) ?_
          simp -dsimp only [go_sem, ↓reduceIte, rdr, hin, hin2, hrd2, hrd5, hne0, hc5]
          refine Pc.k' (GetInt_ok f bs p8 o8 hb hp8) ?_
          rintro _ ⟨p9, o9, us9, rfl, hp9, hok9, hG9⟩
          obtain ⟨ic, us', rfl, hic, hok'⟩ := ok_int hok9
          obtain rfl := ok_nil hok'
          simp -dsimp only [go_sem, ↓reduceIte, rdr, hin, hin2, hrd2, hd1, List.headD_cons, hrd5, hne0, hc5]
          refine hKK19 _ _ ?_
          try clear hKK19 KK19
          refine Lwp_store (fun S6 => RI S S6 f bs p9 o9 (3, [[.sl true [], V 0, .bool false]]) ∧ S6[S.length + 2]? = some (some (2, [[.sl true [], .sl true []]])) ∧ S6[S.length + 3]? = some (some (2, [[u, .sl true []]])) ∧ RowS S6 (S.length + 4) u 1 es ∧ RowS S6 B u2 3 es2 ∧ S6[c]? = some (some (3, [[.str sa, V ib, V ic]]))) ⟨(hI5.set).keeps (Keeps.set1 _) (by simp; omega), by rw [List.getElem?_set_ne (by omega), List.getElem?_set_ne (by omega)]; exact hz5, by rw [List.getElem?_set_ne (by omega), List.getElem?_set_ne (by omega)]; exact hst5, RowS.mono hR5 (Nat.le_refl _) (fun id hid b hb => by rw [List.getElem?_set_ne (by have := hub id hid; omega), List.getElem?_set_ne (by have := (hR5.lo id hid).1; omega)]; exact hb), RowS.mono hQ5 (Nat.le_refl _) (fun id hid b hb => by rw [List.getElem?_set_ne (by have := h8 id hid; omega), List.getElem?_set_ne (by have := (hQ5.lo id hid).1; omega)]; exact hb), List.getElem?_set_self (by rw [List.length_set]; exact lt_of_get hc5)⟩ ?_
          rintro S6 ⟨hI6, hz6, hst6, hR6, hQ6, hc6⟩
          have hrd6 := hI6.rd
          have hGc : GetO sCnt (bs.drop pk2) ok2 [.str sa, V ib, V ic] (bs.drop p9) o9 := (hG7.app hG8 hok7).app hG9 (app_ok (s := sStr) hok7 hok8)
          have hokc : ok sCnt [.str sa, V ib, V ic] := app_ok (s := sStr.app sI) (app_ok (s := sStr) hok7 hok8) hok9
          refine LregionG [none, none, none, none, none] (by kernel_rfl) (by kernel_rfl) ?_
          simp -dsimp only [go_sem, ↓reduceIte, rdr, hin, hin2, hrd2, hc6]
          repeat with_reducible refine And.intro (by first | omega | decide | assumption) ?_
          refine append_row (fs := [[.str sa, V ib, V ic]]) hQ6 rfl (by simp only [go_sem]; rfl) (by simp only [go_sem]; first | exact ⟨rfl, rfl⟩ | exact ⟨rfl, rfl, rfl⟩ | rfl) (by simp only [go_sem]) (by simp only [go_sem, ↓reduceIte]) (by simp only [go_sem, ↓reduceIte]) (by simp) (.inr (by simp)) (by simp only [LIM, List.length_cons, List.length_nil]; omega) fun S8 hl8 hr8 hK8 => ?_
          have hz8 := hK8.get hz6 (fun h => by have := (hQ6.lo _ h).1; omega)
          have hst8 := hK8.get hst6 (fun h => by have := (hQ6.lo _ h).1; omega)
          have hI8 := hI6.keeps hK8 (fun id hid => by have := (hQ6.lo id hid).1; omega)
          have hl6 := lt_of_get hc6
          simp -dsimp only [go_sem, ↓reduceIte, rdr, hin, hin2, hrd2]
          refine hKK15 _ _ ?_
          try clear hKK15 KK15
          refine LregionG [none, none, none] (by kernel_rfl) (by kernel_rfl) ?_
          simp -dsimp only [go_sem, ↓reduceIte, rdr, hin, hin2, hrd2, e2]
          repeat with_reducible refine And.intro (by first | omega | decide) ?_
          exact hII2 (n2 - (k2 + 1)) _ _ (by omega) ⟨k2 + 1, p9, o9, _, es2 ++ [[.str sa, V ib, V ic]], rfl, by omega, by simp [hel2], hp9, ok_memE hoe2 hokc, hL2.step hGc hin2, hI8, hz8, hst8, RowS.mono hR6 (Nat.le_refl _) (fun id hid b hb => hK8.get hb (fun hm => by have := (hQ6.lo _ hm).1; have := hub id hid; omega)), RowS.mono hr8 (by omega) (fun _ _ _ h => h), by omega, rfl⟩
        · skip
          have hstop2 : ok2 = true → k2 = n2 := fun h => by rw [h] at hf; cases hf
          refine Lwp_exit ?_
          simp -dsimp only [go_sem, ↓reduceIte, rdr, hin, hin2, hrd2]
          refine hKK11 _ _ ?_
          try clear hKK11 KK11
          refine Lwp_frzRowS 8 u2 rfl (by simp only [go_sem, ↓reduceIte]) hQ2 fun ff S7 hl7 hK7' => ?_
          have hK7 : Keeps S2b S7 (rowIds u2) := ⟨by omega, fun j _ h => hK7' j h⟩
          have hrB := fun id hid => (hQ2.lo id hid).1
          have hI7 := hI2.keeps hK7 (fun id hid => by have := hrB id hid; omega)
          have hz7 := hK7.get hz2 (fun h => by have := hrB _ h; omega)
          have hst7 := hK7.get hst2 (fun h => by have := hrB _ h; omega)
          have hR7 : RowS S7 (S.length + 4) u 1 es := RowS.mono hR2 (Nat.le_refl _) (fun id hid b hb => hK7.get hb (fun hm => by have := hrB _ hm; have := hub id hid; omega))
          have hGe : GetO (.sl sCnt .nil) (bs.drop pk) ok' [.sl ff es2] (bs.drop pk2) ok2 := hL2.done hC2 rfl (by decide) hstop2
          have hoke : ok (.sl sCnt .nil) [.sl ff es2] := ⟨by omega, hoe2, trivial⟩
          refine LregionG [none, none, none, none, none, none, none] (by kernel_rfl) (by kernel_rfl) ?_
          simp -dsimp only [go_sem, ↓reduceIte, rdr, hin, hin2, hrd2, hst7]
          repeat with_reducible refine And.intro (by first | omega | decide | assumption) ?_
          refine append_row (fs := [[.sl ff es2]]) hR7 rfl (by simp only [go_sem]; rfl) (by simp only [go_sem]; first | exact ⟨rfl, rfl⟩ | exact ⟨rfl, rfl, rfl⟩ | rfl) (by simp only [go_sem]) (by simp only [go_sem, ↓reduceIte]) (by simp only [go_sem, ↓reduceIte]) (by simp) (.inr (by simp)) (by simp only [LIM, List.length_cons, List.length_nil]; omega) fun S9 hl9 hr9 hK9 => ?_
          have hz9 := hK9.get hz7 (fun h => by have := (hR7.lo _ h).1; omega)
          have hst9 := hK9.get hst7 (fun h => by have := (hR7.lo _ h).1; omega)
          have hI9 := hI7.keeps hK9 (fun id hid => by have := (hR7.lo id hid).1; omega)
          simp -dsimp only [go_sem, ↓reduceIte, rdr, hin, hin2, hrd2, hst9]
          refine hKK7 _ _ ?_
          try clear hKK7 KK7
          refine LregionG [none, none, none] (by kernel_rfl) (by kernel_rfl) ?_
          simp -dsimp only [go_sem, ↓reduceIte, rdr, hin, hin2, hrd2, e1]
          repeat with_reducible refine And.intro (by first | omega | decide) ?_
          exact hII (n - (k + 1)) _ _ (by omega) ⟨k + 1, pk2, ok2, _, es ++ [[.sl ff es2]], rfl, by omega, by simp [hel], hpk2, ok_memE hoe hoke, hL.step hGe hin, hI9.keeps (Keeps.set1 _) (by simp), by rw [List.getElem?_set_ne (by omega)]; exact hz9, List.getElem?_set_self (lt_of_get hst9),
            RowS.mono hr9 (by have := lt_of_get hst7; omega) (fun id hid b hb => by rw [List.getElem?_set_ne (by have := (hr9.lo id hid).1; have := lt_of_get hst7; omega)]; exact hb), rfl⟩
      · skip
        simp -dsimp only [go_sem, ↓reduceIte, hin2]
        refine hKK14 _ _ ?_
        try clear hKK14 KK14
        refine Lwp_cond (by simp only [go_sem, ↓reduceIte, rdr, hin, hin2]; rfl) (fun ht => ?_) (fun hf => ?_)
        · skip
          cases ht
        · skip
          have hstop2 : ok2 = true → k2 = n2 := fun _ => by omega
          refine Lwp_exit ?_
          simp -dsimp only [go_sem, ↓reduceIte, rdr, hin, hin2]
          refine hKK11 _ _ ?_
          try clear hKK11 KK11
          refine Lwp_frzRowS 8 u2 rfl (by simp only [go_sem, ↓reduceIte]) hQ2 fun ff S7 hl7 hK7' => ?_
          have hK7 : Keeps S2b S7 (rowIds u2) := ⟨by omega, fun j _ h => hK7' j h⟩
          have hrB := fun id hid => (hQ2.lo id hid).1
          have hI7 := hI2.keeps hK7 (fun id hid => by have := hrB id hid; omega)
          have hz7 := hK7.get hz2 (fun h => by have := hrB _ h; omega)
          have hst7 := hK7.get hst2 (fun h => by have := hrB _ h; omega)
          have hR7 : RowS S7 (S.length + 4) u 1 es := RowS.mono hR2 (Nat.le_refl _) (fun id hid b hb => hK7.get hb (fun hm => by have := hrB _ hm; have := hub id hid; omega))
          have hGe : GetO (.sl sCnt .nil) (bs.drop pk) ok' [.sl ff es2] (bs.drop pk2) ok2 := hL2.done hC2 rfl (by decide) hstop2
          have hoke : ok (.sl sCnt .nil) [.sl ff es2] := ⟨by omega, hoe2, trivial⟩
          refine LregionG [none, none, none, none, none, none, none] (by kernel_rfl) (by kernel_rfl) ?_
          simp -dsimp only [go_sem, ↓reduceIte, rdr, hin, hin2, hst7]
          repeat with_reducible refine And.intro (by first | omega | decide | assumption) ?_
          refine append_row (fs := [[.sl ff es2]]) hR7 rfl (by simp only [go_sem]; rfl) (by simp only [go_sem]; first | exact ⟨rfl, rfl⟩ | exact ⟨rfl, rfl, rfl⟩ | rfl) (by simp only [go_sem]) (by simp only [go_sem, ↓reduceIte]) (by simp only [go_sem, ↓reduceIte]) (by simp) (.inr (by simp)) (by simp only [LIM, List.length_cons, List.length_nil]; omega) fun S9 hl9 hr9 hK9 => ?_
          have hz9 := hK9.get hz7 (fun h => by have := (hR7.lo _ h).1; omega)
          have hst9 := hK9.get hst7 (fun h => by have := (hR7.lo _ h).1; omega)
          have hI9 := hI7.keeps hK9 (fun id hid => by have := (hR7.lo id hid).1; omega)
          simp -dsimp only [go_sem, ↓reduceIte, rdr, hin, hin2, hst9]
          refine hKK7 _ _ ?_
          try clear hKK7 KK7
          refine LregionG [none, none, none] (by kernel_rfl) (by kernel_rfl) ?_
          simp -dsimp only [go_sem, ↓reduceIte, rdr, hin, hin2, e1]
          repeat with_reducible refine And.intro (by first | omega | decide) ?_
          exact hII (n - (k + 1)) _ _ (by omega) ⟨k + 1, pk2, ok2, _, es ++ [[.sl ff es2]], rfl, by omega, by simp [hel], hpk2, ok_memE hoe hoke, hL.step hGe hin, hI9.keeps (Keeps.set1 _) (by simp), by rw [List.getElem?_set_ne (by omega)]; exact hz9, List.getElem?_set_self (lt_of_get hst9),
            RowS.mono hr9 (by have := lt_of_get hst7; omega) (fun id hid b hb => by rw [List.getElem?_set_ne (by have := (hr9.lo id hid).1; have := lt_of_get hst7; omega)]; exact hb), rfl⟩
    · skip
      have hstop : ok' = true → k = n := fun h => by rw [h] at hf; cases hf
      refine Lwp_frzEnd 0 u [1, 2, 3, 4] [.ptr S.length 0 0, .ptr (S.length + 1) 0 0, .ptr (S.length + 2) 0 0, .ptr (S.length + 3) 0 0] hI.keep hI.rd hI.res hz hst rfl hR (fun keep S' x hx => by simp at hx; subst hx; rfl) rfl (by simp only [go_sem, ↓reduceIte]) (fun keep S' => rfl) fun fr R => ?_
      have hlt : ltLL S.length es = true := lt_int fun e he => ok_lt (hoe e he)
      have G1 : GetO (.sl (.sl sCnt .nil) .nil) (bs.drop p) o [.sl fr es] (bs.drop pk) ok' := hL.done hC1 rfl (by decide) hstop
      have K1 : ok (.sl (.sl sCnt .nil) .nil) [.sl fr es] := ⟨by omega, hoe, trivial⟩
      obtain ⟨p5, hp5e⟩ : ∃ x, x = pk := ⟨_, rfl⟩
      obtain ⟨o5, ho5e⟩ : ∃ x, x = ok' := ⟨_, rfl⟩
      rw [← hp5e] at G1 hpk
      rw [← ho5e] at G1
      simp only [← hp5e, ← ho5e]
      clear hI hz hst hR hL hII hstop hC1 hm hel hk hrd hp5e ho5e
      refine Lwp_exit ?_
      simp -dsimp only [go_sem, ↓reduceIte, rdr, hin]
      refine hKK3 _ _ ?_
      try clear hKK3 KK3
      refine Lwp_seq fun KK20 hKK20 => ?_
      refine LregionG [none, none, none, none, none, none, none] (by kernel_rfl) (by kernel_rfl) ?_
      simp -dsimp only [go_sem, ↓reduceIte, rdr, hin]
      refine Pc.k' (RCnt_ok f bs p5 4 o5 hb hpk (by omega)) ?_
      rintro _ ⟨p6, o6, n3, rfl, hp6, hn6, hC6⟩
      simp -dsimp only [go_sem, ↓reduceIte, rdr, hin]
      refine hKK20 _ _ ?_
      try clear hKK20 KK20
      refine Lwp_seq fun KK21 hKK21 => ?_
      refine Lwp_seq fun KK22 hKK22 => ?_
      refine LregionG [none] (by kernel_rfl) (by kernel_rfl) ?_
      simp -dsimp only [go_sem, ↓reduceIte, rdr, hin]
      repeat with_reducible refine And.intro (by first | omega | decide) ?_
      refine hKK22 _ _ ?_
      try clear hKK22 KK22
      refine Lwp_block ?_
      refine Lwp_store (fun S2 => RI S S2 f bs p6 o6 (3, [[.sl true [], V 0, .bool false]]) ∧ S2[S.length + 2]? = some (some (2, [[.sl true [], .sl true []]])) ∧ S2[S.length + 3]? = some (some (2, [[.sl fr es, .sl true []]]))) ⟨⟨Keeps.app _ _ _, by simp, by simp⟩, by simp, by simp⟩ ?_
      rintro S2 ⟨hI, hz, hst⟩
      refine Lwp_loopK [1, 2, 3, 4, 5, 11] (fun m us S' => ∃ (k pk : Nat) (ok' : Bool) (u : LV) (es3 : List (List LV)), us = [.ptr S.length 0 0, .ptr (S.length + 1) 0 0, .ptr (S.length + 2) 0 0, .ptr (S.length + 3) 0 0, V n3, V (k : Int)] ∧ k ≤ n3 ∧ es3.length = k ∧ pk ≤ bs.length ∧ (∀ e ∈ es3, ok sStr e) ∧ LoopO sStr n3 (bs.drop p6) o6 k es3 (bs.drop pk) ok' ∧ RI S S' f bs pk ok' (3, [[.sl true [], V 0, .bool false]]) ∧ S'[S.length + 2]? = some (some (2, [[.sl true [], .sl true []]])) ∧ S'[S.length + 3]? = some (some (2, [[.sl fr es, u]])) ∧ RowS S' (S.length + 4) u 1 es3 ∧ m = n3 - k) n3 rfl (⟨0, p6, o6, .sl true [], [], by simp only [go_sem, ↓reduceIte]; rfl, Nat.zero_le _, rfl, hp6, by simp, .start, hI, hz, hst, RowS.nil, rfl⟩) ?_
      rintro m us S2 ⟨k, pk, ok', u, es3, rfl, hk, hel, hpk2, hoe, hL, hI, hz, hst, hR, hm⟩ II hII
      have hrd := hI.rd
      refine Lwp_seq fun KK23 hKK23 => ?_
      refine Lwp_seq fun KK24 hKK24 => ?_
      refine LregionG [none, none, none, none, some (77, true), some (77, true), none] (by kernel_rfl) (by kernel_rfl) ?_
      simp -dsimp only [go_sem, ↓reduceIte, rdr, hin]
      by_cases hin : k < n3
      · skip
        simp -dsimp only [go_sem, ↓reduceIte, hin, hrd]
        refine hKK24 _ _ ?_
        try clear hKK24 KK24
        refine Lwp_cond (by simp only [go_sem, ↓reduceIte, rdr, hin, hin, hrd]; rfl) (fun ht => ?_) (fun hf => ?_)
        · skip
          have e1 : IntKind.i64.wrap ((k : Int) + 1) = ((k + 1 : Nat) : Int) := by rw [w64 (by omega) (by omega)]; rfl
          refine Lwp_skip ?_
          try simp -dsimp only [go_sem, ↓reduceIte, rdr, hin, hin, hrd]
          refine hKK23 _ _ ?_
          try clear hKK23 KK23
          refine Lwp_seq fun KK25 hKK25 => ?_
          refine Lwp_block ?_
          refine Lwp_seq fun KK26 hKK26 => ?_
          refine LregionG [none] (by kernel_rfl) (by kernel_rfl) ?_
          simp -dsimp only [go_sem, ↓reduceIte, rdr, hin, hin, hrd]
          repeat with_reducible refine And.intro (by first | omega | decide) ?_
          refine hKK26 _ _ ?_
          try clear hKK26 KK26
          refine Lwp_seq fun KK27 hKK27 => ?_
          refine LregionG [none, none, none, none, none, none, none] (by kernel_rfl) (by kernel_rfl) ?_
          simp -dsimp only [go_sem, ↓reduceIte, rdr, hin, hin, hrd]
          refine Pc.k' (GetStr_ok f bs pk ok' hb hpk2) ?_
          rintro _ ⟨p7, o7, us7, rfl, hp7, hok7, hG7⟩
          obtain ⟨sa, us', rfl, hsa, hok'⟩ := ok_str hok7
          obtain rfl := ok_nil hok'
          simp -dsimp only [go_sem, ↓reduceIte, rdr, hin, hin, hrd, hd1, List.headD_cons, hrd]
          refine hKK27 _ _ ?_
          try clear hKK27 KK27
          refine Lwp_store (fun S4 => RI S S4 f bs p7 o7 (3, [[.sl true [], V 0, .bool false]]) ∧ S4[S.length + 2]? = some (some (2, [[.sl true [], .sl true []]])) ∧ S4[S.length + 3]? = some (some (2, [[.sl fr es, u]])) ∧ RowS S4 (S.length + 4) u 1 es3) ⟨hI.set, by rw [List.getElem?_set_ne (by omega)]; exact hz, by rw [List.getElem?_set_ne (by omega)]; exact hst, RowS.keeps hR (Keeps.set1 _) (by simp)⟩ ?_
          rintro S4 ⟨hI4, hz4, hst4, hR4⟩
          refine LregionG [none, none, none, none, none, none, none] (by kernel_rfl) (by kernel_rfl) ?_
          simp -dsimp only [go_sem, ↓reduceIte, rdr, hin, hin, hrd, hst4]
          repeat with_reducible refine And.intro (by first | omega | decide | assumption) ?_
          refine append_row (fs := [[.str sa]]) hR4 rfl (by simp only [go_sem]; rfl) (by simp only [go_sem]; first | exact ⟨rfl, rfl⟩ | exact ⟨rfl, rfl, rfl⟩ | rfl) (by simp only [go_sem]) (by simp only [go_sem, ↓reduceIte]) (by simp only [go_sem, ↓reduceIte]) (by simp) (.inr (by simp)) (by simp only [LIM, List.length_cons, List.length_nil]; omega) fun S8 hl8 hr8 hK8 => ?_
          have hz8 := hK8.get hz4 (fun h => by have := (hR4.lo _ h).1; omega)
          have hst8 := hK8.get hst4 (fun h => by have := (hR4.lo _ h).1; omega)
          have hI8 := hI4.keeps hK8 (fun id hid => by have := (hR4.lo id hid).1; omega)
          simp -dsimp only [go_sem, ↓reduceIte, rdr, hin, hin, hrd, hst8]
          refine hKK25 _ _ ?_
          try clear hKK25 KK25
          refine LregionG [none, none, none] (by kernel_rfl) (by kernel_rfl) ?_
          simp -dsimp only [go_sem, ↓reduceIte, rdr, hin, hin, hrd, e1]
          repeat with_reducible refine And.intro (by first | omega | decide) ?_
          exact hII (n3 - (k + 1)) _ _ (by omega) ⟨k + 1, p7, o7, _, es3 ++ [[.str sa]], rfl, by omega, by simp [hel], hp7, ok_memE hoe hok7, hL.step hG7 hin, hI8.keeps (Keeps.set1 _) (by simp), by rw [List.getElem?_set_ne (by omega)]; exact hz8, List.getElem?_set_self (lt_of_get hst8),
            RowS.mono hr8 (by have := lt_of_get hst4; omega) (fun id hid b hb => by rw [List.getElem?_set_ne (by have := (hr8.lo id hid).1; have := lt_of_get hst4; omega)]; exact hb), rfl⟩
        · skip
          have hstop : ok' = true → k = n3 := fun h => by rw [h] at hf; cases hf
          refine Lwp_frzEnd 1 u [1, 2, 3, 4] [.ptr S.length 0 0, .ptr (S.length + 1) 0 0, .ptr (S.length + 2) 0 0, .ptr (S.length + 3) 0 0] hI.keep hI.rd hI.res hz hst rfl hR (fun keep S' x hx => by simp at hx; subst hx; rfl) rfl (by simp only [go_sem, ↓reduceIte]) (fun keep S' => rfl) fun fr3 R3 => ?_
          have hlt3 : ltLL S.length es3 = true := lt_int fun e he => ok_lt (hoe e he)
          have G2 : GetO (.sl sStr .nil) (bs.drop p5) o5 [.sl fr3 es3] (bs.drop pk) ok' := hL.done hC6 rfl (by decide) hstop
          have K2 : ok (.sl sStr .nil) [.sl fr3 es3] := ⟨by omega, hoe, trivial⟩
          have G := G1.app G2 K1
          have K := app_ok K1 K2
          refine Lwp_exit ?_
          simp -dsimp only [go_sem, ↓reduceIte, rdr, hin, hin, hrd]
          refine hKK21 _ _ ?_
          try clear hKK21 KK21
          refine Lwp_seq fun KK28 hKK28 => ?_
          refine LdrawE [0,1,2,3] [(S.length, (3, [[.sl f (bs.map u8c), V pk, .bool ok']])), (S.length + 3, (2, [[.sl fr es, .sl fr3 es3]]))] none (by kernel_rfl) (by kernel_rfl) (by kernel_rfl) (by kernel_rfl) (by simp [Watch.holds]) ?_
          simp -dsimp only [go_sem, ↓reduceIte, rdr, hin, hin, hrd, List.mem_cons, forall_eq_or_imp, Nat.add_eq_left]
          repeat with_reducible refine And.intro (by first | omega | decide) ?_
          refine hKK28 _ _ ?_
          try clear hKK28 KK28
          refine Lwp_ret ?_
          simp only [LThen, LBlock, LPost, Tryz.results80]
          simp -dsimp only [go_sem, ↓reduceIte, rdr, hin, hin, hrd]
          refine ret_app (by simp only [go_sem, ↓reduceIte, LV.lt, lt_u8c, ltL, ltLL, Bool.and_self, hlt, hlt3]) ?_
          simp only [go_sem, ↓reduceIte]
          refine hRR _ ⟨pk, ok', [.sl fr es, .sl fr3 es3], rfl, hpk2, K, G⟩
      · skip
        simp -dsimp only [go_sem, ↓reduceIte, hin]
        refine hKK24 _ _ ?_
        try clear hKK24 KK24
        refine Lwp_cond (by simp only [go_sem, ↓reduceIte, rdr, hin, hin]; rfl) (fun ht => ?_) (fun hf => ?_)
        · skip
          cases ht
        · skip
          have hstop : ok' = true → k = n3 := fun _ => by omega
          refine Lwp_frzEnd 1 u [1, 2, 3, 4] [.ptr S.length 0 0, .ptr (S.length + 1) 0 0, .ptr (S.length + 2) 0 0, .ptr (S.length + 3) 0 0] hI.keep hI.rd hI.res hz hst rfl hR (fun keep S' x hx => by simp at hx; subst hx; rfl) rfl (by simp only [go_sem, ↓reduceIte]) (fun keep S' => rfl) fun fr3 R3 => ?_
          have hlt3 : ltLL S.length es3 = true := lt_int fun e he => ok_lt (hoe e he)
          have G2 : GetO (.sl sStr .nil) (bs.drop p5) o5 [.sl fr3 es3] (bs.drop pk) ok' := hL.done hC6 rfl (by decide) hstop
          have K2 : ok (.sl sStr .nil) [.sl fr3 es3] := ⟨by omega, hoe, trivial⟩
          have G := G1.app G2 K1
          have K := app_ok K1 K2
          refine Lwp_exit ?_
          simp -dsimp only [go_sem, ↓reduceIte, rdr, hin, hin]
          refine hKK21 _ _ ?_
          try clear hKK21 KK21
          refine Lwp_seq fun KK29 hKK29 => ?_
          refine LdrawE [0,1,2,3] [(S.length, (3, [[.sl f (bs.map u8c), V pk, .bool ok']])), (S.length + 3, (2, [[.sl fr es, .sl fr3 es3]]))] none (by kernel_rfl) (by kernel_rfl) (by kernel_rfl) (by kernel_rfl) (by simp [Watch.holds]) ?_
          simp -dsimp only [go_sem, ↓reduceIte, rdr, hin, hin, List.mem_cons, forall_eq_or_imp, Nat.add_eq_left]
          repeat with_reducible refine And.intro (by first | omega | decide) ?_
          refine hKK29 _ _ ?_
          try clear hKK29 KK29
          refine Lwp_ret ?_
          simp only [LThen, LBlock, LPost, Tryz.results80]
          simp -dsimp only [go_sem, ↓reduceIte, rdr, hin, hin]
          refine ret_app (by simp only [go_sem, ↓reduceIte, LV.lt, lt_u8c, ltL, ltLL, Bool.and_self, hlt, hlt3]) ?_
          simp only [go_sem, ↓reduceIte]
          refine hRR _ ⟨pk, ok', [.sl fr es, .sl fr3 es3], rfl, hpk2, K, G⟩
  · skip
    simp -dsimp only [go_sem, ↓reduceIte, hin]
    refine hKK6 _ _ ?_
    try clear hKK6 KK6
    refine Lwp_cond (by simp only [go_sem, ↓reduceIte, rdr, hin]; rfl) (fun ht => ?_) (fun hf => ?_)
    · skip
      cases ht
    · skip
      have hstop : ok' = true → k = n := fun _ => by omega
      refine Lwp_frzEnd 0 u [1, 2, 3, 4] [.ptr S.length 0 0, .ptr (S.length + 1) 0 0, .ptr (S.length + 2) 0 0, .ptr (S.length + 3) 0 0] hI.keep hI.rd hI.res hz hst rfl hR (fun keep S' x hx => by simp at hx; subst hx; rfl) rfl (by simp only [go_sem, ↓reduceIte]) (fun keep S' => rfl) fun fr R => ?_
      have hlt : ltLL S.length es = true := lt_int fun e he => ok_lt (hoe e he)
      have G1 : GetO (.sl (.sl sCnt .nil) .nil) (bs.drop p) o [.sl fr es] (bs.drop pk) ok' := hL.done hC1 rfl (by decide) hstop
      have K1 : ok (.sl (.sl sCnt .nil) .nil) [.sl fr es] := ⟨by omega, hoe, trivial⟩
      obtain ⟨p5, hp5e⟩ : ∃ x, x = pk := ⟨_, rfl⟩
      obtain ⟨o5, ho5e⟩ : ∃ x, x = ok' := ⟨_, rfl⟩
      rw [← hp5e] at G1 hpk
      rw [← ho5e] at G1
      simp only [← hp5e, ← ho5e]
      clear hI hz hst hR hL hII hstop hC1 hm hel hk hrd hp5e ho5e
      refine Lwp_exit ?_
      simp -dsimp only [go_sem, ↓reduceIte, rdr, hin]
      refine hKK3 _ _ ?_
      try clear hKK3 KK3
      refine Lwp_seq fun KK30 hKK30 => ?_
      refine LregionG [none, none, none, none, none, none, none] (by kernel_rfl) (by kernel_rfl) ?_
      simp -dsimp only [go_sem, ↓reduceIte, rdr, hin]
      refine Pc.k' (RCnt_ok f bs p5 4 o5 hb hpk (by omega)) ?_
      rintro _ ⟨p6, o6, n3, rfl, hp6, hn6, hC6⟩
      simp -dsimp only [go_sem, ↓reduceIte, rdr, hin]
      refine hKK30 _ _ ?_
      try clear hKK30 KK30
      refine Lwp_seq fun KK31 hKK31 => ?_
      refine Lwp_seq fun KK32 hKK32 => ?_
      refine LregionG [none] (by kernel_rfl) (by kernel_rfl) ?_
      simp -dsimp only [go_sem, ↓reduceIte, rdr, hin]
      repeat with_reducible refine And.intro (by first | omega | decide) ?_
      refine hKK32 _ _ ?_
      try clear hKK32 KK32
      refine Lwp_block ?_
      refine Lwp_store (fun S2 => RI S S2 f bs p6 o6 (3, [[.sl true [], V 0, .bool false]]) ∧ S2[S.length + 2]? = some (some (2, [[.sl true [], .sl true []]])) ∧ S2[S.length + 3]? = some (some (2, [[.sl fr es, .sl true []]]))) ⟨⟨Keeps.app _ _ _, by simp, by simp⟩, by simp, by simp⟩ ?_
      rintro S2 ⟨hI, hz, hst⟩
      refine Lwp_loopK [1, 2, 3, 4, 5, 11] (fun m us S' => ∃ (k pk : Nat) (ok' : Bool) (u : LV) (es3 : List (List LV)), us = [.ptr S.length 0 0, .ptr (S.length + 1) 0 0, .ptr (S.length + 2) 0 0, .ptr (S.length + 3) 0 0, V n3, V (k : Int)] ∧ k ≤ n3 ∧ es3.length = k ∧ pk ≤ bs.length ∧ (∀ e ∈ es3, ok sStr e) ∧ LoopO sStr n3 (bs.drop p6) o6 k es3 (bs.drop pk) ok' ∧ RI S S' f bs pk ok' (3, [[.sl true [], V 0, .bool false]]) ∧ S'[S.length + 2]? = some (some (2, [[.sl true [], .sl true []]])) ∧ S'[S.length + 3]? = some (some (2, [[.sl fr es, u]])) ∧ RowS S' (S.length + 4) u 1 es3 ∧ m = n3 - k) n3 rfl (⟨0, p6, o6, .sl true [], [], by simp only [go_sem, ↓reduceIte]; rfl, Nat.zero_le _, rfl, hp6, by simp, .start, hI, hz, hst, RowS.nil, rfl⟩) ?_
      rintro m us S2 ⟨k, pk, ok', u, es3, rfl, hk, hel, hpk2, hoe, hL, hI, hz, hst, hR, hm⟩ II hII
      have hrd := hI.rd
      refine Lwp_seq fun KK33 hKK33 => ?_
      refine Lwp_seq fun KK34 hKK34 => ?_
      refine LregionG [none, none, none, none, some (77, true), some (77, true), none] (by kernel_rfl) (by kernel_rfl) ?_
      simp -dsimp only [go_sem, ↓reduceIte, rdr, hin]
      by_cases hin : k < n3
      · skip
        simp -dsimp only [go_sem, ↓reduceIte, hin, hrd]
        refine hKK34 _ _ ?_
        try clear hKK34 KK34
        refine Lwp_cond (by simp only [go_sem, ↓reduceIte, rdr, hin, hin, hrd]; rfl) (fun ht => ?_) (fun hf => ?_)
        · skip
          have e1 : IntKind.i64.wrap ((k : Int) + 1) = ((k + 1 : Nat) : Int) := by rw [w64 (by omega) (by omega)]; rfl
          refine Lwp_skip ?_
          try simp -dsimp only [go_sem, ↓reduceIte, rdr, hin, hin, hrd]
          refine hKK33 _ _ ?_
          try clear hKK33 KK33
          refine Lwp_seq fun KK35 hKK35 => ?_
          refine Lwp_block ?_
          refine Lwp_seq fun KK36 hKK36 => ?_
          refine LregionG [none] (by kernel_rfl) (by kernel_rfl) ?_
          simp -dsimp only [go_sem, ↓reduceIte, rdr, hin, hin, hrd]
          repeat with_reducible refine And.intro (by first | omega | decide) ?_
          refine hKK36 _ _ ?_
          try clear hKK36 KK36
          refine Lwp_seq fun KK37 hKK37 => ?_
          refine LregionG [none, none, none, none, none, none, none] (by kernel_rfl) (by kernel_rfl) ?_
          simp -dsimp only [go_sem, ↓reduceIte, rdr, hin, hin, hrd]
          refine Pc.k' (GetStr_ok f bs pk ok' hb hpk2) ?_
          rintro _ ⟨p7, o7, us7, rfl, hp7, hok7, hG7⟩
          obtain ⟨sa, us', rfl, hsa, hok'⟩ := ok_str hok7
          obtain rfl := ok_nil hok'
          simp -dsimp only [go_sem, ↓reduceIte, rdr, hin, hin, hrd, hd1, List.headD_cons, hrd]
          refine hKK37 _ _ ?_
          try clear hKK37 KK37
          refine Lwp_store (fun S4 => RI S S4 f bs p7 o7 (3, [[.sl true [], V 0, .bool false]]) ∧ S4[S.length + 2]? = some (some (2, [[.sl true [], .sl true []]])) ∧ S4[S.length + 3]? = some (some (2, [[.sl fr es, u]])) ∧ RowS S4 (S.length + 4) u 1 es3) ⟨hI.set, by rw [List.getElem?_set_ne (by omega)]; exact hz, by rw [List.getElem?_set_ne (by omega)]; exact hst, RowS.keeps hR (Keeps.set1 _) (by simp)⟩ ?_
          rintro S4 ⟨hI4, hz4, hst4, hR4⟩
          refine LregionG [none, none, none, none, none, none, none] (by kernel_rfl) (by kernel_rfl) ?_
          simp -dsimp only [go_sem, ↓reduceIte, rdr, hin, hin, hrd, hst4]
          repeat with_reducible refine And.intro (by first | omega | decide | assumption) ?_
          refine append_row (fs := [[.str sa]]) hR4 rfl (by simp only [go_sem]; rfl) (by simp only [go_sem]; first | exact ⟨rfl, rfl⟩ | exact ⟨rfl, rfl, rfl⟩ | rfl) (by simp only [go_sem]) (by simp only [go_sem, ↓reduceIte]) (by simp only [go_sem, ↓reduceIte]) (by simp) (.inr (by simp)) (by simp only [LIM, List.length_cons, List.length_nil]; omega) fun S8 hl8 hr8 hK8 => ?_
          have hz8 := hK8.get hz4 (fun h => by have := (hR4.lo _ h).1; omega)
          have hst8 := hK8.get hst4 (fun h => by have := (hR4.lo _ h).1; omega)
          have hI8 := hI4.keeps hK8 (fun id hid => by have := (hR4.lo id hid).1; omega)
          simp -dsimp only [go_sem, ↓reduceIte, rdr, hin, hin, hrd, hst8]
          refine hKK35 _ _ ?_
          try clear hKK35 KK35
          refine LregionG [none, none, none] (by kernel_rfl) (by kernel_rfl) ?_
          simp -dsimp only [go_sem, ↓reduceIte, rdr, hin, hin, hrd, e1]
          repeat with_reducible refine And.intro (by first | omega | decide) ?_
          exact hII (n3 - (k + 1)) _ _ (by omega) ⟨k + 1, p7, o7, _, es3 ++ [[.str sa]], rfl, by omega, by simp [hel], hp7, ok_memE hoe hok7, hL.step hG7 hin, hI8.keeps (Keeps.set1 _) (by simp), by rw [List.getElem?_set_ne (by omega)]; exact hz8, List.getElem?_set_self (lt_of_get hst8),
            RowS.mono hr8 (by have := lt_of_get hst4; omega) (fun id hid b hb => by rw [List.getElem?_set_ne (by have := (hr8.lo id hid).1; have := lt_of_get hst4; omega)]; exact hb), rfl⟩
        · skip
          have hstop : ok' = true → k = n3 := fun h => by rw [h] at hf; cases hf
          refine Lwp_frzEnd 1 u [1, 2, 3, 4] [.ptr S.length 0 0, .ptr (S.length + 1) 0 0, .ptr (S.length + 2) 0 0, .ptr (S.length + 3) 0 0] hI.keep hI.rd hI.res hz hst rfl hR (fun keep S' x hx => by simp at hx; subst hx; rfl) rfl (by simp only [go_sem, ↓reduceIte]) (fun keep S' => rfl) fun fr3 R3 => ?_
          have hlt3 : ltLL S.length es3 = true := lt_int fun e he => ok_lt (hoe e he)
          have G2 : GetO (.sl sStr .nil) (bs.drop p5) o5 [.sl fr3 es3] (bs.drop pk) ok' := hL.done hC6 rfl (by decide) hstop
          have K2 : ok (.sl sStr .nil) [.sl fr3 es3] := ⟨by omega, hoe, trivial⟩
          have G := G1.app G2 K1
          have K := app_ok K1 K2
          refine Lwp_exit ?_
          simp -dsimp only [go_sem, ↓reduceIte, rdr, hin, hin, hrd]
          refine hKK31 _ _ ?_
          try clear hKK31 KK31
          refine Lwp_seq fun KK38 hKK38 => ?_
          refine LdrawE [0,1,2,3] [(S.length, (3, [[.sl f (bs.map u8c), V pk, .bool ok']])), (S.length + 3, (2, [[.sl fr es, .sl fr3 es3]]))] none (by kernel_rfl) (by kernel_rfl) (by kernel_rfl) (by kernel_rfl) (by simp [Watch.holds]) ?_
          simp -dsimp only [go_sem, ↓reduceIte, rdr, hin, hin, hrd, List.mem_cons, forall_eq_or_imp, Nat.add_eq_left]
          repeat with_reducible refine And.intro (by first | omega | decide) ?_
          refine hKK38 _ _ ?_
          try clear hKK38 KK38
          refine Lwp_ret ?_
          simp only [LThen, LBlock, LPost, Tryz.results80]
          simp -dsimp only [go_sem, ↓reduceIte, rdr, hin, hin, hrd]
          refine ret_app (by simp only [go_sem, ↓reduceIte, LV.lt, lt_u8c, ltL, ltLL, Bool.and_self, hlt, hlt3]) ?_
          simp only [go_sem, ↓reduceIte]
          refine hRR _ ⟨pk, ok', [.sl fr es, .sl fr3 es3], rfl, hpk2, K, G⟩
      · skip
        simp -dsimp only [go_sem, ↓reduceIte, hin]
        refine hKK34 _ _ ?_
        try clear hKK34 KK34
        refine Lwp_cond (by simp only [go_sem, ↓reduceIte, rdr, hin, hin]; rfl) (fun ht => ?_) (fun hf => ?_)
        · skip
          cases ht
        · skip
          have hstop : ok' = true → k = n3 := fun _ => by omega
          refine Lwp_frzEnd 1 u [1, 2, 3, 4] [.ptr S.length 0 0, .ptr (S.length + 1) 0 0, .ptr (S.length + 2) 0 0, .ptr (S.length + 3) 0 0] hI.keep hI.rd hI.res hz hst rfl hR (fun keep S' x hx => by simp at hx; subst hx; rfl) rfl (by simp only [go_sem, ↓reduceIte]) (fun keep S' => rfl) fun fr3 R3 => ?_
          have hlt3 : ltLL S.length es3 = true := lt_int fun e he => ok_lt (hoe e he)
          have G2 : GetO (.sl sStr .nil) (bs.drop p5) o5 [.sl fr3 es3] (bs.drop pk) ok' := hL.done hC6 rfl (by decide) hstop
          have K2 : ok (.sl sStr .nil) [.sl fr3 es3] := ⟨by omega, hoe, trivial⟩
          have G := G1.app G2 K1
          have K := app_ok K1 K2
          refine Lwp_exit ?_
          simp -dsimp only [go_sem, ↓reduceIte, rdr, hin, hin]
          refine hKK31 _ _ ?_
          try clear hKK31 KK31
          refine Lwp_seq fun KK39 hKK39 => ?_
          refine LdrawE [0,1,2,3] [(S.length, (3, [[.sl f (bs.map u8c), V pk, .bool ok']])), (S.length + 3, (2, [[.sl fr es, .sl fr3 es3]]))] none (by kernel_rfl) (by kernel_rfl) (by kernel_rfl) (by kernel_rfl) (by simp [Watch.holds]) ?_
          simp -dsimp only [go_sem, ↓reduceIte, rdr, hin, hin, List.mem_cons, forall_eq_or_imp, Nat.add_eq_left]
          repeat with_reducible refine And.intro (by first | omega | decide) ?_
          refine hKK39 _ _ ?_
          try clear hKK39 KK39
          refine Lwp_ret ?_
          simp only [LThen, LBlock, LPost, Tryz.results80]
          simp -dsimp only [go_sem, ↓reduceIte, rdr, hin, hin]
          refine ret_app (by simp only [go_sem, ↓reduceIte, LV.lt, lt_u8c, ltL, ltLL, Bool.and_self, hlt, hlt3]) ?_
          simp only [go_sem, ↓reduceIte]
          refine hRR _ ⟨pk, ok', [.sl fr es, .sl fr3 es3], rfl, hpk2, K, G⟩

end Go.Proofs.YtdhngmldmalbbaaGreat
end
section
set_option linter.all false
namespace Go.Proofs.YtdhngmldmalbbaaGreat
open Go.Lift Go.RowKit Go.Store
set_option linter.unusedSimpArgs false
set_option linter.unusedVariables false
set_option maxHeartbeats 1000000 in
theorem GetCyc_ok : GetC 56 (sCyc) (.agg) := by
  intro f bs p o hb hp
  refine Pc_intro 1 Tryz.func56 rfl (by kernel_rfl) rfl fun S RR hRR => ?_
  refine Lwp_seq fun KK0 hKK0 => ?_
  refine LregionG [none, none, none] (by kernel_rfl) (by kernel_rfl) ?_
  simp -dsimp only [go_sem, ↓reduceIte, rdr]
  repeat with_reducible refine And.intro (by first | omega | decide) ?_
  refine hKK0 _ _ ?_
  try clear hKK0 KK0
  refine Lwp_seq fun KK1 hKK1 => ?_
  refine LregionG [none] (by kernel_rfl) (by kernel_rfl) ?_
  simp -dsimp only [go_sem, ↓reduceIte, rdr]
  repeat with_reducible refine And.intro (by first | omega | decide) ?_
  refine hKK1 _ _ ?_
  try clear hKK1 KK1
  refine Lwp_seq fun KK2 hKK2 => ?_
  refine LregionG [none, none, none, none, none, none, none, none] (by kernel_rfl) (by kernel_rfl) ?_
  simp -dsimp only [go_sem, ↓reduceIte, rdr]
  refine Pc.k' (GetInt_ok f bs p o hb hp) ?_
  rintro _ ⟨p1, o1, us1, rfl, hp1, hok1, hG1⟩
  obtain ⟨w1, us', rfl, hw1, hok'⟩ := ok_int hok1
  obtain rfl := ok_nil hok'
  have G1 := hG1
  have K1 := hok1
  simp -dsimp only [go_sem, ↓reduceIte, rdr, hd1, List.headD_cons]
  refine hKK2 _ _ ?_
  try clear hKK2 KK2
  refine Lwp_seq fun KK3 hKK3 => ?_
  refine LregionG [none, none, none, none, none, none, none, none] (by kernel_rfl) (by kernel_rfl) ?_
  simp -dsimp only [go_sem, ↓reduceIte, rdr]
  refine Pc.k' (GetInt_ok f bs p1 o1 hb hp1) ?_
  rintro _ ⟨p2, o2, us2, rfl, hp2, hok2, hG2⟩
  obtain ⟨w2, us', rfl, hw2, hok'⟩ := ok_int hok2
  obtain rfl := ok_nil hok'
  have G2 := G1.app hG2 K1
  have K2 := app_ok K1 hok2
  simp -dsimp only [go_sem, ↓reduceIte, rdr, hd1, List.headD_cons]
  refine hKK3 _ _ ?_
  try clear hKK3 KK3
  refine Lwp_seq fun KK4 hKK4 => ?_
  refine LregionG [none, none, none, none, none, none, none, none] (by kernel_rfl) (by kernel_rfl) ?_
  simp -dsimp only [go_sem, ↓reduceIte, rdr]
  refine Pc.k' (GetInt_ok f bs p2 o2 hb hp2) ?_
  rintro _ ⟨p3, o3, us3, rfl, hp3, hok3, hG3⟩
  obtain ⟨w3, us', rfl, hw3, hok'⟩ := ok_int hok3
  obtain rfl := ok_nil hok'
  have G3 := G2.app hG3 K2
  have K3 := app_ok K2 hok3
  simp -dsimp only [go_sem, ↓reduceIte, rdr, hd1, List.headD_cons]
  refine hKK4 _ _ ?_
  try clear hKK4 KK4
  refine Lwp_seq fun KK5 hKK5 => ?_
  refine LregionG [none, none, none, none, none, none, none] (by kernel_rfl) (by kernel_rfl) ?_
  simp -dsimp only [go_sem, ↓reduceIte, rdr]
  refine Pc.k' (RCnt_ok f bs p3 56 o3 hb hp3 (by omega)) ?_
  rintro _ ⟨p4, o4, n, rfl, hp4, hn4, hC4⟩
  simp -dsimp only [go_sem, ↓reduceIte, rdr]
  refine hKK5 _ _ ?_
  try clear hKK5 KK5
  refine Lwp_seq fun KK6 hKK6 => ?_
  refine Lwp_seq fun KK7 hKK7 => ?_
  refine Lwp_store (fun S2 => RI S S2 f bs p4 o4 (3, [[.sl true [], V 0, .bool false]]) ∧ S2[S.length + 2]? = some (some (17, [[V 0, V 0, V 0, .sl true [], .sl true [], .sl true [], .sl true [], V 0, .int .u64 0, V 0, V 0, V 0, V 0, .sl true [], .sl true [], .sl true [], .sl true []]])) ∧ S2[S.length + 3]? = some (some (17, [[V w1, V w2, V w3, .sl true [], .sl true [], .sl true [], .sl true [], V 0, .int .u64 0, V 0, V 0, V 0, V 0, .sl true [], .sl true [], .sl true [], .sl true []]]))) ⟨⟨Keeps.app _ _ _, by simp, by simp⟩, by simp, by simp⟩ ?_
  rintro S2 ⟨hI, hz, hst⟩
  refine LregionG [none] (by kernel_rfl) (by kernel_rfl) ?_
  simp -dsimp only [go_sem, ↓reduceIte, rdr]
  repeat with_reducible refine And.intro (by first | omega | decide) ?_
  refine hKK7 _ _ ?_
  try clear hKK7 KK7
  refine Lwp_block ?_
  refine Lwp_loopK [1, 2, 3, 4, 5, 6] (fun m us S' => ∃ (k pk : Nat) (ok' : Bool) (u : LV) (es : List (List LV)), us = [.ptr S.length 0 0, .ptr (S.length + 1) 0 0, .ptr (S.length + 2) 0 0, .ptr (S.length + 3) 0 0, V n, V (k : Int)] ∧ k ≤ n ∧ es.length = k ∧ pk ≤ bs.length ∧ (∀ e ∈ es, ok sRep e) ∧ LoopO sRep n (bs.drop p4) o4 k es (bs.drop pk) ok' ∧ RI S S' f bs pk ok' (3, [[.sl true [], V 0, .bool false]]) ∧ S'[S.length + 2]? = some (some (17, [[V 0, V 0, V 0, .sl true [], .sl true [], .sl true [], .sl true [], V 0, .int .u64 0, V 0, V 0, V 0, V 0, .sl true [], .sl true [], .sl true [], .sl true []]])) ∧ S'[S.length + 3]? = some (some (17, [[V w1, V w2, V w3, u, .sl true [], .sl true [], .sl true [], V 0, .int .u64 0, V 0, V 0, V 0, V 0, .sl true [], .sl true [], .sl true [], .sl true []]])) ∧ RowS S' (S.length + 4) u 8 es ∧ m = n - k) n rfl (⟨0, p4, o4, .sl true [], [], by simp only [go_sem, ↓reduceIte]; rfl, Nat.zero_le _, rfl, hp4, by simp, .start, hI, hz, hst, RowS.nil, rfl⟩) ?_
  rintro m us S2 ⟨k, pk, ok', u, es, rfl, hk, hel, hpk, hoe, hL, hI, hz, hst, hR, hm⟩ II hII
  have hrd := hI.rd
  refine Lwp_seq fun KK8 hKK8 => ?_
  refine Lwp_seq fun KK9 hKK9 => ?_
  refine LregionG [none, none, none, none, some (34, true), some (34, true), none] (by kernel_rfl) (by kernel_rfl) ?_
  simp -dsimp only [go_sem, ↓reduceIte, rdr]
  by_cases hin : k < n
  · skip
    simp -dsimp only [go_sem, ↓reduceIte, hin, hrd]
    refine hKK9 _ _ ?_
    try clear hKK9 KK9
    refine Lwp_cond (by simp only [go_sem, ↓reduceIte, rdr, hin, hrd]; rfl) (fun ht => ?_) (fun hf => ?_)
    · skip
      have hot : ok' = true := by simpa using ht
      obtain ⟨c, hc⟩ : ∃ c, c = S2.length := ⟨_, rfl⟩
      have hcS : S.length + 4 ≤ c := by have := lt_of_get hst; omega
      have h8 : ∀ id ∈ rowIds u, id ≠ c := fun id hid => by have := (hR.lo id hid).2; omega
      have e1 : IntKind.i64.wrap ((k : Int) + 1) = ((k + 1 : Nat) : Int) := by rw [w64 (by omega) (by omega)]; rfl
      refine Lwp_skip ?_
      try simp -dsimp only [go_sem, ↓reduceIte, rdr, hin, hrd]
      refine hKK8 _ _ ?_
      try clear hKK8 KK8
      refine Lwp_seq fun KK10 hKK10 => ?_
      refine Lwp_block ?_
      refine Lwp_seq fun KK11 hKK11 => ?_
      refine LregionG [none] (by kernel_rfl) (by kernel_rfl) ?_
      simp -dsimp only [go_sem, ↓reduceIte, rdr, hin, hrd, ← hc]
      repeat with_reducible refine And.intro (by first | omega | decide) ?_
      refine hKK11 _ _ ?_
      try clear hKK11 KK11
      refine Lwp_seq fun KK12 hKK12 => ?_
      refine Lwp_store (fun S3 => RI S S3 f bs pk ok' (3, [[.sl true [], V 0, .bool false]]) ∧ S3[S.length + 2]? = some (some (17, [[V 0, V 0, V 0, .sl true [], .sl true [], .sl true [], .sl true [], V 0, .int .u64 0, V 0, V 0, V 0, V 0, .sl true [], .sl true [], .sl true [], .sl true []]])) ∧ S3[S.length + 3]? = some (some (17, [[V w1, V w2, V w3, u, .sl true [], .sl true [], .sl true [], V 0, .int .u64 0, V 0, V 0, V 0, V 0, .sl true [], .sl true [], .sl true [], .sl true []]])) ∧ RowS S3 (S.length + 4) u 8 es ∧ S3[c]? = some (some (8, [zs sRep]))) ⟨hI.keeps (Keeps.app _ _ []) (by simp), (Keeps.app _ _ []).get hz (by simp), (Keeps.app _ _ []).get hst (by simp), RowS.keeps hR (Keeps.app _ _ []) (by simp), by rw [hc]; simp; rfl⟩ ?_
      rintro S3 ⟨hI3, hz3, hst3, hR3, hc3⟩
      have hrd3 := hI3.rd
      have hnea0 : ∀ (X : LS) (v : Option Blk), (X.set (S.length) v)[c]? = X[c]? := fun X v => List.getElem?_set_ne (by omega)
      have hneb1 : ∀ (X : LS) (v : Option Blk), (X.set (S.length) v)[S.length + 3]? = X[S.length + 3]? := fun X v => List.getElem?_set_ne (by omega)
      have hned2 : ∀ (X : LS) (v : Option Blk), (X.set (S.length + 3) v)[c]? = X[c]? := fun X v => List.getElem?_set_ne (by omega)
      have hnee3 : ∀ (X : LS) (v : Option Blk), (X.set (S.length) v)[S.length + 2]? = X[S.length + 2]? := fun X v => List.getElem?_set_ne (by omega)
      refine LregionG [none, none, none, none, none, none, none] (by kernel_rfl) (by kernel_rfl) ?_
      simp -dsimp only [go_sem, ↓reduceIte, rdr, hin, hrd, hrd3, hnea0, hc3]
      refine Pc.k' (GetRep_ok f bs pk ok' hb hpk) ?_
      rintro _ ⟨p5, o5, us5, rfl, hp5, hok5, hG5⟩
      have hl5 := ok_len hok5
      have ht5 : us5.take 8 = us5 := List.take_of_length_le (by rw [hl5]; decide)
      have hov5 : ∀ cs : List LV, cs.length = 8 → ovr cs 0 us5 = us5 := fun cs h => ovr_all (by rw [hl5, h]; rfl)
      simp -dsimp only [go_sem, ↓reduceIte, rdr, hin, hrd, hrd3, hnea0, hc3, hl5, hov5, sRep, Sch.n, zs, List.length_cons, List.length_nil]
      refine hKK12 _ _ ?_
      try clear hKK12 KK12
      refine Lwp_store (fun S4 => RI S S4 f bs p5 o5 (3, [[.sl true [], V 0, .bool false]]) ∧ S4[S.length + 2]? = some (some (17, [[V 0, V 0, V 0, .sl true [], .sl true [], .sl true [], .sl true [], V 0, .int .u64 0, V 0, V 0, V 0, V 0, .sl true [], .sl true [], .sl true [], .sl true []]])) ∧ S4[S.length + 3]? = some (some (17, [[V w1, V w2, V w3, u, .sl true [], .sl true [], .sl true [], V 0, .int .u64 0, V 0, V 0, V 0, V 0, .sl true [], .sl true [], .sl true [], .sl true []]])) ∧ RowS S4 (S.length + 4) u 8 es ∧ S4[c]? = some (some (8, [us5]))) ⟨(hI3.set).keeps (Keeps.set1 _) (by simp; omega), by rw [List.getElem?_set_ne (by omega), List.getElem?_set_ne (by omega)]; exact hz3, by rw [List.getElem?_set_ne (by omega), List.getElem?_set_ne (by omega)]; exact hst3,
        RowS.mono hR3 (Nat.le_refl _) (fun id hid b hb => by rw [List.getElem?_set_ne (by have := h8 id hid; omega), List.getElem?_set_ne (by have := (hR3.lo id hid).1; omega)]; exact hb), by rw [List.getElem?_set_self (by rw [List.length_set]; exact lt_of_get hc3)]⟩ ?_
      rintro S4 ⟨hI4, hz4, hst4, hR4, hc4⟩
      have hrd4 := hI4.rd
      refine LregionG [none, none, none, none, none, none, none] (by kernel_rfl) (by kernel_rfl) ?_
      simp -dsimp only [go_sem, ↓reduceIte, rdr, hin, hrd, hst4, hc4, hl5, ht5, sRep, Sch.n]
      repeat with_reducible refine And.intro (by first | omega | decide | assumption) ?_
      refine append_row (fs := [us5]) hR4 rfl (by simp only [go_sem]; rfl) (by simp only [go_sem]; first | exact ⟨rfl, rfl⟩ | exact ⟨rfl, rfl, rfl⟩ | rfl) (by simp only [go_sem]) (by simp only [go_sem, ↓reduceIte]) (by simp only [go_sem, ↓reduceIte, hc4, ht5]) (by simp only [List.mem_singleton, forall_eq]; rw [hl5]; rfl) (.inr (by simp)) (by simp only [LIM, List.length_cons, List.length_nil]; omega) fun S8 hl8 hr8 hK8 => ?_
      have hst8 := hK8.get hst4 (fun h => by have := (hR4.lo _ h).1; omega)
      have hz8 := hK8.get hz4 (fun h => by have := (hR4.lo _ h).1; omega)
      have hI8 := hI4.keeps hK8 (fun id hid => by have := (hR4.lo id hid).1; omega)
      simp -dsimp only [go_sem, ↓reduceIte, rdr, hin, hrd, hst8]
      refine hKK10 _ _ ?_
      try clear hKK10 KK10
      refine LregionG [none, none, none] (by kernel_rfl) (by kernel_rfl) ?_
      simp -dsimp only [go_sem, ↓reduceIte, rdr, hin, hrd, e1]
      repeat with_reducible refine And.intro (by first | omega | decide) ?_
      exact hII (n - (k + 1)) _ _ (by omega) ⟨k + 1, p5, o5, _, es ++ [us5], rfl, by omega, by simp [hel], hp5, ok_memE hoe hok5, hL.step hG5 hin, hI8.keeps (Keeps.set1 _) (by simp), by rw [List.getElem?_set_ne (by omega)]; exact hz8, List.getElem?_set_self (lt_of_get hst8),
        RowS.mono hr8 (by have := lt_of_get hst4; omega) (fun id hid b hb => by rw [List.getElem?_set_ne (by have := (hr8.lo id hid).1; have := lt_of_get hst4; omega)]; exact hb), rfl⟩
    · skip
      have hstop : ok' = true → k = n := fun h => by rw [h] at hf; cases hf
      have hKn := hI.keep
      refine Lwp_frzEnd 3 u [1, 2, 3, 4] [.ptr S.length 0 0, .ptr (S.length + 1) 0 0, .ptr (S.length + 2) 0 0, .ptr (S.length + 3) 0 0] hI.keep hI.rd hI.res hz hst rfl hR (fun keep S' x hx => by simp at hx; rcases hx with rfl | rfl | rfl | rfl | rfl | rfl | rfl | rfl | rfl | rfl | rfl | rfl | rfl | rfl | rfl | rfl <;> rfl) rfl (by simp only [go_sem, ↓reduceIte]) (fun keep S' => rfl) fun fr R => ?_
      have hlt : ltLL S.length es = true := lt_int fun e he => ok_lt (hoe e he)
      have hG4 : GetO (.sl sRep .nil) (bs.drop p3) o3 [.sl fr es] (bs.drop pk) ok' := hL.done hC4 rfl (by decide) hstop
      have hok4 : ok (.sl sRep .nil) [.sl fr es] := ⟨by omega, hoe, trivial⟩
      have G4 := G3.app hG4 K3
      have K4 := app_ok K3 hok4
      clear hI hz hst hR hL hII hstop hC4
      refine Lwp_exit ?_
      simp -dsimp only [go_sem, ↓reduceIte, rdr, hin, hrd]
      refine hKK6 _ _ ?_
      try clear hKK6 KK6
      refine Lwp_seq fun KK13 hKK13 => ?_
      refine LregionG [none, none, none, none, none, none, none, none] (by kernel_rfl) (by kernel_rfl) ?_
      simp -dsimp only [go_sem, ↓reduceIte, rdr, hin, hrd]
      refine Pc.k' (GetAna_ok f bs pk ok' hb hpk) ?_
      rintro _ ⟨p5, o5, us5, rfl, hp5, hok5, hG5⟩
      obtain ⟨fa1, a1, u1, rfl, hla1, hoa1, hx1⟩ := ok_sl hok5
      obtain ⟨fa2, a2, u2, rfl, hla2, hoa2, hx2⟩ := ok_sl hx1
      obtain ⟨fa3, a3, u3, rfl, hla3, hoa3, hx3⟩ := ok_sl hx2
      obtain ⟨a4, u4, rfl, ha4, hx4⟩ := ok_int hx3
      obtain ⟨a5, u5, rfl, ha5, hx5⟩ := ok_word hx4
      obtain ⟨a6, u6, rfl, ha6, hx6⟩ := ok_int hx5
      obtain ⟨a7, u7, rfl, ha7, hx7⟩ := ok_int hx6
      obtain ⟨a8, u8, rfl, ha8, hx8⟩ := ok_int hx7
      obtain rfl := ok_nil hx8
      have hlta1 : ltLL S.length a1 = true := lt_int fun e he => ok_lt (hoa1 e he)
      have hlta2 : ltLL S.length a2 = true := lt_int fun e he => ok_lt (hoa2 e he)
      have hlta3 : ltLL S.length a3 = true := lt_int fun e he => ok_lt (hoa3 e he)
      have G5 := G4.app hG5 K4
      have K5 := app_ok K4 hok5
      simp -dsimp only [go_sem, ↓reduceIte, rdr, hin, hrd]
      refine hKK13 _ _ ?_
      try clear hKK13 KK13
      refine Lwp_seq fun KK14 hKK14 => ?_
      refine LregionG [none, none, none, none, none, none, none, none, none] (by kernel_rfl) (by kernel_rfl) ?_
      simp -dsimp only [go_sem, ↓reduceIte, rdr, hin, hrd]
      refine Pc.k' (GetInt_ok f bs p5 o5 hb hp5) ?_
      rintro _ ⟨p6, o6, us6, rfl, hp6, hok6, hG6⟩
      obtain ⟨w6, us', rfl, hw6, hok'⟩ := ok_int hok6
      obtain rfl := ok_nil hok'
      have G6 := G5.app hG6 K5
      have K6 := app_ok K5 hok6
      simp -dsimp only [go_sem, ↓reduceIte, rdr, hin, hrd, hd1, List.headD_cons]
      refine hKK14 _ _ ?_
      try clear hKK14 KK14
      refine Lwp_seq fun KK15 hKK15 => ?_
      refine LregionG [none, none, none, none, none, none, none, none, none] (by kernel_rfl) (by kernel_rfl) ?_
      simp -dsimp only [go_sem, ↓reduceIte, rdr, hin, hrd]
      refine Pc.k' (GetSl_ok f bs p6 o6 hb hp6) ?_
      rintro _ ⟨p7, o7, us7, rfl, hp7, hok7, hG7⟩
      obtain ⟨fd1, d1, us', rfl, hld1, hod1, hok'⟩ := ok_sl hok7
      obtain rfl := ok_nil hok'
      have hltd1 : ltLL S.length d1 = true := lt_int fun e he => ok_lt (hod1 e he)
      have G7 := G6.app hG7 K6
      have K7 := app_ok K6 hok7
      simp -dsimp only [go_sem, ↓reduceIte, rdr, hin, hrd, hd1, List.headD_cons]
      refine hKK15 _ _ ?_
      try clear hKK15 KK15
      refine Lwp_seq fun KK16 hKK16 => ?_
      refine LregionG [none, none, none, none, none, none, none, none, none] (by kernel_rfl) (by kernel_rfl) ?_
      simp -dsimp only [go_sem, ↓reduceIte, rdr, hin, hrd]
      refine Pc.k' (GetSl_ok f bs p7 o7 hb hp7) ?_
      rintro _ ⟨p8, o8, us8, rfl, hp8, hok8, hG8⟩
      obtain ⟨fd2, d2, us', rfl, hld2, hod2, hok'⟩ := ok_sl hok8
      obtain rfl := ok_nil hok'
      have hltd2 : ltLL S.length d2 = true := lt_int fun e he => ok_lt (hod2 e he)
      have G8 := G7.app hG8 K7
      have K8 := app_ok K7 hok8
      simp -dsimp only [go_sem, ↓reduceIte, rdr, hin, hrd, hd1, List.headD_cons]
      refine hKK16 _ _ ?_
      try clear hKK16 KK16
      refine Lwp_seq fun KK17 hKK17 => ?_
      refine LregionG [none, none, none, none, none, none, none, none] (by kernel_rfl) (by kernel_rfl) ?_
      simp -dsimp only [go_sem, ↓reduceIte, rdr, hin, hrd]
      refine Pc.k' (GetHist_ok f bs p8 o8 hb hp8) ?_
      rintro _ ⟨p9, o9, us9, rfl, hp9, hok9, hG9⟩
      obtain ⟨fh1, h1, v1, rfl, hlh1, hoh1, hy1⟩ := ok_sl hok9
      obtain ⟨fh2, h2, v2, rfl, hlh2, hoh2, hy2⟩ := ok_sl hy1
      obtain rfl := ok_nil hy2
      have hlth1 : ltLL S.length h1 = true := lt_int fun e he => ok_lt (hoh1 e he)
      have hlth2 : ltLL S.length h2 = true := lt_int fun e he => ok_lt (hoh2 e he)
      have G9 := G8.app hG9 K8
      have K9 := app_ok K8 hok9
      simp -dsimp only [go_sem, ↓reduceIte, rdr, hin, hrd]
      refine hKK17 _ _ ?_
      try clear hKK17 KK17
      refine Lwp_seq fun KK18 hKK18 => ?_
      refine LdrawE [0,1,2,3] [(S.length, (3, [[.sl f (bs.map u8c), V p9, .bool o9]])), (S.length + 3, (17, [[V w1, V w2, V w3, .sl fr es, .sl fa1 a1, .sl fa2 a2, .sl fa3 a3, V a4, .int .u64 a5, V a6, V a7, V a8, V w6, .sl fd1 d1, .sl fd2 d2, .sl fh1 h1, .sl fh2 h2]]))] none (by kernel_rfl) (by kernel_rfl) (by kernel_rfl) (by kernel_rfl) (by simp [Watch.holds]) ?_
      simp -dsimp only [go_sem, ↓reduceIte, rdr, hin, hrd, List.mem_cons, forall_eq_or_imp, Nat.add_eq_left]
      repeat with_reducible refine And.intro (by first | omega | decide) ?_
      refine hKK18 _ _ ?_
      try clear hKK18 KK18
      refine Lwp_ret ?_
      simp only [LThen, LBlock, LPost, Tryz.results56]
      simp -dsimp only [go_sem, ↓reduceIte, rdr, hin, hrd]
      refine ret_app (by simp only [go_sem, ↓reduceIte, LV.lt, lt_u8c, ltL, ltLL, Bool.and_self, hlt, hlta1, hlta2, hlta3, hltd1, hltd2, hlth1, hlth2]) ?_
      simp only [go_sem, ↓reduceIte]
      refine hRR _ ⟨p9, o9, [V w1, V w2, V w3, .sl fr es, .sl fa1 a1, .sl fa2 a2, .sl fa3 a3, V a4, .int .u64 a5, V a6, V a7, V a8, V w6, .sl fd1 d1, .sl fd2 d2, .sl fh1 h1, .sl fh2 h2], rfl, hp9, K9, G9⟩
  · skip
    simp -dsimp only [go_sem, ↓reduceIte, hin]
    refine hKK9 _ _ ?_
    try clear hKK9 KK9
    refine Lwp_cond (by simp only [go_sem, ↓reduceIte, rdr, hin]; rfl) (fun ht => ?_) (fun hf => ?_)
    · skip
      cases ht
    · skip
      have hstop : ok' = true → k = n := fun _ => by omega
      have hKn := hI.keep
      refine Lwp_frzEnd 3 u [1, 2, 3, 4] [.ptr S.length 0 0, .ptr (S.length + 1) 0 0, .ptr (S.length + 2) 0 0, .ptr (S.length + 3) 0 0] hI.keep hI.rd hI.res hz hst rfl hR (fun keep S' x hx => by simp at hx; rcases hx with rfl | rfl | rfl | rfl | rfl | rfl | rfl | rfl | rfl | rfl | rfl | rfl | rfl | rfl | rfl | rfl <;> rfl) rfl (by simp only [go_sem, ↓reduceIte]) (fun keep S' => rfl) fun fr R => ?_
      have hlt : ltLL S.length es = true := lt_int fun e he => ok_lt (hoe e he)
      have hG4 : GetO (.sl sRep .nil) (bs.drop p3) o3 [.sl fr es] (bs.drop pk) ok' := hL.done hC4 rfl (by decide) hstop
      have hok4 : ok (.sl sRep .nil) [.sl fr es] := ⟨by omega, hoe, trivial⟩
      have G4 := G3.app hG4 K3
      have K4 := app_ok K3 hok4
      clear hI hz hst hR hL hII hstop hC4
      refine Lwp_exit ?_
      simp -dsimp only [go_sem, ↓reduceIte, rdr, hin]
      refine hKK6 _ _ ?_
      try clear hKK6 KK6
      refine Lwp_seq fun KK19 hKK19 => ?_
      refine LregionG [none, none, none, none, none, none, none, none] (by kernel_rfl) (by kernel_rfl) ?_
      simp -dsimp only [go_sem, ↓reduceIte, rdr, hin]
      refine Pc.k' (GetAna_ok f bs pk ok' hb hpk) ?_
      rintro _ ⟨p5, o5, us5, rfl, hp5, hok5, hG5⟩
      obtain ⟨fa1, a1, u1, rfl, hla1, hoa1, hx1⟩ := ok_sl hok5
      obtain ⟨fa2, a2, u2, rfl, hla2, hoa2, hx2⟩ := ok_sl hx1
      obtain ⟨fa3, a3, u3, rfl, hla3, hoa3, hx3⟩ := ok_sl hx2
      obtain ⟨a4, u4, rfl, ha4, hx4⟩ := ok_int hx3
      obtain ⟨a5, u5, rfl, ha5, hx5⟩ := ok_word hx4
      obtain ⟨a6, u6, rfl, ha6, hx6⟩ := ok_int hx5
      obtain ⟨a7, u7, rfl, ha7, hx7⟩ := ok_int hx6
      obtain ⟨a8, u8, rfl, ha8, hx8⟩ := ok_int hx7
      obtain rfl := ok_nil hx8
      have hlta1 : ltLL S.length a1 = true := lt_int fun e he => ok_lt (hoa1 e he)
      have hlta2 : ltLL S.length a2 = true := lt_int fun e he => ok_lt (hoa2 e he)
      have hlta3 : ltLL S.length a3 = true := lt_int fun e he => ok_lt (hoa3 e he)
      have G5 := G4.app hG5 K4
      have K5 := app_ok K4 hok5
      simp -dsimp only [go_sem, ↓reduceIte, rdr, hin]
      refine hKK19 _ _ ?_
      try clear hKK19 KK19
      refine Lwp_seq fun KK20 hKK20 => ?_
      refine LregionG [none, none, none, none, none, none, none, none, none] (by kernel_rfl) (by kernel_rfl) ?_
      simp -dsimp only [go_sem, ↓reduceIte, rdr, hin]
      refine Pc.k' (GetInt_ok f bs p5 o5 hb hp5) ?_
      rintro _ ⟨p6, o6, us6, rfl, hp6, hok6, hG6⟩
      obtain ⟨w6, us', rfl, hw6, hok'⟩ := ok_int hok6
      obtain rfl := ok_nil hok'
      have G6 := G5.app hG6 K5
      have K6 := app_ok K5 hok6
      simp -dsimp only [go_sem, ↓reduceIte, rdr, hin, hd1, List.headD_cons]
      refine hKK20 _ _ ?_
      try clear hKK20 KK20
      refine Lwp_seq fun KK21 hKK21 => ?_
      refine LregionG [none, none, none, none, none, none, none, none, none] (by kernel_rfl) (by kernel_rfl) ?_
      simp -dsimp only [go_sem, ↓reduceIte, rdr, hin]
      refine Pc.k' (GetSl_ok f bs p6 o6 hb hp6) ?_
      rintro _ ⟨p7, o7, us7, rfl, hp7, hok7, hG7⟩
      obtain ⟨fd1, d1, us', rfl, hld1, hod1, hok'⟩ := ok_sl hok7
      obtain rfl := ok_nil hok'
      have hltd1 : ltLL S.length d1 = true := lt_int fun e he => ok_lt (hod1 e he)
      have G7 := G6.app hG7 K6
      have K7 := app_ok K6 hok7
      simp -dsimp only [go_sem, ↓reduceIte, rdr, hin, hd1, List.headD_cons]
      refine hKK21 _ _ ?_
      try clear hKK21 KK21
      refine Lwp_seq fun KK22 hKK22 => ?_
      refine LregionG [none, none, none, none, none, none, none, none, none] (by kernel_rfl) (by kernel_rfl) ?_
      simp -dsimp only [go_sem, ↓reduceIte, rdr, hin]
      refine Pc.k' (GetSl_ok f bs p7 o7 hb hp7) ?_
      rintro _ ⟨p8, o8, us8, rfl, hp8, hok8, hG8⟩
      obtain ⟨fd2, d2, us', rfl, hld2, hod2, hok'⟩ := ok_sl hok8
      obtain rfl := ok_nil hok'
      have hltd2 : ltLL S.length d2 = true := lt_int fun e he => ok_lt (hod2 e he)
      have G8 := G7.app hG8 K7
      have K8 := app_ok K7 hok8
      simp -dsimp only [go_sem, ↓reduceIte, rdr, hin, hd1, List.headD_cons]
      refine hKK22 _ _ ?_
      try clear hKK22 KK22
      refine Lwp_seq fun KK23 hKK23 => ?_
      refine LregionG [none, none, none, none, none, none, none, none] (by kernel_rfl) (by kernel_rfl) ?_
      simp -dsimp only [go_sem, ↓reduceIte, rdr, hin]
      refine Pc.k' (GetHist_ok f bs p8 o8 hb hp8) ?_
      rintro _ ⟨p9, o9, us9, rfl, hp9, hok9, hG9⟩
      obtain ⟨fh1, h1, v1, rfl, hlh1, hoh1, hy1⟩ := ok_sl hok9
      obtain ⟨fh2, h2, v2, rfl, hlh2, hoh2, hy2⟩ := ok_sl hy1
      obtain rfl := ok_nil hy2
      have hlth1 : ltLL S.length h1 = true := lt_int fun e he => ok_lt (hoh1 e he)
      have hlth2 : ltLL S.length h2 = true := lt_int fun e he => ok_lt (hoh2 e he)
      have G9 := G8.app hG9 K8
      have K9 := app_ok K8 hok9
      simp -dsimp only [go_sem, ↓reduceIte, rdr, hin]
      refine hKK23 _ _ ?_
      try clear hKK23 KK23
      refine Lwp_seq fun KK24 hKK24 => ?_
      refine LdrawE [0,1,2,3] [(S.length, (3, [[.sl f (bs.map u8c), V p9, .bool o9]])), (S.length + 3, (17, [[V w1, V w2, V w3, .sl fr es, .sl fa1 a1, .sl fa2 a2, .sl fa3 a3, V a4, .int .u64 a5, V a6, V a7, V a8, V w6, .sl fd1 d1, .sl fd2 d2, .sl fh1 h1, .sl fh2 h2]]))] none (by kernel_rfl) (by kernel_rfl) (by kernel_rfl) (by kernel_rfl) (by simp [Watch.holds]) ?_
      simp -dsimp only [go_sem, ↓reduceIte, rdr, hin, List.mem_cons, forall_eq_or_imp, Nat.add_eq_left]
      repeat with_reducible refine And.intro (by first | omega | decide) ?_
      refine hKK24 _ _ ?_
      try clear hKK24 KK24
      refine Lwp_ret ?_
      simp only [LThen, LBlock, LPost, Tryz.results56]
      simp -dsimp only [go_sem, ↓reduceIte, rdr, hin]
      refine ret_app (by simp only [go_sem, ↓reduceIte, LV.lt, lt_u8c, ltL, ltLL, Bool.and_self, hlt, hlta1, hlta2, hlta3, hltd1, hltd2, hlth1, hlth2]) ?_
      simp only [go_sem, ↓reduceIte]
      refine hRR _ ⟨p9, o9, [V w1, V w2, V w3, .sl fr es, .sl fa1 a1, .sl fa2 a2, .sl fa3 a3, V a4, .int .u64 a5, V a6, V a7, V a8, V w6, .sl fd1 d1, .sl fd2 d2, .sl fh1 h1, .sl fh2 h2], rfl, hp9, K9, G9⟩

end Go.Proofs.YtdhngmldmalbbaaGreat
end
