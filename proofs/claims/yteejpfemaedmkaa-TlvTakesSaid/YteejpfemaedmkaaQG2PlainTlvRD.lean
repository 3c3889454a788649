import Derived.Test.YteejpfemaedmkaaQG2X29
import Derived.Test.YteejpfemaedmkaaQG2X28
import Derived.Test.YteejpfemaedmkaaQG2X27
import Derived.Test.YteejpfemaedmkaaQG2PlainTlvD
import Derived.Test.YteejpfemaedmkaaQG2PlainTlvR
namespace Go.Proofs.Yteejpfemaedmkaa.Plain
set_option linter.unusedSimpArgs false
set_option linter.unusedVariables false
open Go.RowKit Go.Proofs.Yteejpfemaedmkaa.X Go.Proofs.YteejpfemaedmkaaW.PrintWords Go.Proofs.YteejpfemaedmkaaW.PrintLast
def valL : List Int → Nat
  | [] => 0
  | c :: l => (c % 128).toNat + 128 * valL l
theorem valL_single : ∀ (l : List Int) (c : Int), valL (l ++ [c]) = valL l + (c % 128).toNat * 128 ^ l.length
  | [], c => by simp [valL]
  | b :: l, c => by
    rw [List.cons_append, valL, valL, valL_single l c, List.length_cons, Nat.pow_succ, Nat.mul_add, ← Nat.add_assoc]
    congr 1
    rw [Nat.mul_comm (128 ^ l.length) 128, ← Nat.mul_assoc, ← Nat.mul_assoc, Nat.mul_comm 128]
theorem valL_drop : ∀ (l : List Int) (m : Nat), valL (l.drop m) ≤ valL l
  | [], m => by rw [List.drop_nil]; exact Nat.le_refl _
  | c :: l, 0 => Nat.le_refl _
  | c :: l, m + 1 => by
    have := valL_drop l m
    rw [List.drop_succ_cons, valL]
    omega
theorem valL_lt : ∀ (l : List Int), valL l < 128 ^ l.length
  | [] => by simp [valL]
  | c :: l => by
    have := valL_lt l
    rw [valL, List.length_cons, Nat.pow_succ]
    omega
theorem rd_int (l : List Int) (i : Nat) (h : i < l.length) : rd l (i : Int) = l[i] := by
  unfold rd
  rw [Int.toNat_natCast, List.getD_eq_getElem?_getD, List.getElem?_eq_getElem h, Option.getD_some]
theorem ref_sum (l : List Int) (hr : ∀ b ∈ l, 0 ≤ b ∧ b < 256) (n : Nat) (hn : n ≤ l.length) (hn2 : n ≤ 100) (hv : valL (l.take n) < 18446744073709551616) : ∀ (m k : Nat), m ≤ n → m < k → stratumref02_Take.l1 k l (n : Int) ((valL ((l.take n).drop m) : Nat) : Int) ((m : Int) - 1) = some (((valL (l.take n) : Nat) : Int), (n : Int), 0) := by
  intro m
  induction m with
  | zero =>
    intro k h1 h2
    obtain ⟨k, rfl⟩ : ∃ m, k = m + 1 := ⟨k - 1, by omega⟩
    simp only [stratumref02_Take.l1]
    rw [if_neg (by omega), List.drop_zero]
  | succ m ih =>
    intro k h1 h2
    obtain ⟨k, rfl⟩ : ∃ m, k = m + 1 := ⟨k - 1, by omega⟩
    have hm : m < l.length := by omega
    have hmt : m < (l.take n).length := by rw [List.length_take]; omega
    have hmr := hr _ (List.getElem_mem hm)
    have hd : (l.take n).drop m = l[m] :: (l.take n).drop (m + 1) := by
      rw [List.drop_eq_getElem_cons hmt]
      congr 1
      exact List.getElem_take
    have hb := valL_drop (l.take n) m
    have hs : valL ((l.take n).drop m) = (l[m] % 128).toNat + 128 * valL ((l.take n).drop (m + 1)) := by rw [hd, valL]
    have ht : Int.tmod l[m] 128 = l[m] % 128 := Int.tmod_eq_emod_of_nonneg hmr.1
    simp only [stratumref02_Take.l1]
    rw [show ((m + 1 : Nat) : Int) - 1 = (m : Int) by omega, if_pos (by omega), if_pos (by omega), if_pos (by omega), rd_int l m hm, ht, u64_small (_ * 128) (by omega) (by omega), u64_small (l[m] % 128) (by omega) (by omega), u64_small _ (by omega) (by omega), w64_small ((m : Int) - 1) (by omega) (by omega)]
    have e : ((valL ((l.take n).drop (m + 1)) : Nat) : Int) * 128 + l[m] % 128 = ((valL ((l.take n).drop m) : Nat) : Int) := by omega
    rw [e]
    exact ih k (by omega) (by omega)
theorem ref_take_loop (l : List Int) (hr : ∀ b ∈ l, 0 ≤ b ∧ b < 256) (hl : l.length ≤ 140737488351232) (d : Nat) : ∀ (k i : Nat), i ≤ 9 → i ≤ l.length → l.length - i = d → 60 ≤ k + 4 * i →
    stratumref02_Take.l0 k l (i : Int) = some (vtake i (valL (l.take i)) (l.drop i)) := by
  induction d with
  | zero =>
    intro k i hi h1 h2 hk
    obtain ⟨k, rfl⟩ : ∃ m, k = m + 1 + 1 := ⟨k - 2, by omega⟩
    simp only [stratumref02_Take.l0, stratumref02_Take.j1]
    rw [if_neg (by omega), if_neg (by decide), List.drop_eq_nil_of_le (by omega)]
    rfl
  | succ d ih =>
    intro k i hi h1 h2 hk
    obtain ⟨k, rfl⟩ : ∃ m, k = m + 1 + 1 + 1 + 1 := ⟨k - 4, by omega⟩
    have hil : i < l.length := by omega
    have hrd := rd_int l i hil
    obtain ⟨c0, c1⟩ := hr _ (List.getElem_mem hil)
    have hlen : (l.take i).length = i := by rw [List.length_take]; omega
    have hlt := valL_lt (l.take i)
    rw [hlen] at hlt
    have htk : l.take (i + 1) = l.take i ++ [l[i]] := List.take_succ_eq_append_getElem hil
    have hval : valL (l.take (i + 1)) = valL (l.take i) + (l[i] % 128).toNat * 128 ^ i := by rw [htk, valL_single, hlen]
    have hj3 : ∀ b, b = decide (i = 9 ∧ 1 < l[i]) → ¬ (0 < i ∧ l[i] = 0) → stratumref02_Take.j3 (k + 1) l (i : Int) b = some (vtake i (valL (l.take i)) (l.drop i)) := by
      intro b hb hz
      simp only [stratumref02_Take.j3]
      rw [List.drop_eq_getElem_cons hil]
      unfold vtake
      by_cases h : i = 9 ∧ 1 < l[i]
      · rw [if_pos (by rw [hb]; exact decide_eq_true h), if_pos (.inr h)]
      · rw [if_neg (by rw [hb]; simpa using h), if_neg (show ¬ ((0 < i ∧ l[i] = 0) ∨ (i = 9 ∧ 1 < l[i])) from fun e => e.elim hz h), w64_small ((i : Int) + 1) (by omega) (by omega), w64_small _ (by omega) (by omega), show (i : Int) + 1 - 1 = (i : Int) by omega, if_pos (by omega), if_pos (by omega), hrd]
        by_cases h3 : l[i] < 128
        · have hfit : valL (l.take (i + 1)) < 18446744073709551616 := by
            rw [hval]
            by_cases h9 : i = 9
            · subst h9
              have : (l[9] % 128).toNat ≤ 1 := by omega
              have h4 : (l[9] % 128).toNat * 128 ^ 9 ≤ 1 * 128 ^ 9 := Nat.mul_le_mul_right _ this
              omega
            · have h5 : 128 ^ i ≤ 128 ^ 8 := Nat.pow_le_pow_right (by omega) (by omega)
              have h6 : (l[i] % 128).toNat * 128 ^ i ≤ 127 * 128 ^ 8 := Nat.mul_le_mul (by omega) h5
              omega
          have hs := ref_sum l hr (i + 1) (by omega) (by omega) hfit (i + 1) k (by omega) (by omega)
          rw [List.drop_eq_nil_of_le (by rw [List.length_take]; omega), show ((i + 1 : Nat) : Int) - 1 = (i : Int) by omega] at hs
          rw [if_pos h3, if_pos h3]
          have e : ((i + 1 : Nat) : Int) = (i : Int) + 1 := by omega
          rw [e] at hs
          refine hs.trans ?_
          have e2 : ((valL (l.take (i + 1)) : Nat) : Int) = ((valL (l.take i) : Nat) : Int) + l[i] % 128 * 128 ^ i := by
            rw [hval]
            push_cast
            rw [Int.toNat_of_nonneg (by omega)]
          rw [e2]
        · rw [if_neg h3, if_neg h3, show (i : Int) + 1 = ((i + 1 : Nat) : Int) by omega, ih (k) (i + 1) (by omega) (by omega) (by omega) (by omega), hval]
    have hj2 : ∀ b, b = decide (0 < i ∧ l[i] = 0) → stratumref02_Take.j2 (k + 1 + 1) l (i : Int) b = some (vtake i (valL (l.take i)) (l.drop i)) := by
      intro b hb
      simp only [stratumref02_Take.j2]
      by_cases h : 0 < i ∧ l[i] = 0
      · rw [if_pos (by rw [hb]; exact decide_eq_true h), List.drop_eq_getElem_cons hil]
        unfold vtake
        rw [if_pos (.inl h)]
      · rw [if_neg (by rw [hb]; simpa using h)]
        by_cases h9 : (i : Int) = 9
        · rw [if_pos h9, if_pos (by omega), if_pos (by omega), hrd]
          refine hj3 _ ?_ h
          rw [decide_eq_decide]
          exact ⟨fun e => ⟨by omega, e⟩, fun e => e.2⟩
        · rw [if_neg h9]
          exact hj3 false (by rw [decide_eq_false (fun e => h9 (by omega))]) h
    simp only [stratumref02_Take.l0, stratumref02_Take.j1]
    rw [if_pos (by omega), if_pos (decide_eq_true (by omega))]
    by_cases h0 : (i : Int) > 0
    · rw [if_pos h0, if_pos (by omega), if_pos (by omega), hrd]
      refine hj2 _ ?_
      by_cases hz : l[i] = 0
      · rw [decide_eq_true ⟨by omega, hz⟩, hz]
        rfl
      · rw [decide_eq_false (fun e => hz e.2)]
        exact beq_eq_false_iff_ne.2 hz
    · rw [if_neg h0]
      exact hj2 false (by rw [decide_eq_false (by omega)])
theorem ref_take_is (k : Nat) (l : List Int) (hr : ∀ b ∈ l, 0 ≤ b ∧ b < 256) (hl : l.length ≤ 140737488351232) (hk : 60 ≤ k) : stratumref02_Take.f k l = some (vtake 0 0 l) := by
  have := ref_take_loop l hr hl l.length k 0 (by omega) (by omega) (by omega) (by omega)
  rw [List.drop_zero, List.take_zero] at this
  exact this
theorem ref_zag_is (y : Int) (h0 : 0 ≤ y) (h : y < 18446744073709551616) : stratumref02_Zag.f y = some (zag y) := by
  unfold stratumref02_Zag.f zag
  have e1 : Int.tmod y 2 = y % 2 := Int.tmod_eq_emod_of_nonneg h0
  have e2 : Int.tdiv y 2 = y / 2 := Int.tdiv_eq_ediv_of_nonneg h0
  rw [e1, e2, u64_small (y / 2) (by omega) (by omega), w64_small (y / 2) (by omega) (by omega), w64_small (-(y / 2)) (by omega) (by omega), w64_small _ (by omega) (by omega)]
  by_cases hy : y % 2 = 0
  · rw [if_pos hy, if_pos hy]
  · rw [if_neg hy, if_neg hy]
theorem ref_value_is (q : Nat) (k : Int) (p : List Int) (hp : ∀ b ∈ p, 0 ≤ b ∧ b < 256) (hl : p.length ≤ 140737488351232) (hq : p.length + 100 < q) : ∃ r, stratumref05_value.f q k p = some r ∧ valOf k p r := by
  obtain ⟨q, rfl⟩ : ∃ m, q = m + 1 + 1 := ⟨q - 2, by omega⟩
  have ht := ref_take_is (q + 1) p hp hl (by omega)
  have hempty : (⟨#[]⟩ : ByteArray).size ≤ 140737488351232 := by simp [ByteArray.size]
  have hv := fun (n : Int) => ref_valid q k n ⟨#[]⟩ hempty (by simp [ByteArray.size]; omega)
  have hv1 := fun (n : Int) => ref_valid (q + 1) k n ⟨#[]⟩ hempty (by simp [ByteArray.size]; omega)
  have hvs := fun (n : Int) => ref_valid (q + 1) k n (strOfNums p) (strOf_size p hl) (by rw [strOfNums_size]; omega)
  have hf : ∀ b, b = decide (k = 1 ∨ k = 2) → ∃ r, stratumref05_value.j0 (q + 1 + 1) k p k b k 0 (⟨#[]⟩ : ByteArray) = some r ∧ valOf k p r := by
    intro b hb
    simp only [stratumref05_value.j0]
    by_cases k12 : k = 1 ∨ k = 2
    · rw [if_pos (by rw [hb]; exact decide_eq_true k12), ht, Option.bind_some]
      simp only [stratumref05_value.j1]
      by_cases h0 : (vtake 0 0 p).2.2 = 0
      · rw [if_pos h0]
        obtain ⟨z0, z1, _, _⟩ := vtake_ok p hp h0
        by_cases h1 : (vtake 0 0 p).2.1 = (p.length : Int)
        · have hb2 : ((vtake 0 0 p).2.1 != (p.length : Int)) = false := by simp [h1]
          rw [hb2, if_neg (by decide)]
          by_cases k2 : k = 2
          · subst k2
            rw [if_pos rfl, ref_zag_is _ z0 z1, Option.bind_some, hv, Option.bind_some, validV_num (.inr rfl)]
            refine ⟨_, rfl, ?_⟩
            unfold valOf valueL
            rw [if_pos (.inr rfl), if_pos ⟨h0, h1⟩, if_pos rfl]
          · rw [if_neg k2, hv, Option.bind_some, validV_num k12]
            refine ⟨_, rfl, ?_⟩
            unfold valOf valueL
            rw [if_pos k12, if_pos ⟨h0, h1⟩, if_neg k2]
        · have hb2 : ((vtake 0 0 p).2.1 != (p.length : Int)) = true := by simp [h1]
          rw [hb2, if_pos rfl]
          refine ⟨_, rfl, ?_⟩
          unfold valOf valueL
          rw [if_pos k12, if_neg (fun e => h1 e.2)]
      · rw [if_neg h0, if_pos trivial]
        refine ⟨_, rfl, ?_⟩
        unfold valOf valueL
        rw [if_pos k12, if_neg (fun e => h0 e.1)]
    · rw [if_neg (by rw [hb]; simpa using k12)]
      by_cases k3 : k = 3
      · subst k3
        rw [if_pos rfl]
        by_cases h1 : (p.length : Int) = 1
        · rw [if_pos h1, if_pos (by omega)]
          obtain ⟨b, rfl⟩ : ∃ b, p = [b] := List.length_eq_one_iff.1 (by omega)
          have hb := hp b (List.mem_singleton.2 rfl)
          have hrd : rd [b] 0 = b := rfl
          rw [hrd, u64_small b (by omega) (by omega), hv1, Option.bind_some]
          refine ⟨_, rfl, ?_⟩
          unfold valOf valueL
          rw [if_neg (by omega), if_pos rfl]
          have hvb : validV 3 b ⟨#[]⟩ = decide (b ≤ 1) := by
            unfold validV
            rw [if_neg (by omega), if_pos rfl]
            simp [ByteArray.toList_eq]
          rw [hvb]
          by_cases hb1 : b ≤ 1
          · simp only [if_pos hb1, decide_eq_true hb1]
          · simp only [if_neg hb1, decide_eq_false hb1]
        · rw [if_neg h1]
          refine ⟨_, rfl, ?_⟩
          unfold valOf valueL
          rw [if_neg (by omega), if_pos rfl]
          rcases p with _ | ⟨b, _ | ⟨b2, p⟩⟩
          · rfl
          · simp at h1
          · rfl
      · rw [if_neg k3, hvs, Option.bind_some]
        refine ⟨_, rfl, ?_⟩
        unfold valOf valueL
        rw [if_neg k12, if_neg k3]
        cases hvv : validV k 0 (strOfNums p) with
        | true => rw [if_pos rfl]
        | false => rw [if_neg (by decide)]
  unfold stratumref05_value.f
  by_cases k1 : k = 1
  · rw [if_pos k1]
    exact hf _ (by simp [k1])
  · rw [if_neg k1]
    refine hf _ ?_
    by_cases k2 : k = 2
    · simp [k2]
    · simp [k1, k2]
theorem tdiv_8 (x : Int) (h : 0 ≤ x) (h2 : x < 18446744073709551616) : IntKind.u64.wrap (Int.tdiv x 8) = x / 8 := by
  rw [Int.tdiv_eq_ediv_of_nonneg h, u64_small _ (by omega) (by omega)]
theorem ref_decode_loop (b : List Int) (hb : ∀ x ∈ b, 0 ≤ x ∧ x < 256) (hl : b.length ≤ 16777215) (m : Nat) : ∀ (q a : Nat) (last : Int) (acc : List S53), 0 ≤ last → last ≤ 65535 → a ≤ b.length → b.length - a ≤ m → acc.length + (b.length - a) ≤ 16777215 → 16777215 + 200 + 3 * m < q →
    stratumref05_Decode.l0 q b acc (a : Int) last = some (match decL m last (b.drop a) with | some l => (acc ++ l, 0) | none => ([], 3)) := by
  induction m with
  | zero =>
    intro q a last acc h0 h1 ha hm hla hq
    obtain ⟨q, rfl⟩ : ∃ m, q = m + 1 := ⟨q - 1, by omega⟩
    have hnil : b.drop a = [] := List.drop_eq_nil_of_le (by omega)
    simp only [stratumref05_Decode.l0]
    rw [if_neg (by omega), hnil]
    simp [decL]
  | succ m ih =>
    intro q a last acc h0 h1 ha hm hla hq
    obtain ⟨q, rfl⟩ : ∃ m, q = m + 1 + 1 + 1 := ⟨q - 3, by omega⟩
    simp only [stratumref05_Decode.l0]
    by_cases hnil : b.drop a = []
    · have : b.length ≤ a := by
        have := congrArg List.length hnil
        rw [List.length_drop, List.length_nil] at this
        omega
      rw [if_neg (by omega), hnil]
      simp [decL]
    · have hpos : 0 < (b.drop a).length := List.length_pos_iff.2 hnil
      have hB : ∀ x ∈ b.drop a, 0 ≤ x ∧ x < 256 := fun x hx => hb x (List.mem_of_mem_drop hx)
      have hBl : (b.drop a).length = b.length - a := List.length_drop
      rw [if_pos (by omega), if_pos (by omega), if_pos (by omega), Int.toNat_natCast, ref_take_is _ _ hB (by omega) (by omega), Option.bind_some]
      have hbad : (¬ ((vtake 0 0 (b.drop a)).2.2 = 0 ∧ (vtake 0 0 (b.drop a)).1 / 8 ≤ 65535 ∧ last < (vtake 0 0 (b.drop a)).1 / 8)) → ∀ x y, stratumref05_Decode.j1 (q + 1 + 1) b acc (a : Int) x y true = some (match decL (m + 1) last (b.drop a) with | some l => (acc ++ l, 0) | none => ([], 3)) := by
        intro hn x y
        have hf : fieldL last (b.drop a) = none := by
          unfold fieldL
          simp only
          rw [if_neg hn]
        simp only [stratumref05_Decode.j1, decL]
        rw [if_pos trivial, if_neg hnil, hf]
      by_cases c0 : (vtake 0 0 (b.drop a)).2.2 = 0
      · obtain ⟨a0, a1, a2, a3⟩ := vtake_ok _ hB c0
        rw [if_pos c0, tdiv_8 _ a0 a1]
        by_cases c1 : (vtake 0 0 (b.drop a)).1 / 8 > 65535
        · rw [if_pos c1]
          exact hbad (fun e => absurd e.2.1 (by omega)) _ _
        · rw [if_neg c1, w64_small _ (by omega) (by omega)]
          by_cases c2 : (vtake 0 0 (b.drop a)).1 / 8 ≤ last
          · rw [decide_eq_true c2]
            exact hbad (fun e => absurd e.2.2 (by omega)) _ _
          · rw [decide_eq_false c2]
            have hgood : (vtake 0 0 (b.drop a)).2.2 = 0 ∧ (vtake 0 0 (b.drop a)).1 / 8 ≤ 65535 ∧ last < (vtake 0 0 (b.drop a)).1 / 8 := ⟨c0, by omega, by omega⟩
            obtain ⟨n1, hn1⟩ := Int.eq_ofNat_of_zero_le (show 0 ≤ (vtake 0 0 (b.drop a)).2.1 by omega)
            simp only [stratumref05_Decode.j1]
            have e1 : wrap64 ((a : Int) + (vtake 0 0 (b.drop a)).2.1) = ((a + n1 : Nat) : Int) := by rw [hn1, w64_small _ (by omega) (by omega)]; omega
            have hB1 : ∀ x ∈ b.drop (a + n1), 0 ≤ x ∧ x < 256 := fun x hx => hb x (List.mem_of_mem_drop hx)
            have hBl1 : (b.drop (a + n1)).length = b.length - (a + n1) := List.length_drop
            have hd1 : (b.drop a).drop (vtake 0 0 (b.drop a)).2.1.toNat = b.drop (a + n1) := by rw [hn1, Int.toNat_natCast, List.drop_drop]
            rw [if_neg (by decide), e1, if_pos (by omega), if_pos (by omega), Int.toNat_natCast, ref_take_is _ _ hB1 (by omega) (by omega), Option.bind_some]
            have hbad2 : (¬ ((vtake 0 0 (b.drop (a + n1))).2.2 = 0 ∧ (vtake 0 0 (b.drop (a + n1))).1 ≤ ((b.drop (a + n1)).length : Int) - (vtake 0 0 (b.drop (a + n1))).2.1)) → ∀ x y z, stratumref05_Decode.j2 (q + 1) b acc x y z (vtake 0 0 (b.drop (a + n1))).1 true = some (match decL (m + 1) last (b.drop a) with | some l => (acc ++ l, 0) | none => ([], 3)) := by
              intro hn x y z
              have hf : fieldL last (b.drop a) = none := by
                unfold fieldL
                simp only [hd1]
                rw [if_pos hgood, if_neg hn]
              simp only [stratumref05_Decode.j2, decL]
              rw [if_pos trivial, if_neg hnil, hf]
            by_cases d0 : (vtake 0 0 (b.drop (a + n1))).2.2 = 0
            · obtain ⟨b0, b1, b2, b3⟩ := vtake_ok _ hB1 d0
              obtain ⟨n2, hn2⟩ := Int.eq_ofNat_of_zero_le (show 0 ≤ (vtake 0 0 (b.drop (a + n1))).2.1 by omega)
              obtain ⟨z, hz⟩ := Int.eq_ofNat_of_zero_le b0
              rw [if_pos d0, w64_small ((b.length : Int) - _) (by omega) (by omega), w64_small _ (by omega) (by omega), u64_small _ (by omega) (by omega)]
              by_cases d1 : (b.length : Int) - ((a + n1 : Nat) : Int) - (vtake 0 0 (b.drop (a + n1))).2.1 < (vtake 0 0 (b.drop (a + n1))).1
              · rw [decide_eq_true d1]
                exact hbad2 (fun e => absurd e.2 (by omega)) _ _ _
              · rw [decide_eq_false d1]
                have hgood2 : (vtake 0 0 (b.drop (a + n1))).2.2 = 0 ∧ (vtake 0 0 (b.drop (a + n1))).1 ≤ ((b.drop (a + n1)).length : Int) - (vtake 0 0 (b.drop (a + n1))).2.1 := ⟨d0, by omega⟩
                have e2 : wrap64 (((a + n1 : Nat) : Int) + (vtake 0 0 (b.drop (a + n1))).2.1) = ((a + n1 + n2 : Nat) : Int) := by rw [hn2, w64_small _ (by omega) (by omega)]; omega
                have e3 : wrap64 (((a + n1 + n2 : Nat) : Int) + wrap64 (vtake 0 0 (b.drop (a + n1))).1) = ((a + n1 + n2 + z : Nat) : Int) := by rw [hz, w64_small (z : Int) (by omega) (by omega), w64_small _ (by omega) (by omega)]; omega
                have e4 : Int.tmod (vtake 0 0 (b.drop a)).1 8 = (vtake 0 0 (b.drop a)).1 % 8 := Int.tmod_eq_emod_of_nonneg a0
                have hd2 : (b.drop (a + n1)).drop (vtake 0 0 (b.drop (a + n1))).2.1.toNat = b.drop (a + n1 + n2) := by rw [hn2, Int.toNat_natCast, List.drop_drop]
                have hd3 : (b.take (a + n1 + n2 + z)).drop (a + n1 + n2) = (b.drop (a + n1 + n2)).take z := by
                  rw [List.drop_take]
                  congr 1
                  omega
                have hB2 : ∀ x ∈ (b.drop (a + n1 + n2)).take z, 0 ≤ x ∧ x < 256 := fun x hx => hb x (List.mem_of_mem_drop (List.mem_of_mem_take hx))
                have hBl2 : ((b.drop (a + n1 + n2)).take z).length ≤ b.length := by rw [List.length_take, List.length_drop]; omega
                simp only [stratumref05_Decode.j2]
                rw [if_neg (by decide), e2, e3, if_pos (by omega), if_pos (by omega), if_pos (by omega), Int.toNat_natCast, Int.toNat_natCast, hd3, e4, w64_small (_ % 8) (by omega) (by omega)]
                obtain ⟨r, hr, hr2⟩ := ref_value_is q ((vtake 0 0 (b.drop a)).1 % 8) _ hB2 (by omega) (by omega)
                rw [hr, Option.bind_some]
                unfold valOf at hr2
                have hfield : fieldL last (b.drop a) = match valueL ((vtake 0 0 (b.drop a)).1 % 8) ((b.drop (a + n1 + n2)).take z) with
                    | some (n, s) => some (⟨(vtake 0 0 (b.drop a)).1 / 8, ⟨(vtake 0 0 (b.drop a)).1 % 8, n, s⟩⟩, b.drop (a + n1 + n2 + z))
                    | none => none := by
                  unfold fieldL
                  simp only [hd1]
                  rw [if_pos hgood, if_pos hgood2, hd2, hz, Int.toNat_natCast, List.drop_drop]
                  first
                  | done
                  | (cases valueL ((vtake 0 0 (b.drop a)).1 % 8) ((b.drop (a + n1 + n2)).take z) with
                    | none => rfl
                    | some ns => rfl)
                simp only [decL]
                rw [if_neg hnil, hfield]
                cases hv : valueL ((vtake 0 0 (b.drop a)).1 % 8) ((b.drop (a + n1 + n2)).take z) with
                | none =>
                  rw [hv] at hr2
                  simp only at hr2 ⊢
                  rw [hr2, if_neg (by decide)]
                | some ns =>
                  obtain ⟨n, s⟩ := ns
                  rw [hv] at hr2
                  simp only at hr2 ⊢
                  subst hr2
                  rw [if_pos rfl, if_pos (by omega), tdiv_8 _ a0 a1, w64_small (_ / 8) (by omega) (by omega)]
                  have hle : a + n1 + n2 + z ≤ b.length := by omega
                  rw [ih q (a + n1 + n2 + z) _ _ (by omega) (by omega) hle (by omega) (by rw [List.length_append, List.length_singleton]; omega) (by omega)]
                  cases decL m ((vtake 0 0 (b.drop a)).1 / 8) (b.drop (a + n1 + n2 + z)) with
                  | none => rfl
                  | some l =>
                    simp only [Option.map_some, List.append_assoc]
                    rfl
            · rw [if_neg d0]
              exact hbad2 (fun e => d0 e.1) _ _ _
      · rw [if_neg c0]
        exact hbad (fun e => c0 e.1) _ _
theorem ref_decode_is (q : Nat) (b : List Int) (hb : ∀ x ∈ b, 0 ≤ x ∧ x < 256) (hq : 100000000 < q) : stratumref05_Decode.f q b = some (decodeL b) := by
  unfold stratumref05_Decode.f decodeL
  by_cases h : (b.length : Int) > 16777215
  · rw [if_pos h, if_pos h]
  · rw [if_neg h, if_neg h]
    have := ref_decode_loop b hb (by omega) b.length q 0 0 [] (by omega) (by omega) (by omega) (by omega) (by rw [List.length_nil]; omega) (by omega)
    rw [List.drop_zero] at this
    refine this.trans ?_
    cases decL b.length 0 b with
    | none => rfl
    | some l => rfl
end Go.Proofs.Yteejpfemaedmkaa.Plain
