import Derived.Test.YteejpfemaedmkaaQG2X22
import Derived.Test.YteejpfemaedmkaaQG2PlainTlvP
import Derived.Test.YteejpfemaedmkaaQG2PlainVarP
namespace Go.Proofs.Yteejpfemaedmkaa.Plain
set_option linter.unusedSimpArgs false
set_option linter.unusedVariables false
open Go.RowKit Go.Proofs.Yteejpfemaedmkaa.X Go.Proofs.YteejpfemaedmkaaW.PrintWords Go.Proofs.YteejpfemaedmkaaW.PrintLast
theorem payload_is (q : Nat) (k n : Int) (s : ByteArray) (h0 : 0 ≤ n) (h1 : n < 18446744073709551616) (hq : 10 ≤ q) : tlv_payload.f q k n s = some (strOfNums (payL k n s)) := by
  unfold tlv_payload.f payL
  simp only [kind_Uint.f, kind_Int.f, kind_Bool.f, Option.bind_some]
  by_cases k1 : k = 1
  · rw [if_pos k1, if_pos k1]
    obtain ⟨m, rfl⟩ := Int.eq_ofNat_of_zero_le h0
    rw [vput_is q m [] (by omega) hq (by simp), Option.bind_some, Int.toNat_natCast]
    rfl
  · rw [if_neg k1, if_neg k1]
    by_cases k2 : k = 2
    · rw [if_pos k2, if_pos k2, zig_is _ (w64_lo n) (w64_hi n), Option.bind_some]
      have z0 := zig_lo (wrap64 n)
      have z1 := zig_hi (wrap64 n) (w64_lo n) (w64_hi n)
      obtain ⟨m, hm⟩ := Int.eq_ofNat_of_zero_le z0
      rw [hm, vput_is q m [] (by omega) hq (by simp), Option.bind_some, Int.toNat_natCast]
      rfl
    · rw [if_neg k2, if_neg k2]
      by_cases k3 : k = 3
      · rw [if_pos k3, if_pos k3]
      · rw [if_neg k3, if_neg k3, str_bytesOf]
theorem bytes_pay (k n : Int) (s : ByteArray) : bytesOf (strOfNums (payL k n s)) = payL k n s := bytesOf_str _ (payL_range k n s)
theorem encode_loop (l : List S53) (hs : ∀ f ∈ l, smallF f) (ho : ∀ f ∈ l, okF f) (hl : l.length ≤ 140737488351232) (d : Nat) : ∀ (k i : Nat) (acc : List Int), i ≤ l.length → l.length - i = d → d + 20 < k → acc.length + (encL (l.drop i)).length ≤ 16777215 →
    tlv_Encode.l0 k acc l (l.length : Int) (i : Int) = some (acc ++ encL (l.drop i), 0) := by
  induction d with
  | zero =>
    intro k i acc h1 h2 h3 h4
    obtain ⟨k, rfl⟩ : ∃ m, k = m + 1 := ⟨k - 1, by omega⟩
    simp only [tlv_Encode.l0]
    rw [if_neg (by omega), List.drop_eq_nil_of_le (by omega)]
    simp only [encL, List.append_nil]
  | succ d ih =>
    intro k i acc h1 h2 h3 h4
    obtain ⟨k, rfl⟩ : ∃ m, k = m + 1 := ⟨k - 1, by omega⟩
    have hi : i < l.length := by omega
    have g := hs _ (List.getElem_mem hi)
    have o := ho _ (List.getElem_mem hi)
    obtain ⟨k1, k2⟩ := key_hi o
    have hp : (payF l[i]).length ≤ 140737488351232 := payL_length _ _ _ g.1 g.2.1 g.2.2
    rw [List.drop_eq_getElem_cons hi] at h4 ⊢
    simp only [encL] at h4 ⊢
    have hle : (encF l[i]).length = (vput (keyN l[i])).length + ((vput (payF l[i]).length).length + (payF l[i]).length) := by simp only [encF, List.length_append]
    rw [List.length_append] at h4
    have hpay : tlv_payload.f k l[i].f1.f0 l[i].f1.f1 l[i].f1.f2 = some (strOfNums (payF l[i])) := payload_is k _ _ _ g.1 g.2.1 (by omega)
    have hsz : (strOfNums (payF l[i])).size = (payF l[i]).length := strOfNums_size _
    have hby : bytesOf (strOfNums (payF l[i])) = payF l[i] := bytes_pay _ _ _
    simp only [tlv_Encode.l0]
    rw [if_pos (by omega), if_pos (by omega), if_pos (by omega), rd_field l i hi, hpay, Option.bind_some, key_is _ o, Option.bind_some, vput_is k _ [] (by omega) (by omega) (by simp), Option.bind_some, List.nil_append, if_pos (by omega), Option.bind_some, hsz,
      u64_small _ (by omega) (by omega), vput_is k _ [] (by omega) (by omega) (by simp), Option.bind_some, List.nil_append, if_pos (by rw [List.length_append]; omega), Option.bind_some, if_pos (by rw [List.length_append, List.length_append]; omega), hby, w64_succ' i (by omega),
      ih k (i + 1) _ (by omega) (by omega) (by omega) (by simp only [List.length_append]; omega)]
    simp only [encF, List.append_assoc]
/-- The bytes and the code. -/
def encodeL (l : List S53) : List Int × Int := if (measureL l).2.2 = 0 then (encL l, 0) else ([], (measureL l).2.2)
theorem measure_zero {l : List S53} (h : (measureL l).2.2 = 0) : riseL 0 l ∧ (encL l).length ≤ 16777215 ∧ (measureL l).1 = ((encL l).length : Int) := by
  unfold measureL at h ⊢
  cases hb : badAt 0 0 l with
  | some j => rw [hb] at h; cases h
  | none =>
    rw [hb] at h
    simp only at h ⊢
    by_cases hc : ((encL l).length : Int) > 16777215
    · rw [if_pos hc] at h; cases h
    · rw [if_neg hc]
      exact ⟨(badAt_none l 0 0).1 hb, by omega, rfl⟩
theorem rise_ok : ∀ (l : List S53) (last : Int), riseL last l → ∀ f ∈ l, okF f
  | [], _, _, f, hf => by simp at hf
  | g :: l, last, h, f, hf => by
    rcases List.mem_cons.1 hf with rfl | hf
    · exact h.2.1
    · exact rise_ok l g.f0 h.2.2 f hf
theorem encode_is (k : Nat) (l : List S53) (hs : ∀ f ∈ l, smallF f) (hl : l.length ≤ 140737488351232) (hk : 140737488351300 + 2 * l.length < k) : tlv_Encode.f k l = some (encodeL l) := by
  unfold tlv_Encode.f encodeL
  rw [measure_is k l hs hl hk, Option.bind_some]
  by_cases h : (measureL l).2.2 = 0
  · obtain ⟨h1, h2, h3⟩ := measure_zero h
    rw [if_pos h, if_pos h, h3, if_pos (by omega), if_pos (by omega)]
    have := encode_loop l hs (rise_ok l 0 h1) hl l.length k 0 [] (by omega) (by omega) (by omega) (by rw [List.drop_zero, List.length_nil]; omega)
    rw [List.drop_zero, List.nil_append] at this
    exact this
  · rw [if_neg h, if_neg h]
theorem size_is' (k : Nat) (l : List S53) (hs : ∀ f ∈ l, smallF f) (hl : l.length ≤ 140737488351232) (hk : 140737488351300 + 2 * l.length < k) : tlv_Size.f k l = some ((measureL l).1, (measureL l).2.2) := by
  unfold tlv_Size.f
  rw [measure_is k l hs hl hk]
  rfl
theorem str_inj {a b : List Int} (ha : ∀ x ∈ a, 0 ≤ x ∧ x < 256) (hb : ∀ x ∈ b, 0 ≤ x ∧ x < 256) : (strOfNums a).toList = (strOfNums b).toList ↔ a = b := by
  rw [toList_inj, bytesOf_str a ha, bytesOf_str b hb]
theorem alike_is (a b : List Int) (ha : ∀ x ∈ a, 0 ≤ x ∧ x < 256) (hb : ∀ x ∈ b, 0 ≤ x ∧ x < 256) : stratumlaw05_alike.f a b = some (decide (a = b)) := by
  unfold stratumlaw05_alike.f
  congr 1
  by_cases h : a = b
  · rw [h, decide_eq_true rfl]
    simp
  · rw [decide_eq_false h]
    have : ¬ (strOfNums a).toList = (strOfNums b).toList := fun e => h ((str_inj ha hb).1 e)
    simpa using this
theorem encodeL_range (l : List S53) : ∀ b ∈ (encodeL l).1, 0 ≤ b ∧ b < 256 := by
  unfold encodeL
  split
  · exact encL_range l
  · simp
end Go.Proofs.Yteejpfemaedmkaa.Plain
