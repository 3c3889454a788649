/- TlvField: one field's bytes, by varint: key, length, payload. -/
import Derived.Test.YteejpfemaedmkaaQG2STlvField
import Derived.Test.YteejpfemaedmkaaQG2PlainTlvS
namespace Go.Proofs.Yteejpfemaedmkaa.Pure
set_option linter.unusedSimpArgs false
set_option linter.unusedVariables false
open Go.RowKit Go.Proofs.Yteejpfemaedmkaa.X Go.Proofs.YteejpfemaedmkaaW.PrintWords Go.Proofs.YteejpfemaedmkaaW.PrintLast Go.Proofs.Yteejpfemaedmkaa.Plain
theorem encode_one_bad (f : S53) (h : ¬ okF f) : encodeL [f] = ([], 1) := by
  have hb : badAt 0 0 [f] = some 0 := by
    unfold badAt
    rw [if_neg (fun e => h ((okB_iff 0 f).1 e).2)]
  unfold encodeL measureL
  rw [hb]
  rfl
theorem encode_one (f : S53) (h : okF f) : encodeL [f] = if ((encF f).length : Int) > 16777215 then ([], 2) else (encF f, 0) := by
  have hr : riseL 0 [f] := ⟨by have := h.1; omega, h, trivial⟩
  have he : encL [f] = encF f := by simp [encL]
  unfold encodeL measureL
  rw [(badAt_none [f] 0 0).2 hr, he]
  simp only
  by_cases hl : ((encF f).length : Int) > 16777215
  · rw [if_pos hl, if_pos hl]
    rfl
  · rw [if_neg hl, if_neg hl]
    rfl
theorem field_j1 (q : Nat) (f : S53) (h : okF f) (hs : smallF f) (hq : 100 ≤ q) : stratumlaw05_TlvField.j1 (q + 1) (encodeL [f]).1 (encodeL [f]).2 (payF f) f.f0 f.f1.f0 f.f1.f1 f.f1.f2 = some true := by
  obtain ⟨k1, k2⟩ := key_hi h
  have hk := validV_kind h.2.2
  have h1 := h.1
  have h2 := h.2.1
  have hp : (payF f).length ≤ 140737488351232 := payL_length _ _ _ hs.1 hs.2.1 hs.2.2
  have v1 := vput_ten (keyN f) (by omega)
  have v2 := vput_ten (payF f).length (by omega)
  have hle : (encF f).length = (vput (keyN f)).length + ((vput (payF f).length).length + (payF f).length) := by simp only [encF, List.length_append]
  simp only [stratumlaw05_TlvField.j1]
  rw [u64_small f.f0 (by omega) (by omega), u64_small (8 * f.f0) (by omega) (by omega), u64_small f.f1.f0 (by omega) (by omega), u64_small _ (by omega) (by omega), ← k1, vput_is q _ [] (by omega) (by omega) (by simp), Option.bind_some, List.nil_append,
    u64_small _ (by omega) (by omega), vput_is q _ _ (by omega) (by omega) (by omega), Option.bind_some, w64_small _ (by rw [List.length_append]; omega) (by rw [List.length_append]; omega), encode_one f h]
  by_cases hl : ((encF f).length : Int) > 16777215
  · rw [if_pos hl, if_pos (by rw [List.length_append]; omega), if_pos rfl]
    rfl
  · rw [if_neg hl, if_neg (by rw [List.length_append]; omega), if_pos rfl, strOfNums_size, strOfNums_size, if_pos (by rw [List.length_append]; omega)]
    have : (strOfNums (encF f)).toList = (strOfNums (vput (keyN f) ++ vput (payF f).length) ++ strOfNums (payF f)).toList := by
      rw [ByteArray.toList_eq, ByteArray.toList_eq, ByteArray.data_append, Array.toList_append, strOfNums_data, strOfNums_data, strOfNums_data, ← List.map_append, encF, List.append_assoc]
    rw [this]
    simp
theorem TlvField : stratumlaw05_TlvField.PureX := by
  intro f hf
  have hs : smallF f := smallF_of hf
  obtain ⟨q, hq⟩ : ∃ q, q = 140737488351300 + 50000000 := ⟨_, rfl⟩
  refine ⟨q + 1 + 1, ?_⟩
  simp only [stratumlaw05_TlvField.f]
  rw [lives_is _ (by omega), Option.bind_some, if_pos rfl]
  by_cases hbig : (f.f1.f2.size : Int) > 33554432
  · rw [if_pos hbig]
  · have hsz := hs.2.2
    have hrec : (⟨f.f0, ⟨f.f1.f0, f.f1.f1, f.f1.f2⟩⟩ : S53) = f := rfl
    have henc : tlv_Encode.f (q + 1) [f] = some (encodeL [f]) := encode_is _ [f] (fun g hg => by rw [List.mem_singleton.1 hg]; exact hs) (by simp) (by simp; omega)
    have hj : ∀ b, (b = true ↔ okF f) → stratumlaw05_TlvField.j0 (q + 1 + 1) b f.f0 f.f1.f0 f.f1.f1 f.f1.f2 = some true := by
      intro b hb
      simp only [stratumlaw05_TlvField.j0]
      rw [hrec, henc, Option.bind_some]
      cases b with
      | false =>
        have hn : ¬ okF f := fun e => absurd (hb.2 e) (by decide)
        rw [if_neg (by decide), encode_one_bad f hn]
        rfl
      | true =>
        have ho : okF f := hb.1 rfl
        have hp := field_j1 q f ho hs (by omega)
        rw [if_pos rfl]
        simp only [kind_Uint.f, kind_Int.f, kind_Bool.f, Option.bind_some]
        by_cases k1 : f.f1.f0 = 1
        · rw [if_pos k1]
          obtain ⟨m, hm⟩ := Int.eq_ofNat_of_zero_le hs.1
          have hlt := hs.2.1
          have e : payF f = vput m := by unfold payF payL; rw [if_pos k1, hm, Int.toNat_natCast]
          rw [e] at hp
          rw [hm, vput_is (q + 1) m [] (by omega) (by omega) (by simp), Option.bind_some, List.nil_append, ← hm]
          exact hp
        · rw [if_neg k1]
          by_cases k2 : f.f1.f0 = 2
          · rw [if_pos k2, zig_is _ (w64_lo _) (w64_hi _), Option.bind_some]
            have z0 := zig_lo (wrap64 f.f1.f1)
            have z1 := zig_hi (wrap64 f.f1.f1) (w64_lo _) (w64_hi _)
            obtain ⟨m, hm⟩ := Int.eq_ofNat_of_zero_le z0
            have e : payF f = vput m := by unfold payF payL; rw [if_neg k1, if_pos k2, hm, Int.toNat_natCast]
            rw [e] at hp
            rw [hm, vput_is (q + 1) m [] (by omega) (by omega) (by simp), Option.bind_some, List.nil_append]
            exact hp
          · rw [if_neg k2]
            by_cases k3 : f.f1.f0 = 3
            · have e : payF f = [f.f1.f1 % 256] := by unfold payF payL; rw [if_neg k1, if_neg k2, if_pos k3]
              rw [e] at hp
              rw [if_pos k3]
              exact hp
            · have e : payF f = bytesOf f.f1.f2 := by unfold payF payL; rw [if_neg k1, if_neg k2, if_neg k3]
              rw [e] at hp
              rw [if_neg k3, if_pos (by omega)]
              exact hp
    rw [if_neg hbig]
    by_cases c1 : f.f0 ≥ 1
    · rw [if_pos c1]
      by_cases c2 : f.f0 ≤ 65535
      · rw [if_pos c2, kind_valid _ _ _ _ hsz (by omega), Option.bind_some]
        exact hj _ ⟨fun e => ⟨c1, c2, e⟩, fun e => e.2.2⟩
      · rw [if_neg c2]
        exact hj false ⟨fun e => absurd e (by decide), fun e => absurd e.2.1 c2⟩
    · rw [if_neg c1]
      exact hj false ⟨fun e => absurd e (by decide), fun e => absurd e.1 c1⟩
end Go.Proofs.Yteejpfemaedmkaa.Pure
