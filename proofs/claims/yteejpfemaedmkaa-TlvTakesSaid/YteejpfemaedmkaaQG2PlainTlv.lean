import Derived.Test.YteejpfemaedmkaaQG2XOpen
import Derived.Test.YteejpfemaedmkaaQG2PlainValid
import Derived.Test.YteejpfemaedmkaaQG2PlainBits
namespace Go.Proofs.Yteejpfemaedmkaa.Plain
set_option linter.unusedSimpArgs false
set_option linter.unusedVariables false
open Go.RowKit Go.Proofs.Yteejpfemaedmkaa.X Go.Proofs.YteejpfemaedmkaaW.PrintWords Go.Proofs.YteejpfemaedmkaaW.PrintLast
theorem rd_field (l : List S53) (i : Nat) (h : i < l.length) : rd_T53 l (i : Int) = l[i] := by
  unfold rd_T53
  rw [Int.toNat_natCast, List.getD_eq_getElem?_getD, List.getElem?_eq_getElem h, Option.getD_some]
theorem bytesOf_str (l : List Int) (h : ∀ b ∈ l, 0 ≤ b ∧ b < 256) : bytesOf (strOfNums l) = l := by
  unfold bytesOf
  rw [strOfNums_data, List.map_map]
  refine (List.map_congr_left (fun b hb => ?_)).trans (List.map_id l)
  obtain ⟨h0, h1⟩ := h b hb
  simp only [Function.comp, id]
  rw [UInt8.toNat_ofNat', Nat.mod_eq_of_lt (by omega)]
  omega
theorem str_bytesOf (s : ByteArray) : strOfNums (bytesOf s) = s := by
  unfold strOfNums bytesOf
  rw [List.map_map]
  have : (fun n => UInt8.ofNat n.toNat) ∘ (fun b : UInt8 => (b.toNat : Int)) = id := by
    funext b
    simp
  rw [this, List.map_id]
/-- A value's payload. -/
def payL (k n : Int) (s : ByteArray) : List Int := if k = 1 then vput n.toNat else if k = 2 then vput (zig (wrap64 n)).toNat else if k = 3 then [n % 256] else bytesOf s
def keyN (f : S53) : Nat := (8 * f.f0 + f.f1.f0).toNat
def payF (f : S53) : List Int := payL f.f1.f0 f.f1.f1 f.f1.f2
/-- A field's bytes. -/
def encF (f : S53) : List Int := vput (keyN f) ++ (vput (payF f).length ++ payF f)
def encL : List S53 → List Int
  | [] => []
  | f :: l => encF f ++ encL l
def smallF (f : S53) : Prop := 0 ≤ f.f1.f1 ∧ f.f1.f1 < 18446744073709551616 ∧ f.f1.f2.size ≤ 140737488351232
def okF (f : S53) : Prop := 1 ≤ f.f0 ∧ f.f0 ≤ 65535 ∧ validV f.f1.f0 f.f1.f1 f.f1.f2 = true
def okB (last : Int) (f : S53) : Bool := decide (1 ≤ f.f0) && (decide (f.f0 ≤ 65535) && (decide (last < f.f0) && validV f.f1.f0 f.f1.f1 f.f1.f2))
/-- The place of the first field that cannot stand there. -/
def badAt : Int → Int → List S53 → Option Int
  | _, _, [] => none
  | i, last, f :: l => if okB last f = true then badAt (i + 1) f.f0 l else some i
def measureL (l : List S53) : Int × Int × Int := match badAt 0 0 l with
  | some i => (0, i, 1)
  | none => if ((encL l).length : Int) > 16777215 then (0, 0, 2) else (((encL l).length : Int), 0, 0)
theorem okB_iff (last : Int) (f : S53) : okB last f = true ↔ last < f.f0 ∧ okF f := by
  simp only [okB, okF, Bool.and_eq_true, decide_eq_true_eq]
  exact ⟨fun h => ⟨h.2.2.1, h.1, h.2.1, h.2.2.2⟩, fun h => ⟨h.2.1, h.2.2.1, h.1, h.2.2.2⟩⟩
/-- A record, from this tag on. -/
def riseL : Int → List S53 → Prop
  | _, [] => True
  | last, f :: l => last < f.f0 ∧ okF f ∧ riseL f.f0 l
theorem badAt_none : ∀ (l : List S53) (i last : Int), badAt i last l = none ↔ riseL last l
  | [], _, _ => by simp [badAt, riseL]
  | f :: l, i, last => by
    unfold badAt riseL
    by_cases h : okB last f = true
    · rw [if_pos h, badAt_none l]
      have := (okB_iff last f).1 h
      exact ⟨fun h2 => ⟨this.1, this.2, h2⟩, fun h2 => h2.2.2⟩
    · rw [if_neg h]
      refine ⟨fun h2 => (by cases h2), fun h2 => absurd ((okB_iff last f).2 ⟨h2.1, h2.2.1⟩) h⟩
theorem validV_kind {k n : Int} {s : ByteArray} (h : validV k n s = true) : 1 ≤ k ∧ k ≤ 5 := by
  unfold validV at h
  by_cases h1 : k = 1 ∨ k = 2
  · omega
  rw [if_neg h1] at h
  by_cases h3 : k = 3
  · omega
  rw [if_neg h3] at h
  by_cases h4 : k = 4
  · omega
  rw [if_neg h4] at h
  by_cases h5 : k = 5
  · omega
  rw [if_neg h5] at h
  cases h
theorem payL_range (k n : Int) (s : ByteArray) : ∀ b ∈ payL k n s, 0 ≤ b ∧ b < 256 := by
  unfold payL
  split
  · exact vput_range _
  · split
    · exact vput_range _
    · split
      · intro b hb
        rw [List.mem_singleton] at hb
        omega
      · exact bytesOf_range s
theorem payL_length (k n : Int) (s : ByteArray) (h0 : 0 ≤ n) (h1 : n < 18446744073709551616) (h2 : s.size ≤ 140737488351232) : (payL k n s).length ≤ 140737488351232 := by
  unfold payL
  split
  · have := vput_ten n.toNat (by omega); omega
  · split
    · have := zig_hi (wrap64 n) (w64_lo n) (w64_hi n)
      have := vput_ten (zig (wrap64 n)).toNat (by omega); omega
    · split
      · simp
      · rw [bytesOf_length]; omega
theorem encF_range (f : S53) : ∀ b ∈ encF f, 0 ≤ b ∧ b < 256 := by
  intro b hb
  unfold encF at hb
  rcases List.mem_append.1 hb with hb | hb
  · exact vput_range _ b hb
  · rcases List.mem_append.1 hb with hb | hb
    · exact vput_range _ b hb
    · exact payL_range _ _ _ b hb
theorem encL_range : ∀ (l : List S53), ∀ b ∈ encL l, 0 ≤ b ∧ b < 256
  | [], b, hb => by simp [encL] at hb
  | f :: l, b, hb => by
    unfold encL at hb
    rcases List.mem_append.1 hb with hb | hb
    · exact encF_range f b hb
    · exact encL_range l b hb
theorem key_hi {f : S53} (h : okF f) : (keyN f : Int) = 8 * f.f0 + f.f1.f0 ∧ keyN f < 1000000 := by
  have := validV_kind h.2.2
  have h1 := h.1
  have h2 := h.2.1
  unfold keyN
  omega
theorem encF_length (f : S53) (h : okF f) (hs : smallF f) : (encF f).length ≤ 140737488351300 := by
  have h1 := vput_ten (keyN f) (by have := key_hi h; omega)
  have h2 : (payF f).length ≤ 140737488351232 := payL_length _ _ _ hs.1 hs.2.1 hs.2.2
  have h3 := vput_ten (payF f).length (by omega)
  simp only [encF, List.length_append]
  omega
/-- The value of a kind and a payload. -/
def valueL (k : Int) (p : List Int) : Option (Int × ByteArray) :=
  if k = 1 ∨ k = 2 then (if (vtake 0 0 p).2.2 = 0 ∧ (vtake 0 0 p).2.1 = (p.length : Int) then some (if k = 2 then IntKind.u64.wrap (zag (vtake 0 0 p).1) else (vtake 0 0 p).1, ⟨#[]⟩) else none)
  else if k = 3 then (match p with | [b] => if b ≤ 1 then some (b, ⟨#[]⟩) else none | _ => none)
  else if validV k 0 (strOfNums p) = true then some (0, strOfNums p) else none
theorem vtake_whole (n : Nat) (h : n < 18446744073709551616) : vtake 0 0 (vput n) = ((n : Int), ((vput n).length : Int), 0) := by
  have := vtake_vput n 0 0 [] (.inl rfl) (by simpa using h)
  rw [List.append_nil] at this
  rw [this]
  simp
theorem empty_of {s : ByteArray} (h : s.toList.isEmpty = true) : s = ⟨#[]⟩ := by
  have h1 : s.toList = [] := by simpa using h
  have h2 := (toList_nil s).1 h1
  rw [← str_bytesOf s, h2]
  rfl
theorem valueL_payL (k n : Int) (s : ByteArray) (h0 : 0 ≤ n) (h1 : n < 18446744073709551616) (hv : validV k n s = true) : valueL k (payL k n s) = some (n, s) := by
  unfold valueL
  unfold validV at hv
  by_cases k1 : k = 1
  · subst k1
    rw [if_pos (.inl rfl)] at hv ⊢
    obtain ⟨m, rfl⟩ := Int.eq_ofNat_of_zero_le h0
    have e : payL 1 (m : Int) s = vput m := by unfold payL; rw [if_pos rfl, Int.toNat_natCast]
    rw [e, vtake_whole m (by omega), if_pos ⟨rfl, rfl⟩, if_neg (by omega), empty_of hv]
  by_cases k2 : k = 2
  · subst k2
    rw [if_pos (.inr rfl)] at hv ⊢
    have z0 := zig_lo (wrap64 n)
    have z1 := zig_hi (wrap64 n) (w64_lo n) (w64_hi n)
    obtain ⟨m, hm⟩ := Int.eq_ofNat_of_zero_le z0
    have e : payL 2 n s = vput m := by unfold payL; rw [if_neg (by omega), if_pos rfl, hm, Int.toNat_natCast]
    rw [e, vtake_whole m (by omega), if_pos ⟨rfl, rfl⟩, if_pos rfl, empty_of hv]
    rw [← hm, zag_zig, u64_w64 n h0 h1]
  have k12 : ¬ (k = 1 ∨ k = 2) := by omega
  rw [if_neg k12] at hv ⊢
  by_cases k3 : k = 3
  · subst k3
    rw [if_pos rfl] at hv ⊢
    simp only [Bool.and_eq_true, decide_eq_true_eq] at hv
    have e : payL 3 n s = [n] := by unfold payL; rw [if_neg (by omega), if_neg (by omega), if_pos rfl, show n % 256 = n by omega]
    rw [e]
    show (if n ≤ 1 then some (n, (⟨#[]⟩ : ByteArray)) else none) = _
    rw [if_pos hv.1, empty_of hv.2]
  have e : payL k n s = bytesOf s := by unfold payL; rw [if_neg k1, if_neg k2, if_neg k3]
  rw [if_neg k3, e, str_bytesOf]
  rw [if_neg k3] at hv
  have hn : n = 0 := by
    by_cases k4 : k = 4
    · rw [if_pos k4, Bool.and_eq_true] at hv
      simpa using hv.1
    · rw [if_neg k4] at hv
      by_cases k5 : k = 5
      · rw [if_pos k5] at hv
        simpa using hv
      · rw [if_neg k5] at hv
        cases hv
  subst hn
  rw [if_pos]
  unfold validV
  rw [if_neg (by omega), if_neg k3]
  exact hv
theorem validV_num {k n : Int} (h : k = 1 ∨ k = 2) : validV k n ⟨#[]⟩ = true := by
  unfold validV
  rw [if_pos h]
  simp [ByteArray.toList_eq]
theorem valueL_inv {k : Int} {p : List Int} {n : Int} {s : ByteArray} (hp : ∀ b ∈ p, 0 ≤ b ∧ b < 256) (h : valueL k p = some (n, s)) :
    validV k n s = true ∧ payL k n s = p ∧ 0 ≤ n ∧ n < 18446744073709551616 ∧ s.size ≤ p.length := by
  unfold valueL at h
  by_cases k12 : k = 1 ∨ k = 2
  · rw [if_pos k12] at h
    by_cases hc : (vtake 0 0 p).2.2 = 0 ∧ (vtake 0 0 p).2.1 = (p.length : Int)
    · rw [if_pos hc] at h
      obtain ⟨m, _, m1, m2, m3, rest, m4⟩ := vtake_inv p 0 0 (vtake 0 0 p).1 (vtake 0 0 p).2.1 hp (by omega) (by rw [← hc.1])
      have hl : p.length = (vput m).length := by rw [hc.2] at m3; omega
      have hrest : rest = [] := by
        have h2 := congrArg List.length m4
        rw [List.length_append] at h2
        exact List.length_eq_zero_iff.1 (by omega)
      rw [hrest, List.append_nil] at m4
      have m2 : (vtake 0 0 p).1 = (m : Int) := by rw [m2]; simp
      have m1 : m < 18446744073709551616 := by simpa using m1
      rw [m2] at h
      have h := Option.some.inj h
      obtain ⟨h1, h2⟩ := Prod.mk.inj h
      subst h2
      refine ⟨validV_num k12, ?_⟩
      unfold payL
      rcases k12 with rfl | rfl
      · rw [if_neg (by omega)] at h1
        subst h1
        rw [if_pos rfl, Int.toNat_natCast]
        exact ⟨m4.symm, by omega, by omega, by simp [ByteArray.size]⟩
      · rw [if_pos rfl] at h1
        subst h1
        rw [if_neg (by omega), if_pos rfl, w64_u64 _ (zag_lo _ (by omega) (by omega)) (zag_hi _ (by omega) (by omega)), zig_zag _ (by omega), Int.toNat_natCast]
        exact ⟨m4.symm, u64_lo _, u64_hi _, by simp [ByteArray.size]⟩
    · rw [if_neg hc] at h
      cases h
  rw [if_neg k12] at h
  by_cases k3 : k = 3
  · subst k3
    rw [if_pos rfl] at h
    rcases p with _ | ⟨b, _ | ⟨b2, p⟩⟩
    · cases h
    · have h : (if b ≤ 1 then some (b, (⟨#[]⟩ : ByteArray)) else none) = some (n, s) := h
      by_cases hb : b ≤ 1
      · rw [if_pos hb] at h
        have h := Option.some.inj h
        obtain ⟨h1, h2⟩ := Prod.mk.inj h
        subst h1 h2
        have hb2 := hp b (List.mem_singleton.2 rfl)
        have e : b % 256 = b := by omega
        refine ⟨?_, ?_, by omega, by omega, by simp [ByteArray.size]⟩
        · unfold validV
          rw [if_neg (by omega), if_pos rfl, decide_eq_true hb]
          simp [ByteArray.toList_eq]
        · unfold payL
          rw [if_neg (by omega), if_neg (by omega), if_pos rfl, e]
      · rw [if_neg hb] at h
        cases h
    · cases h
  rw [if_neg k3] at h
  by_cases hv : validV k 0 (strOfNums p) = true
  · rw [if_pos hv] at h
    have h := Option.some.inj h
    obtain ⟨h1, h2⟩ := Prod.mk.inj h
    subst h1 h2
    refine ⟨hv, ?_, by omega, by omega, by rw [strOfNums_size]; omega⟩
    unfold payL
    rw [if_neg (by omega), if_neg (by omega), if_neg k3, bytesOf_str p hp]
  · rw [if_neg hv] at h
    cases h
/-- The field at the front, and what is behind it. -/
def fieldL (last : Int) (b : List Int) : Option (S53 × List Int) :=
  let a := vtake 0 0 b
  if a.2.2 = 0 ∧ a.1 / 8 ≤ 65535 ∧ last < a.1 / 8 then
    let b1 := b.drop a.2.1.toNat
    let c := vtake 0 0 b1
    if c.2.2 = 0 ∧ c.1 ≤ (b1.length : Int) - c.2.1 then
      let b2 := b1.drop c.2.1.toNat
      match valueL (a.1 % 8) (b2.take c.1.toNat) with
      | some (n, s) => some (⟨a.1 / 8, ⟨a.1 % 8, n, s⟩⟩, b2.drop c.1.toNat)
      | none => none
    else none
  else none
def decL : Nat → Int → List Int → Option (List S53)
  | 0, _, b => if b = [] then some [] else none
  | m + 1, last, b => if b = [] then some [] else match fieldL last b with
    | some (f, rest) => (decL m f.f0 rest).map (f :: ·)
    | none => none
theorem fieldL_encF (f : S53) (last : Int) (rest : List Int) (hl : last < f.f0) (h : okF f) (hs : smallF f) : fieldL last (encF f ++ rest) = some (f, rest) := by
  obtain ⟨k1, k2⟩ := key_hi h
  have hk := validV_kind h.2.2
  have hp : (payF f).length ≤ 140737488351232 := payL_length _ _ _ hs.1 hs.2.1 hs.2.2
  have e1 : vtake 0 0 (encF f ++ rest) = ((keyN f : Int), ((vput (keyN f)).length : Int), 0) := by
    have := vtake_vput (keyN f) 0 0 (vput (payF f).length ++ payF f ++ rest) (.inl rfl) (by simp; omega)
    unfold encF
    rw [List.append_assoc, this]
    simp
  have e2 : (encF f ++ rest).drop (vput (keyN f)).length = vput (payF f).length ++ (payF f ++ rest) := by
    unfold encF
    rw [List.append_assoc, List.drop_left, List.append_assoc]
  have e3 : vtake 0 0 (vput (payF f).length ++ (payF f ++ rest)) = (((payF f).length : Int), ((vput (payF f).length).length : Int), 0) := by
    have := vtake_vput (payF f).length 0 0 (payF f ++ rest) (.inl rfl) (by simp; omega)
    rw [this]
    simp
  have q1 : (keyN f : Int) / 8 = f.f0 := by rw [k1]; omega
  have q2 : (keyN f : Int) % 8 = f.f1.f0 := by rw [k1]; omega
  unfold fieldL
  simp only [e1, Int.toNat_natCast, e2, e3, q1, q2]
  have h2 := h.2.1
  rw [if_pos ⟨trivial, h2, hl⟩, if_pos ⟨trivial, by simp only [List.length_append]; omega⟩, List.drop_left, List.take_left, List.drop_left]
  have hv : valueL f.f1.f0 (payF f) = some (f.f1.f1, f.f1.f2) := valueL_payL _ _ _ hs.1 hs.2.1 h.2.2
  rw [hv]
theorem encF_pos (f : S53) : 0 < (encF f).length := by
  have := vput_pos (keyN f)
  simp only [encF, List.length_append]
  omega
theorem decL_encL : ∀ (l : List S53) (m : Nat) (last : Int), riseL last l → (∀ f ∈ l, smallF f) → (encL l).length ≤ m → decL m last (encL l) = some l
  | [], m, last, _, _, _ => by cases m <;> rfl
  | f :: l, m, last, h, hs, hm => by
    obtain ⟨h1, h2, h3⟩ := h
    have hp := encF_pos f
    simp only [encL, List.length_append] at hm ⊢
    obtain ⟨m, rfl⟩ : ∃ m', m = m' + 1 := ⟨m - 1, by omega⟩
    have hne : encF f ++ encL l ≠ [] := by
      intro e
      have := congrArg List.length e
      rw [List.length_append, List.length_nil] at this
      omega
    simp only [decL]
    rw [if_neg hne, fieldL_encF f last _ h1 h2 (hs f List.mem_cons_self)]
    simp only
    rw [decL_encL l m f.f0 h3 (fun g hg => hs g (List.mem_cons_of_mem _ hg)) (by omega)]
    rfl
theorem fieldL_inv {last : Int} {b : List Int} {f : S53} {rest : List Int} (hb : ∀ x ∈ b, 0 ≤ x ∧ x < 256) (h0 : 0 ≤ last) (hl : b.length ≤ 140737488351232) (h : fieldL last b = some (f, rest)) :
    last < f.f0 ∧ okF f ∧ smallF f ∧ b = encF f ++ rest := by
  unfold fieldL at h
  simp only at h
  by_cases hc : (vtake 0 0 b).2.2 = 0 ∧ (vtake 0 0 b).1 / 8 ≤ 65535 ∧ last < (vtake 0 0 b).1 / 8
  · rw [if_pos hc] at h
    obtain ⟨n, _, n1, n2, n3, r1, n4⟩ := vtake_inv b 0 0 (vtake 0 0 b).1 (vtake 0 0 b).2.1 hb (by omega) (by rw [← hc.1])
    have n2 : (vtake 0 0 b).1 = (n : Int) := by rw [n2]; simp
    have n3 : (vtake 0 0 b).2.1 = ((vput n).length : Int) := by rw [n3]; simp
    have hd : b.drop (vput n).length = r1 := by rw [n4, List.drop_left]
    rw [n2, n3, Int.toNat_natCast, hd] at h
    rw [n2] at hc
    have hr1 : ∀ x ∈ r1, 0 ≤ x ∧ x < 256 := fun x hx => hb x (by rw [n4]; exact List.mem_append_right _ hx)
    by_cases hc2 : (vtake 0 0 r1).2.2 = 0 ∧ (vtake 0 0 r1).1 ≤ (r1.length : Int) - (vtake 0 0 r1).2.1
    · rw [if_pos hc2] at h
      obtain ⟨z, _, z1, z2, z3, r2, z4⟩ := vtake_inv r1 0 0 (vtake 0 0 r1).1 (vtake 0 0 r1).2.1 hr1 (by omega) (by rw [← hc2.1])
      have z2 : (vtake 0 0 r1).1 = (z : Int) := by rw [z2]; simp
      have z3 : (vtake 0 0 r1).2.1 = ((vput z).length : Int) := by rw [z3]; simp
      have hd2 : r1.drop (vput z).length = r2 := by rw [z4, List.drop_left]
      rw [z2, z3, Int.toNat_natCast, Int.toNat_natCast, hd2] at h
      rw [z2, z3] at hc2
      have hr2 : ∀ x ∈ r2, 0 ≤ x ∧ x < 256 := fun x hx => hr1 x (by rw [z4]; exact List.mem_append_right _ hx)
      have hlen : r1.length = (vput z).length + r2.length := by rw [z4, List.length_append]
      have hlen0 : b.length = (vput n).length + r1.length := by rw [n4, List.length_append]
      have hz : z ≤ r2.length := by omega
      have hpt : ∀ x ∈ r2.take z, 0 ≤ x ∧ x < 256 := fun x hx => hr2 x (List.mem_of_mem_take hx)
      cases hv : valueL ((n : Int) % 8) (r2.take z) with
      | none => rw [hv] at h; cases h
      | some ns =>
        obtain ⟨q, s⟩ := ns
        rw [hv] at h
        simp only [Option.some.injEq, Prod.mk.injEq] at h
        obtain ⟨rfl, rfl⟩ := h
        obtain ⟨v1, v2, v3, v4, v5⟩ := valueL_inv hpt hv
        have hk := validV_kind v1
        have hlt : (r2.take z).length = z := by rw [List.length_take]; omega
        refine ⟨hc.2.2, ⟨by show 1 ≤ (n : Int) / 8; omega, hc.2.1, v1⟩, ⟨v3, v4, by show s.size ≤ _; omega⟩, ?_⟩
        have hp : payF ⟨(n : Int) / 8, ⟨(n : Int) % 8, q, s⟩⟩ = r2.take z := v2
        unfold encF
        have hk2 : keyN ⟨(n : Int) / 8, ⟨(n : Int) % 8, q, s⟩⟩ = n := by
          unfold keyN
          show (8 * ((n : Int) / 8) + (n : Int) % 8).toNat = n
          omega
        rw [hp, hk2, hlt, List.append_assoc, List.append_assoc, List.take_append_drop, ← z4, ← n4]
    · rw [if_neg hc2] at h
      cases h
  · rw [if_neg hc] at h
    cases h
theorem decL_inv : ∀ (m : Nat) (last : Int) (b : List Int) (l : List S53), (∀ x ∈ b, 0 ≤ x ∧ x < 256) → 0 ≤ last → b.length ≤ 140737488351232 → decL m last b = some l → riseL last l ∧ (∀ f ∈ l, smallF f) ∧ encL l = b
  | 0, last, b, l, _, _, _, h => by
    simp only [decL] at h
    by_cases hb : b = []
    · rw [if_pos hb] at h
      obtain rfl := Option.some.inj h
      exact ⟨trivial, by simp, hb.symm⟩
    · rw [if_neg hb] at h
      cases h
  | m + 1, last, b, l, hr, h0, hl, h => by
    simp only [decL] at h
    by_cases hb : b = []
    · rw [if_pos hb] at h
      obtain rfl := Option.some.inj h
      exact ⟨trivial, by simp, hb.symm⟩
    · rw [if_neg hb] at h
      cases hf : fieldL last b with
      | none => rw [hf] at h; cases h
      | some fr =>
        obtain ⟨f, rest⟩ := fr
        rw [hf] at h
        simp only [Option.map_eq_some_iff] at h
        obtain ⟨l', hl', rfl⟩ := h
        obtain ⟨f1, f2, f3, f4⟩ := fieldL_inv hr h0 hl hf
        have := f2.1
        obtain ⟨g1, g2, g3⟩ := decL_inv m f.f0 rest l' (fun x hx => hr x (by rw [f4]; exact List.mem_append_right _ hx)) (by omega) (by rw [f4, List.length_append] at hl; omega) hl'
        refine ⟨⟨f1, f2, g1⟩, fun g hg => ?_, by rw [encL, g3, f4]⟩
        rcases List.mem_cons.1 hg with rfl | hg
        · exact f3
        · exact g2 g hg
end Go.Proofs.Yteejpfemaedmkaa.Plain
