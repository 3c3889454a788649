import Derived.Test.YteejpfemaedmkaaQG2X5
namespace Go.Proofs.Yteejpfemaedmkaa.Plain
set_option linter.unusedSimpArgs false
set_option linter.unusedVariables false
open Go.RowKit Go.Proofs.Yteejpfemaedmkaa.X Go.Proofs.YteejpfemaedmkaaW.PrintWords Go.Proofs.YteejpfemaedmkaaW.PrintLast
theorem bytesOf_extract (s : ByteArray) (i j : Nat) : bytesOf (s.extract i j) = ((bytesOf s).take j).drop i := by
  simp only [bytesOf, ByteArray.data_extract, Array.toList_extract, List.extract_eq_take_drop, List.map_take, List.map_drop]
  rw [List.drop_take]
theorem bytesOf_range (s : ByteArray) : ∀ b ∈ bytesOf s, 0 ≤ b ∧ b < 256 := by
  intro b hb
  obtain ⟨x, _, rfl⟩ := List.mem_map.1 hb
  have := x.toNat_lt
  omega
theorem bytesOf_toList (s : ByteArray) : bytesOf s = s.toList.map fun b => (b.toNat : Int) := by rw [ByteArray.toList_eq]; rfl
theorem toList_nil (s : ByteArray) : s.toList = [] ↔ bytesOf s = [] := by
  rw [bytesOf_toList, List.map_eq_nil_iff]
theorem toList_inj (s t : ByteArray) : s.toList = t.toList ↔ bytesOf s = bytesOf t := by
  rw [bytesOf_toList, bytesOf_toList]
  refine ⟨fun h => by rw [h], fun h => ?_⟩
  exact (List.map_inj_right (fun a b hab => UInt8.toNat_inj.1 (Int.ofNat_inj.1 hab))).1 h
theorem bt_list (s : ByteArray) (i : Nat) : bt s i = (bytesOf s).getD i 0 := by
  rw [← rd_bytesOf]
  rfl
theorem w64_small (x : Int) (h0 : -9223372036854775808 ≤ x) (h : x < 9223372036854775808) : wrap64 x = x := by
  unfold wrap64
  omega
def more1 (c : Option Int) (b : Int) : Option Int := c.bind fun c => if 128 ≤ b ∧ b < 192 then some (c * 64 + (b - 128)) else none
def end1 (n least : Int) : Option Int → Int × Int
  | none => (-1, 1)
  | some c => if least ≤ c ∧ c ≤ 1114111 ∧ ¬ (55296 ≤ c ∧ c ≤ 57343) then (c, n) else (-1, 1)
def nextL : List Int → Int × Int
  | [] => (-1, 0)
  | b0 :: t =>
    if b0 < 128 then (b0, 1)
    else if 192 ≤ b0 ∧ b0 < 224 then (match t with | b1 :: _ => end1 2 128 (more1 (some (b0 - 192)) b1) | _ => (-1, 1))
    else if 224 ≤ b0 ∧ b0 < 240 then (match t with | b1 :: b2 :: _ => end1 3 2048 (more1 (more1 (some (b0 - 224)) b1) b2) | _ => (-1, 1))
    else if 240 ≤ b0 ∧ b0 < 248 then (match t with | b1 :: b2 :: b3 :: _ => end1 4 65536 (more1 (more1 (more1 (some (b0 - 240)) b1) b2) b3) | _ => (-1, 1))
    else (-1, 1)
theorem end1_le (n least : Int) (c : Option Int) (hn : 1 ≤ n) (h : 0 ≤ (end1 n least c).1) : (end1 n least c).2 = n := by
  cases c with
  | none => simp [end1] at h
  | some c =>
    simp only [end1] at h ⊢
    split at h <;> simp_all
theorem nextL_le (b0 : Int) (t : List Int) (h : 0 ≤ (nextL (b0 :: t)).1) : 1 ≤ (nextL (b0 :: t)).2 ∧ (nextL (b0 :: t)).2 ≤ ((b0 :: t).length : Int) := by
  simp only [nextL] at h ⊢
  split at h
  · rename_i c1
    rw [if_pos c1]
    simp only [List.length_cons]
    omega
  · rename_i c1
    rw [if_neg c1]
    split at h
    · rename_i c2
      rw [if_pos c2]
      rcases t with _ | ⟨b1, t⟩
      · simp at h
      · have := end1_le 2 128 (more1 (some (b0 - 192)) b1) (by omega) h
        simp only [this, List.length_cons]
        omega
    · rename_i c2
      rw [if_neg c2]
      split at h
      · rename_i c3
        rw [if_pos c3]
        rcases t with _ | ⟨b1, _ | ⟨b2, t⟩⟩
        · simp at h
        · simp at h
        · have := end1_le 3 2048 (more1 (more1 (some (b0 - 224)) b1) b2) (by omega) h
          simp only [this, List.length_cons]
          omega
      · rename_i c3
        rw [if_neg c3]
        split at h
        · rename_i c4
          rw [if_pos c4]
          rcases t with _ | ⟨b1, _ | ⟨b2, _ | ⟨b3, t⟩⟩⟩
          · simp at h
          · simp at h
          · simp at h
          · have := end1_le 4 65536 (more1 (more1 (more1 (some (b0 - 240)) b1) b2) b3) (by omega) h
            simp only [this, List.length_cons]
            omega
        · simp at h
theorem byte_bits : ∀ b : Fin 256, ((Go.bits .and .u8 (b.val : Int) 192 = 128) ↔ (128 ≤ b.val ∧ b.val < 192)) ∧ Go.bits .and .u8 (b.val : Int) 63 = (b.val % 64 : Nat) ∧ ((Go.bits .and .i64 (b.val : Int) 224 = 192) ↔ (192 ≤ b.val ∧ b.val < 224)) ∧
    ((Go.bits .and .i64 (b.val : Int) 240 = 224) ↔ (224 ≤ b.val ∧ b.val < 240)) ∧ ((Go.bits .and .i64 (b.val : Int) 248 = 240) ↔ (240 ≤ b.val ∧ b.val < 248)) ∧ Go.bits .and .i64 (b.val : Int) 31 = (b.val % 32 : Nat) ∧ Go.bits .and .i64 (b.val : Int) 15 = (b.val % 16 : Nat) ∧ Go.bits .and .i64 (b.val : Int) 7 = (b.val % 8 : Nat) := by
  decide +kernel
theorem byte_bits' (b : Int) (h0 : 0 ≤ b) (h1 : b < 256) : ((Go.bits .and .u8 b 192 = 128) ↔ (128 ≤ b ∧ b < 192)) ∧ Go.bits .and .u8 b 63 = b % 64 ∧ ((Go.bits .and .i64 b 224 = 192) ↔ (192 ≤ b ∧ b < 224)) ∧
    ((Go.bits .and .i64 b 240 = 224) ↔ (224 ≤ b ∧ b < 240)) ∧ ((Go.bits .and .i64 b 248 = 240) ↔ (240 ≤ b ∧ b < 248)) ∧ Go.bits .and .i64 b 31 = b % 32 ∧ Go.bits .and .i64 b 15 = b % 16 ∧ Go.bits .and .i64 b 7 = b % 8 := by
  obtain ⟨n, rfl⟩ := Int.eq_ofNat_of_zero_le h0
  have h := byte_bits ⟨n, by omega⟩
  simp only at h
  obtain ⟨a1, a2, a3, a4, a5, a6, a7, a8⟩ := h
  refine ⟨a1.trans ⟨fun h => by omega, fun h => by omega⟩, a2.trans (by simp), a3.trans ⟨fun h => by omega, fun h => by omega⟩, a4.trans ⟨fun h => by omega, fun h => by omega⟩, a5.trans ⟨fun h => by omega, fun h => by omega⟩, a6.trans (by simp), a7.trans (by simp), a8.trans (by simp)⟩
theorem or_six (c x : Int) (h0 : 0 ≤ c) (h1 : c < 1048576) (x0 : 0 ≤ x) (x1 : x < 64) : Go.bits .or .i64 (wrap64 (c * 64)) (wrap64 x) = c * 64 + x := by
  rw [w64_small _ (by omega) (by omega), w64_small _ (by omega) (by omega)]
  obtain ⟨n, rfl⟩ := Int.eq_ofNat_of_zero_le h0
  obtain ⟨m, rfl⟩ := Int.eq_ofNat_of_zero_le x0
  have hk : ∀ q : Int, 0 ≤ q → q < 2 ^ 40 → IntKind.i64.wrap q = q := fun q a b => by
    rw [IntKind.wrap_i64]
    omega
  have h := (bits_nat .i64 40 (by decide) hk (n * 64) m (by omega) (by omega)).2
  rw [show ((n : Int) * 64) = ((n * 64 : Nat) : Int) by omega, h]
  have h2 : n * 64 ||| m = n * 64 + m := by
    have := Nat.two_pow_add_eq_or_of_lt (i := 6) (b := m) (by omega) n
    rw [Nat.mul_comm n 64]
    exact this.symm
  rw [h2]
  omega
theorem next_step (k : Nat) (n c least : Int) (l : List Int) (len : Int) (i : Nat) (b : Int) (hi : l[i]? = some b) (hb : 0 ≤ b ∧ b < 256) (hlen : len = l.length) (hl : l.length < 4) (hc : 0 ≤ c ∧ c < 1048576) :
    utf_Next.l0 (k + 1) n c least l len i = if 128 ≤ b ∧ b < 192 then utf_Next.l0 k n (c * 64 + (b - 128)) least l len (i + 1 : Nat) else some (-1, 1) := by
  have hil : i < l.length := (List.getElem?_eq_some_iff.1 hi).1
  have hrd : rd l (i : Int) = b := by
    simp only [rd, Int.toNat_natCast, List.getD_eq_getElem?_getD, hi, Option.getD_some]
  subst hlen
  simp only [utf_Next.l0]
  obtain ⟨a1, a2, _⟩ := byte_bits' b hb.1 hb.2
  rw [if_pos (by omega), if_pos (by omega), if_pos (by omega), hrd]
  by_cases h : 128 ≤ b ∧ b < 192
  · rw [if_pos (a1.2 h), if_pos h, a2, or_six c (b % 64) hc.1 hc.2 (by omega) (by omega), w64_small _ (by omega) (by omega)]
    rw [show b % 64 = b - 128 by omega]
    rfl
  · rw [if_neg (fun h' => h (a1.1 h')), if_neg h]
theorem next_end (k : Nat) (n c least : Int) (l : List Int) (len : Int) (hlen : len = l.length) (hc : 0 ≤ c) (hleast : 0 ≤ least) : utf_Next.l0 (k + 1) n c least l len (l.length : Int) = some (end1 n least (some c)) := by
  subst hlen
  simp only [utf_Next.l0]
  rw [if_neg (by omega)]
  simp only [end1, utf_character.f]
  by_cases h1 : c < least
  · rw [if_pos h1, if_neg (by omega)]
  · rw [if_neg h1, if_pos (by omega)]
    by_cases h2 : c ≤ 1114111
    · rw [if_pos h2]
      by_cases h3 : c < 55296
      · rw [if_pos h3, Option.bind_some, if_pos rfl, if_pos ⟨by omega, h2, by omega⟩]
      · rw [if_neg h3, Option.bind_some]
        by_cases h4 : c > 57343
        · rw [if_pos (by simpa using h4), if_pos ⟨by omega, h2, by omega⟩]
        · rw [if_neg (by simpa using h4), if_neg (by omega)]
    · rw [if_neg h2, Option.bind_some, if_neg (by simp), if_neg (by omega)]
theorem next_one (k : Nat) (n c least b : Int) (hb : 0 ≤ b ∧ b < 256) (hc : 0 ≤ c ∧ c < 1048576) (hleast : 0 ≤ least) : utf_Next.l0 (k + 2) n c least [b] 1 0 = some (end1 n least (more1 (some c) b)) := by
  have h := next_step (k + 1) n c least [b] 1 0 b rfl hb rfl (by simp) hc
  rw [show ((0 : Nat) : Int) = 0 from rfl] at h
  rw [h]
  simp only [more1, Option.bind_some]
  by_cases hq : 128 ≤ b ∧ b < 192
  · rw [if_pos hq, if_pos hq]
    exact next_end k n _ least [b] 1 rfl (by omega) hleast
  · rw [if_neg hq, if_neg hq]
    rfl
theorem next_two (k : Nat) (n c least b d : Int) (hb : 0 ≤ b ∧ b < 256) (hd : 0 ≤ d ∧ d < 256) (hc : 0 ≤ c ∧ c < 16384) (hleast : 0 ≤ least) : utf_Next.l0 (k + 3) n c least [b, d] 2 0 = some (end1 n least (more1 (more1 (some c) b) d)) := by
  have h := next_step (k + 2) n c least [b, d] 2 0 b rfl hb rfl (by simp) (by omega)
  rw [show ((0 : Nat) : Int) = 0 from rfl] at h
  rw [h]
  simp only [more1, Option.bind_some]
  by_cases hq : 128 ≤ b ∧ b < 192
  · rw [if_pos hq, if_pos hq]
    have h := next_step (k + 1) n (c * 64 + (b - 128)) least [b, d] 2 1 d rfl hd rfl (by simp) (by omega)
    rw [Nat.zero_add, h, Option.bind_some]
    by_cases hr : 128 ≤ d ∧ d < 192
    · rw [if_pos hr, if_pos hr]
      exact next_end k n _ least [b, d] 2 rfl (by omega) hleast
    · rw [if_neg hr, if_neg hr]
      rfl
  · rw [if_neg hq, if_neg hq]
    rfl
theorem next_three (k : Nat) (n c least b d e : Int) (hb : 0 ≤ b ∧ b < 256) (hd : 0 ≤ d ∧ d < 256) (he : 0 ≤ e ∧ e < 256) (hc : 0 ≤ c ∧ c < 128) (hleast : 0 ≤ least) : utf_Next.l0 (k + 4) n c least [b, d, e] 3 0 = some (end1 n least (more1 (more1 (more1 (some c) b) d) e)) := by
  have h := next_step (k + 3) n c least [b, d, e] 3 0 b rfl hb rfl (by simp) (by omega)
  rw [show ((0 : Nat) : Int) = 0 from rfl] at h
  rw [h]
  simp only [more1, Option.bind_some]
  by_cases hq : 128 ≤ b ∧ b < 192
  · rw [if_pos hq, if_pos hq]
    have h := next_step (k + 2) n (c * 64 + (b - 128)) least [b, d, e] 3 1 d rfl hd rfl (by simp) (by omega)
    rw [Nat.zero_add, h, Option.bind_some]
    by_cases hr : 128 ≤ d ∧ d < 192
    · rw [if_pos hr, if_pos hr]
      have h := next_step (k + 1) n ((c * 64 + (b - 128)) * 64 + (d - 128)) least [b, d, e] 3 2 e rfl he rfl (by simp) (by omega)
      rw [h, Option.bind_some]
      by_cases hs : 128 ≤ e ∧ e < 192
      · rw [if_pos hs, if_pos hs]
        exact next_end k n _ least [b, d, e] 3 rfl (by omega) hleast
      · rw [if_neg hs, if_neg hs]
        rfl
    · rw [if_neg hr, if_neg hr]
      rfl
  · rw [if_neg hq, if_neg hq]
    rfl
theorem size_bytes (s : ByteArray) : s.size = (bytesOf s).length := (bytesOf_length s).symm
theorem next_is (k : Nat) (s : ByteArray) (hk : 6 ≤ k) : utf_Next.f k s = some (nextL (bytesOf s)) := by
  obtain ⟨k, rfl⟩ : ∃ m, k = m + 6 := ⟨k - 6, by omega⟩
  unfold utf_Next.f
  have hr := bytesOf_range s
  have hn := toList_nil s
  have hsz := size_bytes s
  have hb0 : bt s 0 = (bytesOf s).getD 0 0 := bt_list s 0
  have hx : ∀ j, bytesOf (s.extract 1 j) = ((bytesOf s).take j).drop 1 := fun j => bytesOf_extract s 1 j
  have hxs : ∀ j, (s.extract 1 j).size ≤ s.size := fun j => by rw [ByteArray.size_extract]; omega
  generalize hL : bytesOf s = L at hr hn hsz hb0 hx
  rcases L with _ | ⟨b0, t⟩
  · rw [if_pos (hn.2 rfl)]
    rfl
  · rw [if_neg (fun h => by simpa using hn.1 h), if_pos (by rw [hsz]; simp)]
    have r0 := hr b0 (by simp)
    simp only [List.getD_cons_zero] at hb0
    rw [hb0, w64_small b0 (by omega) (by omega)]
    obtain ⟨_, _, a3, a4, a5, a6, a7, a8⟩ := byte_bits' b0 r0.1 r0.2
    simp only [nextL]
    by_cases c1 : b0 < 128
    · rw [if_pos c1, if_pos c1]
    · rw [if_neg c1, if_neg c1]
      by_cases c2 : 192 ≤ b0 ∧ b0 < 224
      · rw [if_pos (a3.2 c2), if_pos c2, a6]
        simp only [utf_Next.j0]
        rcases t with _ | ⟨b1, t⟩
        · rw [if_pos (by rw [hsz]; simp)]
        · have r1 := hr b1 (by simp)
          rw [if_neg (by rw [hsz]; simp; omega), if_pos (by omega), if_pos (by rw [hsz]; simp; omega), if_pos (by have := hxs (2 : Int).toNat; have h9 : (s.extract 1 (2 : Int).toNat).size ≤ 1 := by { rw [ByteArray.size_extract]; simp; omega }; omega), hx]
          simp only [Int.reduceToNat, List.take_succ_cons, List.take_zero, List.drop_succ_cons, List.drop_zero, Option.bind_some, List.length_cons, List.length_nil]
          have := next_one (k + 3) 2 (b0 % 32) 128 b1 r1 (by omega) (by omega)
          rw [show b0 % 32 = b0 - 192 by omega] at this ⊢
          exact this
      · rw [if_neg (fun h => c2 (a3.1 h)), if_neg c2]
        by_cases c3 : 224 ≤ b0 ∧ b0 < 240
        · rw [if_pos (a4.2 c3), if_pos c3, a7]
          simp only [utf_Next.j0]
          rcases t with _ | ⟨b1, _ | ⟨b2, t⟩⟩
          · rw [if_pos (by rw [hsz]; simp)]
          · rw [if_pos (by rw [hsz]; simp)]
          · have r1 := hr b1 (by simp)
            have r2 := hr b2 (by simp)
            rw [if_neg (by rw [hsz]; simp; omega), if_pos (by omega), if_pos (by rw [hsz]; simp; omega), if_pos (by have h9 : (s.extract 1 (3 : Int).toNat).size ≤ 2 := by { rw [ByteArray.size_extract]; simp; omega }; omega), hx]
            simp only [Int.reduceToNat, List.take_succ_cons, List.take_zero, List.drop_succ_cons, List.drop_zero, Option.bind_some, List.length_cons, List.length_nil]
            have := next_two (k + 2) 3 (b0 % 16) 2048 b1 b2 r1 r2 (by omega) (by omega)
            rw [show b0 % 16 = b0 - 224 by omega] at this ⊢
            exact this
        · rw [if_neg (fun h => c3 (a4.1 h)), if_neg c3]
          by_cases c4 : 240 ≤ b0 ∧ b0 < 248
          · rw [if_pos (a5.2 c4), if_pos c4, a8]
            simp only [utf_Next.j0]
            rcases t with _ | ⟨b1, _ | ⟨b2, _ | ⟨b3, t⟩⟩⟩
            · rw [if_pos (by rw [hsz]; simp)]
            · rw [if_pos (by rw [hsz]; simp)]
            · rw [if_pos (by rw [hsz]; simp)]
            · have r1 := hr b1 (by simp)
              have r2 := hr b2 (by simp)
              have r3 := hr b3 (by simp)
              rw [if_neg (by rw [hsz]; simp; omega), if_pos (by omega), if_pos (by rw [hsz]; simp; omega), if_pos (by have h9 : (s.extract 1 (4 : Int).toNat).size ≤ 3 := by { rw [ByteArray.size_extract]; simp; omega }; omega), hx]
              simp only [Int.reduceToNat, List.take_succ_cons, List.take_zero, List.drop_succ_cons, List.drop_zero, Option.bind_some, List.length_cons, List.length_nil]
              have := next_three (k + 1) 4 (b0 % 8) 65536 b1 b2 b3 r1 r2 r3 (by omega) (by omega)
              rw [show b0 % 8 = b0 - 240 by omega] at this ⊢
              exact this
          · rw [if_neg (fun h => c4 (a5.1 h)), if_neg c4]
def faultN : Nat → List Int → Int → Int
  | 0, _, i => i
  | _ + 1, [], i => i
  | n + 1, b :: t, i => if (nextL (b :: t)).1 < 0 then i else faultN n ((b :: t).drop (nextL (b :: t)).2.toNat) (i + (nextL (b :: t)).2)
theorem fault_loop (s : ByteArray) (hs : s.size ≤ 140737488351232) (d : Nat) : ∀ (k : Nat) (i : Nat), i ≤ s.size → s.size - i ≤ d → d + 7 < k → utf_Fault.l0 k s i = some (faultN d ((bytesOf s).drop i) i) := by
  induction d with
  | zero =>
    intro k i hi hd hk
    obtain ⟨k, rfl⟩ : ∃ m, k = m + 1 := ⟨k - 1, by omega⟩
    simp only [utf_Fault.l0, faultN]
    rw [if_neg (by omega)]
  | succ d ih =>
    intro k i hi hd hk
    obtain ⟨k, rfl⟩ : ∃ m, k = m + 1 := ⟨k - 1, by omega⟩
    simp only [utf_Fault.l0]
    have hsz := size_bytes s
    by_cases hlt : i < s.size
    · rw [if_pos (by omega), if_pos (by omega), if_pos (by omega), next_is k _ (by omega), Option.bind_some, bytesOf_extract, Int.toNat_natCast, hsz, List.take_length]
      obtain ⟨b, t, ht⟩ : ∃ b t, (bytesOf s).drop i = b :: t := by
        have : ((bytesOf s).drop i).length ≠ 0 := by rw [List.length_drop]; omega
        rcases h : (bytesOf s).drop i with _ | ⟨b, t⟩
        · rw [h] at this; simp at this
        · exact ⟨b, t, rfl⟩
      rw [ht]
      simp only [faultN]
      by_cases hc : (nextL (b :: t)).1 < 0
      · rw [if_pos hc, if_pos hc]
      · rw [if_neg hc, if_neg hc]
        have hle := nextL_le b t (by omega)
        have hlen : ((b :: t).length : Int) = (s.size : Int) - i := by rw [← ht, List.length_drop, ← hsz]; omega
        obtain ⟨n, hn⟩ := Int.eq_ofNat_of_zero_le (show 0 ≤ (nextL (b :: t)).2 by omega)
        rw [hn] at hle ⊢
        rw [w64_small _ (by omega) (by omega), ← Int.natCast_add]
        have := ih k (i + n) (by omega) (by omega) (by omega)
        rw [this, ← ht, List.drop_drop, Int.toNat_natCast]
    · rw [if_neg (by omega), List.drop_eq_nil_of_le (by omega)]
      rfl
theorem fault_is (s : ByteArray) (hs : s.size ≤ 140737488351232) (k : Nat) (hk : s.size + 8 ≤ k) : utf_Fault.f k s = some (faultN s.size (bytesOf s) 0) :=
  fault_loop s hs s.size k 0 (by omega) (by omega) (by omega)
def validB (s : ByteArray) : Bool := faultN s.size (bytesOf s) 0 == s.size
theorem valid_is (s : ByteArray) (hs : s.size ≤ 140737488351232) (k : Nat) (hk : s.size + 8 ≤ k) : utf_Valid.f k s = some (validB s) := by
  simp only [utf_Valid.f, fault_is s hs k hk, Option.bind_some]
  rfl
end Go.Proofs.Yteejpfemaedmkaa.Plain
