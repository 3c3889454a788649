import Derived.Test.YteejpfemaedmkaaQG2X15
import Derived.Test.YteejpfemaedmkaaQG2PlainUtf
namespace Go.Proofs.Yteejpfemaedmkaa.Plain
set_option linter.unusedSimpArgs false
set_option linter.unusedVariables false
open Go.RowKit Go.Proofs.Yteejpfemaedmkaa.X Go.Proofs.YteejpfemaedmkaaW.PrintWords Go.Proofs.YteejpfemaedmkaaW.PrintLast
theorem bytesOf_strOfNums (l : List Int) (h : ∀ x ∈ l, 0 ≤ x ∧ x < 256) : bytesOf (strOfNums l) = l := by
  unfold bytesOf
  rw [strOfNums_data, List.map_map]
  conv => rhs; rw [← List.map_id l]
  refine List.map_congr_left fun x hx => ?_
  have := h x hx
  simp only [Function.comp_apply, UInt8.toNat_ofNat', id_eq]
  omega
/-- The bytes of a character; none if it is none. -/
def putL (c : Int) : List Int :=
  if c < 0 ∨ c > 1114111 ∨ (55296 ≤ c ∧ c ≤ 57343) then [] else if c < 128 then [c] else if c < 2048 then [192 + c / 64, 128 + c % 64]
  else if c < 65536 then [224 + c / 4096, 128 + c / 64 % 64, 128 + c % 64] else [240 + c / 262144, 128 + c / 4096 % 64, 128 + c / 64 % 64, 128 + c % 64]
theorem put_is (k : Nat) (c : Int) (hc : c < 4611686018427387904) : ∃ p, stratumref03_Put.f (k + 1) c = some p ∧ bytesOf p = putL c := by
  have hput : ∀ b, stratumref03_Put.f (k + 1) c = stratumref03_Put.j0 (k + 1) c b → b = decide (c < 0 ∨ c > 1114111 ∨ (55296 ≤ c ∧ c ≤ 57343)) → ∃ p, stratumref03_Put.f (k + 1) c = some p ∧ bytesOf p = putL c := by
    intro b h hb
    rw [h]
    simp only [stratumref03_Put.j0, putL]
    by_cases bad : c < 0 ∨ c > 1114111 ∨ (55296 ≤ c ∧ c ≤ 57343)
    · rw [if_pos (by rw [hb]; exact decide_eq_true bad), if_pos bad]
      exact ⟨_, rfl, rfl⟩
    · rw [if_neg (by rw [hb]; simpa using bad), if_neg bad]
      have td : ∀ d : Int, Int.tdiv c d = c / d := fun d => Int.tdiv_eq_ediv_of_nonneg (by omega)
      have tm : ∀ d : Int, Int.tmod c d = c % d := fun d => Int.tmod_eq_emod_of_nonneg (by omega)
      have tm2 : ∀ d : Int, Int.tmod (c / 64) d = c / 64 % d := fun d => Int.tmod_eq_emod_of_nonneg (by omega)
      have tm3 : ∀ d : Int, Int.tmod (c / 4096) d = c / 4096 % d := fun d => Int.tmod_eq_emod_of_nonneg (by omega)
      by_cases c1 : c < 128
      · rw [if_pos c1, if_pos c1]
        refine ⟨_, rfl, ?_⟩
        rw [bytesOf_strOfNums _ (by simp; omega)]
        rw [show c % 256 = c by omega]
      · rw [if_neg c1, if_neg c1]
        by_cases c2 : c < 2048
        · rw [if_pos c2, if_pos c2]
          refine ⟨_, rfl, ?_⟩
          rw [td, tm, w64_small (c / 64) (by omega) (by omega), w64_small (192 + c / 64) (by omega) (by omega), w64_small (128 + c % 64) (by omega) (by omega)]
          rw [bytesOf_strOfNums _ (by simp; omega)]
          rw [show (192 + c / 64) % 256 = 192 + c / 64 by omega, show (128 + c % 64) % 256 = 128 + c % 64 by omega]
        · rw [if_neg c2, if_neg c2]
          by_cases c3 : c < 65536
          · rw [if_pos c3, if_pos c3]
            refine ⟨_, rfl, ?_⟩
            rw [td, td, tm, w64_small (c / 4096) (by omega) (by omega), w64_small (c / 64) (by omega) (by omega), tm2, w64_small (224 + c / 4096) (by omega) (by omega), w64_small (128 + c / 64 % 64) (by omega) (by omega), w64_small (128 + c % 64) (by omega) (by omega)]
            rw [bytesOf_strOfNums _ (by simp; omega)]
            rw [show (224 + c / 4096) % 256 = 224 + c / 4096 by omega, show (128 + c / 64 % 64) % 256 = 128 + c / 64 % 64 by omega, show (128 + c % 64) % 256 = 128 + c % 64 by omega]
          · rw [if_neg c3, if_neg c3]
            refine ⟨_, rfl, ?_⟩
            rw [td, td, td, tm, w64_small (c / 262144) (by omega) (by omega), w64_small (c / 4096) (by omega) (by omega), w64_small (c / 64) (by omega) (by omega), tm2, tm3, w64_small (240 + c / 262144) (by omega) (by omega), w64_small (128 + c / 4096 % 64) (by omega) (by omega), w64_small (128 + c / 64 % 64) (by omega) (by omega), w64_small (128 + c % 64) (by omega) (by omega)]
            rw [bytesOf_strOfNums _ (by simp; omega)]
            rw [show (240 + c / 262144) % 256 = 240 + c / 262144 by omega, show (128 + c / 4096 % 64) % 256 = 128 + c / 4096 % 64 by omega, show (128 + c / 64 % 64) % 256 = 128 + c / 64 % 64 by omega, show (128 + c % 64) % 256 = 128 + c % 64 by omega]
  by_cases h1 : c < 0
  · exact hput true (by unfold stratumref03_Put.f; rw [if_pos h1]) (decide_eq_true (.inl h1)).symm
  by_cases h2 : c > 1114111
  · exact hput true (by unfold stratumref03_Put.f; rw [if_neg h1, if_pos h2]) (decide_eq_true (.inr (.inl h2))).symm
  by_cases h3 : c ≥ 55296
  · refine hput (decide (c ≤ 57343)) (by unfold stratumref03_Put.f; rw [if_neg h1, if_neg h2, if_pos h3]) ?_
    by_cases h4 : c ≤ 57343
    · rw [decide_eq_true h4, decide_eq_true (.inr (.inr ⟨h3, h4⟩))]
    · rw [decide_eq_false h4, decide_eq_false (by omega)]
  · exact hput false (by unfold stratumref03_Put.f; rw [if_neg h1, if_neg h2, if_neg h3]) (decide_eq_false (by omega)).symm
/-- How the reference closes. -/
def fin (s p : ByteArray) (c : Int) : Option (Int × Int) := (if p.toList = ([] : List UInt8) then (some ((-1), 1)) else (if (p.size : Int) > (s.size : Int) then (some ((-1), 1)) else (if 0 ≤ (p.size : Int) then (if (p.size : Int) ≤ (s.size : Int) then (if (s.extract 0 p.size).toList = p.toList then (some (c, (p.size : Int))) else (some ((-1), 1))) else (none)) else (none))))
def finL (L : List Int) (c : Int) (P : List Int) : Int × Int := if P = [] then (-1, 1) else if P.length ≤ L.length ∧ L.take P.length = P then (c, P.length) else (-1, 1)
theorem fin_is (s p : ByteArray) (c : Int) : fin s p c = some (finL (bytesOf s) c (bytesOf p)) := by
  unfold fin finL
  have hp := toList_nil p
  have h1 := size_bytes s
  have h2 := size_bytes p
  have h3 := toList_inj (s.extract 0 p.size) p
  rw [bytesOf_extract, List.drop_zero, h2] at h3
  by_cases e : p.toList = []
  · rw [if_pos e, if_pos (hp.1 e)]
  · rw [if_neg e, if_neg (fun h => e (hp.2 h))]
    by_cases e1 : (p.size : Int) > s.size
    · rw [if_pos e1, if_neg (by omega)]
    · rw [if_neg e1, if_pos (by omega), if_pos (by omega)]
      rw [h2]
      by_cases e2 : (s.extract 0 (bytesOf p).length).toList = p.toList
      · rw [if_pos e2, if_pos ⟨by omega, h3.1 e2⟩]
      · rw [if_neg e2, if_neg (fun h => e2 (h3.2 h.2))]
def moreV (c : Int) (o : Option Int) : Int := if c < 0 then -1 else match o with
  | none => -1
  | some b => if 128 ≤ b ∧ b < 192 then c * 64 + (b - 128) else -1
theorem more_is (c : Int) (s : ByteArray) (i : Nat) (hc : c < 1099511627776) : stratumref03_more.f c s i = some (moreV c (bytesOf s)[i]?) := by
  unfold stratumref03_more.f moreV
  have h1 := size_bytes s
  by_cases e : c < 0
  · rw [if_pos e, if_pos e]
  · rw [if_neg e, if_neg e]
    by_cases e1 : i < (bytesOf s).length
    · rw [if_neg (by omega), if_pos (by omega), if_pos (by omega), bt_list, List.getD_eq_getElem?_getD, List.getElem?_eq_getElem e1, Option.getD_some]
      have := bytesOf_range s _ (List.getElem_mem e1)
      generalize (bytesOf s)[i] = b at this
      simp only
      by_cases e2 : b < 128
      · rw [if_pos e2, if_neg (by omega)]
      · rw [if_neg e2]
        by_cases e3 : b > 191
        · rw [if_pos e3, if_neg (by omega)]
        · rw [if_neg e3, if_pos (by omega), w64_small (c * 64) (by omega) (by omega), w64_small b (by omega) (by omega), w64_small (c * 64 + b) (by omega) (by omega), w64_small _ (by omega) (by omega)]
          congr 1
          omega
    · rw [if_pos (by omega), List.getElem?_eq_none (by omega)]
theorem moreV_lt (c : Int) (o : Option Int) (n : Int) (hc : c < n) (hn : 0 < n) : moreV c o < n * 64 := by
  unfold moreV
  split
  · omega
  · split
    · omega
    · split <;> omega
theorem put_fin (k : Nat) (s : ByteArray) (c : Int) (hc : c < 4611686018427387904) : ((stratumref03_Put.f (k + 1) c).bind fun p => fin s p c) = some (finL (bytesOf s) c (putL c)) := by
  obtain ⟨p, hp, hb⟩ := put_is k c hc
  rw [hp, Option.bind_some, fin_is, hb]
theorem fin_none (L : List Int) (c : Int) (h : c < 0) : finL L c (putL c) = (-1, 1) := by
  have e : putL c = [] := if_pos (Or.inl h)
  rw [e]
  rfl
theorem moreV_yes (c b : Int) (hc : 0 ≤ c) (h : 128 ≤ b ∧ b < 192) : moreV c (some b) = c * 64 + (b - 128) := by
  simp only [moreV]
  rw [if_neg (by omega), if_pos h]
theorem moreV_no (c b : Int) (h : ¬ (128 ≤ b ∧ b < 192)) : moreV c (some b) = -1 := by
  simp only [moreV]
  split <;> first | rfl | exact if_neg h
theorem moreV_neg (o : Option Int) : moreV (-1) o = -1 := by unfold moreV; rw [if_pos (by omega)]
theorem more1_yes (c b : Int) (h : 128 ≤ b ∧ b < 192) : more1 (some c) b = some (c * 64 + (b - 128)) := by
  simp only [more1, Option.bind_some]
  rw [if_pos h]
theorem more1_no (c : Option Int) (b : Int) (h : ¬ (128 ≤ b ∧ b < 192)) : more1 c b = none := by
  cases c with
  | none => rfl
  | some c =>
    simp only [more1, Option.bind_some]
    rw [if_neg h]
theorem more1_none (b : Int) : more1 none b = none := rfl
theorem fin_two (b0 b1 : Int) (t : List Int) (h0 : 192 ≤ b0 ∧ b0 < 224) : finL (b0 :: b1 :: t) (moreV (b0 - 192) (some b1)) (putL (moreV (b0 - 192) (some b1))) = end1 2 128 (more1 (some (b0 - 192)) b1) := by
  simp only [moreV, more1, Option.bind_some]
  rw [if_neg (by omega)]
  by_cases h1 : 128 ≤ b1 ∧ b1 < 192
  · rw [if_pos h1, if_pos h1]
    have hlo : 0 ≤ (b0 - 192) * 64 + (b1 - 128) := by omega
    have hhi : (b0 - 192) * 64 + (b1 - 128) < 2048 := by omega
    have q1 : ((b0 - 192) * 64 + (b1 - 128)) / 64 = b0 - 192 := by omega
    have q2 : ((b0 - 192) * 64 + (b1 - 128)) % 64 = b1 - 128 := by omega
    generalize (b0 - 192) * 64 + (b1 - 128) = c at hlo hhi q1 q2
    unfold finL putL end1
    simp only
    rw [if_neg (show ¬ (c < 0 ∨ c > 1114111 ∨ (55296 ≤ c ∧ c ≤ 57343)) by omega)]
    by_cases c1 : c < 128
    · rw [if_pos c1, if_neg (by simp), if_neg (by simp; omega), if_neg (by omega)]
    · rw [if_neg c1, if_pos hhi, if_neg (by simp), if_pos (by simp; omega), if_pos (by omega)]
      simp
  · rw [if_neg h1, if_neg h1, fin_none _ _ (by omega)]
    rfl
theorem fin_three (b0 b1 b2 : Int) (t : List Int) (h0 : 224 ≤ b0 ∧ b0 < 240) : finL (b0 :: b1 :: b2 :: t) (moreV (moreV (b0 - 224) (some b1)) (some b2)) (putL (moreV (moreV (b0 - 224) (some b1)) (some b2))) = end1 3 2048 (more1 (more1 (some (b0 - 224)) b1) b2) := by
  simp only [moreV, more1, Option.bind_some]
  rw [if_neg (show ¬ b0 - 224 < 0 by omega)]
  by_cases h1 : 128 ≤ b1 ∧ b1 < 192
  · rw [if_pos h1, if_pos h1, if_neg (by omega), Option.bind_some]
    by_cases h2 : 128 ≤ b2 ∧ b2 < 192
    · rw [if_pos h2, if_pos h2]
      have hlo : 0 ≤ ((b0 - 224) * 64 + (b1 - 128)) * 64 + (b2 - 128) := by omega
      have hhi : ((b0 - 224) * 64 + (b1 - 128)) * 64 + (b2 - 128) < 65536 := by omega
      have q1 : (((b0 - 224) * 64 + (b1 - 128)) * 64 + (b2 - 128)) / 4096 = b0 - 224 := by omega
      have q2 : (((b0 - 224) * 64 + (b1 - 128)) * 64 + (b2 - 128)) / 64 % 64 = b1 - 128 := by omega
      have q3 : (((b0 - 224) * 64 + (b1 - 128)) * 64 + (b2 - 128)) % 64 = b2 - 128 := by omega
      generalize ((b0 - 224) * 64 + (b1 - 128)) * 64 + (b2 - 128) = c at hlo hhi q1 q2 q3
      unfold finL putL end1
      simp only
      by_cases bad : c < 0 ∨ c > 1114111 ∨ (55296 ≤ c ∧ c ≤ 57343)
      · rw [if_pos bad, if_pos rfl, if_neg (by omega)]
      · rw [if_neg bad]
        by_cases c1 : c < 128
        · rw [if_pos c1, if_neg (by simp), if_neg (by simp; omega), if_neg (by omega)]
        · rw [if_neg c1]
          by_cases c2 : c < 2048
          · rw [if_pos c2, if_neg (by simp), if_neg (by simp; omega), if_neg (by omega)]
          · rw [if_neg c2, if_pos hhi, if_neg (by simp), if_pos (by simp; omega), if_pos (by omega)]
            simp
    · rw [if_neg h2, if_neg h2, fin_none _ _ (by omega)]
      rfl
  · rw [if_neg h1, if_neg h1, if_pos (by omega), fin_none _ _ (by omega)]
    rfl
theorem fin_four (b0 b1 b2 b3 : Int) (t : List Int) (h0 : 240 ≤ b0 ∧ b0 < 248) :
    finL (b0 :: b1 :: b2 :: b3 :: t) (moreV (moreV (moreV (b0 - 240) (some b1)) (some b2)) (some b3)) (putL (moreV (moreV (moreV (b0 - 240) (some b1)) (some b2)) (some b3))) = end1 4 65536 (more1 (more1 (more1 (some (b0 - 240)) b1) b2) b3) := by
  by_cases h1 : 128 ≤ b1 ∧ b1 < 192
  · rw [moreV_yes _ _ (by omega) h1, more1_yes _ _ h1]
    by_cases h2 : 128 ≤ b2 ∧ b2 < 192
    · rw [moreV_yes _ _ (by omega) h2, more1_yes _ _ h2]
      by_cases h3 : 128 ≤ b3 ∧ b3 < 192
      · rw [moreV_yes _ _ (by omega) h3, more1_yes _ _ h3]
        have hlo : 0 ≤ (((b0 - 240) * 64 + (b1 - 128)) * 64 + (b2 - 128)) * 64 + (b3 - 128) := by omega
        have q1 : ((((b0 - 240) * 64 + (b1 - 128)) * 64 + (b2 - 128)) * 64 + (b3 - 128)) / 262144 = b0 - 240 := by omega
        have q2 : ((((b0 - 240) * 64 + (b1 - 128)) * 64 + (b2 - 128)) * 64 + (b3 - 128)) / 4096 % 64 = b1 - 128 := by omega
        have q3 : ((((b0 - 240) * 64 + (b1 - 128)) * 64 + (b2 - 128)) * 64 + (b3 - 128)) / 64 % 64 = b2 - 128 := by omega
        have q4 : ((((b0 - 240) * 64 + (b1 - 128)) * 64 + (b2 - 128)) * 64 + (b3 - 128)) % 64 = b3 - 128 := by omega
        generalize (((b0 - 240) * 64 + (b1 - 128)) * 64 + (b2 - 128)) * 64 + (b3 - 128) = c at hlo q1 q2 q3 q4
        unfold finL putL end1
        simp only
        by_cases bad : c < 0 ∨ c > 1114111 ∨ (55296 ≤ c ∧ c ≤ 57343)
        · rw [if_pos bad, if_pos rfl, if_neg (by omega)]
        · rw [if_neg bad]
          by_cases c1 : c < 128
          · rw [if_pos c1, if_neg (by simp), if_neg (by simp; omega), if_neg (by omega)]
          · rw [if_neg c1]
            by_cases c2 : c < 2048
            · rw [if_pos c2, if_neg (by simp), if_neg (by simp; omega), if_neg (by omega)]
            · rw [if_neg c2]
              by_cases c3 : c < 65536
              · rw [if_pos c3, if_neg (by simp), if_neg (by simp; omega), if_neg (by omega)]
              · rw [if_neg c3, if_neg (by simp), if_pos (by simp; omega), if_pos (by omega)]
                simp
      · rw [moreV_no _ _ h3, more1_no _ _ h3, fin_none _ _ (by omega)]
        rfl
    · rw [moreV_no _ _ h2, more1_no _ _ h2, moreV_neg, more1_none, fin_none _ _ (by omega)]
      rfl
  · rw [moreV_no _ _ h1, more1_no _ _ h1, moreV_neg, moreV_neg, more1_none, more1_none, fin_none _ _ (by omega)]
    rfl
theorem moreV_none (c : Int) : moreV c none = -1 := by unfold moreV; split <;> rfl
theorem ref_next_is (k : Nat) (s : ByteArray) (hk : 6 ≤ k) : stratumref03_Next.f k s = some (nextL (bytesOf s)) := by
  obtain ⟨k, rfl⟩ : ∃ m, k = m + 6 := ⟨k - 6, by omega⟩
  unfold stratumref03_Next.f
  have hr := bytesOf_range s
  have hn := toList_nil s
  have hsz := size_bytes s
  have hb0 : bt s 0 = (bytesOf s).getD 0 0 := bt_list s 0
  have hf : ∀ (m : Nat) (c : Int), c < 4611686018427387904 → ((stratumref03_Put.f (m + 1) c).bind fun p => fin s p c) = some (finL (bytesOf s) c (putL c)) := fun m c hc => put_fin m s c hc
  have hm : ∀ (c : Int) (i : Nat), c < 1099511627776 → stratumref03_more.f c s i = some (moreV c (bytesOf s)[i]?) := fun c i hc => more_is c s i hc
  have hm1 := fun c hc => hm c 1 hc
  have hm2 := fun c hc => hm c 2 hc
  have hm3 := fun c hc => hm c 3 hc
  rw [show ((1 : Nat) : Int) = 1 from rfl] at hm1
  rw [show ((2 : Nat) : Int) = 2 from rfl] at hm2
  rw [show ((3 : Nat) : Int) = 3 from rfl] at hm3
  generalize hL : bytesOf s = L at hr hn hsz hb0 hf hm1 hm2 hm3
  rcases L with _ | ⟨b0, t⟩
  · rw [if_pos (hn.2 rfl)]
    rfl
  · rw [if_neg (fun h => by simpa using hn.1 h), if_pos (by rw [hsz]; simp)]
    have r0 := hr b0 (by simp)
    simp only [List.getD_cons_zero] at hb0
    rw [hb0, w64_small b0 (by omega) (by omega)]
    simp only [nextL]
    by_cases c1 : b0 < 128
    · rw [if_pos c1, if_pos c1]
      refine (hf (k + 5) b0 (by omega)).trans ?_
      unfold finL putL
      rw [if_neg (show ¬ (b0 < 0 ∨ b0 > 1114111 ∨ (55296 ≤ b0 ∧ b0 ≤ 57343)) by omega), if_pos c1, if_neg (by simp), if_pos (by simp)]
      rfl
    · rw [if_neg c1, if_neg c1]
      have last : ∀ m b, b = false → b0 < 192 ∨ 248 ≤ b0 → stratumref03_Next.j2 (m + 2) s b0 (-1) b = some (-1, 1) := by
        intro m b hb _
        subst hb
        simp only [stratumref03_Next.j2]
        rw [if_neg (by simp)]
        refine (hf m (-1) (by omega)).trans ?_
        rw [fin_none _ _ (by omega)]
      by_cases c2 : 192 ≤ b0
      · rw [if_pos c2]
        by_cases c2' : b0 < 224
        · rw [if_pos ⟨c2, c2'⟩, decide_eq_true c2']
          simp only [stratumref03_Next.j0]
          rw [if_pos trivial, w64_small (b0 - 192) (by omega) (by omega), hm1 _ (by omega), Option.bind_some]
          refine (hf (k + 4) _ (by have := moreV_lt (b0 - 192) (b0 :: t)[1]? 32 (by omega) (by omega); omega)).trans ?_
          rcases t with _ | ⟨b1, t⟩
          · rw [show ([b0] : List Int)[1]? = none from rfl, moreV_none, fin_none _ _ (by omega)]
          · exact congrArg some (fin_two b0 b1 t ⟨c2, c2'⟩)
        · rw [if_neg (by omega), decide_eq_false c2']
          simp only [stratumref03_Next.j0]
          rw [if_neg (by simp), if_pos (by omega)]
          by_cases c3 : b0 < 240
          · rw [if_pos (by omega), decide_eq_true c3]
            simp only [stratumref03_Next.j1]
            have l1 := moreV_lt (b0 - 224) (b0 :: t)[1]? 16 (by omega) (by omega)
            have l2 := moreV_lt (moreV (b0 - 224) (b0 :: t)[1]?) (b0 :: t)[2]? 1024 (by omega) (by omega)
            rw [if_pos trivial, w64_small (b0 - 224) (by omega) (by omega), hm1 _ (by omega), Option.bind_some, hm2 _ (by omega), Option.bind_some]
            refine (hf (k + 3) _ (by omega)).trans ?_
            rcases t with _ | ⟨b1, _ | ⟨b2, t⟩⟩
            · rw [show ([b0] : List Int)[1]? = none from rfl, moreV_none, moreV_neg, fin_none _ _ (by omega)]
            · rw [show ([b0, b1] : List Int)[2]? = none from rfl, moreV_none, fin_none _ _ (by omega)]
            · exact congrArg some (fin_three b0 b1 b2 t ⟨by omega, c3⟩)
          · rw [if_neg (by omega), decide_eq_false c3]
            simp only [stratumref03_Next.j1]
            rw [if_neg (by simp), if_pos (by omega)]
            by_cases c4 : b0 < 248
            · rw [if_pos (by omega), decide_eq_true c4]
              simp only [stratumref03_Next.j2]
              have l1 := moreV_lt (b0 - 240) (b0 :: t)[1]? 8 (by omega) (by omega)
              have l2 := moreV_lt (moreV (b0 - 240) (b0 :: t)[1]?) (b0 :: t)[2]? 512 (by omega) (by omega)
              have l3 := moreV_lt (moreV (moreV (b0 - 240) (b0 :: t)[1]?) (b0 :: t)[2]?) (b0 :: t)[3]? 32768 (by omega) (by omega)
              rw [if_pos trivial, w64_small (b0 - 240) (by omega) (by omega), hm1 _ (by omega), Option.bind_some, hm2 _ (by omega), Option.bind_some, hm3 _ (by omega), Option.bind_some]
              refine (hf (k + 2) _ (by omega)).trans ?_
              rcases t with _ | ⟨b1, _ | ⟨b2, _ | ⟨b3, t⟩⟩⟩
              · rw [show ([b0] : List Int)[1]? = none from rfl, moreV_none, moreV_neg, moreV_neg, fin_none _ _ (by omega)]
              · rw [show ([b0, b1] : List Int)[2]? = none from rfl, moreV_none, moreV_neg, fin_none _ _ (by omega)]
              · rw [show ([b0, b1, b2] : List Int)[3]? = none from rfl, moreV_none, fin_none _ _ (by omega)]
              · exact congrArg some (fin_four b0 b1 b2 b3 t ⟨by omega, c4⟩)
            · rw [if_neg (by omega), decide_eq_false c4]
              exact last (k + 2) false rfl (by omega)
      · rw [if_neg (by omega), if_neg (by omega), if_neg (by omega), if_neg (by omega)]
        simp only [stratumref03_Next.j0, stratumref03_Next.j1]
        rw [if_neg (by simp), if_neg (by omega), if_neg (by simp), if_neg (by omega)]
        exact last (k + 2) false rfl (by omega)
theorem ref_fault_loop (s : ByteArray) (hs : s.size ≤ 140737488351232) (d : Nat) : ∀ (k : Nat) (i : Nat), i ≤ s.size → s.size - i ≤ d → d + 7 < k → stratumref03_Fault.l0 k s i = some (faultN d ((bytesOf s).drop i) i) := by
  induction d with
  | zero =>
    intro k i hi hd hk
    obtain ⟨k, rfl⟩ : ∃ m, k = m + 1 := ⟨k - 1, by omega⟩
    simp only [stratumref03_Fault.l0, faultN]
    rw [if_neg (by omega)]
  | succ d ih =>
    intro k i hi hd hk
    obtain ⟨k, rfl⟩ : ∃ m, k = m + 1 := ⟨k - 1, by omega⟩
    simp only [stratumref03_Fault.l0]
    have hsz := size_bytes s
    by_cases hlt : i < s.size
    · rw [if_pos (by omega), if_pos (by omega), if_pos (by omega), ref_next_is k _ (by omega), Option.bind_some, bytesOf_extract, Int.toNat_natCast, hsz, List.take_length]
      obtain ⟨b, t, ht⟩ : ∃ b t, (bytesOf s).drop i = b :: t := by
        have : ((bytesOf s).drop i).length ≠ 0 := by rw [List.length_drop]; omega
        rcases h : (bytesOf s).drop i with _ | ⟨b, t⟩
        · rw [h] at this; simp at this
        · exact ⟨b, t, rfl⟩
      rw [ht]
      simp only [faultN]
      by_cases hc : (nextL (b :: t)).1 < 0
      · rw [if_pos hc, if_pos hc]
      · rw [if_neg hc, if_neg hc]
        have hle := nextL_le b t (by omega)
        have hlen : ((b :: t).length : Int) = (s.size : Int) - i := by rw [← ht, List.length_drop, ← hsz]; omega
        obtain ⟨n, hn⟩ := Int.eq_ofNat_of_zero_le (show 0 ≤ (nextL (b :: t)).2 by omega)
        rw [hn] at hle ⊢
        rw [w64_small _ (by omega) (by omega), ← Int.natCast_add]
        have := ih k (i + n) (by omega) (by omega) (by omega)
        rw [this, ← ht, List.drop_drop, Int.toNat_natCast]
    · rw [if_neg (by omega), List.drop_eq_nil_of_le (by omega)]
      rfl
theorem ref_valid_is (s : ByteArray) (hs : s.size ≤ 140737488351232) (k : Nat) (hk : s.size + 8 ≤ k) : stratumref03_Valid.f k s = some (validB s) := by
  have h : stratumref03_Fault.f k s = some (faultN s.size (bytesOf s) 0) := ref_fault_loop s hs s.size k 0 (by omega) (by omega) (by omega)
  simp only [stratumref03_Valid.f, h, Option.bind_some]
  rfl
end Go.Proofs.Yteejpfemaedmkaa.Plain
