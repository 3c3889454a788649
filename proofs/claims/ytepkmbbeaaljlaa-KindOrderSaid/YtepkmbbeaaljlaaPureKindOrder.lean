/- KindOrder: Order is a total order of all raw values, whatever their kinds, numbers and texts. -/
import Derived.Test.YtepkmbbeaaljlaaSKindOrder
import Derived.Test.YtepkmbbeaaljlaaPlainAwake
namespace Go.Proofs.Ytepkmbbeaaljlaa.Pure
open Go.RowKit Go.Proofs.Ytepkmbbeaaljlaa.X Go.Proofs.YtepkmbbeaaljlaaW.PrintWords Go.Proofs.YtepkmbbeaaljlaaW.PrintLast Go.Proofs.Ytepkmbbeaaljlaa.Plain
theorem ko_end (k : Nat) (x y z ka na kb nb : Int) (sa sb : ByteArray) (h1 : -1 ≤ x ∧ x ≤ 1) (h2 : x ≤ 0 ∧ y ≤ 0 → z ≤ 0) (h3 : x < 0 ∧ y ≤ 0 → z < 0) (h4 : x ≤ 0 ∧ y < 0 → z < 0) (h5 : ka < kb → x = -1) :
    stratumlaw04_KindOrder.j0 (k + 1) x y z false ka na sa kb nb sb = some true := by
  simp only [stratumlaw04_KindOrder.j0]
  rw [if_neg (by simp)]
  repeat' split
  all_goals first | (exfalso; omega) | rfl | (simp; omega)
theorem ordV_or (ak an : Int) (sa : List UInt8) (bk bn : Int) (sb : List UInt8) (ha : 0 ≤ an ∧ an < 18446744073709551616) (hb : 0 ≤ bn ∧ bn < 18446744073709551616) :
    (-1 ≤ ordV ak an sa bk bn sb ∧ ordV ak an sa bk bn sb ≤ 1) ∧ ordV bk bn sb ak an sa = - ordV ak an sa bk bn sb ∧ (ak < bk → ordV ak an sa bk bn sb = -1) ∧ (ordV ak an sa bk bn sb = 0 ↔ ak = bk ∧ an = bn ∧ sa = sb) := by
  unfold ordV
  have h1 := ordI_or ak bk
  have h2 := ordI_or bk ak
  rcases h1 with ⟨h, e⟩ | ⟨rfl, e⟩ | ⟨h, e⟩
  · rw [if_neg (by omega), if_neg (by omega)]
    exact ⟨by omega, by omega, fun _ => e, ⟨fun h0 => by omega, fun h0 => by omega⟩⟩
  · rw [if_pos e, if_pos e]
    have h3 := ordN_or ak an bn ha hb
    rcases h3 with ⟨h3 | ⟨rfl, h3⟩ | h3, h4⟩
    · rw [if_neg (by omega), if_neg (by omega)]
      refine ⟨by omega, by omega, fun h0 => by omega, ⟨fun h0 => by omega, fun ⟨_, h0, _⟩ => ?_⟩⟩
      subst h0
      omega
    · rw [if_pos h3, if_pos h3]
      have h5 := ordS_or sa sb
      have h6 := ordS_turn sa sb
      rcases h5 with ⟨k1, k2, k⟩ | ⟨rfl, k⟩ | ⟨k1, k2, k⟩
      · refine ⟨by omega, by omega, fun h0 => by omega, ⟨fun h0 => by omega, fun ⟨_, _, h0⟩ => ?_⟩⟩
        subst h0
        rw [k1] at k2
        cases k2
      · exact ⟨by omega, by omega, fun h0 => by omega, ⟨fun _ => ⟨rfl, rfl, rfl⟩, fun _ => k⟩⟩
      · refine ⟨by omega, by omega, fun h0 => by omega, ⟨fun h0 => by omega, fun ⟨_, _, h0⟩ => ?_⟩⟩
        subst h0
        rw [k1] at k2
        cases k2
    · rw [if_neg (by omega), if_neg (by omega)]
      refine ⟨by omega, by omega, fun h0 => by omega, ⟨fun h0 => by omega, fun ⟨_, h0, _⟩ => ?_⟩⟩
      subst h0
      omega
  · rw [if_neg (by omega), if_neg (by omega)]
    exact ⟨by omega, by omega, fun _ => by omega, ⟨fun h0 => by omega, fun h0 => by omega⟩⟩
theorem ordV_three (ak an : Int) (sa : List UInt8) (bk bn : Int) (sb : List UInt8) (ck cn : Int) (sc : List UInt8) :
    (ordV ak an sa bk bn sb ≤ 0 ∧ ordV bk bn sb ck cn sc ≤ 0 → ordV ak an sa ck cn sc ≤ 0) ∧ (ordV ak an sa bk bn sb < 0 ∧ ordV bk bn sb ck cn sc ≤ 0 → ordV ak an sa ck cn sc < 0) ∧ (ordV ak an sa bk bn sb ≤ 0 ∧ ordV bk bn sb ck cn sc < 0 → ordV ak an sa ck cn sc < 0) := by
  have h1 := ordI_or ak bk
  have h2 := ordI_or bk ck
  have h3 := ordI_or ak ck
  by_cases hall : ak = bk ∧ bk = ck
  · obtain ⟨rfl, rfl⟩ := hall
    have e : ordI ak ak = 0 := by omega
    have n := ordN_three ak an bn cn
    have s := ordS_three sa sb sc
    unfold ordV
    rw [if_pos e, if_pos e, if_pos e]
    generalize ordN ak an bn = n1 at n
    generalize ordN ak bn cn = n2 at n
    generalize ordN ak an cn = n3 at n
    generalize ordS sa sb = s1 at s
    generalize ordS sb sc = s2 at s
    generalize ordS sa sc = s3 at s
    clear h1 h2 h3 e
    repeat' split
    all_goals omega
  · have f : (ordI ak bk = 0 ∧ ordI bk ck = 0 → False) := fun h => hall ⟨by omega, by omega⟩
    unfold ordV
    have b1 : ordI ak bk = 0 ∨ (if ordI ak bk = 0 then (if ordN ak an bn = 0 then ordS sa sb else ordN ak an bn) else ordI ak bk) = ordI ak bk := by
      by_cases h : ordI ak bk = 0
      · exact .inl h
      · exact .inr (if_neg h)
    have b2 : ordI bk ck = 0 ∨ (if ordI bk ck = 0 then (if ordN bk bn cn = 0 then ordS sb sc else ordN bk bn cn) else ordI bk ck) = ordI bk ck := by
      by_cases h : ordI bk ck = 0
      · exact .inl h
      · exact .inr (if_neg h)
    have b3 : ordI ak ck = 0 ∨ (if ordI ak ck = 0 then (if ordN ak an cn = 0 then ordS sa sc else ordN ak an cn) else ordI ak ck) = ordI ak ck := by
      by_cases h : ordI ak ck = 0
      · exact .inl h
      · exact .inr (if_neg h)
    generalize (if ordI ak bk = 0 then (if ordN ak an bn = 0 then ordS sa sb else ordN ak an bn) else ordI ak bk) = v1 at b1 ⊢
    generalize (if ordI bk ck = 0 then (if ordN bk bn cn = 0 then ordS sb sc else ordN bk bn cn) else ordI bk ck) = v2 at b2 ⊢
    generalize (if ordI ak ck = 0 then (if ordN ak an cn = 0 then ordS sa sc else ordN ak an cn) else ordI ak ck) = v3 at b3 ⊢
    generalize ordI ak bk = i1 at h1 f b1
    generalize ordI bk ck = i2 at h2 f b2
    generalize ordI ak ck = i3 at h3 b3
    omega
theorem KindOrder : stratumlaw04_KindOrder.PureX := by
  rintro ⟨ak, an, sa⟩ ⟨bk, bn, sb⟩ ⟨ck, cn, sc⟩ ⟨_, ha, _⟩ ⟨_, hb, _⟩ ⟨_, hc, _⟩
  have o := ordV_or ak an sa.toList bk bn sb.toList (u64_wf ha) (u64_wf hb)
  have t := ordV_three ak an sa.toList bk bn sb.toList ck cn sc.toList
  refine ⟨20, ?_⟩
  simp only [stratumlaw04_KindOrder.f]
  rw [awake_is 20 (by omega), Option.bind_some, if_pos rfl, order_is 17 ak an sa bk bn sb, Option.bind_some, order_is 17 bk bn sb ck cn sc, Option.bind_some, order_is 17 ak an sa ck cn sc, Option.bind_some, order_is 17 bk bn sb ak an sa, Option.bind_some]
  obtain ⟨o1, o2, o3, o4⟩ := o
  rw [if_neg (by omega), if_neg (by omega), o2]
  rw [if_pos (by unfold wrap64; omega)]
  have key : ∀ q : Bool, q = false → stratumlaw04_KindOrder.j0 20 (ordV ak an sa.toList bk bn sb.toList) (ordV bk bn sb.toList ck cn sc.toList) (ordV ak an sa.toList ck cn sc.toList) q ak an sa bk bn sb = some true := fun q hq => by
    subst hq
    exact ko_end 19 _ _ _ ak an bk bn sa sb o1 t.1 t.2.1 t.2.2 o3
  by_cases e : ak = bk ∧ an = bn ∧ sa.toList = sb.toList
  · have e0 := o4.mpr e
    rw [if_pos (by simp [e.1, e.2.1, e.2.2])]
    exact key _ (by rw [e0]; rfl)
  · have e0 : ¬ ordV ak an sa.toList bk bn sb.toList = 0 := fun h => e (o4.mp h)
    rw [if_neg (by
      intro h
      simp only [Bool.and_eq_true, beq_iff_eq] at h
      exact e h)]
    exact key _ (by simp [e0])
end Go.Proofs.Ytepkmbbeaaljlaa.Pure
