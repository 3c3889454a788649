-- Written by wip/printx.py: the kit's printer with functions proved by hand. Not trusted: Lean checks it.
import Derived.Test.YteejpfemaedmkaaProg
import Derived.Outline
import Derived.Laws.CopyOwn
import Derived.Laws.Tables
import Derived.Lib.LazyBuf
import Derived.Below
import Derived.Deep.Draws
import Derived.Deep.AppendLies
import Derived.Maps.AppendAt
import Derived.OwnWalk
import Derived.Laws.BytesArg
import Derived.Laws.MakeOwn
import Derived.Laws.OwnMore
import Derived.Deep.OwnRows
import Derived.Tactics
import Derived.Lib.ConvBytes
import Derived.Laws.Slices
import Derived.WalkKit
import Derived.KernelRfl
import Derived.RowKit3
import Derived.Deep.LoopGhost
import Derived.Deep.QuietTactic
import Derived.BigQuiet
import Derived.WideLaws
import Derived.Deep.DeepCutAuto
import Derived.Deep.CutBlock
import Derived.Deep.RegionHeld3
import Derived.Laws.Rows
import Derived.Lib.AppendStr
import Derived.ArgAppend
import Derived.Laws.IdiomCopy
import Derived.OrdersHeld
import Derived.Laws.BitsLemmas
import Derived.RowKit
import Derived.Test.YteejpfemaedmkaaQG2WWords
import Derived.Test.YteejpfemaedmkaaQG2WLast
import Derived.Test.YteejpfemaedmkaaQG2WTab
import Derived.Test.YteejpfemaedmkaaQG2WApart
import Derived.Test.YteejpfemaedmkaaQG2WFoot
import Derived.Test.YteejpfemaedmkaaQG2WKept
import Derived.Test.YteejpfemaedmkaaQG2WShare
import Derived.Test.YteejpfemaedmkaaQG2WN
import Derived.Test.YteejpfemaedmkaaQG2WEqStruct
import Derived.Test.YteejpfemaedmkaaQG2WRepsOne
import Derived.Test.YteejpfemaedmkaaQG2WInv
import Derived.Test.YteejpfemaedmkaaQG2WGuard
import Derived.Test.YteejpfemaedmkaaQG2WMore
namespace Go.Proofs.Yteejpfemaedmkaa.X
open Go.RowKit Go.Proofs.YteejpfemaedmkaaW.PrintWords Go.Proofs.YteejpfemaedmkaaW.PrintLast Go.Proofs.YteejpfemaedmkaaW.PrintMore
attribute [local go_sem] max2_int min2_int max_two min_two max_three min_three max_four min_four
set_option linter.unusedVariables false
set_option linter.unusedSimpArgs false
def errW : Option Int → Value
 | none => .nilIface
 | some c => .iface 0 (.int .i64 c)
theorem errW_none : errW none = .nilIface := rfl
theorem errW_some (c : Int) : errW (some c) = .iface 0 (.int .i64 c) := rfl
theorem info5 : (Try.prog.info? 5).map (fun i => (i.zero, i.size, i.bytes)) = some (some (.int .u8 0), 1, 1) := by kernel_rfl
theorem info53 : (Try.prog.info? 53).map (fun i => (i.zero, i.size, i.bytes)) = some (some (.agg #[(.int .i64 0), (.int .i64 0), (.int .u64 0), (.string ⟨#[]⟩)]), 4, 40) := by kernel_rfl
-- the values' own types
structure S51 where
 f0 : Int
 f1 : Int
 f2 : ByteArray
def z51 : S51 := ⟨(0 : Int), (0 : Int), (⟨#[]⟩ : ByteArray)⟩
def k51 : Kd S51 := Kd.iso (Kd.pair (Kd.int .i64) (Kd.pair (Kd.int .u64) Kd.string)) (fun x : S51 => (x.f0, x.f1, x.f2))
theorem k51_open {w : World} {x : S51} {cs : List Value} (h : k51.K w x cs) : cs = [.int .i64 x.f0, .int .u64 x.f1, .string x.f2] := by
 obtain ⟨_, _, rfl, rfl, ⟨_, _, rfl, rfl, rfl⟩⟩ := h
 exact rfl
theorem k51_mkM (w : World) (base : Nat) (ok : Nat → Prop) (x : S51)  : k51.M w base ok x [.int .i64 x.f0, .int .u64 x.f1, .string x.f2] := ⟨[.int .i64 x.f0], [.int .u64 x.f1, .string x.f2], rfl, rfl, ⟨[.int .u64 x.f1], [.string x.f2], rfl, rfl, rfl⟩⟩
structure S85 where
 f0 : Int
 f1 : Int
 f2 : Int
 f3 : Int
 f4 : ByteArray
 f5 : Int
 f6 : S51
def z85 : S85 := ⟨(0 : Int), (0 : Int), (0 : Int), (0 : Int), (⟨#[]⟩ : ByteArray), (0 : Int), z51⟩
def k85 : Kd S85 := Kd.iso (Kd.pair (Kd.int .i64) (Kd.pair (Kd.int .i64) (Kd.pair (Kd.int .i64) (Kd.pair (Kd.int .i64) (Kd.pair Kd.string (Kd.pair (Kd.int .i64) k51)))))) (fun x : S85 => (x.f0, x.f1, x.f2, x.f3, x.f4, x.f5, x.f6))
def rd_T85 (xs : List S85) (i : Int) : S85 := xs.getD i.toNat z85
structure S35 where
 f0 : ByteArray
 f1 : Int
 f2 : Int
def z35 : S35 := ⟨(⟨#[]⟩ : ByteArray), (0 : Int), (0 : Int)⟩
def k35 : Kd S35 := Kd.iso (Kd.pair Kd.string (Kd.pair (Kd.int .i64) (Kd.int .i64))) (fun x : S35 => (x.f0, x.f1, x.f2))
def rd_T35 (xs : List S35) (i : Int) : S35 := xs.getD i.toNat z35
structure S45 where
 f0 : (List S85)
 f1 : (List S35)
def z45 : S45 := ⟨([] : List S85), ([] : List S35)⟩
def k45 : Kd S45 := Kd.iso (Kd.pair (Kd.slice 85 k85) (Kd.slice 35 k35)) (fun x : S45 => (x.f0, x.f1))
def rd_T45 (xs : List S45) (i : Int) : S45 := xs.getD i.toNat z45
structure S48 where
 f0 : ByteArray
 f1 : (List S45)
def z48 : S48 := ⟨(⟨#[]⟩ : ByteArray), ([] : List S45)⟩
def k48 : Kd S48 := Kd.iso (Kd.pair Kd.string (Kd.slice 45 k45)) (fun x : S48 => (x.f0, x.f1))
def rd_T48 (xs : List S48) (i : Int) : S48 := xs.getD i.toNat z48
structure S53 where
 f0 : Int
 f1 : S51
def z53 : S53 := ⟨(0 : Int), z51⟩
def k53 : Kd S53 := Kd.iso (Kd.pair (Kd.int .i64) k51) (fun x : S53 => (x.f0, x.f1))
theorem k53_open {w : World} {x : S53} {cs : List Value} (h : k53.K w x cs) : cs = [.int .i64 x.f0, .int .i64 x.f1.f0, .int .u64 x.f1.f1, .string x.f1.f2] := by
 obtain ⟨_, _, rfl, rfl, s1⟩ := h
 obtain rfl := k51_open s1
 exact rfl
theorem k53_mkM (w : World) (base : Nat) (ok : Nat → Prop) (x : S53)  : k53.M w base ok x [.int .i64 x.f0, .int .i64 x.f1.f0, .int .u64 x.f1.f1, .string x.f1.f2] := ⟨[.int .i64 x.f0], [.int .i64 x.f1.f0, .int .u64 x.f1.f1, .string x.f1.f2], rfl, rfl, (k51_mkM w base ok x.f1 )⟩
def rd_T53 (xs : List S53) (i : Int) : S53 := xs.getD i.toNat z53
theorem at_T53 {w : World} {A : Option Addr} {n : Nat} {xs : List S53} (h : Kd.C k53 w A n xs) (i : Int) (h0 : 0 ≤ i) (h1 : i < n) : ∃ ad , A = some ad ∧ w.cell? (ad.add (i.toNat * 4)) = some (.int .i64 (rd_T53 xs i).f0) ∧ w.cell? ⟨(ad.add (i.toNat * 4)).block, (ad.add (i.toNat * 4)).off + 1, none⟩ = some (.int .i64 (rd_T53 xs i).f1.f0) ∧ w.cell? ⟨(ad.add (i.toNat * 4)).block, (ad.add (i.toNat * 4)).off + 2, none⟩ = some (.int .u64 (rd_T53 xs i).f1.f1) ∧ w.cell? ⟨(ad.add (i.toNat * 4)).block, (ad.add (i.toNat * 4)).off + 3, none⟩ = some (.string (rd_T53 xs i).f1.f2) := by
 obtain ⟨ad, c, e, _, hK, hc0⟩ := Kd.C_get h z53 i h0 h1
 have hc : ∀ j u, c[j]? = some u → w.cell? (ad.add (i.toNat * 4 + j)) = some u := hc0
 obtain rfl := k53_open hK
 exact ⟨ad, e, hc 0 _ rfl, by rw [← add_field _ _ 1 (by omega)]; exact hc 1 _ rfl, by rw [← add_field _ _ 2 (by omega)]; exact hc 2 _ rfl, by rw [← add_field _ _ 3 (by omega)]; exact hc 3 _ rfl⟩
structure S24 where
 f0 : (List S48)
structure S26 where
 f0 : S24
 f1 : ByteArray
 f2 : Int
 f3 : Int
structure S57 where
 f0 : S24
 f1 : Int
 f2 : Int
section
variable {P : Program} {ops : Array Oper} {rest : List Oper} {o : Oper} {a : Act} {Q : Exit → Act → World → Prop}
theorem vx_reads (W : World) (e : TypeId) (s : ByteArray) (hl : s.size ≤ 9223372036854775807) (ok : Nat → Prop) (hok : ok W.heap.size) :
  Kd.F (Kd.int .u8) (Lib.bytesWorld W e s) ok (some ⟨W.heap.size, 0, none⟩) (bytesOf s).length (bytesOf s) := by
 intro W' hW
 have hb : W'.heap[W.heap.size]? = (Lib.bytesWorld W e s).heap[W.heap.size]? := hW _ hok (by rw [Lib.bytesWorld_size]; omega)
 have h := bytes_reads W e s hl
 refine Kd.C_of_reads (h1 := fun _ => rfl) (d := (0 : Int)) ⟨rfl, by rw [bytesOf_length]; exact hl, fun hn => ?_⟩
 rw [bytesOf_length] at hn ⊢
 obtain ⟨ad, he, hc⟩ := h.2.2 hn
 refine ⟨ad, he, fun j hj => ?_⟩
 obtain rfl := Option.some.inj he
 have h2 := hc j hj
 have h3 : W'.cell? ((⟨W.heap.size, 0, none⟩ : Addr).add j) = (Lib.bytesWorld W e s).cell? ((⟨W.heap.size, 0, none⟩ : Addr).add j) := by
  rw [add_plain]
  exact World.cell?_of_block hb
 exact h3.trans h2
theorem vx_bytes (d : Kd Int) (hd0 : d = Kd.int .u8) {w0 W : World} (base e : Nat) (hgd : o.guard = none) {N : Tmp} (_hd : o.dst = some N) (src dst : TypeId) (x : Operand) (ho : o.op = .convert src dst x) (s : ByteArray) (hx : a.eval x = .string s)
  {u : TypeDesc} (hs : P.underlying src = some u) (hdt : P.underlying dst = some (.slice e)) (he : P.underlying e = some (.int .u8)) (hl : s.size ≤ 9223372036854775807) {ok : Nat → Prop} (hok : ∀ k, W.heap.size ≤ k → ok k) (HB : Below base w0 W) (hbase : base ≤ W.heap.size)
  (h : ∀ v1 w1, Kd.V d e w1 base ok v1 (bytesOf s) → Below base w0 w1 → W.grownBy w1 none → (∃ b, v1.ownBlock = some b ∧ W.heap.size ≤ b) → wpList P ops Q rest (a.put o.dst v1) w1) : wpList P ops Q (o :: rest) a W := by
 subst hd0
 refine Kd.event_run (v := .slice (some ⟨W.heap.size, 0, none⟩) s.size (grownCap W s.size 0 e)) (w1 := Lib.bytesWorld W e s) hgd ?_ (h _ _ ?_ (bytes_below HB hbase e s) ?_ ⟨W.heap.size, by simp [Value.ownBlock], Nat.le_refl _⟩)
 ·simp [execOp, ho, hx, Lib.run_convert_string_bytes W src dst e s hs hdt he]
 ·refine ⟨some ⟨W.heap.size, 0, none⟩, grownCap W s.size 0 e, by rw [bytesOf_length], by rw [bytesOf_length]; exact grownCap_ge W s.size 0 e, ?_⟩
  exact vx_reads W e s hl ok (hok _ (Nat.le_refl _))
 ·exact grown_of_below (bytes_below (Below.refl _ _) (Nat.le_refl _) e s) none
end
theorem less_turn : ∀ a b : List UInt8, (!(Op.bytesLess a b || a == b)) = Op.bytesLess b a
 | [], [] => by simp [Op.bytesLess]
 | [], b :: y => by simp [Op.bytesLess]
 | a :: x, [] => by simp [Op.bytesLess]
 | a :: x, b :: y => by
  have ih := less_turn x y
  simp only [Op.bytesLess]
  rcases Nat.lt_trichotomy a.toNat b.toNat with h | h | h
  ·have h1 : a < b := UInt8.lt_iff_toNat_lt.mpr h
   have h2 : ¬ b < a := fun h3 => by have := UInt8.lt_iff_toNat_lt.mp h3; omega
   have h3 : ¬ b = a := fun e => by subst e; omega
   simp [h1, h2, h3]
  ·have h1 : a = b := UInt8.toNat_inj.mp h
   subst h1
   simp [← ih]
  ·have h1 : ¬ a < b := fun h3 => by have := UInt8.lt_iff_toNat_lt.mp h3; omega
   have h2 : b < a := UInt8.lt_iff_toNat_lt.mpr h
   have h3 : ¬ a = b := fun e => by subst e; omega
   simp [h1, h2, h3]
theorem vx_gtr (t : TypeId) (a b : ByteArray) : binOp .gtr t (.string a) (.string b) = pure (.bool (Op.bytesLess b.toList a.toList)) := by
 rw [← less_turn]
 simp [binOp, Op.stringOp]
theorem vx_leq (t : TypeId) (a b : ByteArray) : binOp .leq t (.string a) (.string b) = pure (.bool !(Op.bytesLess b.toList a.toList)) := by
 rw [← less_turn, Bool.not_not]
 simp [binOp, Op.stringOp]
theorem vx_geq (t : TypeId) (a b : ByteArray) : binOp .geq t (.string a) (.string b) = pure (.bool !(Op.bytesLess a.toList b.toList)) := by simp [binOp, Op.stringOp]
section
variable {P : Program} {ops : Array Oper} {rest : List Oper} {o : Oper} {a : Act} {Q : Exit → Act → World → Prop}
/-- make([]T, n, m): n elements, room for m. -/
theorem vx_make {α : Type} (d : Kd α) {w0 W : World} (base e : Nat) (hgd : o.guard = none) {N : Tmp} (_hd : o.dst = some N) (t : TypeId) (x y : Operand) (ho : o.op = .makeSlice t x y) (n m : Int) (hx : a.eval x = .int .i64 n) (hy : a.eval y = .int .i64 m)
  (ht : P.underlying t = some (.slice e)) (z : Value) (bytes : Nat) (hinfo : (P.info? e).map (fun i => (i.zero, i.size, i.bytes)) = some (some z, d.sz, bytes)) (hz : z.cells.size = d.sz) (hs0 : 0 < d.sz) (hb0 : 0 < bytes)
  (z0 : α) {ok okp : Nat → Prop} (hzero : d.M W base okp z0 z.cells.toList) (hok : ∀ k, okp k → ok k) (hfresh : ok W.heap.size) (h0 : 0 ≤ n) (hnm : n ≤ m) (hl : m.toNat * bytes ≤ 281474976710656) (HB : Below base w0 W) (hbase : base ≤ W.heap.size)
  (h : ∀ v1 w1, d.R e w1 base ok v1 (List.replicate n.toNat z0) → Below base w0 w1 → W.grownBy w1 none → (∃ b, v1.ownBlock = some b ∧ W.heap.size ≤ b) → wpList P ops Q rest (a.put o.dst v1) w1) : wpList P ops Q (o :: rest) a W := by
 obtain ⟨i0, hi, hzz⟩ := Option.map_eq_some_iff.1 hinfo
 simp only [Prod.mk.injEq] at hzz
 obtain ⟨hz0, hz1, hz2⟩ := hzz
 have hmm : m.toNat ≤ 281474976710656 := Nat.le_trans (Nat.le_mul_of_pos_right _ hb0) hl
 have hr := run_make (P := P) W t e i0 z ht hi hz0 .i64 .i64 n m h0 hnm
  (by
   have h3 : ((i0.bytes * m.toNat : Nat) : Int) ≤ 281474976710656 := by rw [hz2, Nat.mul_comm]; omega
   rw [Int.natCast_mul, Int.toNat_of_nonneg (by omega)] at h3
   exact h3) (by omega)
 rw [hz1] at hr
 have hreps := Kd.reps_made (R := d.M W base okp) (z := z) (z0 := z0) hz hs0 hzero m.toNat
 refine Kd.event_run (v := .slice (some ⟨W.heap.size, 0, none⟩) n.toNat m.toNat) (w1 := W.alloc (.cells (madeCells z.cells (m.toNat * d.sz)) e)) hgd (by simp [execOp, ho, hx, hy, hr]) (h _ _ ⟨fun k hk => ?_, ?_⟩ (HB.alloc hbase _) (World.grownBy_alloc W _ none) ⟨W.heap.size, by simp [Value.ownBlock], Nat.le_refl _⟩)
 ·have : W.heap.size = k := by simpa [Value.ownBlock] using hk
  subst this
  exact hfresh
 ·have hsz : (madeCells z.cells (m.toNat * d.sz)).size = m.toNat * d.sz := size_madeCells _ _
  refine ⟨(madeCells z.cells (m.toNat * d.sz)).toList.take (n.toNat * d.sz), ⟨?_, .inr ⟨W.heap.size, m.toNat, _, ?_, hbase, heap_alloc_new W _, ?_, ?_, hsz, ?_⟩⟩, ⟨?_, fun j p hj => ?_⟩⟩
  ·rw [List.length_take, Array.length_toList, hsz, List.length_replicate]
   exact Nat.min_eq_left (Nat.mul_le_mul_right _ (by omega))
  ·rw [List.length_replicate]
  ·rw [List.length_replicate]; omega
  ·unfold maxLen; omega
  ·rw [List.length_replicate]
  ·rw [List.length_take, Array.length_toList, hsz, List.length_replicate]
   exact Nat.min_eq_left (Nat.mul_le_mul_right _ (by omega))
  ·obtain ⟨hjl, hp⟩ := List.getElem?_eq_some_iff.1 hj
   have hjn : j < n.toNat := by simpa using hjl
   have hp' : z0 = p := by simpa using hp
   subst hp'
   have h1 := hreps.2 j z0 (by rw [List.getElem?_replicate, if_pos (by omega)])
   have h2 : (List.drop (j * d.sz) (List.take (n.toNat * d.sz) (madeCells z.cells (m.toNat * d.sz)).toList)).take d.sz = (List.drop (j * d.sz) (madeCells z.cells (m.toNat * d.sz)).toList).take d.sz := by
    rw [List.drop_take, List.take_take]
    congr 1
    have : j * d.sz + d.sz ≤ n.toNat * d.sz := by rw [← Nat.succ_mul]; exact Nat.mul_le_mul_right _ hjn
    omega
   rw [h2]
   refine d.M_mono (fun k hk => ⟨hok k hk.1, fun he => ?_⟩) (Kd.M_below (d.M_bound h1) (below_alloc (Below.refl _ _) _))
   have h3 : k = W.heap.size := by simpa [Value.ownBlock] using he
   have := hk.2.2.1
   omega
/-- copy(xs, ys) of numbers, ys no longer than xs, a row of the call's own. -/
theorem vx_copy (k : IntKind) {w0 W : World} (base : Nat) (hgd : o.guard = none) (s x : Operand) (t e : TypeId) (z : Value) (bytes : Nat)
  (ho : o.op = .call { callee := .builtin .copy, args := #[s, x], argTypes := #[t, t] }) (ht : P.underlying t = some (.slice e)) (hinfo : (P.info? e).map (fun i => (i.zero, i.size, i.bytes)) = some (some z, 1, bytes))
  (v : Value) (xs ys : List Int) (A : Option Addr) (m c : Nat) (ok : Nat → Prop) (hs : a.eval s = v) (hx : a.eval x = .slice A m c)
  (HO : (Kd.int k).R e W base ok v xs) (HR : (Kd.int k).C W A m ys) (_hF : ∀ k, W.heap.size ≤ k → ok k) (HB : Below base w0 W) (_hbase : base ≤ W.heap.size) (hl : ys.length ≤ xs.length)
  (h : ∀ w1, (Kd.int k).R e w1 base ok v (ys ++ xs.drop ys.length) → Below base w0 w1 → W.grownBy w1 v.ownBlock → (v.ownBlock = v.ownBlock ∨ ∃ b, v.ownBlock = some b ∧ W.heap.size ≤ b) → wpList P ops Q rest (a.put o.dst (.int .i64 (ys.length : Int))) w1) : wpList P ops Q (o :: rest) a W := by
 have hsz : (P.info? e).map (·.size) = some 1 := by
  obtain ⟨i0, hi, hzz⟩ := Option.map_eq_some_iff.1 hinfo
  simp only [Prod.mk.injEq] at hzz
  rw [hi, Option.map_some, hzz.2.1]
 have hm : ys.length = m := HR.1
 subst hm
 have hown := Kd.own_of_R HO
 by_cases hy0 : ys.length = 0
 ·have hy : ys = [] := List.eq_nil_of_length_eq_zero hy0
  subst hy
  obtain ⟨A', c', hv⟩ := own_slice hown
  refine wpList_copy_nothing hgd s x t t ho e ht hsz A' A xs.length c' 0 c (hs.trans hv) hx (Nat.zero_min _) ?_
  exact h W (by simpa using HO) HB ⟨rfl, rfl, rfl, Nat.le_refl _, fun i _ _ => rfl⟩ (.inl rfl)
 ·obtain ⟨hlen, h2⟩ := hown
  rcases h2 with ⟨_, h2⟩ | ⟨g, cap, cur, rfl, hg, hh, hcap, hmax, hcs, htk⟩
  ·omega
  ·obtain ⟨ad, rfl, hcell⟩ := (Kd.reads_of_C (d := (0 : Int)) HR).2.2 (by omega)
   have hsrc : ∀ j v, (ys.map (Value.int k))[j]? = some v → W.cell? (ad.add j) = some v := by
    intro j v hj
    rw [List.getElem?_map] at hj
    obtain ⟨y, hy, rfl⟩ := Option.map_eq_some_iff.1 hj
    have hjl := (List.getElem?_eq_some_iff.1 hy).1
    rw [hcell j hjl, List.getD_eq_getElem?_getD, hy]
    rfl
   have hcl : cur.toList.length = cur.size := Array.length_toList
   have hxl : xs.length ≤ cur.toList.length := by omega
   refine wpList_copy_own hgd s x t t ho e ht hsz g 0 xs.length cap ad ys.length c hs hx cur e hh (ys.map (Value.int k)) (by rw [List.length_map]; exact (Nat.min_eq_left hl).symm) hsrc (by rw [List.length_map]; omega) (by intro u hu; obtain ⟨_, _, rfl⟩ := List.mem_map.1 hu; rfl) ?_
   rw [List.length_map]
   have hset : ∀ cs, (W.setRow g cs).heap[g]? = some (.cells cs e (0, 0)) := fun cs => setRow_heap W g cur cs e (0, 0) hh
   refine h _ (Kd.R_of_own (h1 := fun _ => rfl) ⟨?_, .inr ⟨g, cap, _, ?_, hg, hset _, ?_, hmax, ?_, ?_⟩⟩ HO.1) ⟨HB.os, HB.tape, HB.output, by rw [setRow_size]; exact HB.size, fun i hi => (setRow_other W g i _ (by omega)).trans (HB.block i hi)⟩ ⟨rfl, rfl, rfl, by rw [setRow_size]; exact Nat.le_refl _, fun i hi hne => setRow_other W g i _ (fun e => hne (by simp [Value.ownBlock, e]))⟩ (.inl rfl)
   ·simp [encs]
   ·simp only [List.length_append, List.length_drop]
    rw [show ys.length + (xs.length - ys.length) = xs.length by omega]
   ·simp only [List.length_append, List.length_drop]
    omega
   ·simp only [List.size_toArray, List.length_append, List.length_take, List.length_map, List.length_drop, Array.length_toList]
    omega
   ·have htk' : List.take xs.length cur.toList = encs (Value.int k) xs := by rw [Nat.mul_one] at htk; exact htk
    have e1 : (ys ++ xs.drop ys.length).length * 1 = ys.length + (xs.length - ys.length) := by simp
    rw [e1]
    simp only [List.take_zero, List.nil_append, Nat.zero_add]
    rw [List.take_append, List.length_map, List.take_of_length_le (by rw [List.length_map]; omega), encs_append]
    congr 1
    rw [show ys.length + (xs.length - ys.length) - ys.length = xs.length - ys.length by omega, ← List.drop_take, htk']
    simp [encs]
end
end Go.Proofs.Yteejpfemaedmkaa.X
