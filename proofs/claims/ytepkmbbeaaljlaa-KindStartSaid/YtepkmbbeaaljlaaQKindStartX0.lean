-- Written by wip/printx.py: the kit's printer with functions proved by hand. Not trusted: Lean checks it.
import Derived.Test.YtepkmbbeaaljlaaProg
import Derived.Outline
import Derived.Below
import Derived.Deep.Draws
import Derived.Deep.AppendLies
import Derived.Maps.AppendAt
import Derived.OwnWalk
import Derived.Laws.BytesArg
import Derived.Laws.MakeOwn
import Derived.Laws.OwnMore
import Derived.Deep.OwnRows
import Derived.Tactics
import Derived.Lib.ConvBytes
import Derived.Laws.Slices
import Derived.WalkKit
import Derived.KernelRfl
import Derived.RowKit3
import Derived.Deep.LoopGhost
import Derived.Deep.QuietTactic
import Derived.BigQuiet
import Derived.WideLaws
import Derived.Deep.DeepCutAuto
import Derived.Deep.CutBlock
import Derived.Deep.RegionHeld3
import Derived.Laws.Rows
import Derived.Lib.AppendStr
import Derived.ArgAppend
import Derived.Laws.IdiomCopy
import Derived.OrdersHeld
import Derived.Laws.BitsLemmas
import Derived.RowKit
import Derived.Test.YtepkmbbeaaljlaaQKindStartWWords
import Derived.Test.YtepkmbbeaaljlaaQKindStartWLast
import Derived.Test.YtepkmbbeaaljlaaQKindStartWTab
import Derived.Test.YtepkmbbeaaljlaaQKindStartWApart
import Derived.Test.YtepkmbbeaaljlaaQKindStartWFoot
import Derived.Test.YtepkmbbeaaljlaaQKindStartWKept
import Derived.Test.YtepkmbbeaaljlaaQKindStartWShare
import Derived.Test.YtepkmbbeaaljlaaQKindStartWN
import Derived.Test.YtepkmbbeaaljlaaQKindStartWEqStruct
import Derived.Test.YtepkmbbeaaljlaaQKindStartWRepsOne
import Derived.Test.YtepkmbbeaaljlaaQKindStartWGuard
import Derived.Test.YtepkmbbeaaljlaaQKindStartWMore
namespace Go.Proofs.Ytepkmbbeaaljlaa.X
open Go.RowKit Go.Proofs.YtepkmbbeaaljlaaW.PrintWords Go.Proofs.YtepkmbbeaaljlaaW.PrintLast Go.Proofs.YtepkmbbeaaljlaaW.PrintMore
attribute [local go_sem] max2_int min2_int max_two min_two max_three min_three max_four min_four
set_option linter.unusedVariables false
set_option linter.unusedSimpArgs false
def errW : Option Int → Value
 | none => .nilIface
 | some c => .iface 0 (.int .i64 c)
theorem errW_none : errW none = .nilIface := rfl
theorem errW_some (c : Int) : errW (some c) = .iface 0 (.int .i64 c) := rfl
theorem info41 : (Try.prog.info? 41).map (fun i => (i.zero, i.size, i.bytes)) = some (some (.agg #[(.int .i64 0), (.int .i64 0), (.string ⟨#[]⟩), (.int .i64 0)]), 4, 40) := by kernel_rfl
-- the values' own types
structure S27 where
 f0 : Int
 f1 : Int
 f2 : ByteArray
structure S32 where
 f0 : Int
 f1 : Int
 f2 : Int
 f3 : Int
structure S41 where
 f0 : Int
 f1 : Int
 f2 : ByteArray
 f3 : Int
def z41 : S41 := ⟨(0 : Int), (0 : Int), (⟨#[]⟩ : ByteArray), (0 : Int)⟩
def k41 : Kd S41 := Kd.iso (Kd.pair (Kd.int .i64) (Kd.pair (Kd.int .i64) (Kd.pair Kd.string (Kd.int .i64)))) (fun x : S41 => (x.f0, x.f1, x.f2, x.f3))
theorem k41_open {w : World} {x : S41} {cs : List Value} (h : k41.K w x cs) : cs = [.int .i64 x.f0, .int .i64 x.f1, .string x.f2, .int .i64 x.f3] := by
 obtain ⟨_, _, rfl, rfl, ⟨_, _, rfl, rfl, ⟨_, _, rfl, rfl, rfl⟩⟩⟩ := h
 exact rfl
theorem k41_openM {w : World} {base : Nat} {ok : Nat → Prop} {x : S41} {cs : List Value} (h : k41.M w base ok x cs) : cs = [.int .i64 x.f0, .int .i64 x.f1, .string x.f2, .int .i64 x.f3] := by
 obtain ⟨_, _, rfl, rfl, ⟨_, _, rfl, rfl, ⟨_, _, rfl, rfl, rfl⟩⟩⟩ := h
 exact rfl
theorem k41_mkM (w : World) (base : Nat) (ok : Nat → Prop) (x : S41)  : k41.M w base ok x [.int .i64 x.f0, .int .i64 x.f1, .string x.f2, .int .i64 x.f3] := ⟨[.int .i64 x.f0], [.int .i64 x.f1, .string x.f2, .int .i64 x.f3], rfl, rfl, ⟨[.int .i64 x.f1], [.string x.f2, .int .i64 x.f3], rfl, rfl, ⟨[.string x.f2], [.int .i64 x.f3], rfl, rfl, rfl⟩⟩⟩
def rd_T41 (xs : List S41) (i : Int) : S41 := xs.getD i.toNat z41
theorem at_T41 {w : World} {A : Option Addr} {n : Nat} {xs : List S41} (h : Kd.C k41 w A n xs) (i : Int) (h0 : 0 ≤ i) (h1 : i < n) : ∃ ad , A = some ad ∧ w.cell? (ad.add (i.toNat * 4)) = some (.int .i64 (rd_T41 xs i).f0) ∧ w.cell? ⟨(ad.add (i.toNat * 4)).block, (ad.add (i.toNat * 4)).off + 1, none⟩ = some (.int .i64 (rd_T41 xs i).f1) ∧ w.cell? ⟨(ad.add (i.toNat * 4)).block, (ad.add (i.toNat * 4)).off + 2, none⟩ = some (.string (rd_T41 xs i).f2) ∧ w.cell? ⟨(ad.add (i.toNat * 4)).block, (ad.add (i.toNat * 4)).off + 3, none⟩ = some (.int .i64 (rd_T41 xs i).f3) := by
 obtain ⟨ad, c, e, _, hK, hc0⟩ := Kd.C_get h z41 i h0 h1
 have hc : ∀ j u, c[j]? = some u → w.cell? (ad.add (i.toNat * 4 + j)) = some u := hc0
 obtain rfl := k41_open hK
 exact ⟨ad, e, hc 0 _ rfl, by rw [← add_field _ _ 1 (by omega)]; exact hc 1 _ rfl, by rw [← add_field _ _ 2 (by omega)]; exact hc 2 _ rfl, by rw [← add_field _ _ 3 (by omega)]; exact hc 3 _ rfl⟩
section
variable {P : Program} {ops : Array Oper} {rest : List Oper} {o : Oper} {a : Act} {Q : Exit → Act → World → Prop}
theorem vx_reads (W : World) (e : TypeId) (s : ByteArray) (hl : s.size ≤ 9223372036854775807) (ok : Nat → Prop) (hok : ok W.heap.size) :
  Kd.F (Kd.int .u8) (Lib.bytesWorld W e s) ok (some ⟨W.heap.size, 0, none⟩) (bytesOf s).length (bytesOf s) := by
 intro W' hW
 have hb : W'.heap[W.heap.size]? = (Lib.bytesWorld W e s).heap[W.heap.size]? := hW _ hok (by rw [Lib.bytesWorld_size]; omega)
 have h := bytes_reads W e s hl
 refine Kd.C_of_reads (h1 := fun _ => rfl) (d := (0 : Int)) ⟨rfl, by rw [bytesOf_length]; exact hl, fun hn => ?_⟩
 rw [bytesOf_length] at hn ⊢
 obtain ⟨ad, he, hc⟩ := h.2.2 hn
 refine ⟨ad, he, fun j hj => ?_⟩
 obtain rfl := Option.some.inj he
 have h2 := hc j hj
 have h3 : W'.cell? ((⟨W.heap.size, 0, none⟩ : Addr).add j) = (Lib.bytesWorld W e s).cell? ((⟨W.heap.size, 0, none⟩ : Addr).add j) := by
  rw [add_plain]
  exact World.cell?_of_block hb
 exact h3.trans h2
theorem vx_bytes (d : Kd Int) (hd0 : d = Kd.int .u8) {w0 W : World} (base e : Nat) (hgd : o.guard = none) {N : Tmp} (_hd : o.dst = some N) (src dst : TypeId) (x : Operand) (ho : o.op = .convert src dst x) (s : ByteArray) (hx : a.eval x = .string s)
  {u : TypeDesc} (hs : P.underlying src = some u) (hdt : P.underlying dst = some (.slice e)) (he : P.underlying e = some (.int .u8)) (hl : s.size ≤ 9223372036854775807) {ok : Nat → Prop} (hok : ∀ k, W.heap.size ≤ k → ok k) (HB : Below base w0 W) (hbase : base ≤ W.heap.size)
  (h : ∀ v1 w1, Kd.V d e w1 base ok v1 (bytesOf s) → Below base w0 w1 → W.grownBy w1 none → (∃ b, v1.ownBlock = some b ∧ W.heap.size ≤ b) → wpList P ops Q rest (a.put o.dst v1) w1) : wpList P ops Q (o :: rest) a W := by
 subst hd0
 refine Kd.event_run (v := .slice (some ⟨W.heap.size, 0, none⟩) s.size (grownCap W s.size 0 e)) (w1 := Lib.bytesWorld W e s) hgd ?_ (h _ _ ?_ (bytes_below HB hbase e s) ?_ ⟨W.heap.size, by simp [Value.ownBlock], Nat.le_refl _⟩)
 ·simp [execOp, ho, hx, Lib.run_convert_string_bytes W src dst e s hs hdt he]
 ·refine ⟨some ⟨W.heap.size, 0, none⟩, grownCap W s.size 0 e, by rw [bytesOf_length], by rw [bytesOf_length]; exact grownCap_ge W s.size 0 e, ?_⟩
  exact vx_reads W e s hl ok (hok _ (Nat.le_refl _))
 ·exact grown_of_below (bytes_below (Below.refl _ _) (Nat.le_refl _) e s) none
end
theorem less_turn : ∀ a b : List UInt8, (!(Op.bytesLess a b || a == b)) = Op.bytesLess b a
 | [], [] => by simp [Op.bytesLess]
 | [], b :: y => by simp [Op.bytesLess]
 | a :: x, [] => by simp [Op.bytesLess]
 | a :: x, b :: y => by
  have ih := less_turn x y
  simp only [Op.bytesLess]
  rcases Nat.lt_trichotomy a.toNat b.toNat with h | h | h
  ·have h1 : a < b := UInt8.lt_iff_toNat_lt.mpr h
   have h2 : ¬ b < a := fun h3 => by have := UInt8.lt_iff_toNat_lt.mp h3; omega
   have h3 : ¬ b = a := fun e => by subst e; omega
   simp [h1, h2, h3]
  ·have h1 : a = b := UInt8.toNat_inj.mp h
   subst h1
   simp [← ih]
  ·have h1 : ¬ a < b := fun h3 => by have := UInt8.lt_iff_toNat_lt.mp h3; omega
   have h2 : b < a := UInt8.lt_iff_toNat_lt.mpr h
   have h3 : ¬ a = b := fun e => by subst e; omega
   simp [h1, h2, h3]
theorem vx_gtr (t : TypeId) (a b : ByteArray) : binOp .gtr t (.string a) (.string b) = pure (.bool (Op.bytesLess b.toList a.toList)) := by
 rw [← less_turn]
 simp [binOp, Op.stringOp]
theorem vx_leq (t : TypeId) (a b : ByteArray) : binOp .leq t (.string a) (.string b) = pure (.bool !(Op.bytesLess b.toList a.toList)) := by
 rw [← less_turn, Bool.not_not]
 simp [binOp, Op.stringOp]
theorem vx_geq (t : TypeId) (a b : ByteArray) : binOp .geq t (.string a) (.string b) = pure (.bool !(Op.bytesLess a.toList b.toList)) := by simp [binOp, Op.stringOp]
end Go.Proofs.Ytepkmbbeaaljlaa.X
