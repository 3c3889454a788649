-- Written by wip/printx.py: the kit's printer with functions proved by hand. Not trusted: Lean checks it.
import Derived.Test.YtepkmbbeaaljlaaQKindStartX0
import Derived.Deep.Slices
import Derived.SizedLaws
import Derived.ChangeArms
import Derived.DataReads
import Derived.KernelRfl
namespace Go.Proofs.Ytepkmbbeaaljlaa.X
open Go.RowKit Go.Proofs.YtepkmbbeaaljlaaW.PrintWords Go.Proofs.YtepkmbbeaaljlaaW.PrintLast Go.Proofs.YtepkmbbeaaljlaaW.PrintMore
attribute [local go_sem] max2_int min2_int max_two min_two max_three min_three max_four min_four
set_option linter.unusedVariables false
set_option linter.unusedSimpArgs false
/-- What is read of type t is a value of kind d, of which wf holds. -/
structure Opens (P : Program) (t : TypeId) {α : Type} (d : Kd α) (wf : α → Prop) : Prop where mk :: (get :
  ∀ {H : Type} {enc : TypeId × Value → H} {w : World} {base : Nat} {spare : Nat → Bool} {held : Bool} {fuel : Nat} {cs : List Value} {x : DataW H × List MemPlace},
    DataW.trod enc P w base spare held fuel t cs = some x → (∀ n ∈ x.1.weights P t, n ≤ reachBytes) → ∃ a, d.K w a cs ∧ wf a)
theorem Opens.int {P : Program} {t : TypeId} {k : IntKind} (ht : P.underlying t = some (.int k)) : Opens P t (Kd.int k) (fun n => (Lit.int k n).wf = true) := by
  refine ⟨?_⟩
  intro H enc w base spare held fuel cs x h _
  obtain ⟨n, rfl, _, hw⟩ := DataW.trod_int ht h
  exact ⟨n, rfl, hw⟩
theorem Opens.bool {P : Program} {t : TypeId} (ht : P.underlying t = some .bool) : Opens P t Kd.bool (fun _ => True) := by
  refine ⟨?_⟩
  intro H enc w base spare held fuel cs x h _
  obtain ⟨n, rfl, _⟩ := DataW.trod_bool ht h
  exact ⟨n, rfl, trivial⟩
theorem Opens.string {P : Program} {t : TypeId} (ht : P.underlying t = some .string) : Opens P t Kd.string (fun s => s.size ≤ 140737488351232) := by
  refine ⟨?_⟩
  intro H enc w base spare held fuel cs x h hz
  obtain ⟨s, rfl, rfl, _⟩ := DataW.trod_string ht h
  refine ⟨s, rfl, ?_⟩
  have := hz s.data.toList.length (by simp [DataW.weights])
  rw [data_length] at this
  exact this
theorem weightsAll_mem {H : Type} {P : Program} {e : TypeId} : ∀ {l : List (DataW H)} {d : DataW H}, d ∈ l → ∀ n ∈ d.weights P e, n ∈ DataW.weightsAll P e l
  | d0 :: l, d, hd, n, hn => by
    simp only [DataW.weightsAll, List.mem_append]
    rcases List.mem_cons.1 hd with rfl | hd
    · exact .inl hn
    · exact .inr (weightsAll_mem hd n hn)
theorem Opens.slice {P : Program} {t e : TypeId} {α : Type} {d : Kd α} {wf : α → Prop} (ht : P.underlying t = some (.slice e)) (h : Opens P e d wf) (hs : d.sz = P.cellsOf e) :
    Opens P t (Kd.slice e d) (fun xs => xs.length * P.bytesOf e ≤ 140737488351232 ∧ ∀ x ∈ xs, wf x) := by
  refine ⟨?_⟩
  intro H enc w base spare held fuel cs x hx hz
  rcases Go.Deep.open_slice ht hx with ⟨rfl, rfl⟩ | ⟨a, len, cap, m, n, D, Pl, rfl, _, hl, hm, hmm, rfl, hi⟩
  · exact ⟨[], ⟨none, 0, rfl, Nat.le_refl _, ⟨rfl, by simp, fun h => absurd h (by simp)⟩⟩, by simp, by simp⟩
  · have hlm : len ≤ m := by rw [hmm]; split <;> omega
    have hz1 : (len + (m - len)) * P.bytesOf e ≤ reachBytes := hz _ (by simp [DataW.weights, ht])
    have hel : ∀ i, i < len → ∃ x cs', w.cells? base (a.add (i * P.cellsOf e)) (P.cellsOf e) = some cs' ∧ d.K w x cs' ∧ wf x := by
      intro i hil
      obtain ⟨cs', hc, htr⟩ := hi i (by omega)
      obtain ⟨x, hk, hw⟩ := h.get htr (fun q hq => hz q (by
        simp only [DataW.weights, ht, List.mem_cons, List.mem_append]
        exact .inr (.inl (weightsAll_mem (List.mem_map.2 ⟨i, List.mem_range.2 hil, rfl⟩) q hq))))
      exact ⟨x, cs', hc, hk, hw⟩
    obtain ⟨xs, hxl, hxs⟩ : ∃ xs : List α, xs.length = len ∧ ∀ i x, xs[i]? = some x → ∃ cs', w.cells? base (a.add (i * P.cellsOf e)) (P.cellsOf e) = some cs' ∧ d.K w x cs' ∧ wf x := by
      clear hz hz1 hx hi hmm hlm hl
      induction len with
      | zero => exact ⟨[], rfl, by simp⟩
      | succ len ih =>
        obtain ⟨xs, h1, h2⟩ := ih (fun i hi => hel i (by omega))
        obtain ⟨x, cs', hc, hk, hw⟩ := hel len (by omega)
        refine ⟨xs ++ [x], by simp [h1], fun i y hy => ?_⟩
        rcases Nat.lt_or_ge i len with hlt | hge
        · rw [List.getElem?_append_left (by omega)] at hy
          exact h2 i y hy
        · have hile : i < (xs ++ [x]).length := (List.getElem?_eq_some_iff.1 hy).1
          have : i = len := by simp [h1] at hile; omega
          subst this
          rw [List.getElem?_append_right (by omega), h1, Nat.sub_self] at hy
          obtain rfl := Option.some.inj hy
          exact ⟨cs', hc, hk, hw⟩
    have hmax : cap ≤ 9223372036854775807 := by unfold maxLen at hm; exact hm
    refine ⟨xs, ⟨some a, cap, by rw [hxl], by omega, ⟨rfl, by omega, fun _ => ⟨a, rfl, fun j p hj => ?_⟩⟩⟩, ?_, fun x hx => ?_⟩
    · obtain ⟨cs', hc, hk, _⟩ := hxs j p hj
      obtain ⟨_, hcl, hat⟩ := World.cells?_some hc
      refine ⟨cs', by rw [hcl, hs], hk, fun i u hu => ?_⟩
      have hil : i < P.cellsOf e := by rw [← hcl]; exact (List.getElem?_eq_some_iff.1 hu).1
      rw [hs, ← Go.Deep.add_add, hat i hil, hu]
    · rw [hxl]
      refine Nat.le_trans (Nat.mul_le_mul_right _ ?_) hz1
      omega
    · obtain ⟨i, hi⟩ := List.getElem?_of_mem hx
      obtain ⟨_, _, _, hw⟩ := hxs i x hi
      exact hw
/-- Fields laid in line. -/
def LaidIn {H : Type} (enc : TypeId × Value → H) (P : Program) (w : World) (base : Nat) (spare : Nat → Bool) (held : Bool) (n : Nat) : List TypeId → List Value → List (DataW H × List MemPlace) → Prop
  | [], _, xs => xs = []
  | t :: ts, cs, xs => ∃ x r, xs = x :: r ∧ DataW.trod enc P w base spare held n t (cs.take (P.cellsOf t)) = some x ∧ LaidIn enc P w base spare held n ts (cs.drop (P.cellsOf t)) r
structure OpensIn (P : Program) (ts : List TypeId) {α : Type} (d : Kd α) (wf : α → Prop) : Prop where mk :: (get :
  ∀ {H : Type} {enc : TypeId × Value → H} {w : World} {base : Nat} {spare : Nat → Bool} {held : Bool} {fuel : Nat} {cs : List Value} {xs : List (DataW H × List MemPlace)},
    LaidIn enc P w base spare held fuel ts cs xs → cs.length = (ts.map P.cellsOf).sum → (∀ n ∈ DataW.weightsEach P ts (xs.map (·.1)), n ≤ reachBytes) → ∃ a, d.K w a cs ∧ wf a)
theorem OpensIn.last {P : Program} {t : TypeId} {α : Type} {d : Kd α} {wf : α → Prop} (h : Opens P t d wf) : OpensIn P [t] d wf := by
  refine ⟨?_⟩
  intro H enc w base spare held fuel cs xs hl hc hz
  obtain ⟨x, r, rfl, htr, _⟩ := hl
  have hc' : cs.length = P.cellsOf t := by simpa using hc
  rw [← hc', List.take_length] at htr
  exact h.get htr (fun n hn => hz n (by simp [DataW.weightsEach, hn]))
theorem OpensIn.cons {P : Program} {t : TypeId} {ts : List TypeId} {α β : Type} {d : Kd α} {wf : α → Prop} {d' : Kd β} {wf' : β → Prop} (h : Opens P t d wf) (h' : OpensIn P ts d' wf') : OpensIn P (t :: ts) (Kd.pair d d') (fun p => wf p.1 ∧ wf' p.2) := by
  refine ⟨?_⟩
  intro H enc w base spare held fuel cs xs hl hc hz
  obtain ⟨x, r, rfl, htr, hr⟩ := hl
  obtain ⟨a, hk, hw⟩ := h.get htr (fun n hn => hz n (by simp only [List.map_cons, DataW.weightsEach, List.mem_append]; exact .inl hn))
  obtain ⟨b, hk', hw'⟩ := h'.get hr (by simp only [List.map_cons, List.sum_cons] at hc; rw [List.length_drop]; omega) (fun n hn => hz n (by simp only [List.map_cons, DataW.weightsEach, List.mem_append]; exact .inr hn))
  exact ⟨(a, b), ⟨_, _, (List.take_append_drop _ _).symm, hk, hk'⟩, hw, hw'⟩
def offsOk (P : Program) : Nat → List Field → Bool
  | _, [] => true
  | off, f :: fs => f.offset == off && offsOk P (off + P.cellsOf f.type) fs
theorem laidIn_of {H : Type} {enc : TypeId × Value → H} {P : Program} {w : World} {base : Nat} {spare : Nat → Bool} {held : Bool} {n : Nat} {cs : List Value} :
    ∀ (fs : List Field) (off : Nat) (xs : List (DataW H × List MemPlace)), offsOk P off fs = true → xs.length = fs.length →
      (∀ (i : Nat) (f : Field), fs[i]? = some f → DataW.trod enc P w base spare held n f.type ((cs.drop f.offset).take (P.cellsOf f.type)) = xs[i]?) → LaidIn enc P w base spare held n (fs.map (·.type)) (cs.drop off) xs
  | [], _, xs, _, hl, _ => List.length_eq_zero_iff.1 hl
  | f :: fs, off, [], _, hl, _ => by simp at hl
  | f :: fs, off, x :: xs, ho, hl, hg => by
    simp only [offsOk, Bool.and_eq_true, beq_iff_eq] at ho
    obtain ⟨rfl, ho⟩ := ho
    refine ⟨x, xs, rfl, hg 0 f rfl, ?_⟩
    rw [List.drop_drop]
    exact laidIn_of fs _ xs ho (by simpa using hl) (fun i g hi => hg (i + 1) g (by simpa using hi))
theorem Opens.struct {P : Program} {t : TypeId} {fs : Array Field} {α β : Type} {d : Kd α} {wf : α → Prop} (ht : P.underlying t = some (.struct fs)) (f : β → α) (g : α → β) (hfg : ∀ a, f (g a) = a) (ho : offsOk P 0 fs.toList = true)
    (hsum : ((fs.toList.map (·.type)).map P.cellsOf).sum = P.cellsOf t) (h : OpensIn P (fs.toList.map (·.type)) d wf) : Opens P t (Kd.iso d f) (fun x => wf (f x)) := by
  refine ⟨?_⟩
  intro H enc w base spare held fuel cs x hx hz
  obtain ⟨xs, n, _, rfl, hc, hl, hg⟩ := DataW.trod_struct ht hx
  have hla := laidIn_of (cs := cs) fs.toList 0 xs ho (by simpa using hl) (fun i q hi => hg i q (by simpa using hi))
  rw [List.drop_zero] at hla
  obtain ⟨a, hk, hw⟩ := h.get hla (by rw [hc, hsum]) (fun q hq => hz q (by simp only [DataW.weights, ht]; exact hq))
  exact ⟨g a, by show d.K w (f (g a)) cs; rw [hfg]; exact hk, by show wf (f (g a)); rw [hfg]; exact hw⟩
/-- A parameter. -/
theorem Opens.arg {P : Program} {t : TypeId} {α : Type} {d : Kd α} {wf : α → Prop} (h : Opens P t d wf) {H : Type} {enc : TypeId × Value → H} {w : World} {base : Nat} {spare : Nat → Bool} {held : Bool} {v : Value} {dd : DataW H} {ps : List MemPlace}
    (hv : DataW.Trod enc P w base spare held t v dd ps) (hz : ∀ n ∈ dd.weights P t, n ≤ reachBytes) : ∃ a, d.K w a v.cells.toList ∧ wf a := by
  obtain ⟨fuel, hf⟩ := hv
  exact h.get hf hz
def wfS41 (x : S41) : Prop := ((Lit.int .i64 x.f0).wf = true) ∧ ((Lit.int .i64 x.f1).wf = true) ∧ (x.f2.size ≤ 140737488351232) ∧ ((Lit.int .i64 x.f3).wf = true)
theorem o3 : Opens Try.prog 3 (Kd.int .i64) (fun n => (Lit.int .i64 n).wf = true) := Opens.int Try.underlying3
theorem o9 : Opens Try.prog 9 Kd.string (fun s => s.size ≤ 140737488351232) := Opens.string Try.underlying9
theorem o41 : Opens Try.prog 41 k41 wfS41 :=
  Opens.struct (P := Try.prog) Try.underlying41 (fun x : S41 => (x.f0, x.f1, x.f2, x.f3)) (fun p => ⟨p.1, p.2.1, p.2.2.1, p.2.2.2⟩) (fun _ => rfl) (by kernel_rfl) (by kernel_rfl) (OpensIn.cons o3 (OpensIn.cons o3 (OpensIn.cons o9 (OpensIn.last o3))))
end Go.Proofs.Ytepkmbbeaaljlaa.X
