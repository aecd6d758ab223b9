/- Parts of the proof, in build order. -/
import Derived.Test.YtcemageindmbkaaDoorWKept
import Derived.Test.YtcemageindmbkaaDoorWMore
import Derived.Lib.Hide
import Derived.Deep.RegionHeld3
import Derived.BigQuiet
import Derived.Deep.QuietTactic
import Derived.MapFrom
import Derived.Maps.Own
import Derived.Test.YtcemageindmbkaaDoorPSlotBytesx0
import Derived.Lib.LazyBuf
import Derived.Deep.DeepMust
import Derived.Test.YtcemageindmbkaaDoorPSlotBytesx1
import Derived.Test.YtcemageindmbkaaDoorPSlotBytesx2
import Derived.Test.YtcemageindmbkaaDoorPSlotBytesx6
import Derived.Test.YtcemageindmbkaaDoorShelf
/- Small laws that all walks of this seat use: a region that draws its order, over a class of worlds; what stays below; hidden facts. -/
namespace Go.Proofs.YtcemageindmbkaaDoor
open Go.RowKit Go.Proofs.YtcemageindmbkaaDoorW.PrintWords

/-- A world of a class. -/
structure CT (S : World → Prop) where
  w : World
  ok : S w

/-- A region that draws its order, whose operations each yield one value in every world of the class S and leave one of it: one walk, in the order of the text. -/
theorem wp_region_class {P : Program} {id : Nat} {Q : Exit → Act → World → Prop} {a : Act} {w : World} {l : List Oper} (S : World → Prop) (hm : P.follows .mixedOrders = true) (hB : Region.lexB .any l.toArray = true) (hS : S w.drew)
    (h : wpQuiet P l.toArray (fun w' => ∃ n : CT S, w' = n.w) (fun a' => ∀ w', (∃ n : CT S, w' = n.w) → Q .normal a' w') l a) : (Code.region id l.toArray true).wp P Q a w :=
  wp_region_quiet (C := fun w' => ∃ n : CT S, w' = n.w) hm hB ⟨⟨w.drew, hS⟩, rfl⟩ (by simpa using h)

theorem Calls.class_of {P : Program} {f : FuncId} {args : Array Value} {S R : World → Prop} {n : CT S} {v : Value} (h : Calls P f args n.w fun e w' => e = .returned v ∧ R w') (hR : ∀ w', R w' → S w') :
    Calls P f args n.w fun e w'' => e = .returned v ∧ ∃ m : CT S, w'' = m.w :=
  h.mono fun _ w' ⟨he, hr⟩ => ⟨he, ⟨w', hR w' hr⟩, rfl⟩

/-- The class of what lies above w0's blocks. -/
abbrev BT (w0 : World) := CT (fun w' => Below w0.heap.size w0 w')
instance (w0 : World) : Nonempty (BT w0) := ⟨⟨w0, Below.refl _ _⟩⟩
theorem Calls.below_of {P : Program} {f : FuncId} {args : Array Value} {w0 : World} {n : BT w0} {v : Value} (h : Calls P f args n.w fun e w' => e = .returned v ∧ Below n.w.heap.size n.w w') :
    Calls P f args n.w fun e w'' => e = .returned v ∧ ∃ m : BT w0, w'' = m.w :=
  Calls.class_of h fun _ hr => below_then n.ok n.ok.size hr
theorem BT.cell {w0 : World} {a : Addr} {v : Value} (h : w0.cell? a = some v) (n : BT w0) : n.w.cell? a = some v := pw_cell_below n.ok h
theorem wp_region_below {P : Program} {id : Nat} {Q : Exit → Act → World → Prop} {a : Act} {w : World} {l : List Oper} (hm : P.follows .mixedOrders = true) (hB : Region.lexB .any l.toArray = true)
    (h : wpQuiet P l.toArray (fun w' => ∃ n : BT w, w' = n.w) (fun a' => ∀ w', (∃ n : BT w, w' = n.w) → Q .normal a' w') l a) : (Code.region id l.toArray true).wp P Q a w :=
  wp_region_class (fun w' => Below w.heap.size w w') hm hB (below_drew (Below.refl _ _)) h

theorem bcell {W w1 : World} (hb : Below W.heap.size W w1) : (∀ b o, b < W.heap.size → w1.cell? ⟨b, o, none⟩ = W.cell? ⟨b, o, none⟩) ∧ (∀ b o, b < W.heap.size → w1.frozen? ⟨b, o, none⟩ = W.frozen? ⟨b, o, none⟩) :=
  ⟨fun b o h => hb.cell (p := ⟨b, o, none⟩) h, fun b o h => hb.frozen (p := ⟨b, o, none⟩) h⟩
/-- A step of 'below': from the world w0 on, past blocks that are new since. -/
theorem below_via {w0 w w' : World} (h : Below w0.heap.size w0 w) (hb : Below w.heap.size w w') : Below w0.heap.size w0 w' := below_then h h.size hb
theorem below_set {w0 w : World} (h : Below w0.heap.size w0 w) {p : Addr} (hp : w0.heap.size ≤ p.block) (u : Value) : Below w0.heap.size w0 (w.setCell p u) := h.setCell hp u

/-! ### What a call leaves: all but the blocks of S, and what is new since -/
structure Fr (w w' : World) (S : Nat → Prop) : Prop where
  os : w'.os = w.os
  tape : w'.tape = w.tape
  output : w'.output = w.output
  size : w.heap.size ≤ w'.heap.size
  block : ∀ k, k < w.heap.size → ¬ S k → w'.heap[k]? = w.heap[k]?
section
variable {w w1 w2 : World} {S S2 : Nat → Prop}
theorem Fr.refl (w : World) (S : Nat → Prop) : Fr w w S := ⟨rfl, rfl, rfl, Nat.le_refl _, fun _ _ _ => rfl⟩
theorem Fr.mono (h : Fr w w1 S) (hs : ∀ k, k < w.heap.size → S k → S2 k) : Fr w w1 S2 := ⟨h.os, h.tape, h.output, h.size, fun k hk hn => h.block k hk (fun h2 => hn (hs k hk h2))⟩
/-- One step and another one, which may turn what is of S, or new. -/
theorem Fr.trans (h : Fr w w1 S) (k : Fr w1 w2 S2) (hs : ∀ i, i < w.heap.size → S2 i → S i) : Fr w w2 S :=
  ⟨k.os.trans h.os, k.tape.trans h.tape, k.output.trans h.output, Nat.le_trans h.size k.size, fun i hi hn => (k.block i (Nat.lt_of_lt_of_le hi h.size) (fun h2 => hn (hs i hi h2))).trans (h.block i hi hn)⟩
theorem Fr.of_below (h : Below w.heap.size w w1) (S : Nat → Prop) : Fr w w1 S := ⟨h.os, h.tape, h.output, h.size, fun i hi _ => h.block i hi⟩
theorem Fr.below {B : Nat} (h : Fr w w1 S) (hB : B ≤ w.heap.size) (hs : ∀ k, S k → B ≤ k) : Below B w w1 := ⟨h.os, h.tape, h.output, h.size, fun i hi => h.block i (by omega) (fun h2 => by have := hs i h2; omega)⟩
theorem Fr.thenB (h : Fr w w1 S) (k : Below w1.heap.size w1 w2) : Fr w w2 S := h.trans (Fr.of_below k (fun _ => False)) (fun _ _ h2 => h2.elim)
theorem Fr.alloc (h : Fr w w1 S) (o : Obj) : Fr w (w1.alloc o) S := h.thenB (below_alloc (Below.refl _ _) o)
theorem Fr.drew (h : Fr w w1 S) : Fr w w1.drew S := ⟨h.os, h.tape, h.output, h.size, h.block⟩
theorem Fr.drewN (h : Fr w w1 S) (n : Nat) : Fr w (w1.drewN n) S := ⟨h.os, h.tape, h.output, h.size, h.block⟩
theorem Fr.setCell (h : Fr w w1 S) {p : Addr} (hp : p.block < w.heap.size → S p.block) (u : Value) : Fr w (w1.setCell p u) S :=
  h.trans (S2 := fun k => k = p.block) ⟨rfl, rfl, rfl, by simp [World.setCell], fun i _ hn => Below.heap_setCell w1 p u i hn⟩ (fun i hi e => by subst e; exact hp hi)
theorem Fr.kept (h : Fr w w1 S) : Kept w w1 S := ⟨h.size, h.block⟩
theorem Fr.blk {g : Nat} {o : Obj} (h : Fr w w1 S) (hb : w.heap[g]? = some o) (hn : ¬ S g) : w1.heap[g]? = some o := (h.block g (blk_lt hb) hn).trans hb
theorem Fr.cell {a : Addr} {v : Value} (h : Fr w w1 S) (hc : w.cell? a = some v) (hn : ¬ S a.block) : w1.cell? a = some v := cell_kept hc h.kept hn
/-- From B on: what the law made itself. -/
theorem Fr.from {B : Nat} {w0 : World} (hb : Below B w0 w) (h : Fr w w1 S) (hB : B ≤ w.heap.size) (hs : ∀ k, S k → B ≤ k) : Below B w0 w1 := hb.trans (h.below hB hs)
end

/-- A row of other elements has been written: this one, and what it leads to, is as it was. -/
theorem R_besides {α β : Type} {d : Kd α} {d' : Kd β} {e e' B B' : Nat} {w w1 : World} {ok ok' : Nat → Prop} {v v' : Value} {xs : List α} {ys : List β} (h : d.R e w B ok v xs) (h' : d'.R e' w B' ok' v' ys) (hne : ∀ q, q ∈ e :: d.E → q ≠ e') (hg : w.grownBy w1 v'.ownBlock) : d.R e w1 B ok v xs := by
  obtain ⟨inner, ho⟩ := Kd.R_own h'
  refine Kd.R_mono (Kd.R_grown (Kd.R_mono (Kd.R_bound h) (ok' := fun k => ok k ∧ some k ≠ v'.ownBlock) (fun k hk => ⟨hk.1, fun e => ?_⟩)) hg (fun k hk => hk.2)) (fun k hk => hk.1)
  obtain ⟨_, _, _, q, hq, cells, hc⟩ := hk
  obtain ⟨cells', hc'⟩ := own_typed ho k e.symm
  rw [hc] at hc'
  injection hc' with hc'
  injection hc' with _ hc'
  exact hne q hq hc'
end Go.Proofs.YtcemageindmbkaaDoor
/- Maps whose keys are ints, as lists of pairs in the order in which they were stored: what a look-up, a store and a delete do. -/
namespace Go.Proofs.YtcemageindmbkaaDoor
open Go.RowKit Go.Proofs.YtcemageindmbkaaDoorW.PrintWords Go.MapKept

/-- The entries read as these pairs. -/
def Ents (l : List MapEntry) (es : List (Int × Value)) : Prop := l.map (fun e => (e.key, e.val)) = es.map (fun p => (Value.int .i64 p.1, p.2))

/-- The first pair with this key: its place and its value. -/
def findI (k : Int) : List (Int × Value) → Nat → Option (Nat × Value)
  | [], _ => none
  | p :: r, i => if k = p.1 then some (i, p.2) else findI k r (i + 1)
/-- Its value. -/
def getI {α : Type} (k : Int) : List (Int × α) → Option α
  | [] => none
  | p :: r => if k = p.1 then some p.2 else getI k r
/-- What a store makes of the pairs. -/
def putI {α : Type} (k : Int) (v : α) : List (Int × α) → List (Int × α)
  | [] => [(k, v)]
  | p :: r => if k = p.1 then (k, v) :: r else p :: putI k v r
/-- What a delete leaves. -/
def delI {α : Type} (k : Int) : List (Int × α) → List (Int × α)
  | [] => []
  | p :: r => if k = p.1 then r else p :: delI k r

theorem findI_getI (k : Int) : ∀ (es : List (Int × Value)) (i : Nat), (findI k es i).map (·.2) = getI k es
  | [], _ => rfl
  | p :: r, i => by
    unfold findI getI
    split
    · rfl
    · exact findI_getI k r (i + 1)

theorem findNow_ents (k : Int) : ∀ (l : List MapEntry) (es : List (Int × Value)) (i : Nat), Ents l es → Instr.findNow (.int .i64) (.int .i64 k) l i = some (findI k es i)
  | [], [], _, _ => rfl
  | [], _ :: _, _, h => by simp [Ents] at h
  | _ :: _, [], _, h => by simp [Ents] at h
  | e :: l, p :: es, i, h => by
    have h' := h
    simp only [Ents, List.map_cons, List.cons.injEq, Prod.mk.injEq] at h'
    obtain ⟨⟨h1, h2⟩, h3⟩ := h'
    have ih := findNow_ents k l es (i + 1) h3
    unfold Instr.findNow findI
    rw [h1]
    by_cases hk : k = p.1
    · simp [Instr.sameNow, hk, h2]
    · have hb : (k == p.1) = false := by simp [hk]
      simp [Instr.sameNow, hb, hk, ih]

theorem isKey_int (k : Int) : IsKey (.int .i64) (.int .i64 k) := by simp [IsKey]

/-- A block that is a map with these pairs. -/
def MapAt (w : World) (b : Nat) (es : List (Int × Value)) : Prop := ∃ (l : Array MapEntry) (clock : Nat), w.heap[b]? = some (.map l clock) ∧ Ents l.toList es ∧ Stamped l clock
theorem MapAt.lt {w : World} {b : Nat} {es : List (Int × Value)} (h : MapAt w b es) : b < w.heap.size := by
  obtain ⟨l, c, hb, _⟩ := h
  exact blk_lt hb
theorem MapAt.of_block {w w' : World} {b : Nat} {es : List (Int × Value)} (h : MapAt w b es) (hb : w'.heap[b]? = w.heap[b]?) : MapAt w' b es := by
  obtain ⟨l, c, h1, h2⟩ := h
  exact ⟨l, c, hb.trans h1, h2⟩
theorem MapAt.below {w w' : World} {b : Nat} {es : List (Int × Value)} (h : MapAt w b es) (hb : Below w.heap.size w w') : MapAt w' b es := h.of_block (hb.block b h.lt)
theorem MapAt.kept {w w' : World} {S : Nat → Prop} {b : Nat} {es : List (Int × Value)} (h : MapAt w b es) (hk : Kept w w' S) (hS : ¬ S b) : MapAt w' b es := h.of_block (hk.2 b h.lt hS)
theorem MapAt.made (w : World) : MapAt (w.alloc (.map #[] 0)) w.heap.size [] := ⟨#[], 0, heap_alloc_new w _, rfl, by simp [Stamped]⟩

section
variable {P : Program} {w : World} {b : Nat} {es : List (Int × Value)} {T K E : TypeId}

theorem MapAt.look (h : MapAt w b es) (hT : P.underlying T = some (.map K E)) (hK : P.underlying K = some (.int .i64)) {z : Value} (hz : (zeroValue E).run P w = .ok z w) (k : Int) :
    (Instr.lookup T (.map (some b)) (.int .i64 k) true).run P w = .ok (.tuple #[(getI k es).getD z, .bool (getI k es).isSome]) w := by
  obtain ⟨l, c, hb, he, _⟩ := h
  have hf := findNow_ents k l.toList es 0 he
  have hg := findI_getI k es 0
  cases hh : findI k es 0 with
  | none =>
    rw [hh] at hf hg
    simp only [Option.map_none] at hg
    simp [Instr.lookup, run_underlying hT, MapKept.run_getObj_map hb, MapKept.run_checkKey hK (isKey_int k), MapKept.run_findKey hK hf, hz, Result.andThen, ← hg]
  | some q =>
    rw [hh] at hf hg
    simp only [Option.map_some] at hg
    simp [Instr.lookup, run_underlying hT, MapKept.run_getObj_map hb, MapKept.run_checkKey hK (isKey_int k), MapKept.run_findKey hK hf, Result.andThen, ← hg]

theorem putI_none {α : Type} {k : Int} {v : α} : ∀ {es : List (Int × α)}, getI k es = none → putI k v es = es ++ [(k, v)]
  | [], _ => rfl
  | p :: r, h => by
    unfold getI at h
    unfold putI
    by_cases hk : k = p.1
    · simp [hk] at h
    · simp only [hk, if_false] at h ⊢
      rw [putI_none h]; rfl

theorem findI_some {k : Int} {v v' : Value} : ∀ {es : List (Int × Value)} {i j : Nat}, findI k es i = some (j, v') → i ≤ j ∧ putI k v es = es.modify (j - i) (fun _ => (k, v))
  | [], _, _, h => by simp [findI] at h
  | p :: r, i, j, h => by
    unfold findI at h
    unfold putI
    by_cases hk : k = p.1
    · simp only [hk, if_true, Option.some.injEq, Prod.mk.injEq] at h ⊢
      obtain ⟨rfl, rfl⟩ := h
      simp
    · simp only [hk, if_false] at h ⊢
      obtain ⟨h1, h2⟩ := findI_some (v := v) h
      refine ⟨by omega, ?_⟩
      rw [h2, show j - i = (j - (i + 1)) + 1 by omega]
      rfl

theorem findI_key {k : Int} {v' : Value} : ∀ {es : List (Int × Value)} {i j : Nat}, findI k es i = some (j, v') → ∃ q, es[j - i]? = some q ∧ q.1 = k ∧ q.2 = v' ∧ i ≤ j
  | [], _, _, h => by simp [findI] at h
  | p :: r, i, j, h => by
    unfold findI at h
    by_cases hk : k = p.1
    · simp only [hk, if_true, Option.some.injEq, Prod.mk.injEq] at h
      obtain ⟨rfl, rfl⟩ := h
      exact ⟨p, by simp, hk.symm, rfl, Nat.le_refl _⟩
    · simp only [hk, if_false] at h
      obtain ⟨q, h1, h2, h3, h4⟩ := findI_key h
      refine ⟨q, ?_, h2, h3, by omega⟩
      rw [show j - i = (j - (i + 1)) + 1 by omega]
      simpa using h1

theorem findI_not {k : Int} : ∀ {es : List (Int × Value)} {i : Nat}, findI k es i = none → ∀ q ∈ es, q.1 ≠ k
  | [], _, _, q, hq => by simp at hq
  | p :: r, i, h, q, hq => by
    unfold findI at h
    by_cases hk : k = p.1
    · simp [hk] at h
    · simp only [hk, if_false] at h
      rcases List.mem_cons.1 hq with rfl | hq
      · exact fun e => hk e.symm
      · exact findI_not h q hq

theorem Ents.at_ {l : List MapEntry} {es : List (Int × Value)} (h : Ents l es) {j : Nat} {q : Int × Value} (hq : es[j]? = some q) : ∃ e, l[j]? = some e ∧ e.key = .int .i64 q.1 ∧ e.val = q.2 := by
  have h1 := congrArg (fun x => x[j]?) h
  simp only [List.getElem?_map, hq, Option.map_some] at h1
  cases hl : l[j]? with
  | none => rw [hl] at h1; simp at h1
  | some e =>
    rw [hl] at h1
    simp only [Option.map_some, Option.some.injEq, Prod.mk.injEq] at h1
    exact ⟨e, rfl, h1.1, h1.2⟩
theorem Ents.keys {l : List MapEntry} {es : List (Int × Value)} (h : Ents l es) : ∀ e ∈ l, ∃ q ∈ es, e.key = .int .i64 q.1 := by
  intro e he
  obtain ⟨j, hj⟩ := List.getElem?_of_mem he
  have h1 := congrArg (fun x => x[j]?) h
  simp only [List.getElem?_map, hj, Option.map_some] at h1
  cases hl : es[j]? with
  | none => rw [hl] at h1; simp at h1
  | some q =>
    rw [hl] at h1
    simp only [Option.map_some, Option.some.injEq, Prod.mk.injEq] at h1
    exact ⟨q, List.mem_of_getElem? hl, h1.1⟩

/-- Only this block is another one. -/
theorem fr_setBlock (w : World) (b : Nat) (o : Obj) : Fr w { w with heap := w.heap.setIfInBounds b o } (fun k => k = b) :=
  ⟨rfl, rfl, rfl, by simp, fun k _ hn => by simp only [Array.getElem?_setIfInBounds]; rw [if_neg (fun e => hn e.symm)]⟩

theorem MapAt.store (h : MapAt w b es) (hT : P.underlying T = some (.map K E)) (hK : P.underlying K = some (.int .i64)) (k : Int) (v : Value) :
    ∃ w', (Instr.mapUpdate T (.map (some b)) (.int .i64 k) v).run P w = .ok () w' ∧ MapAt w' b (putI k v es) ∧ Fr w w' (fun i => i = b) ∧ w'.heap.size = w.heap.size := by
  obtain ⟨l, c, hb, he, hs⟩ := h
  have hf := findNow_ents k l.toList es 0 he
  have hlt := blk_lt hb
  cases hh : findI k es 0 with
  | none =>
    rw [hh] at hf
    refine ⟨{ w with heap := w.heap.setIfInBounds b (.map (l.push ⟨.int .i64 k, v, c⟩) (c + 1)) }, by simp [Instr.mapUpdate, run_underlying hT, MapKept.run_getObj_map hb, MapKept.run_checkKey hK (isKey_int k), MapKept.run_findKey hK hf, MapKept.run_setObj_map _ hb, Result.andThen], ?_, fr_setBlock _ _ _, by simp⟩
    refine ⟨l.push ⟨.int .i64 k, v, c⟩, c + 1, by simp [hlt], ?_, stamped_push hs ?_⟩
    · rw [putI_none (by rw [← findI_getI k es 0, hh]; rfl)]
      simp only [Ents, Array.toList_push, List.map_append, List.map_cons, List.map_nil]
      rw [he]
    · intro x hx
      obtain ⟨q, hq, e⟩ := he.keys x hx
      rw [e]
      intro e2
      injection e2 with _ e3
      exact findI_not hh q hq e3
  | some q =>
    obtain ⟨j, v'⟩ := q
    rw [hh] at hf
    obtain ⟨q, h1, h2, h3, _⟩ := findI_key hh
    obtain ⟨e, e1, e2, e3⟩ := he.at_ h1
    have hj : l[j]? = some e := by simpa using e1
    have hek : e.key = .int .i64 k := by rw [e2, h2]
    refine ⟨{ w with heap := w.heap.setIfInBounds b (.map (l.modify j fun e => { e with key := .int .i64 k, val := v }) c) }, by simp [Instr.mapUpdate, run_underlying hT, MapKept.run_getObj_map hb, MapKept.run_checkKey hK (isKey_int k), MapKept.run_findKey hK hf, hj, hek, run_keyThatStays (isKey_int k), MapKept.run_setObj_map _ hb, Result.andThen], ?_, fr_setBlock _ _ _, by simp⟩
    refine ⟨l.modify j fun e => { e with key := .int .i64 k, val := v }, c, by simp [hlt], ?_, stamped_modify hs _ _ (fun _ _ => rfl) (fun e' _ he' => ?_)⟩
    · rw [(findI_some (v := v) hh).2]
      simp only [Ents, Array.toList_modify, Nat.sub_zero]
      apply List.ext_getElem?
      intro i
      have h4 := congrArg (fun x => x[i]?) he
      simp only [List.getElem?_map] at h4
      simp only [List.getElem?_map, List.getElem?_modify]
      by_cases hi : j = i
      · subst hi
        have e1' : l.toList[j]? = some e := by simpa using e1
        have h1' : es[j]? = some q := by simpa using h1
        simp [e1', h1']
      · simp only [hi, if_false]
        simpa [Function.comp_def] using h4
    · rw [hj] at he'
      cases he'
      exact hek.symm
end
end Go.Proofs.YtcemageindmbkaaDoor
/- slices.Clone of bytes: new memory with the same bytes. -/
namespace Go.Proofs.YtcemageindmbkaaDoor
open Go.RowKit Go.Proofs.YtcemageindmbkaaDoorW.PrintWords

abbrev KB : Kd Int := Kd.int .u8
/-- A slice of bytes that reads as l, from B on, in blocks of ok. -/
abbrev RB (w : World) (B : Nat) (ok : Nat → Prop) (v : Value) (l : List Int) : Prop := KB.R 5 w B ok v l
theorem infoB : (Tryd.prog.info? 5).map (fun i => (i.zero, i.size, i.bytes)) = some (some (.int .u8 0), 1, 1) := by kernel_rfl

/-- A row without elements that has just been laid. -/
theorem own_empty (w : World) : RB (w.alloc (.cells #[] 5)) w.heap.size (fun k => w.heap.size ≤ k) (.slice (some ⟨w.heap.size, 0, none⟩) 0 0) [] := by
  refine ⟨fun k hk => ?_, [], ?_, ?_⟩
  · have : w.heap.size = k := by simpa [Value.ownBlock] using hk
    subst this; exact Nat.le_refl _
  · exact World.ownsRow_lit (base := w.heap.size) (e := 5) (size := 1) w #[] 0 (Nat.le_refl _) (by decide) (by simp)
  · exact Reps.none _ _

set_option maxHeartbeats 1000000 in
theorem clone_calls (A : Option Addr) (c : Nat) (l : List Int) (w : World) (hc : KB.C w A l.length l) (hl : l.length ≤ 1000000000000) (hnil : A = none → c = 0) :
    Calls Tryd.prog 47 #[.slice A l.length c] w fun e w' => ∃ v, e = .returned v ∧ RB w' w.heap.size (fun k => w.heap.size ≤ k) v l ∧ Below w.heap.size w w' := by
  cases A with
  | none =>
    have h0 : l = [] := by
      rcases Nat.eq_zero_or_pos l.length with h | h
      · exact List.eq_nil_of_length_eq_zero h
      · obtain ⟨ad, h2, _⟩ := hc.2.2 h; cases h2
    subst h0
    have hc0 := hnil rfl
    subst hc0
    have he := fun w => run_eql_slice_nil (P := Tryd.prog) w 27 5 none 0 0 Tryd.underlying27
    clear hc hnil hl
    go_enter Tryd.func47, Tryd.ntmps47
    go_wp2_with fail
    go_ret
    exact ⟨_, rfl, Kd.R_nil _ _ _ _ _, Below.refl _ _⟩
  | some ad =>
    have he := fun w => run_eql_slice_nil (P := Tryd.prog) w 27 5 (some ad) l.length c Tryd.underlying27
    have HC := Lib.hid hc
    clear hc hnil
    go_enter Tryd.func47, Tryd.ntmps47
    go_wp2_with ((with_reducible refine gate_dst (N := 7) rfl ?_); refine Kd.R_append_rows KB (Rr := fun x cs => cs = [Value.int .u8 x]) (w0 := w) w.heap.size rfl _ _ 27 5 (.int .u8 0) 1 rfl Tryd.underlying27 infoB rfl (by decide) (by decide) _ [] l (some ad) l.length c (fun k => w.heap.size ≤ k) (fun _ => False) rfl rfl (own_empty w) (Kd.C_below HC.out (below_alloc (Below.refl _ _) _)) (fun _ _ h => h) (fun _ h => h.elim) (fun k hk => by simp at hk; omega) (below_alloc (Below.refl _ _) _) (by simp) (by simp; omega) ?_; intro v1 w1 HO1 HB1 HG1 _)
    go_ret
    exact ⟨v1, rfl, HO1, HB1⟩
end Go.Proofs.YtcemageindmbkaaDoor
/- The program's disk: what lies in memory, and what its operations do: fails, Size, Sectors, at, Read, Write. -/
namespace Go.Proofs.YtcemageindmbkaaDoor
open Go.RowKit Go.Proofs.YtcemageindmbkaaDoorW.PrintWords

/-- A disk's state. -/
structure DiskS where
  size : Int
  lasting : List Int
  cached : List (Int × List Int)
  planned : List Int
  ops : Int
  writes : Int

/-- The pairs of a map of slices, and what the slices read as. -/
def CRep (w : World) (B : Nat) (ok : Nat → Prop) : List (Int × Value) → List (Int × List Int) → Prop
  | [], [] => True
  | p :: r, q :: s => p.1 = q.1 ∧ RB w B ok p.2 q.2 ∧ CRep w B ok r s
  | _, _ => False

section
variable {w w' : World} {B : Nat} {ok ok' : Nat → Prop}
theorem CRep.step : ∀ {ces : List (Int × Value)} {cs : List (Int × List Int)}, CRep w B ok ces cs → (∀ k, ok k → k < w.heap.size → w'.heap[k]? = w.heap[k]?) → CRep w' B ok ces cs
  | [], [], _, _ => trivial
  | [], _ :: _, h, _ => h.elim
  | _ :: _, [], h, _ => h.elim
  | _ :: _, _ :: _, h, hm => ⟨h.1, Kd.R_step h.2.1 hm, h.2.2.step hm⟩
theorem CRep.mono : ∀ {ces : List (Int × Value)} {cs : List (Int × List Int)}, CRep w B ok ces cs → (∀ k, ok k → ok' k) → CRep w B ok' ces cs
  | [], [], _, _ => trivial
  | [], _ :: _, h, _ => h.elim
  | _ :: _, [], h, _ => h.elim
  | _ :: _, _ :: _, h, hm => ⟨h.1, Kd.R_mono h.2.1 hm, h.2.2.mono hm⟩
theorem CRep.types {g t : Nat} {cells : Array Value} (hb : w.heap[g]? = some (.cells cells t (0, 0))) (ht : 5 ≠ t) : ∀ {ces : List (Int × Value)} {cs : List (Int × List Int)}, CRep w B ok ces cs → CRep w B (fun k => ok k ∧ k ≠ g) ces cs
  | [], [], _ => trivial
  | [], _ :: _, h => h.elim
  | _ :: _, [], h => h.elim
  | _ :: _, _ :: _, h => ⟨h.1, Kd.R_types h.2.1 hb (by intro q hq; simp [KB, Kd.int, Kd.scalar] at hq; subst hq; exact ht), h.2.2.types hb ht⟩
theorem CRep.get (k : Int) : ∀ {ces : List (Int × Value)} {cs : List (Int × List Int)}, CRep w B ok ces cs → (getI k ces = none ∧ getI k cs = none) ∨ ∃ v l, getI k ces = some v ∧ getI k cs = some l ∧ RB w B ok v l
  | [], [], _ => .inl ⟨rfl, rfl⟩
  | [], _ :: _, h => h.elim
  | _ :: _, [], h => h.elim
  | p :: r, q :: s, h => by
    unfold getI
    rw [← h.1]
    by_cases hk : k = p.1
    · exact .inr ⟨p.2, q.2, by simp [hk], by simp [hk], h.2.1⟩
    · simp only [hk, if_false]
      exact h.2.2.get k
theorem CRep.put {k : Int} {v : Value} {l : List Int} (hv : RB w B ok v l) : ∀ {ces : List (Int × Value)} {cs : List (Int × List Int)}, CRep w B ok ces cs → CRep w B ok (putI k v ces) (putI k l cs)
  | [], [], _ => ⟨rfl, hv, trivial⟩
  | [], _ :: _, h => h.elim
  | _ :: _, [], h => h.elim
  | p :: r, q :: s, h => by
    unfold putI
    rw [← h.1]
    by_cases hk : k = p.1
    · simp only [hk, if_true]
      exact ⟨rfl, hv, h.2.2⟩
    · simp only [hk, if_false]
      exact ⟨h.1, h.2.1, h.2.2.put hv⟩
end

/-- The cells of a disk's block. -/
def diskCells (D : DiskS) (v : Value) (cb pb : Nat) : Array Value := #[.int .i64 D.size, v, .map (some cb), .map (some pb), .int .i64 D.ops, .int .i64 D.writes]
/-- At block g lies a disk in the state D; it lies from block B on, in the blocks of F. -/
def IsDisk (w : World) (B : Nat) (F : Nat → Prop) (g : Nat) (D : DiskS) : Prop :=
  ∃ (A : Option Addr) (c cb pb : Nat) (ces : List (Int × Value)),
    w.heap[g]? = some (.cells (diskCells D (.slice A D.lasting.length c) cb pb) 80 (0, 0)) ∧
    RB w B F (.slice A D.lasting.length c) D.lasting ∧
    MapAt w cb ces ∧ CRep w B (fun k => F k ∧ some k ≠ (Value.slice A D.lasting.length c).ownBlock) ces D.cached ∧
    MapAt w pb (D.planned.map fun n => (n, .agg #[])) ∧
    F g ∧ F cb ∧ F pb ∧ cb ≠ pb ∧ (∀ k, F k → B ≤ k ∧ k < w.heap.size)

theorem IsDisk.step {w w' : World} {B g : Nat} {F : Nat → Prop} {D : DiskS} (h : IsDisk w B F g D) (hs : w.heap.size ≤ w'.heap.size) (hm : ∀ k, F k → w'.heap[k]? = w.heap[k]?) : IsDisk w' B F g D := by
  obtain ⟨A, c, cb, pb, ces, h1, h2, h3, h4, h5, h6, h7, h8, h9, h10⟩ := h
  exact ⟨A, c, cb, pb, ces, (hm g h6).trans h1, Kd.R_step h2 (fun k hk _ => hm k hk), h3.of_block (hm _ h7), h4.step (fun k hk _ => hm k hk.1), h5.of_block (hm _ h8), h6, h7, h8, h9, fun k hk => ⟨(h10 k hk).1, Nat.lt_of_lt_of_le (h10 k hk).2 hs⟩⟩
theorem IsDisk.bound {w : World} {B g : Nat} {F : Nat → Prop} {D : DiskS} (h : IsDisk w B F g D) : ∀ k, F k → B ≤ k ∧ k < w.heap.size := by
  obtain ⟨A, c, cb, pb, ces, h1, h2, h3, h4, h5, h6, h7, h8, h9, h10⟩ := h
  exact h10
theorem IsDisk.below {w w' : World} {B g : Nat} {F : Nat → Prop} {D : DiskS} (h : IsDisk w B F g D) (hb : Below w.heap.size w w') : IsDisk w' B F g D := h.step hb.size (fun k hk => hb.block k (h.bound k hk).2)
theorem IsDisk.fr {w w' : World} {B g : Nat} {F S : Nat → Prop} {D : DiskS} (h : IsDisk w B F g D) (hf : Fr w w' S) (hS : ∀ k, F k → ¬ S k) : IsDisk w' B F g D := h.step hf.size (fun k hk => hf.block k (h.bound k hk).2 (hS k hk))
/-- Behind a store into the disk's own block all else of it is as it was. -/
theorem IsDisk.setAt {w : World} {B g : Nat} {F : Nat → Prop} {D D' : DiskS} (h : IsDisk w B F g D) (i : Nat) (u : Value) (h1 : D'.lasting = D.lasting) (h2 : D'.cached = D.cached) (h3 : D'.planned = D.planned)
    (hc : ∀ v cb pb, (diskCells D v cb pb).setIfInBounds i u = diskCells D' v cb pb) : IsDisk (w.setCell ⟨g, i, none⟩ u) B F g D' := by
  obtain ⟨A, c, cb, pb, ces, g1, g2, g3, g4, g5, g6, g7, g8, g9, g10⟩ := h
  have hne : ∀ k, k ≠ g → (w.setCell ⟨g, i, none⟩ u).heap[k]? = w.heap[k]? := fun k hk => Below.heap_setCell w _ _ k hk
  unfold IsDisk
  rw [h1, h2, h3]
  refine ⟨A, c, cb, pb, ces, by rw [← hc]; exact blk_set g1 i u, ?_, g3.of_block (hne _ ?_), ?_, g5.of_block (hne _ ?_), g6, g7, g8, g9, by simpa using g10⟩
  · exact Kd.R_mono (Kd.R_step (Kd.R_types g2 g1 (by decide)) (fun k hk _ => hne k hk.2)) (fun k hk => hk.1)
  · rintro rfl; obtain ⟨l, ck, hb, _⟩ := g3; rw [g1] at hb; cases hb
  · exact ((g4.types g1 (by decide)).step (fun k hk _ => hne k hk.2)).mono (fun k hk => hk.1)
  · rintro rfl; obtain ⟨l, ck, hb, _⟩ := g5; rw [g1] at hb; cases hb
theorem IsDisk.setOps {w : World} {B g : Nat} {F : Nat → Prop} {D : DiskS} (h : IsDisk w B F g D) (n : Int) : IsDisk (w.setCell ⟨g, 4, none⟩ (.int .i64 n)) B F g { D with ops := n } :=
  h.setAt 4 _ rfl rfl rfl (fun _ _ _ => rfl)
theorem IsDisk.setWrites {w : World} {B g : Nat} {F : Nat → Prop} {D : DiskS} (h : IsDisk w B F g D) (n : Int) : IsDisk (w.setCell ⟨g, 5, none⟩ (.int .i64 n)) B F g { D with writes := n } :=
  h.setAt 5 _ rfl rfl rfl (fun _ _ _ => rfl)

/-- Is the next operation planned to fail? -/
def failsB (D : DiskS) : Bool := D.planned.contains (D.ops + 1)

theorem getI_marks (n : Int) (v : Value) : ∀ l : List Int, getI n (l.map fun n => (n, v)) = if l.contains n then some v else none
  | [] => rfl
  | a :: r => by
    simp only [List.map_cons, getI, List.contains_cons]
    by_cases h : n = a
    · simp [h]
    · have hb : (n == a) = false := by simp [h]
      simp only [h, if_false, hb, Bool.false_or]
      exact getI_marks n v r

set_option maxHeartbeats 1000000 in
set_option maxRecDepth 100000 in
theorem fails_calls (w : World) (B g : Nat) (F : Nat → Prop) (D : DiskS) (h : IsDisk w B F g D) (h0 : 0 ≤ D.ops) (h1 : D.ops ≤ 1000000000000) :
    Calls Tryd.prog 124 #[.pointer (some ⟨g, 0, none⟩)] w fun e w' => e = .returned (.bool (failsB D)) ∧ IsDisk w' B F g { D with ops := D.ops + 1 } ∧ Fr w w' (fun k => k = g) := by
  have H := Lib.hid h
  obtain ⟨A, c, cb, pb, ces, g1, g2, g3, g4, g5, g6, g7, g8, g9, g10⟩ := h
  have c3 : w.cell? ⟨g, 3, none⟩ = some (.map (some pb)) := (blk_cell g1 3).trans rfl
  have c4 : w.cell? ⟨g, 4, none⟩ = some (.int .i64 D.ops) := (blk_cell g1 4).trans rfl
  have f4 := blk_frozen g1 4
  have hg : g < w.heap.size := blk_lt g1
  have hw1 := (H.out.setOps (D.ops + 1))
  have hW1 := Lib.hid hw1
  have hpb : pb ≠ g := by rintro rfl; obtain ⟨l, ck, hb, _⟩ := g5; rw [g1] at hb; cases hb
  have g5' : MapAt (w.setCell ⟨g, 4, none⟩ (.int .i64 (D.ops + 1))) pb (D.planned.map fun n => (n, .agg #[])) := g5.of_block (Below.heap_setCell w _ _ pb hpb)
  have hlook : (Instr.lookup 78 (.map (some pb)) (.int .i64 (D.ops + 1)) true).run Tryd.prog (w.setCell ⟨g, 4, none⟩ (.int .i64 (D.ops + 1))).drew = .ok (.tuple #[.agg #[], .bool (failsB D)]) (w.setCell ⟨g, 4, none⟩ (.int .i64 (D.ops + 1))).drew := by
    rw [(g5'.below (below_drew (Below.refl _ _))).look Tryd.underlying78 Tryd.underlying3 (z := .agg #[]) (by kernel_rfl), getI_marks]
    unfold failsB; cases D.planned.contains (D.ops + 1) <;> rfl
  have hlook2 : (Instr.lookup 78 (.map (some pb)) (.int .i64 (D.ops + 1)) true).run Tryd.prog ((w.setCell ⟨g, 4, none⟩ (.int .i64 (D.ops + 1))).alloc (.cells #[] 158)).drew = .ok (.tuple #[.agg #[], .bool (failsB D)]) ((w.setCell ⟨g, 4, none⟩ (.int .i64 (D.ops + 1))).alloc (.cells #[] 158)).drew := by
    rw [(g5'.below (below_drew (below_alloc (Below.refl _ _) _))).look Tryd.underlying78 Tryd.underlying3 (z := .agg #[]) (by kernel_rfl), getI_marks]
    unfold failsB; cases D.planned.contains (D.ops + 1) <;> rfl
  have hgS : g < (w.setCell ⟨g, 4, none⟩ (.int .i64 (D.ops + 1))).heap.size := by simpa using hg
  have d3 : (w.setCell ⟨g, 4, none⟩ (.int .i64 (D.ops + 1))).cell? ⟨g, 3, none⟩ = some (.map (some pb)) := by rw [World.cell?_setCell_other _ _ _ _ (by simp)]; exact c3
  have d4 : (w.setCell ⟨g, 4, none⟩ (.int .i64 (D.ops + 1))).cell? ⟨g, 4, none⟩ = some (.int .i64 (D.ops + 1)) := World.cell?_setCell_same _ _ _ c4
  have hF : Fr w (w.setCell ⟨g, 4, none⟩ (.int .i64 (D.ops + 1))) (fun k => k = g) := Fr.setCell (S := fun k => k = g) (Fr.refl _ _) (p := ⟨g, 4, none⟩) (fun _ => rfl) _
  have HF := Lib.hid hF
  clear g1 g2 g3 g4 g5 g6 g7 g8 g9 g10 hw1 g5' hpb H hF
  go_enter Tryd.func124, Tryd.ntmps124
  go_wp2_with fail
  clear c3 c4
  generalize w.setCell ⟨g, 4, none⟩ (.int .i64 (D.ops + 1)) = wS at *
  go_region
  all_goals
    go_wp2
    go_ret
    exact ⟨rfl, hW1.out.below (below_drew (below_alloc (Below.refl _ _) _)), HF.out.thenB (below_drew (below_alloc (Below.refl _ _) _))⟩

theorem IsDisk.cells {w : World} {B g : Nat} {F : Nat → Prop} {D : DiskS} (h : IsDisk w B F g D) :
    ∃ (A : Option Addr) (c cb pb : Nat), w.cell? ⟨g, 0, none⟩ = some (.int .i64 D.size) ∧ w.cell? ⟨g, 1, none⟩ = some (.slice A D.lasting.length c) ∧ w.cell? ⟨g, 2, none⟩ = some (.map (some cb)) ∧ w.cell? ⟨g, 3, none⟩ = some (.map (some pb)) ∧
      w.cell? ⟨g, 4, none⟩ = some (.int .i64 D.ops) ∧ w.cell? ⟨g, 5, none⟩ = some (.int .i64 D.writes) ∧ (∀ i, w.frozen? ⟨g, i, none⟩ = false) ∧ g < w.heap.size := by
  obtain ⟨A, c, cb, pb, ces, g1, g2, g3, g4, g5, g6, g7, g8, g9, g10⟩ := h
  exact ⟨A, c, cb, pb, (blk_cell g1 0).trans rfl, (blk_cell g1 1).trans rfl, (blk_cell g1 2).trans rfl, (blk_cell g1 3).trans rfl, (blk_cell g1 4).trans rfl, (blk_cell g1 5).trans rfl, fun i => blk_frozen g1 i, blk_lt g1⟩

set_option maxHeartbeats 1000000 in
theorem size_calls (w : World) (B g : Nat) (F : Nat → Prop) (D : DiskS) (h : IsDisk w B F g D) :
    Calls Tryd.prog 86 #[.pointer (some ⟨g, 0, none⟩)] w fun e w' => e = .returned (.int .i64 D.size) ∧ Below w.heap.size w w' := by
  obtain ⟨A, c, cb, pb, c0, -⟩ := h.cells
  clear h
  go_enter Tryd.func86, Tryd.ntmps86
  go_wp2_with fail
  go_ret
  exact ⟨rfl, Below.refl _ _⟩

/-- How many sectors. -/
def DiskS.sectors (D : DiskS) : Int := D.lasting.length / D.size
set_option maxHeartbeats 1000000 in
theorem sectorsOf_calls (w : World) (B g : Nat) (F : Nat → Prop) (D : DiskS) (h : IsDisk w B F g D) (h1 : 1 ≤ D.size) (hl : D.lasting.length ≤ 1000000000000) :
    Calls Tryd.prog 87 #[.pointer (some ⟨g, 0, none⟩)] w fun e w' => e = .returned (.int .i64 D.sectors) ∧ Below w.heap.size w w' := by
  obtain ⟨A, c, cb, pb, c0, c1, -⟩ := h.cells
  clear h
  have hz : (D.size == 0) = false := by rw [beq_eq_false_iff_ne]; omega
  have H : Hid (D.sectors = (D.lasting.length : Int) / D.size) := Lib.hid rfl
  have hd : 0 ≤ (D.lasting.length : Int) / D.size := Int.ediv_nonneg (by omega) (by omega)
  have hd2 : (D.lasting.length : Int) / D.size ≤ D.lasting.length := Int.ediv_le_self _ (by omega)
  go_enter Tryd.func87, Tryd.ntmps87
  go_wp2_with fail
  go_quiet (fail)
  go_wp2
  go_ret
  exact ⟨by rw [H.out]; rfl, pw_below_drewN (Below.refl _ _) _⟩

/-- A sector's lasting bytes. -/
def DiskS.sector (D : DiskS) (i : Int) : List Int := (D.lasting.take ((i + 1) * D.size).toNat).drop (i * D.size).toNat
theorem mul_bound {i s n : Int} (h0 : 0 ≤ i) (h1 : 1 ≤ s) (hi : i < n / s) : 0 ≤ i * s ∧ (i + 1) * s = i * s + s ∧ i * s + s ≤ n := by
  refine ⟨Int.mul_nonneg h0 (by omega), by rw [Int.add_mul]; omega, ?_⟩
  have h2 : i + 1 ≤ n / s := by omega
  have h3 : (i + 1) * s ≤ n := (Int.le_ediv_iff_mul_le (by omega)).1 h2
  rw [Int.add_mul] at h3
  omega
theorem infoI5 : ∃ i, Tryd.prog.info? 5 = some i ∧ i.size = 1 := by
  obtain ⟨i, h1, h2⟩ := Option.map_eq_some_iff.1 infoB
  simp only [Prod.mk.injEq] at h2
  exact ⟨i, h1, h2.2.1⟩

set_option maxHeartbeats 1000000 in
theorem at_calls (w : World) (B g : Nat) (F : Nat → Prop) (D : DiskS) (i : Int) (h : IsDisk w B F g D) (h1 : 1 ≤ D.size) (hl : D.lasting.length ≤ 1000000000000) (hi0 : 0 ≤ i) (hi : i < D.sectors) :
    Calls Tryd.prog 125 #[.pointer (some ⟨g, 0, none⟩), .int .i64 i] w fun e w' => ∃ A c, e = .returned (.slice A (D.sector i).length c) ∧ KB.C w A (D.sector i).length (D.sector i) ∧ (A = none → c = 0) ∧ (D.sector i).length = D.size.toNat ∧ Below w.heap.size w w' := by
  obtain ⟨A, c, cb, pb, ces, g1, g2, -⟩ := h
  have c0 : w.cell? ⟨g, 0, none⟩ = some (.int .i64 D.size) := (blk_cell g1 0).trans rfl
  have c1 : w.cell? ⟨g, 1, none⟩ = some (.slice A D.lasting.length c) := (blk_cell g1 1).trans rfl
  obtain ⟨m1, m2, m3⟩ := mul_bound hi0 h1 hi
  obtain ⟨A', c', hv, hle, hC⟩ := Kd.R_reads g2
  obtain ⟨rfl, rfl⟩ : A = A' ∧ c = c' := by injection hv with e1 e2 e3; exact ⟨e1, e3⟩
  obtain ⟨lo, hlo⟩ := Int.eq_ofNat_of_zero_le m1
  obtain ⟨s, hs⟩ := Int.eq_ofNat_of_zero_le (show 0 ≤ D.size by omega)
  have hsec : D.sector i = (D.lasting.take (lo + s)).drop lo := by
    unfold DiskS.sector
    rw [m2, hlo, hs]
    congr 1
  have hlen : (D.sector i).length = s := by rw [hsec]; simp; omega
  obtain ⟨inf, i1, i2⟩ := infoI5
  have hcut := cut_mid (P := Tryd.prog) 27 5 .i64 .i64 Tryd.underlying27 i1 1 i2 A D.lasting.length c (lo : Int) ((lo : Int) + (s : Int)) (by omega) (by omega) (by omega) hle
  have hmid := Kd.C_mid (lo := lo) (hi := lo + s) hC (by omega) (by omega) hle
  rw [← hsec, if_neg (by omega)] at hmid
  obtain ⟨ad, rfl, -⟩ := hC.2.2 (by omega)
  have hcut2 : ∀ W, (Instr.slice 27 (.slice (some ad) D.lasting.length c) (some (.int .i64 (lo : Int))) (some (.int .i64 ((lo : Int) + (s : Int)))) none).run Tryd.prog W = .ok (.slice (some (ad.add lo)) s (c - lo)) W := fun W => by
    rw [hcut W, if_neg (by omega)]
    have q1 : ((lo : Int) + (s : Int)).toNat - (lo : Int).toNat = s := by omega
    have q2 : (lo : Int).toNat = lo := by omega
    rw [q1, q2]; simp
  clear hcut
  have w1 : IntKind.i64.wrap (i * D.size) = (lo : Int) := by rw [hlo]; exact IntWalk.i64_in _ (by omega)
  have w2 : IntKind.i64.wrap ((i + 1) * D.size) = (lo : Int) + (s : Int) := by rw [m2, hlo, hs]; exact IntWalk.i64_in _ (by omega)
  have hi1 : i + 1 ≤ 9223372036854775807 := by
    have := Int.ediv_le_self (a := (D.lasting.length : Int)) D.size (by omega)
    unfold DiskS.sectors at hi
    omega
  have w3 : IntKind.i64.wrap (i + 1) = i + 1 := IntWalk.i64_in _ (by omega)
  have HM := Lib.hid hmid
  have HL := Lib.hid hlen
  have HS := Lib.hid hs
  have hlt : s ≤ D.lasting.length := by omega
  have hs1 : 1 ≤ s := by omega
  clear g1 g2 m1 m2 m3 hlo hs hsec hlen hmid hv hC hi hi1 i1 i2
  go_enter Tryd.func125, Tryd.ntmps125
  go_wp2_with fail
  go_quiet (fail)
  go_wp2
  go_ret
  refine ⟨some (ad.add lo), c - lo, by rw [HL.out]; rfl, ?_, (fun h => by cases h), by rw [HL.out, HS.out]; rfl, pw_below_drewN (Below.refl _ _) _⟩
  have := HM.out
  simpa [KB, Kd.int, Kd.scalar] using this
end Go.Proofs.YtcemageindmbkaaDoor
/- The program's disk: Read and Write. -/
namespace Go.Proofs.YtcemageindmbkaaDoor
open Go.RowKit Go.Proofs.YtcemageindmbkaaDoorW.PrintWords

structure DiskOk (D : DiskS) : Prop where
  s1 : 1 ≤ D.size
  s2 : D.size ≤ 4096
  len : D.lasting.length ≤ 16777216
  ops0 : 0 ≤ D.ops
  ops1 : D.ops ≤ 1000000000000
  wr0 : 0 ≤ D.writes
  wr1 : D.writes ≤ 1000000000000
  cach : ∀ k l, getI k D.cached = some l → l.length ≤ 4096

/-- What a Read tells; and its bytes. -/
def readErr (D : DiskS) (i : Int) : Int := if failsB D = true then 3 else if i < 0 ∨ D.sectors ≤ i then 2 else 0
def readB (D : DiskS) (i : Int) : List Int := if readErr D i = 0 then (getI i D.cached).getD (D.sector i) else []
def DiskS.next (D : DiskS) : DiskS := { D with ops := D.ops + 1 }
theorem sectors_le {D : DiskS} (h : DiskOk D) : 0 ≤ D.sectors ∧ D.sectors ≤ 16777216 := by
  have h1 := h.s1
  have h2 := h.len
  have := Int.ediv_le_self (a := (D.lasting.length : Int)) D.size (by omega)
  have h3 : 0 ≤ (D.lasting.length : Int) / D.size := Int.ediv_nonneg (by omega) (by omega)
  unfold DiskS.sectors
  omega

/-- The look-up of a sector's cached bytes. -/
theorem IsDisk.look {w : World} {B g : Nat} {F : Nat → Prop} {D : DiskS} (h : IsDisk w B F g D) (i : Int) : ∃ cb, w.cell? ⟨g, 2, none⟩ = some (.map (some cb)) ∧
    ((getI i D.cached = none ∧ (Instr.lookup 77 (.map (some cb)) (.int .i64 i) true).run Tryd.prog w = .ok (.tuple #[.slice none 0 0, .bool false]) w) ∨
      ∃ A l c, getI i D.cached = some l ∧ (Instr.lookup 77 (.map (some cb)) (.int .i64 i) true).run Tryd.prog w = .ok (.tuple #[.slice A l.length c, .bool true]) w ∧ KB.C w A l.length l ∧ (A = none → c = 0)) := by
  obtain ⟨A, c, cb, pb, ces, g1, g2, g3, g4, g5, g6, g7, g8, g9, g10⟩ := h
  refine ⟨cb, (blk_cell g1 2).trans rfl, ?_⟩
  have hl := g3.look (P := Tryd.prog) Tryd.underlying77 Tryd.underlying3 (z := .slice none 0 0) (by kernel_rfl) i
  rcases g4.get i with ⟨h1, h2⟩ | ⟨v, l, h1, h2, h3⟩
  · exact .inl ⟨h2, by rw [hl, h1]; rfl⟩
  · obtain ⟨A1, c1, rfl, hle, hC⟩ := Kd.R_reads h3
    refine .inr ⟨A1, l, c1, h2, by rw [hl, h1]; rfl, hC, ?_⟩
    rintro rfl
    obtain ⟨inner, hown⟩ := Kd.R_own h3
    rcases hown.2 with ⟨e, _⟩ | ⟨g, cap, cur, e, _⟩
    · injection e
    · cases e

theorem read_fail (w : World) (B g : Nat) (F : Nat → Prop) (D : DiskS) (i : Int) (h : IsDisk w B F g D) (hok : DiskOk D) (hf : failsB D = true) :
    Calls Tryd.prog 89 #[.pointer (some ⟨g, 0, none⟩), .int .i64 i] w fun e w' => e = .returned (.tuple #[.slice none 0 0, .int .i64 3]) ∧ IsDisk w' B F g D.next ∧ Fr w w' (fun k => k = g) := by
  have hc := fails_calls w B g F D h hok.ops0 hok.ops1
  rw [hf] at hc
  have HC := Lib.hid hc
  clear hc h hok hf
  go_enter Tryd.func89, Tryd.ntmps89
  go_wp2_with (go_at_call 124; refine HC.out.mono ?_; rintro e w1 ⟨rfl, hD, hF⟩; have HD := Lib.hid hD; have HF := Lib.hid hF; clear hD hF)
  go_ret2
  exact ⟨rfl, HD.out, HF.out⟩

set_option maxHeartbeats 1000000 in
theorem read_range (w : World) (B g : Nat) (F : Nat → Prop) (D : DiskS) (i : Int) (h : IsDisk w B F g D) (hok : DiskOk D) (hf : failsB D = false) (hi : i < 0 ∨ D.sectors ≤ i) :
    Calls Tryd.prog 89 #[.pointer (some ⟨g, 0, none⟩), .int .i64 i] w fun e w' => e = .returned (.tuple #[.slice none 0 0, .int .i64 2]) ∧ IsDisk w' B F g D.next ∧ Fr w w' (fun k => k = g) := by
  have hc := fails_calls w B g F D h hok.ops0 hok.ops1
  rw [hf] at hc
  have HC := Lib.hid hc
  have HS := Lib.hid (fun (w1 : World) (hw : IsDisk w1 B F g D.next) => sectorsOf_calls w1 B g F D.next hw hok.s1 (Nat.le_trans hok.len (by omega)))
  have e1 : Hid (D.next.sectors = D.sectors) := Lib.hid rfl
  have hs := sectors_le hok
  have HI := Lib.hid hi
  clear hc h hok hf hi
  by_cases h0 : i < 0
  · go_enter Tryd.func89, Tryd.ntmps89
    go_wp2_with (go_at_call 124; refine HC.out.mono ?_; rintro e w1 ⟨rfl, hD, hF⟩; have HD := Lib.hid hD; have HF := Lib.hid hF; clear hD hF)
    go_ret2
    exact ⟨rfl, HD.out, HF.out⟩
  · have h2 : D.sectors ≤ i := by have := HI.out; omega
    have h3 : 0 ≤ i := by omega
    go_enter Tryd.func89, Tryd.ntmps89
    go_wp2_with (first | (go_at_call 124; refine HC.out.mono ?_; rintro e w1 ⟨rfl, hD, hF⟩; have HD := Lib.hid hD; have HF := Lib.hid hF; clear hD hF) | (go_at_call 87; refine (HS.out _ HD.out).mono ?_; rw [e1.out]; rintro e w2 ⟨rfl, hb2⟩))
    go_ret2
    exact ⟨rfl, HD.out.below hb2, HF.out.thenB hb2⟩


set_option maxRecDepth 100000 in
theorem read_in (w : World) (B g : Nat) (F : Nat → Prop) (D : DiskS) (i : Int) (h : IsDisk w B F g D) (hok : DiskOk D) (hf : failsB D = false) (hi0 : 0 ≤ i) (hi : i < D.sectors) :
    Calls Tryd.prog 89 #[.pointer (some ⟨g, 0, none⟩), .int .i64 i] w fun e w' => ∃ v, e = .returned (.tuple #[v, .int .i64 0]) ∧ RB w' w.heap.size (fun k => w.heap.size ≤ k) v ((getI i D.cached).getD (D.sector i)) ∧ IsDisk w' B F g D.next ∧ Fr w w' (fun k => k = g) := by
  have hc := fails_calls w B g F D h hok.ops0 hok.ops1
  rw [hf] at hc
  have HC := Lib.hid hc
  have HS := Lib.hid (fun (w1 : World) (hw : IsDisk w1 B F g D.next) => sectorsOf_calls w1 B g F D.next hw hok.s1 (Nat.le_trans hok.len (by omega)))
  have HA := Lib.hid (fun (w1 : World) (hw : IsDisk w1 B F g D.next) => at_calls w1 B g F D.next i hw hok.s1 (Nat.le_trans hok.len (by omega)) hi0 hi)
  have e1 : Hid (D.next.sectors = D.sectors) := Lib.hid rfl
  have e2 : Hid (D.next.sector i = D.sector i) := Lib.hid rfl
  have hs := sectors_le hok
  have HL := Lib.hid hok.len
  have HQ := Lib.hid (hok.cach i)
  clear hc h hok hf
  have hge : ¬ D.sectors ≤ i := by omega
  go_enter Tryd.func89, Tryd.ntmps89
  go_wp2_with fail
  refine HC.out.mono ?_
  rintro e w1 ⟨rfl, hD, hF⟩
  have HD := Lib.hid hD
  have HF := Lib.hid hF
  clear hD hF
  go_wp2_with fail
  refine (HS.out _ HD.out).mono ?_
  rw [e1.out]
  rintro e w2 ⟨rfl, hb2⟩
  have HD2 := Lib.hid (HD.out.below hb2)
  have HF2 := Lib.hid (HF.out.thenB hb2)
  clear hb2 HD HF
  obtain ⟨cb, c2, hlook⟩ := HD2.out.look i
  rcases hlook with ⟨hg, hrun⟩ | ⟨A, l, c, hg, hrun, hC, hnil⟩
  · have HG := Lib.hid hg
    clear hg
    go_wp2_with fail
    refine (HA.out _ HD2.out).mono ?_
    rintro e w3 ⟨A3, c3, rfl, hC3, hn3, hl3, hb3⟩
    have HD3 := Lib.hid (HD2.out.below hb3)
    have HF3 := Lib.hid (HF2.out.thenB hb3)
    have HK := Lib.hid (fun (w : World) (hc : KB.C w A3 (D.next.sector i).length (D.next.sector i)) => clone_calls A3 c3 (D.next.sector i) w hc (by rw [hl3]; have := HL.out; have : (D.next.sector i).length ≤ D.lasting.length := (by rw [e2.out]; unfold DiskS.sector; simp; omega); omega) hn3)
    have HC3 := Lib.hid (Kd.C_below hC3 hb3)
    clear hC3 hn3 hl3 hb3
    go_wp2_with fail
    refine (HK.out _ HC3.out).mono ?_
    rintro e w4 ⟨v, rfl, hR, hb4⟩
    have HR := Lib.hid hR
    have HB4 := Lib.hid hb4
    clear hR hb4
    go_wp2_with fail
    go_ret2
    refine ⟨v, rfl, ?_, HD3.out.below HB4.out, HF3.out.thenB HB4.out⟩
    have hG : getI i D.cached = none := HG.out
    rw [hG]
    exact Kd.R_mono (Kd.R_lower HR.out HF3.out.size) (fun k hk => Nat.le_trans HF3.out.size hk)
  · have HG := Lib.hid hg
    have HK := Lib.hid (fun (w : World) (hc : KB.C w A l.length l) => clone_calls A c l w hc (by have := HQ.out l HG.out; omega) hnil)
    have HC3 := Lib.hid hC
    clear hg hC hnil
    go_wp2_with fail
    refine (HK.out _ HC3.out).mono ?_
    rintro e w4 ⟨v, rfl, hR, hb4⟩
    have HR := Lib.hid hR
    have HB4 := Lib.hid hb4
    clear hR hb4
    go_wp2_with fail
    go_ret2
    refine ⟨v, rfl, ?_, HD2.out.below HB4.out, HF2.out.thenB HB4.out⟩
    have hG : getI i D.cached = some l := HG.out
    rw [hG]
    exact Kd.R_mono (Kd.R_lower HR.out HF2.out.size) (fun k hk => Nat.le_trans HF2.out.size hk)

/-- Read, whatever it is asked. -/
theorem read_calls (w : World) (B g : Nat) (F : Nat → Prop) (D : DiskS) (i : Int) (h : IsDisk w B F g D) (hok : DiskOk D) :
    Calls Tryd.prog 89 #[.pointer (some ⟨g, 0, none⟩), .int .i64 i] w fun e w' => ∃ v, e = .returned (.tuple #[v, .int .i64 (readErr D i)]) ∧ RB w' w.heap.size (fun k => w.heap.size ≤ k) v (readB D i) ∧ IsDisk w' B F g D.next ∧ Fr w w' (fun k => k = g) := by
  rcases hf : failsB D with _ | _
  · by_cases hi : i < 0 ∨ D.sectors ≤ i
    · have e1 : readErr D i = 2 := by simp [readErr, hf, hi]
      have e2 : readB D i = [] := by unfold readB; rw [e1]; rfl
      rw [e1, e2]
      exact (read_range w B g F D i h hok hf hi).mono fun e w' ⟨h1, h2, h3⟩ => ⟨_, h1, Kd.R_nil _ _ _ _ _, h2, h3⟩
    · have e1 : readErr D i = 0 := by simp [readErr, hf, hi]
      have e2 : readB D i = (getI i D.cached).getD (D.sector i) := by unfold readB; rw [e1]; rfl
      rw [e1, e2]
      exact read_in w B g F D i h hok hf (by omega) (by omega)
  · have e1 : readErr D i = 3 := by simp [readErr, hf]
    have e2 : readB D i = [] := by unfold readB; rw [e1]; rfl
    rw [e1, e2]
    exact (read_fail w B g F D i h hok hf).mono fun e w' ⟨h1, h2, h3⟩ => ⟨_, h1, Kd.R_nil _ _ _ _ _, h2, h3⟩
end Go.Proofs.YtcemageindmbkaaDoor
/- The program's disk: Write. -/
namespace Go.Proofs.YtcemageindmbkaaDoor
open Go.RowKit Go.Proofs.YtcemageindmbkaaDoorW.PrintWords

def writeErr (D : DiskS) (i : Int) (n : Int) : Int := if failsB D = true then 3 else if i < 0 then 2 else if D.sectors ≤ i then 4 else if n ≠ D.size then 1 else 0
def writeS (D : DiskS) (i : Int) (b : List Int) : DiskS := if writeErr D i b.length = 0 then { D.next with cached := putI i b D.cached, writes := D.writes + 1 } else D.next

theorem IsDisk.mono {w : World} {B g : Nat} {F F' : Nat → Prop} {D : DiskS} (h : IsDisk w B F g D) (h1 : ∀ k, F k → F' k) (h2 : ∀ k, F' k → B ≤ k ∧ k < w.heap.size) : IsDisk w B F' g D := by
  obtain ⟨A, c, cb, pb, ces, g1, g2, g3, g4, g5, g6, g7, g8, g9, g10⟩ := h
  exact ⟨A, c, cb, pb, ces, g1, Kd.R_mono g2 h1, g3, g4.mono (fun k hk => ⟨h1 k hk.1, hk.2⟩), g5, h1 _ g6, h1 _ g7, h1 _ g8, g9, h2⟩
/-- The map of what is cached, laid open, and what a store into it makes of the disk. -/
theorem IsDisk.open_cached {w : World} {B g : Nat} {F : Nat → Prop} {D : DiskS} (h : IsDisk w B F g D) :
    ∃ cb ces, w.cell? ⟨g, 2, none⟩ = some (.map (some cb)) ∧ MapAt w cb ces ∧ F cb ∧
      ∀ (w' : World) (i : Int) (v : Value) (l : List Int) (F1 : Nat → Prop), MapAt w' cb (putI i v ces) → Fr w w' (fun k => k = cb) → RB w B F1 v l → (∀ k, F1 k → ¬ F k) →
        IsDisk w' B (fun k => F k ∨ (F1 k ∧ B ≤ k ∧ k < w'.heap.size)) g { D with cached := putI i l D.cached } := by
  obtain ⟨A, c, cb, pb, ces, g1, g2, g3, g4, g5, g6, g7, g8, g9, g10⟩ := h
  refine ⟨cb, ces, (blk_cell g1 2).trans rfl, g3, g7, ?_⟩
  intro w' i v l F1 hM hF hv hn
  have hgc : g ≠ cb := by rintro rfl; obtain ⟨_, _, hb, _⟩ := g3; rw [g1] at hb; cases hb
  -- a row of bytes is no map
  have rowNe : ∀ {ok : Nat → Prop} {u : Value} {m : List Int}, RB w B ok u m → RB w' B (fun k => ok k ∧ B ≤ k ∧ k < w.heap.size) u m := by
    intro ok u m hu
    have h1 := Kd.R_bound hu
    have h2 : RB w B (fun k => (ok k ∧ B ≤ k ∧ k < w.heap.size) ∧ k ≠ cb) u m := Kd.R_mono h1 (fun k hk => ⟨⟨hk.1, hk.2.1, hk.2.2.1⟩, by
      rintro rfl
      obtain ⟨_, _, _, q, hq, cells, hc⟩ := hk
      obtain ⟨_, _, hb, _⟩ := g3
      rw [hc] at hb; cases hb⟩)
    exact Kd.R_mono (Kd.R_step h2 (fun k hk hlt => hF.block k hlt hk.2)) (fun k hk => hk.1)
  have hces : ∀ {ok : Nat → Prop} {ces : List (Int × Value)} {cs : List (Int × List Int)}, CRep w B ok ces cs → CRep w' B ok ces cs := by
    intro ok ces
    induction ces with
    | nil => intro cs hc; cases cs with
      | nil => trivial
      | cons => exact hc.elim
    | cons p r ih => intro cs hc; cases cs with
      | nil => exact hc.elim
      | cons q s => exact ⟨hc.1, Kd.R_mono (rowNe hc.2.1) (fun k hk => hk.1), ih hc.2.2⟩
  refine ⟨A, c, cb, pb, putI i v ces, hF.blk g1 hgc, Kd.R_mono (rowNe g2) (fun k hk => .inl hk.1), hM, ?_, g5.of_block (hF.block pb g5.lt (fun e => g9 e.symm)), .inl g6, .inl g7, .inl g8, g9, ?_⟩
  · refine CRep.put (Kd.R_mono (rowNe hv) (fun k hk => ⟨.inr ⟨hk.1, hk.2.1, Nat.lt_of_lt_of_le hk.2.2 hF.size⟩, fun e => ?_⟩)) ((hces g4).mono (fun k hk => ⟨.inl hk.1, hk.2⟩))
    exact hn k hk.1 (g2.1 k e.symm)
  · rintro k (hk | hk)
    · exact ⟨(g10 k hk).1, Nat.lt_of_lt_of_le (g10 k hk).2 hF.size⟩
    · exact hk.2

/-- The arms that every way through Write meets first. -/
theorem write_out (w : World) (B g : Nat) (F : Nat → Prop) (D : DiskS) (i : Int) (A : Option Addr) (c : Nat) (b : List Int) (h : IsDisk w B F g D) (hok : DiskOk D) (hne : writeErr D i b.length ≠ 0) :
    Calls Tryd.prog 91 #[.pointer (some ⟨g, 0, none⟩), .int .i64 i, .slice A b.length c] w fun e w' => e = .returned (.int .i64 (writeErr D i b.length)) ∧ IsDisk w' B F g D.next ∧ Fr w w' (fun k => k = g) := by
  have hc := fails_calls w B g F D h hok.ops0 hok.ops1
  have HS := Lib.hid (fun (w1 : World) (hw : IsDisk w1 B F g D.next) => sectorsOf_calls w1 B g F D.next hw hok.s1 (Nat.le_trans hok.len (by omega)))
  have e1 : Hid (D.next.sectors = D.sectors) := Lib.hid rfl
  have hs := sectors_le hok
  have HE : Hid (writeErr D i b.length = if failsB D = true then 3 else if i < 0 then 2 else if D.sectors ≤ i then 4 else if (b.length : Int) ≠ D.size then 1 else 0) := Lib.hid rfl
  have HN := Lib.hid hne
  clear h hok hne
  rcases hf : failsB D with _ | _
  · rw [hf] at hc
    have HF0 := Lib.hid hf
    have HC := Lib.hid hc
    clear hc hf
    by_cases h0 : i < 0
    · go_enter Tryd.func91, Tryd.ntmps91
      go_wp2_with (go_at_call 124; refine HC.out.mono ?_; rintro e w1 ⟨rfl, hD, hF⟩; have HD := Lib.hid hD; have HF := Lib.hid hF; clear hD hF)
      go_ret
      exact ⟨by rw [HE.out, HF0.out, if_neg (by simp), if_pos h0]; rfl, HD.out, HF.out⟩
    · have h3 : 0 ≤ i := by omega
      by_cases h1 : D.sectors ≤ i
      · go_enter Tryd.func91, Tryd.ntmps91
        go_wp2_with (first | (go_at_call 124; refine HC.out.mono ?_; rintro e w1 ⟨rfl, hD, hF⟩; have HD := Lib.hid hD; have HF := Lib.hid hF; clear hD hF) | (go_at_call 87; refine (HS.out _ HD.out).mono ?_; rw [e1.out]; rintro e w2 ⟨rfl, hb2⟩))
        go_ret
        exact ⟨by rw [HE.out, HF0.out, if_neg (by simp), if_neg (by omega), if_pos (by omega)]; rfl, HD.out.below hb2, HF.out.thenB hb2⟩
      · have h4 : (b.length : Int) ≠ D.size := fun e => HN.out (by rw [HE.out, HF0.out]; simp [h0, h1, e])
        have h5 : ((b.length : Int) != D.size) = true := by rw [bne_iff_ne]; exact h4
        have H4 := Lib.hid h4
        clear h4
        go_enter Tryd.func91, Tryd.ntmps91
        go_wp2_with (first | (go_at_call 124; refine HC.out.mono ?_; rintro e w1 ⟨rfl, hD, hF⟩; have HD := Lib.hid hD; have HF := Lib.hid hF; clear hD hF) | (go_at_call 87; refine (HS.out _ HD.out).mono ?_; rw [e1.out]; rintro e w2 ⟨rfl, hb2⟩; obtain ⟨_, _, _, _, c0, -⟩ := (HD.out.below hb2).cells; have C0 : w2.cell? ⟨g, 0, none⟩ = some (.int .i64 D.size) := c0; clear c0))
        go_ret
        exact ⟨by rw [HE.out, HF0.out, if_neg (by simp), if_neg (by omega), if_neg (by omega), if_pos H4.out]; rfl, HD.out.below hb2, HF.out.thenB hb2⟩
  · rw [hf] at hc
    have HF0 := Lib.hid hf
    have HC := Lib.hid hc
    clear hc hf
    go_enter Tryd.func91, Tryd.ntmps91
    go_wp2_with (go_at_call 124; refine HC.out.mono ?_; rintro e w1 ⟨rfl, hD, hF⟩; have HD := Lib.hid hD; have HF := Lib.hid hF; clear hD hF)
    go_ret
    exact ⟨by rw [HE.out, HF0.out, if_pos rfl]; rfl, HD.out, HF.out⟩

set_option maxHeartbeats 1000000 in
set_option maxRecDepth 100000 in
theorem write_in (w : World) (B g : Nat) (F : Nat → Prop) (D : DiskS) (i : Int) (A : Option Addr) (c : Nat) (b : List Int) (h : IsDisk w B F g D) (hok : DiskOk D) (hB : B ≤ w.heap.size) (he : writeErr D i b.length = 0)
    (hC : ∀ w', Fr w w' (fun k => k = g) → KB.C w' A b.length b) (hnil : A = none → c = 0) :
    Calls Tryd.prog 91 #[.pointer (some ⟨g, 0, none⟩), .int .i64 i, .slice A b.length c] w fun e w' => e = .returned (.int .i64 0) ∧ IsDisk w' B (fun k => F k ∨ (w.heap.size ≤ k ∧ k < w'.heap.size)) g { D.next with cached := putI i b D.cached, writes := D.writes + 1 } ∧ Fr w w' F := by
  have hf : failsB D = false := by
    unfold writeErr at he
    split at he
    · omega
    · simpa using ‹¬ failsB D = true›
  have hin : 0 ≤ i ∧ i < D.sectors ∧ (b.length : Int) = D.size := by
    unfold writeErr at he
    rw [hf] at he
    simp only [Bool.false_eq_true, if_false] at he
    split at he
    · omega
    · split at he
      · omega
      · split at he
        · omega
        · omega
  obtain ⟨hi0, hi1, hn⟩ := hin
  have hc := fails_calls w B g F D h hok.ops0 hok.ops1
  rw [hf] at hc
  have HC := Lib.hid hc
  have HS := Lib.hid (fun (w1 : World) (hw : IsDisk w1 B F g D.next) => sectorsOf_calls w1 B g F D.next hw hok.s1 (Nat.le_trans hok.len (by omega)))
  have e1 : Hid (D.next.sectors = D.sectors) := Lib.hid rfl
  have hs := sectors_le hok
  have HR := Lib.hid hC
  have hlen : b.length ≤ 4096 := by have := hok.s2; omega
  have h5 : ((b.length : Int) != D.size) = false := by rw [bne_eq_false_iff_eq]; exact hn
  have HK := Lib.hid (fun (w : World) (hc : KB.C w A b.length b) => clone_calls A c b w hc (by omega) hnil)
  have hw0 := hok.wr0
  have hw1 := hok.wr1
  have hge : ¬ D.sectors ≤ i := by omega
  have HFg := Lib.hid (fun k (hk : k = g) => (show F k by obtain ⟨_, _, _, _, _, _, _, _, _, _, h6, _⟩ := h; rw [hk]; exact h6))
  have HBD := Lib.hid h.bound
  clear h hok he hf hn hc hC hnil
  go_enter Tryd.func91, Tryd.ntmps91
  go_wp2_with fail
  refine HC.out.mono ?_
  rintro e w1 ⟨rfl, hD, hF⟩
  have HD := Lib.hid hD
  have HF := Lib.hid hF
  clear hD hF
  go_wp2_with fail
  refine (HS.out _ HD.out).mono ?_
  rw [e1.out]
  rintro e w2 ⟨rfl, hb2⟩
  have HD2 := Lib.hid (HD.out.below hb2)
  have HF2 := Lib.hid (HF.out.thenB hb2)
  clear hb2 HD HF
  obtain ⟨_, _, _, _, c0, -⟩ := HD2.out.cells
  have C0 : w2.cell? ⟨g, 0, none⟩ = some (.int .i64 D.size) := c0
  clear c0
  obtain ⟨cb, ces, c2, -⟩ := HD2.out.open_cached
  have hg2 : g < w2.heap.size := World.block_lt_of_cell? w2 _ c2
  go_wp2_with fail
  go_region_with (go_at_call 47; refine (HK.out _ (HR.out _ HF2.out.drew)).mono ?_; rintro e w4 ⟨v, rfl, hR4, hb4⟩; obtain ⟨cb', ces', d2, hM4, hFcb, hopen⟩ := (HD2.out.below (below_via (below_drew (Below.refl _ _)) hb4)).open_cached; have e2 : w4.cell? ⟨g, 2, none⟩ = some (.map (some cb)) := pw_cell_below hb4 c2; obtain rfl : cb = cb' := (by have := e2.symm.trans d2; simpa using this); clear d2; obtain ⟨w5, hrun5, hM5, hF5, hs5⟩ := hM4.store (P := Tryd.prog) Tryd.underlying77 Tryd.underlying3 i v; have H5 := Lib.hid (hopen w5 i v b (fun k => w.heap.size ≤ k) hM5 hF5 (Kd.R_mono (Kd.R_lower hR4 (Nat.le_trans hB HF2.out.size)) (fun k hk => Nat.le_trans HF2.out.size hk)) (fun k hk hk2 => by have := (HBD.out k hk2).2; omega)); have HF5 := Lib.hid (((HF2.out.mono (fun k _ hk => HFg.out k hk)).drew.thenB hb4).trans hF5 (fun k _ hk => by rw [hk]; exact hFcb)); clear hR4 hb4 hopen hM4 hM5 hF5 hs5 hFcb)
  all_goals
    obtain ⟨_, _, _, _, _, _, _, _, _, d5, df, dg⟩ := H5.out.cells
    have C5 : w5.cell? ⟨g, 5, none⟩ = some (.int .i64 D.writes) := d5
    have F5 := df 5
    clear d5 df
    go_wp2
    go_ret
    refine ⟨rfl, (H5.out.setWrites (D.writes + 1)).mono ?_ ?_, HF5.out.setCell (p := ⟨g, 5, none⟩) (fun _ => HFg.out g rfl) _⟩
    · rintro k (hk | hk)
      · exact .inl hk
      · exact .inr ⟨hk.1, by simpa using hk.2.2⟩
    · rintro k (hk | hk)
      · exact ⟨(HBD.out k hk).1, Nat.lt_of_lt_of_le (HBD.out k hk).2 (by have := HF5.out.size; simpa using this)⟩
      · exact ⟨Nat.le_trans hB hk.1, hk.2⟩

/-- Write, whatever it is given. -/
theorem write_calls (w : World) (B g : Nat) (F : Nat → Prop) (D : DiskS) (i : Int) (A : Option Addr) (c : Nat) (b : List Int) (h : IsDisk w B F g D) (hok : DiskOk D) (hB : B ≤ w.heap.size)
    (hC : ∀ w', Fr w w' (fun k => k = g) → KB.C w' A b.length b) (hnil : A = none → c = 0) :
    Calls Tryd.prog 91 #[.pointer (some ⟨g, 0, none⟩), .int .i64 i, .slice A b.length c] w fun e w' => e = .returned (.int .i64 (writeErr D i b.length)) ∧ IsDisk w' B (fun k => F k ∨ (w.heap.size ≤ k ∧ k < w'.heap.size)) g (writeS D i b) ∧ Fr w w' F := by
  have hFg : F g := by obtain ⟨_, _, _, _, _, _, _, _, _, _, h6, _⟩ := h; exact h6
  by_cases he : writeErr D i b.length = 0
  · have e1 : writeS D i b = { D.next with cached := putI i b D.cached, writes := D.writes + 1 } := by unfold writeS; rw [if_pos he]
    rw [e1, he]
    exact write_in w B g F D i A c b h hok hB he hC hnil
  · have e1 : writeS D i b = D.next := by unfold writeS; rw [if_neg he]
    rw [e1]
    refine (write_out w B g F D i A c b h hok he).mono fun e w' ⟨h1, h2, h3⟩ => ⟨h1, h2.mono (fun k hk => .inl hk) ?_, h3.mono (fun k _ hk => by rw [hk]; exact hFg)⟩
    rintro k (hk | hk)
    · exact h2.bound k hk
    · exact ⟨Nat.le_trans hB hk.1, hk.2⟩
end Go.Proofs.YtcemageindmbkaaDoor
/- crc.Sum: what it reckons. -/
namespace Go.Proofs.YtcemageindmbkaaDoor
open Go.RowKit Go.Proofs.YtcemageindmbkaaDoorW.PrintWords
open PSlotBytes

def timesF (a : Int) : Int := Go.bits .xor .u32 (a / 2) (Go.bits .and .u32 3988292384 ((-(Go.bits .and .u32 a 1)) % 4294967296))
def timesN : Nat → Int → Int
  | 0, a => a
  | n + 1, a => timesF (timesN n a)
/-- One more byte. -/
def crcByte (s x : Int) : Int := timesN 8 (Go.bits .xor .u32 s x)
def crcAll (s : Int) (l : List Int) : Int := l.foldl crcByte s
def notF (a : Int) : Int := Go.bits .xor .u32 IntKind.u32.max a
/-- A text's check sum. -/
def sumF (l : List Int) : Int := notF (crcAll (notF 0) l)

theorem times_calls (a : Int) (w : World) : Calls Tryd.prog 127 #[.int .u32 a] w fun e w' => e = .returned (.int .u32 (timesF a)) ∧ Below w.heap.size w w' :=
  (crc_times.calls a _ w rfl).mono fun _ _ ⟨h1, h2⟩ => ⟨h1, h2.below⟩

/-- The cell of a byte that is read. -/
theorem byteAt {w : World} {A : Option Addr} {l : List Int} (h : KB.C w A l.length l) {k : Nat} (hk : k < l.length) : ∃ ad, A = some ad ∧ w.cell? (ad.add k) = some (.int .u8 l[k]) := by
  obtain ⟨ad, c, e, _, hK, hc⟩ := Kd.C_get h 0 (k : Int) (by omega) (by omega)
  refine ⟨ad, e, ?_⟩
  have hK' : c = [.int .u8 (l.getD (k : Int).toNat 0)] := hK
  have h0 := hc 0 (.int .u8 (l.getD (k : Int).toNat 0)) (by rw [hK']; rfl)
  have e1 : (k : Int).toNat = k := by omega
  rw [e1] at h0
  have e2 : l.getD k 0 = l[k] := by rw [List.getD_eq_getElem?_getD, List.getElem?_eq_getElem hk]; rfl
  rw [e2] at h0
  simpa [KB, Kd.int, Kd.scalar] using h0

set_option maxHeartbeats 1000000 in
theorem more_calls (s : Int) (A : Option Addr) (c : Nat) (l : List Int) (w : World) (hC : KB.C w A l.length l) (hb : ∀ x ∈ l, 0 ≤ x ∧ x ≤ 255) (_hs : 0 ≤ s ∧ s ≤ 4294967295) (hl : l.length ≤ 1000000000000) :
    Calls Tryd.prog 96 #[.int .u32 s, .slice A l.length c] w fun e w' => e = .returned (.int .u32 (notF (crcAll (notF s) l))) ∧ Below w.heap.size w w' := by
  have HC := Lib.hid hC
  have HB := Lib.hid hb
  clear hC hb
  go_enter Tryd.func96, Tryd.ntmps96
  go_wp2_with fail
  go_loopw [0, 11] (fun v i wr => ∃ k : Nat, k ≤ l.length ∧ i = .int .i64 (k : Int) ∧ v = .int .u32 (crcAll (notF s) (l.take k)) ∧ Hid (Below w.heap.size w wr)) (fun _ i _ => l.length - (intOf i).toNat)
  case atStart => exact ⟨0, Nat.zero_le _, rfl, rfl, Lib.hid (Below.refl _ _)⟩
  case round =>
    obtain ⟨k, hk, rfl, rfl, HW⟩ := hrel
    by_cases hlt : k < l.length
    · obtain ⟨ad, hA, hcell⟩ := byteAt (Kd.C_below HC.out HW.out) hlt
      subst hA
      have hx := HB.out _ (List.getElem_mem hlt)
      have htk : l.take (k + 1) = l.take k ++ [l[k]] := (List.take_append_getElem hlt).symm
      have HT : Hid (crcAll (notF s) (l.take (k + 1)) = timesN 8 (Go.bits .xor .u32 (crcAll (notF s) (l.take k)) l[k])) := Lib.hid (by rw [htk, crcAll, List.foldl_append]; rfl)
      clear htk
      generalize l[k] = x at *
      generalize crcAll (notF s) (l.take k) = t at *
      obtain ⟨wo, rfl⟩ : ∃ wo : World, wo = wr := ⟨_, rfl⟩
      go_wp2_with fail
      go_loopw [0, 19] (fun v j wq => ∃ m : Nat, m ≤ 8 ∧ j = .int .i64 (m : Int) ∧ v = .int .u32 (timesN m (Go.bits .xor .u32 t x)) ∧ Hid (Below w.heap.size w wq)) (fun _ j _ => 8 - (intOf j).toNat)
      case atStart => exact ⟨0, Nat.zero_le _, rfl, rfl, HW⟩
      case round =>
        obtain ⟨m, hm, rfl, rfl, HW2⟩ := hrel
        by_cases hm8 : m < 8
        · go_wp2_with (go_at_call 127; refine (times_calls _ _).mono ?_; rintro e w2 ⟨rfl, hb2⟩)
          go_roundw
          case rel => exact ⟨m + 1, by omega, by go_num, rfl, Lib.hid (below_via HW2.out hb2)⟩
          case measure => simp [intOf]; omega
        · have hm' : m = 8 := by omega
          subst hm'
          go_wp2_with fail
          go_roundw
          case rel => exact ⟨k + 1, by omega, by go_num, by rw [HT.out], HW2⟩
          case measure => simp [intOf]; omega
    · go_wp2_with fail
      go_ret
      have hkl : k = l.length := by omega
      subst hkl
      exact ⟨by rw [List.take_length]; rfl, HW.out⟩

theorem sum_calls (A : Option Addr) (c : Nat) (l : List Int) (w : World) (hC : KB.C w A l.length l) (hb : ∀ x ∈ l, 0 ≤ x ∧ x ≤ 255) (hl : l.length ≤ 1000000000000) :
    Calls Tryd.prog 51 #[.slice A l.length c] w fun e w' => e = .returned (.int .u32 (sumF l)) ∧ Below w.heap.size w w' := by
  have HM := Lib.hid (more_calls 0 A c l w hC hb (by omega) hl)
  have HE : Hid (notF (crcAll (notF 0) l) = sumF l) := Lib.hid rfl
  clear hC hb hl
  go_enter Tryd.func51, Tryd.ntmps51
  go_wp2_with (go_at_call 96; refine HM.out.mono ?_; rintro e w1 ⟨rfl, hb⟩)
  go_ret
  exact ⟨by rw [← HE.out]; rfl, hb⟩
end Go.Proofs.YtcemageindmbkaaDoor
/- Contracts of geo.row, power, Eeprom, Total, and of slot.Span, Room, head.right: what they return, under: the table geo.rows reads as laid. -/
namespace Go.Proofs.YtcemageindmbkaaDoor
open Go.RowKit Go.Proofs.YtcemageindmbkaaDoorW.PrintWords
open PSlotBytes

/-- The table's cells. -/
def tab : List Int := [0,0,0,0, 7,3,1,0, 8,3,1,0, 9,4,1,1, 10,4,1,2, 11,4,1,3, 12,5,2,0, 13,5,2,0, 14,6,2,0, 15,6,2,0, 16,7,2,0]
/-- The table geo.rows lies in its block as laid. -/
def Laid (w : World) : Prop := ∀ i, i < 44 → w.cell? ⟨0, i, none⟩ = some (.int .i64 (tab.getD i 0))
theorem Laid.of_below {w w' : World} (h : Laid w) (hb : Below w.heap.size w w') : Laid w' := fun i hi => pw_cell_below hb (h i hi)
theorem Laid.of_kept {w w' : World} {S : Nat → Prop} (h : Laid w) (hk : Kept w w' S) (hS : ¬ S 0) : Laid w' := fun i hi => cell_kept (h i hi) hk hS
theorem Laid.of_drawn {w w' : World} (h : Laid w) (hb : Drawn0 w w') : Laid w' := h.of_below hb.below


def rowOk (k : Int) : Bool := decide (1 ≤ k ∧ k ≤ 10)
def rowF (k : Int) (j : Nat) : Int := if 1 ≤ k ∧ k ≤ 10 then tab.getD (k.toNat * 4 + j) 0 else 0

theorem within_yes {a b : Int} (h0 : 0 ≤ a) (h1 : a ≤ b) : geo_within.f a b = some true := by
  unfold geo_within.f; rw [if_pos h0]; simp [h1]
theorem within_no {a b : Int} (h : a < 0 ∨ b < a) : geo_within.f a b = some false := by
  unfold geo_within.f
  by_cases h0 : 0 ≤ a
  · rw [if_pos h0]; simp; omega
  · rw [if_neg h0]


theorem cells4 {w : World} (h : Laid w) (k : Nat) (hk : k < 11) : w.cell? ⟨0, k * 4, none⟩ = some (.int .i64 (tab.getD (k * 4) 0)) ∧ w.cell? ⟨0, k * 4 + 1, none⟩ = some (.int .i64 (tab.getD (k * 4 + 1) 0)) ∧ w.cell? ⟨0, k * 4 + 2, none⟩ = some (.int .i64 (tab.getD (k * 4 + 2) 0)) ∧ w.cell? ⟨0, k * 4 + 3, none⟩ = some (.int .i64 (tab.getD (k * 4 + 3) 0)) :=
  ⟨h _ (by omega), h _ (by omega), h _ (by omega), h _ (by omega)⟩

set_option maxHeartbeats 400000 in
theorem row_zero (w : World) :
    Calls Tryd.prog 130 #[.int .i64 0] w fun e w' => e = .returned (.tuple #[.agg #[.int .i64 0, .int .i64 0, .int .i64 0, .int .i64 0], .bool false]) ∧ Below w.heap.size w w' := by
  go_enter Tryd.func130, Tryd.ntmps130
  go_wp2_with fail
  exact bodyPost_ret (v := .tuple #[.agg #[.int .i64 0, .int .i64 0, .int .i64 0, .int .i64 0], .bool false]) (by simp [results, Tryd.results130, go_sem]) rfl ⟨rfl, (Below.refl _ _).alloc (Nat.le_refl _) _⟩

set_option maxHeartbeats 400000 in
theorem row_no (k : Int) (w : World) (h : k < 0 ∨ 10 < k) :
    Calls Tryd.prog 130 #[.int .i64 k] w fun e w' => e = .returned (.tuple #[.agg #[.int .i64 0, .int .i64 0, .int .i64 0, .int .i64 0], .bool false]) ∧ Below w.heap.size w w' := by
  have hk0 : (k == 0) = false := by rw [beq_eq_false_iff_ne]; omega
  have H := Lib.hid (within_no h)
  clear h
  go_enter Tryd.func130, Tryd.ntmps130
  go_wp2_with (go_at_call 82; refine (geo_within.calls _ _ _ _ H.out).mono ?_; rintro e w1 ⟨rfl, ⟨⟨n, rfl⟩⟩⟩)
  exact bodyPost_ret (v := .tuple #[.agg #[.int .i64 0, .int .i64 0, .int .i64 0, .int .i64 0], .bool false]) (by simp [results, Tryd.results130, go_sem]) rfl ⟨rfl, (by repeat (first | exact Below.refl _ _ | assumption | (refine below_alloc ?_ _) | (refine pw_below_drewN ?_ _) | (refine below_drew ?_) | (refine Below.setCell ?_ (by simp; try omega) _)))⟩

set_option maxHeartbeats 1000000 in
theorem row_yes (k : Nat) (w : World) (h1 : 1 ≤ k) (h2 : k ≤ 10) (hl : Laid w) :
    Calls Tryd.prog 130 #[.int .i64 (k : Int)] w fun e w' => e = .returned (.tuple #[.agg #[.int .i64 (rowF k 0), .int .i64 (rowF k 1), .int .i64 (rowF k 2), .int .i64 (rowF k 3)], .bool true]) ∧ Below w.heap.size w w' := by
  have H := Lib.hid (within_yes (a := k) (b := 10) (by omega) (by omega))
  have hz : 0 < w.heap.size := World.block_lt_of_cell? w _ (hl 0 (by omega))
  have hk0 : ((k : Int) == 0) = false := by rw [beq_eq_false_iff_ne]; omega
  have hr : ∀ j, rowF k j = tab.getD (k * 4 + j) 0 := fun j => by unfold rowF; rw [if_pos (by omega)]; simp
  have HR := Lib.hid hr
  obtain ⟨c0, c1, c2, c3⟩ := cells4 hl k (by omega)
  clear hl hr
  have e0 := HR.out 0
  have e1 := HR.out 1
  have e2 := HR.out 2
  have e3 := HR.out 3
  clear HR
  rw [Nat.add_zero] at e0
  rw [← e0] at c0
  rw [← e1] at c1
  rw [← e2] at c2
  rw [← e3] at c3
  clear e0 e1 e2 e3
  generalize rowF k 0 = t0 at c0 ⊢
  generalize rowF k 1 = t1 at c1 ⊢
  generalize rowF k 2 = t2 at c2 ⊢
  generalize rowF k 3 = t3 at c3 ⊢
  go_enter Tryd.func130, Tryd.ntmps130
  go_wp2_with (go_at_call 82; refine (geo_within.calls _ _ _ _ H.out).mono ?_; rintro e w1 ⟨rfl, ⟨⟨n, rfl⟩⟩⟩)
  exact bodyPost_ret (v := .tuple #[.agg #[.int .i64 t0, .int .i64 t1, .int .i64 t2, .int .i64 t3], .bool true]) (by simp [results, Tryd.results130, go_sem]) rfl ⟨rfl, (by repeat (first | exact Below.refl _ _ | assumption | (refine below_alloc ?_ _) | (refine pw_below_drewN ?_ _) | (refine below_drew ?_) | (refine Below.setCell ?_ (by simp; try omega) _)))⟩

/-- Of any kind. -/
theorem row_any (k : Int) (w : World) (hl : Laid w) :
    Calls Tryd.prog 130 #[.int .i64 k] w fun e w' => e = .returned (.tuple #[.agg #[.int .i64 (rowF k 0), .int .i64 (rowF k 1), .int .i64 (rowF k 2), .int .i64 (rowF k 3)], .bool (rowOk k)]) ∧ Below w.heap.size w w' := by
  by_cases h : 1 ≤ k ∧ k ≤ 10
  · obtain ⟨n, rfl⟩ := Int.eq_ofNat_of_zero_le (show 0 ≤ k by omega)
    have : rowOk (n : Int) = true := by simp [rowOk]; omega
    rw [this]
    exact row_yes n w (by omega) (by omega) hl
  · have h1 : rowOk k = false := by unfold rowOk; simp; omega
    have h2 : ∀ j, rowF k j = 0 := fun j => by unfold rowF; rw [if_neg h]
    rw [h1, h2, h2, h2, h2]
    by_cases h0 : k = 0
    · subst h0; exact row_zero w
    · exact row_no k w (by omega)

theorem rowF_bd (k : Int) (j : Nat) : 0 ≤ rowF k j ∧ rowF k j ≤ 16 := by
  unfold rowF
  split
  · have hall : ∀ i, i < 44 → 0 ≤ tab.getD i 0 ∧ tab.getD i 0 ≤ 16 := by decide
    rcases Nat.lt_or_ge (k.toNat * 4 + j) 44 with h | h
    · exact hall _ h
    · rw [List.getD_eq_getElem?_getD, List.getElem?_eq_none (by simpa [tab] using h)]; simp
  · omega
def powF (k : Int) (j : Nat) : Int := if 1 ≤ k ∧ k ≤ 10 then 2 ^ (rowF k j).toNat else 0

theorem shl_one (n : Int) (h0 : 0 ≤ n) (h1 : n ≤ 16) (w : World) : (Op.shift .shl .i64 1 .i64 n).run Tryd.prog w = .ok (.int .i64 (2 ^ n.toNat)) w := by
  obtain ⟨m, rfl⟩ := Int.eq_ofNat_of_zero_le h0
  have hm : m ≤ 16 := by omega
  clear h0 h1
  match m, hm with
  | 0, _ | 1, _ | 2, _ | 3, _ | 4, _ | 5, _ | 6, _ | 7, _ | 8, _ | 9, _ | 10, _ | 11, _ | 12, _ | 13, _ | 14, _ | 15, _ | 16, _ => rfl
  | n + 17, h => omega

set_option maxHeartbeats 1000000 in
theorem power0 (k : Int) (w : World) (hl : Laid w) :
    Calls Tryd.prog 109 #[.int .i64 k, .int .i64 0] w fun e w' => e = .returned (.int .i64 (powF k 0)) ∧ Below w.heap.size w w' := by
  have HL := Lib.hid hl
  clear hl
  have hsh := fun w => shl_one (rowF k 0) (rowF_bd k 0).1 (rowF_bd k 0).2 w
  have hp : rowOk k = true → powF k 0 = 2 ^ (rowF k 0).toNat := fun h => by unfold powF; rw [if_pos (by simpa [rowOk] using h)]
  have hq : rowOk k = false → powF k 0 = 0 := fun h => by unfold powF; rw [if_neg (by simpa [rowOk] using h)]
  have HP := Lib.hid hp
  have HQ := Lib.hid hq
  clear hp hq
  go_enter Tryd.func109, Tryd.ntmps109
  go_wp2_with (go_at_call 130; refine (row_any _ _ HL.out).mono ?_; rintro e w1 ⟨rfl, hb⟩)
  · go_ret
    exact ⟨by rw [HQ.out (by simpa using ‹(!rowOk k) = true›)]; rfl, (by repeat (first | exact Below.refl _ _ | assumption | (refine below_alloc ?_ _) | (refine pw_below_drewN ?_ _) | (refine below_drew ?_) | (refine Below.setCell ?_ (by simp; try omega) _)))⟩
  · go_ret
    exact ⟨by rw [HP.out (by simpa using ‹(!rowOk k) = false›)]; rfl, (by repeat (first | exact Below.refl _ _ | assumption | (refine below_alloc ?_ _) | (refine pw_below_drewN ?_ _) | (refine below_drew ?_) | (refine Below.setCell ?_ (by simp; try omega) _)))⟩

theorem eeprom_any (k : Int) (w : World) (hl : Laid w) :
    Calls Tryd.prog 67 #[.int .i64 k] w fun e w' => e = .returned (.int .i64 (powF k 0)) ∧ Below w.heap.size w w' := by
  have HL := Lib.hid hl
  clear hl
  go_enter Tryd.func67, Tryd.ntmps67
  go_wp2_with (go_at_call 109; refine (power0 _ _ HL.out).mono ?_; rintro e w1 ⟨rfl, hb⟩)
  go_ret
  exact ⟨rfl, (by repeat (first | exact Below.refl _ _ | assumption | (refine below_alloc ?_ _) | (refine pw_below_drewN ?_ _) | (refine below_drew ?_) | (refine Below.setCell ?_ (by simp; try omega) _)))⟩

def rightF (a b c : Int) : Bool := decide (0 ≤ a ∧ a ≤ 10 ∧ 0 ≤ b ∧ b ≤ 64 ∧ 0 ≤ c ∧ c ≤ 128)
def flashF (b : Int) : Int := if 0 ≤ b ∧ b ≤ 64 then b * 256 else 0
def sramF (c : Int) : Int := if 0 ≤ c ∧ c ≤ 128 then c * 64 else 0
def totalF (a b c : Int) : Int := if rightF a b c = true then powF a 0 + flashF b + sramF c else 0
theorem within_dec (a b : Int) : geo_within.f a b = some (decide (0 ≤ a ∧ a ≤ b)) := by
  by_cases h : 0 ≤ a ∧ a ≤ b
  · rw [within_yes h.1 h.2]; simp [h]
  · rw [within_no (by omega)]; simp [h]
theorem right_eq (a b c : Int) : geo_Right.f a b c = some (rightF a b c) := by
  unfold geo_Right.f rightF
  rw [within_dec, within_dec, within_dec]
  by_cases h1 : 0 ≤ a ∧ a ≤ 10 <;> by_cases h2 : 0 ≤ b ∧ b ≤ 64 <;> by_cases h3 : 0 ≤ c ∧ c ≤ 128 <;> simp [h1, h2, h3] <;> omega
theorem flash_eq (b : Int) : geo_Flash.f b = some (flashF b) := by
  unfold geo_Flash.f flashF
  rw [within_dec]
  by_cases h : 0 ≤ b ∧ b ≤ 64
  · simp [h]; unfold wrap64; omega
  · simp [h]
theorem sram_eq (b : Int) : geo_Sram.f b = some (sramF b) := by
  unfold geo_Sram.f sramF
  rw [within_dec]
  by_cases h : 0 ≤ b ∧ b ≤ 128
  · simp [h]; unfold wrap64; omega
  · simp [h]
theorem powF_bd (k : Int) : 0 ≤ powF k 0 ∧ powF k 0 ≤ 65536 := by
  unfold powF
  split
  · have := rowF_bd k 0
    constructor
    · exact Int.pow_nonneg (by omega)
    · have h := Nat.pow_le_pow_right (n := 2) (by omega) (show (rowF k 0).toNat ≤ 16 by omega)
      have e : ((2 : Int) ^ (rowF k 0).toNat) = ((2 ^ (rowF k 0).toNat : Nat) : Int) := by simp
      rw [e]; omega
  · omega
theorem flashF_bd (k : Int) : 0 ≤ flashF k ∧ flashF k ≤ 16384 := by unfold flashF; split <;> omega
theorem sramF_bd (k : Int) : 0 ≤ sramF k ∧ sramF k ≤ 8192 := by unfold sramF; split <;> omega
theorem totalF_bd (a b c : Int) : 0 ≤ totalF a b c ∧ totalF a b c ≤ 90112 := by
  have h1 := powF_bd a
  have h2 := flashF_bd b
  have h3 := sramF_bd c
  unfold totalF; split <;> omega
theorem right_calls (a b c : Int) (w : World) : Calls Tryd.prog 43 #[.agg #[.int .i64 a, .int .i64 b, .int .i64 c]] w fun e w' => e = .returned (.bool (rightF a b c)) ∧ Below w.heap.size w w' := geo_Right.calls a b c _ w (right_eq a b c)
theorem flash_calls (b : Int) (w : World) : Calls Tryd.prog 84 #[.int .i64 b] w fun e w' => e = .returned (.int .i64 (flashF b)) ∧ Below w.heap.size w w' := (geo_Flash.calls b _ w (flash_eq b)).mono fun _ _ ⟨h1, h2⟩ => ⟨h1, h2.below⟩
theorem sram_calls (b : Int) (w : World) : Calls Tryd.prog 85 #[.int .i64 b] w fun e w' => e = .returned (.int .i64 (sramF b)) ∧ Below w.heap.size w w' := (geo_Sram.calls b _ w (sram_eq b)).mono fun _ _ ⟨h1, h2⟩ => ⟨h1, h2.below⟩

/-- Three cells stay, and what was below, behind a call that leaves the old blocks. -/
theorem held3 {w0 w w' : World} {g : Nat} {v0 v1 v2 : Value} (h : w.cell? ⟨g, 0, none⟩ = some v0 ∧ w.cell? ⟨g, 1, none⟩ = some v1 ∧ w.cell? ⟨g, 2, none⟩ = some v2 ∧ Hid (Below w0.heap.size w0 w)) (hb : Below w.heap.size w w') :
    w'.cell? ⟨g, 0, none⟩ = some v0 ∧ w'.cell? ⟨g, 1, none⟩ = some v1 ∧ w'.cell? ⟨g, 2, none⟩ = some v2 ∧ Hid (Below w0.heap.size w0 w') :=
  ⟨pw_cell_below hb h.1, pw_cell_below hb h.2.1, pw_cell_below hb h.2.2.1, Lib.hid (below_then h.2.2.2.out h.2.2.2.out.size hb)⟩
theorem held3_laid {w0 w : World} {A B C : Prop} (hl : Laid w0) (h : A ∧ B ∧ C ∧ Hid (Below w0.heap.size w0 w)) : Laid w := hl.of_below h.2.2.2.out

set_option maxHeartbeats 1000000 in
theorem total_calls (a b c : Int) (w : World) (hl : Laid w) :
    Calls Tryd.prog 45 #[.agg #[.int .i64 a, .int .i64 b, .int .i64 c]] w fun e w' => e = .returned (.int .i64 (totalF a b c)) ∧ Below w.heap.size w w' := by
  have HL := Lib.hid hl
  have h1 := powF_bd a
  have h2 := flashF_bd b
  have h3 := sramF_bd c
  have H : Hid (totalF a b c = if rightF a b c = true then powF a 0 + flashF b + sramF c else 0) := Lib.hid rfl
  clear hl
  go_enter Tryd.func45, Tryd.ntmps45
  go_wp2_with (go_at_call 43; refine (right_calls _ _ _ _).mono ?_; rintro e w1 ⟨rfl, hb⟩)
  · go_ret
    exact ⟨by rw [H.out, if_neg (by simpa using ‹(!rightF a b c) = true›)]; rfl, (by repeat (first | exact Below.refl _ _ | assumption | exact Below.mono hb (by simp) | (refine below_then ?_ ?_ hb) | (refine below_alloc ?_ _) | (refine pw_below_drewN ?_ _) | (refine below_drew ?_) | (refine Below.setCell ?_ (by simp; try omega) _) | (simp; done) | (simp; omega)))⟩
  · have hR : rightF a b c = true := by simpa using ‹(!rightF a b c) = false›
    have H2 := Lib.hid (H.out.trans (if_pos hR))
    clear H hR
    have b0 : Below w.heap.size w w1 := (by repeat (first | exact Below.refl _ _ | assumption | exact Below.mono hb (by simp) | (refine below_then ?_ ?_ hb) | (refine below_alloc ?_ _) | (refine pw_below_drewN ?_ _) | (refine below_drew ?_) | (refine Below.setCell ?_ (by simp; try omega) _) | (simp; done) | (simp; omega)))
    have c0 : w1.cell? ⟨w.heap.size, 0, none⟩ = some (.int .i64 a) := pw_cell_below hb (by simp)
    have c1 : w1.cell? ⟨w.heap.size, 1, none⟩ = some (.int .i64 b) := pw_cell_below hb (by simp)
    have c2 : w1.cell? ⟨w.heap.size, 2, none⟩ = some (.int .i64 c) := pw_cell_below hb (by simp)
    have HB := Lib.hid b0
    clear hb b0
    go_region_held3 (fun w' => w'.cell? ⟨w.heap.size, 0, none⟩ = some (.int .i64 a) ∧ w'.cell? ⟨w.heap.size, 1, none⟩ = some (.int .i64 b) ∧ w'.cell? ⟨w.heap.size, 2, none⟩ = some (.int .i64 c) ∧ Hid (Below w.heap.size w w')) (first | exact ⟨c0, c1, c2, Lib.hid (below_drew HB.out)⟩ | exact held3 (by assumption) (by assumption)) (first | (go_at_call 67; refine (eeprom_any _ _ ?_).mono ?_; (exact held3_laid HL.out (by assumption)); rintro e w2 ⟨rfl, hb2⟩) | (go_at_call 84; refine (flash_calls _ _).mono ?_; rintro e w2 ⟨rfl, hb2⟩) | (go_at_call 85; refine (sram_calls _ _).mono ?_; rintro e w2 ⟨rfl, hb2⟩))
    all_goals
      rename_i hS
      have HB2 := hS.2.2.2
      clear hS
      go_wp2
      go_ret
      exact ⟨by rw [H2.out]; simp; rw [IntWalk.i64_in (powF a 0 + flashF b) (by omega), IntWalk.i64_in _ (by omega)], HB2.out⟩

def sectorsF (many size : Int) : Int := if many < 1 ∨ size < 1 ∨ 4096 < size then 0 else (many - 1) / size + 1
def spanF (size a b c : Int) : Int := if rightF a b c = true ∧ 32 ≤ size ∧ size ≤ 4096 then 1 + sectorsF (totalF a b c) size else 0
theorem sectors_eq (many size : Int) (h0 : many ≤ 9223372036854775807) : image_Sectors.f many size = some (sectorsF many size) := by
  unfold image_Sectors.f image_right.f sectorsF
  by_cases h1 : many < 1
  · simp [h1]
  · by_cases h2 : size < 1
    · have h2' : ¬ size ≥ 1 := by omega
      simp [h1, h2, h2']
    · by_cases h3 : 4096 < size
      · have h4 : ¬ size ≤ 4096 := by omega
        simp [h1, h2, h3, h4]
      · have h4 : size ≤ 4096 := by omega
        have h5 : size ≥ 1 := by omega
        have h6 : ¬ size = 0 := by omega
        have e1 : wrap64 (many - 1) = many - 1 := by unfold wrap64; omega
        have e2 : (many - 1).tdiv size = (many - 1) / size := Int.tdiv_eq_ediv_of_nonneg (by omega)
        have b1 : 0 ≤ (many - 1) / size := Int.ediv_nonneg (by omega) (by omega)
        have b2 : (many - 1) / size ≤ many - 1 := Int.ediv_le_self _ (by omega)
        have e3 : wrap64 ((many - 1) / size) = (many - 1) / size := by unfold wrap64; omega
        have e4 : wrap64 ((many - 1) / size + 1) = (many - 1) / size + 1 := by unfold wrap64; omega
        simp [h1, h2, h3, h4, h5, h6, e1, e2, e3, e4]
theorem sectorsF_bd (many size : Int) (h0 : 0 ≤ many) : 0 ≤ sectorsF many size ∧ sectorsF many size ≤ many := by
  unfold sectorsF
  split
  · omega
  · have b1 : 0 ≤ (many - 1) / size := Int.ediv_nonneg (by omega) (by omega)
    have b2 : (many - 1) / size ≤ many - 1 := Int.ediv_le_self _ (by omega)
    omega
theorem spanF_bd (s a b c : Int) : 0 ≤ spanF s a b c ∧ spanF s a b c ≤ 90113 := by
  have h := totalF_bd a b c
  have h2 := sectorsF_bd (totalF a b c) s (by omega)
  unfold spanF; split <;> omega
theorem sectors_calls (many size : Int) (w : World) (h0 : many ≤ 9223372036854775807) : Calls Tryd.prog 44 #[.int .i64 many, .int .i64 size] w fun e w' => e = .returned (.int .i64 (sectorsF many size)) ∧ Below w.heap.size w w' :=
  (image_Sectors.calls many size _ w (sectors_eq many size h0)).mono fun _ _ ⟨h1, h2⟩ => ⟨h1, h2.below⟩

set_option maxHeartbeats 1000000 in
theorem span_calls (s a b c : Int) (w : World) (hl : Laid w) :
    Calls Tryd.prog 9 #[.int .i64 s, .agg #[.int .i64 a, .int .i64 b, .int .i64 c]] w fun e w' => e = .returned (.int .i64 (spanF s a b c)) ∧ Below w.heap.size w w' := by
  have HL := Lib.hid hl
  have ht := totalF_bd a b c
  have hs := sectorsF_bd (totalF a b c) s (by omega)
  have H : Hid (spanF s a b c = if rightF a b c = true ∧ 32 ≤ s ∧ s ≤ 4096 then 1 + sectorsF (totalF a b c) s else 0) := Lib.hid rfl
  clear hl
  go_enter Tryd.func9, Tryd.ntmps9
  go_wp2_with (first | (go_at_call 43; refine (right_calls _ _ _ _).mono ?_; rintro e w1 ⟨rfl, hb⟩; obtain ⟨hc, hf⟩ := bcell hb) | (go_at_call 45; refine (total_calls _ _ _ _ ?_).mono ?_; (exact HL.out.of_below (below_via (below_alloc (Below.refl _ _) _) hb)); rintro e w2 ⟨rfl, hb2⟩) | (go_at_call 44; refine (sectors_calls _ _ _ (by omega)).mono ?_; rintro e w3 ⟨rfl, hb3⟩))
  · go_ret
    exact ⟨by rw [H.out, if_neg (by omega)]; rfl, (below_via (below_alloc (Below.refl _ _) _) hb)⟩
  · go_ret
    exact ⟨by rw [H.out, if_pos ⟨by assumption, by omega, by omega⟩]; rfl, below_via (below_via (below_via (below_alloc (Below.refl _ _) _) hb) hb2) hb3⟩
  · go_ret
    exact ⟨by rw [H.out, if_neg (by omega)]; rfl, (below_via (below_alloc (Below.refl _ _) _) hb)⟩
  · go_ret
    exact ⟨by rw [H.out, if_neg (fun h => by have := h.1; contradiction)]; rfl, (below_via (below_alloc (Below.refl _ _) _) hb)⟩

set_option maxHeartbeats 1000000 in
theorem room_calls (s a b c : Int) (w : World) (hl : Laid w) :
    Calls Tryd.prog 11 #[.int .i64 s, .agg #[.int .i64 a, .int .i64 b, .int .i64 c]] w fun e w' => e = .returned (.int .i64 (2 * spanF s a b c)) ∧ Below w.heap.size w w' := by
  have HL := Lib.hid hl
  have hs := spanF_bd s a b c
  clear hl
  go_enter Tryd.func11, Tryd.ntmps11
  go_wp2_with (go_at_call 9; refine (span_calls _ _ _ _ _ ?_).mono ?_; (exact HL.out.of_below (below_alloc (Below.refl _ _) _)); rintro e w1 ⟨rfl, hb⟩)
  go_ret
  exact ⟨rfl, (below_via (below_alloc (Below.refl _ _) _) hb)⟩

/-- Four cells stay, and what was below, behind a call that leaves the old blocks. -/
theorem held4 {w0 w w' : World} {g : Nat} {v0 v1 v2 v3 : Value} (h : w.cell? ⟨g, 0, none⟩ = some v0 ∧ w.cell? ⟨g, 1, none⟩ = some v1 ∧ w.cell? ⟨g, 2, none⟩ = some v2 ∧ w.cell? ⟨g, 3, none⟩ = some v3 ∧ Hid (Below w0.heap.size w0 w)) (hb : Below w.heap.size w w') :
    w'.cell? ⟨g, 0, none⟩ = some v0 ∧ w'.cell? ⟨g, 1, none⟩ = some v1 ∧ w'.cell? ⟨g, 2, none⟩ = some v2 ∧ w'.cell? ⟨g, 3, none⟩ = some v3 ∧ Hid (Below w0.heap.size w0 w') :=
  ⟨pw_cell_below hb h.1, pw_cell_below hb h.2.1, pw_cell_below hb h.2.2.1, pw_cell_below hb h.2.2.2.1, Lib.hid (below_then h.2.2.2.2.out h.2.2.2.2.out.size hb)⟩
theorem held4_laid {w0 w : World} {A B C D : Prop} (hl : Laid w0) (h : A ∧ B ∧ C ∧ D ∧ Hid (Below w0.heap.size w0 w)) : Laid w := hl.of_below h.2.2.2.2.out

end Go.Proofs.YtcemageindmbkaaDoor
/- head.right: what it returns, under: the table geo.rows reads as laid. -/
namespace Go.Proofs.YtcemageindmbkaaDoor
open Go.RowKit Go.Proofs.YtcemageindmbkaaDoorW.PrintWords
open PSlotBytes

/-- head.right. -/
def hrightF (a b c n : Int) : Bool := rightF a b c && decide (n = totalF a b c)
set_option maxHeartbeats 1000000 in
theorem hright_calls (a b c n q u : Int) (w : World) (hl : Laid w) :
    Calls Tryd.prog 94 #[.agg #[.int .i64 a, .int .i64 b, .int .i64 c, .int .i64 n, .int .u64 q, .int .u32 u]] w fun e w' => e = .returned (.bool (hrightF a b c n)) ∧ Below w.heap.size w w' := by
  have HL := Lib.hid hl
  clear hl
  have HRC := Lib.hid (right_calls a b c)
  have H : Hid (hrightF a b c n = (rightF a b c && (n == totalF a b c))) := Lib.hid rfl
  generalize rightF a b c = r at HRC H
  cases r
  all_goals
    go_enter Tryd.func94, Tryd.ntmps94
    go_wp2_with fail
    generalize hB : w.alloc (.cells #[.int .i64 a, .int .i64 b, .int .i64 c, .int .i64 n, .int .u64 q, .int .u32 u] 93) = wB
    have c0 := BT.cell (w0 := wB) (a := ⟨w.heap.size, 0, none⟩) (v := .int .i64 a) (by rw [← hB]; simp)
    have c1 := BT.cell (w0 := wB) (a := ⟨w.heap.size, 1, none⟩) (v := .int .i64 b) (by rw [← hB]; simp)
    have c2 := BT.cell (w0 := wB) (a := ⟨w.heap.size, 2, none⟩) (v := .int .i64 c) (by rw [← hB]; simp)
    have c3 := BT.cell (w0 := wB) (a := ⟨w.heap.size, 3, none⟩) (v := .int .i64 n) (by rw [← hB]; simp)
    have hbB : Below w.heap.size w wB := by rw [← hB]; exact (below_alloc (Below.refl _ _) _)
    have HB := Lib.hid hbB
    clear hB hbB
    refine wp_region_below (by kernel_rfl) (by kernel_rfl) ?_
    repeat (go_big_quiet_step (first | (go_at_call 43; exact Calls.below_of (HRC.out _)) | (go_at_call 45; exact Calls.below_of (total_calls _ _ _ _ (HL.out.of_below (below_via HB.out (CT.ok _)))))))
    refine wpQuiet_nil ?_
    intro W5 hW5
    obtain ⟨⟨w5, hb5⟩, rfl⟩ := hW5
    go_wp2
    go_ret
    exact ⟨by rw [H.out]; rfl, below_via HB.out hb5⟩
end Go.Proofs.YtcemageindmbkaaDoor
/- image.Cut: bytes in pieces. -/
namespace Go.Proofs.YtcemageindmbkaaDoor
open Go.RowKit Go.Proofs.YtcemageindmbkaaDoorW.PrintWords
open PSlotBytes

theorem imright_calls (s : Int) (w : World) : Calls Tryd.prog 83 #[.int .i64 s] w fun e w' => e = .returned (.bool (decide (1 ≤ s ∧ s ≤ 4096))) ∧ Below w.heap.size w w' :=
  (image_right.calls s _ w (by unfold image_right.f; by_cases h1 : s ≥ 1 <;> by_cases h2 : s ≤ 4096 <;> simp [h1, h2] <;> omega)).mono fun _ _ ⟨h1, h2⟩ => ⟨h1, h2.below⟩

/-- Cut refuses a size. -/
theorem cut_no (A : Option Addr) (c n : Nat) (s : Int) (w : World) (h : ¬ (1 ≤ s ∧ s ≤ 4096)) :
    Calls Tryd.prog 58 #[.slice A n c, .int .i64 s] w fun e w' => e = .returned (.tuple #[.slice none 0 0, .int .i64 1]) ∧ Below w.heap.size w w' := by
  have hr := imright_calls s
  have e1 : decide (1 ≤ s ∧ s ≤ 4096) = false := by simpa using h
  rw [e1] at hr
  have HR := Lib.hid hr
  clear hr e1 h
  go_enter Tryd.func58, Tryd.ntmps58
  go_wp2_with (go_at_call 83; refine (HR.out _).mono ?_; rintro e w1 ⟨rfl, hb⟩)
  go_ret2
  exact ⟨rfl, hb⟩

/-- The pieces: m of them, of s bytes each. -/
def pieces (all : List Int) (s m : Nat) : List (List Int) := (List.range m).map fun i => (all.take ((i + 1) * s)).drop (i * s)
/-- Bytes with bytes 0 behind them, as many as there have to be. -/
def padTo (l : List Int) (n : Nat) : List Int := l ++ List.replicate (n - l.length) 0

theorem cut_full {P : Program} (t e : TypeId) {i : TypeInfo} (ht : P.underlying t = some (.slice e)) (hi : P.info? e = some i) (hsz : i.size = 1) (A : Option Addr) (n c lo hi' mx : Nat) (h1 : lo ≤ hi') (h2 : hi' ≤ mx) (h3 : mx ≤ c) (W : World) :
    (Instr.slice t (.slice A n c) (some (.int .i64 (lo : Int))) (some (.int .i64 (hi' : Int))) (some (.int .i64 (mx : Int)))).run P W = .ok (.slice (if mx = lo then A else A.map (·.add lo)) (hi' - lo) (mx - lo)) W := by
  simp [Instr.slice, run_underlying ht, Instr.sliceBounds, Instr.sliceBound, asIntOf, sizeOf, typeInfo, hi, hsz, Result.andThen, h1, h2, h3]

theorem infoB1 : (Tryd.prog.info? 5).map (·.size) = some 1 := by kernel_rfl
theorem infoS : (Tryd.prog.info? 27).map (fun i => (i.zero, i.size, i.bytes)) = some (some (.slice none 0 0), 1, 24) := by kernel_rfl

theorem wrap_mul {k s : Nat} (h : k * s ≤ 68719476736) : wrap64 ((k : Int) * (s : Int)) = (k : Int) * (s : Int) := by
  rw [← Int.natCast_mul]
  generalize k * s = q at *
  unfold wrap64; omega
theorem wrap_mul1 {k s : Nat} (h : k * s + s ≤ 68719476736) : wrap64 (((k : Int) + 1) * (s : Int)) = ((k : Int) + 1) * (s : Int) := by
  rw [show ((k : Int) + 1) = ((k + 1 : Nat) : Int) by omega]
  exact wrap_mul (by rw [Nat.add_mul]; omega)
theorem mul_in {k s m : Nat} (h : k < m) : k * s + s ≤ m * s := by
  have := Nat.mul_le_mul_right s (show k + 1 ≤ m by omega)
  rw [Nat.add_mul] at this
  omega
theorem piece_bytes {k : Nat} (h : k < 16777216) : (k + 1) * 24 ≤ 140737488355328 := by omega
theorem mul_in3 {k s m c : Nat} (h : k < m) (h2 : m * s ≤ 68719476736) (h3 : m * s ≤ c) : k * s + s ≤ 68719476736 ∧ k * s ≤ 68719476736 ∧ k * s ≤ k * s + s ∧ k * s + s ≤ c := by
  have := mul_in (s := s) h
  generalize k * s = q at *
  generalize m * s = r at *
  omega
theorem sectors_cover {n s m : Nat} (hs1 : 1 ≤ s) (hs2 : s ≤ 4096) (h : sectorsF (n : Int) (s : Int) = (m : Int)) : n ≤ m * s := by
  unfold sectorsF at h
  split at h
  · rename_i h1
    have : n = 0 := by omega
    subst this; exact Nat.zero_le _
  · rename_i h1
    have e1 : ((n : Int) - 1) / (s : Int) = (((n - 1) / s : Nat) : Int) := by
      rw [show ((n : Int) - 1) = ((n - 1 : Nat) : Int) by omega]; simp
    rw [e1] at h
    have hm : m = (n - 1) / s + 1 := by omega
    subst hm
    have h2 := Nat.lt_mul_div_succ (n - 1) (show 0 < s by omega)
    rw [Nat.mul_comm] at h2
    omega
theorem pad_eq {l : List Int} {N : Nat} (h : l.length ≤ N) : l.take (min l.length (List.replicate N (0 : Int)).length) ++ (List.replicate N (0 : Int)).drop (min l.length (List.replicate N (0 : Int)).length) = padTo l N := by
  simp only [List.length_replicate, Nat.min_eq_left h, List.take_length, List.drop_replicate]
  rfl
theorem padTo_length {l : List Int} {N : Nat} (h : l.length ≤ N) : (padTo l N).length = N := by simp [padTo]; omega

theorem piece_run {s0 : Nat} (hs0 : 1 ≤ s0) (A : Option Addr) (n c k s : Nat) (h3 : k * s + s ≤ c) (hs : s0 = s := by rfl) (W : World) : (Instr.slice 27 (.slice A n c) (some (.int .i64 ((k : Int) * (s : Int)))) (some (.int .i64 (((k : Int) + 1) * (s : Int)))) (some (.int .i64 (((k : Int) + 1) * (s : Int))))).run Tryd.prog W = .ok (.slice (A.map (·.add (k * s))) s s) W := by
  subst hs
  obtain ⟨inf, i1, i2⟩ := infoI5
  have := cut_full (P := Tryd.prog) 27 5 Tryd.underlying27 i1 i2 A n c (k * s0) (k * s0 + s0) (k * s0 + s0) (by omega) (Nat.le_refl _) h3 W
  rw [if_neg (by omega)] at this
  have e1 : ((k * s0 + s0 : Nat) : Int) = ((k : Int) + 1) * (s0 : Int) := by rw [Int.add_mul]; simp
  rw [e1, Int.natCast_mul] at this
  rw [this]
  simp

/-- The pieces' values: into one block. -/
def pieceV (ad : Addr) (s k : Nat) : List (List Value) := (List.range k).map fun i => [Value.slice (some (ad.add (i * s))) s s]

set_option maxHeartbeats 1000000 in
set_option maxRecDepth 100000 in
theorem cut_yes (A : Option Addr) (c : Nat) (l : List Int) (s : Nat) (w : World) (hs1 : 1 ≤ s) (hs2 : s ≤ 4096) (hC : KB.C w A l.length l) (hl : l.length ≤ 16777216) :
    Calls Tryd.prog 58 #[.slice A l.length c, .int .i64 (s : Int)] w fun e w' => ∃ (v : Value) (m : Nat) (ad : Addr), e = .returned (.tuple #[v, .int .i64 0]) ∧ sectorsF l.length s = (m : Int) ∧ (Kd.raw 1).R 27 w' w.heap.size (fun k => w.heap.size ≤ k) v (pieceV ad s m) ∧ (∃ n c, RB w' w.heap.size (fun k => w.heap.size ≤ k) (.slice (some ad) n c) (padTo l (m * s))) ∧ Below w.heap.size w w' := by
  have hr := imright_calls s
  have e1 : decide (1 ≤ (s : Int) ∧ (s : Int) ≤ 4096) = true := by simp; omega
  rw [e1] at hr
  have HR := Lib.hid hr
  have hS := fun w => sectors_calls (l.length : Int) s w (by omega)
  have hsec := sectorsF_bd (l.length : Int) (s : Int) (by omega)
  obtain ⟨m, hm⟩ := Int.eq_ofNat_of_zero_le hsec.1
  rw [hm] at hsec
  simp only [hm] at hS
  have HS := Lib.hid hS
  have hm2 : m ≤ 16777216 := by omega
  have HC := Lib.hid hC
  have HM := Lib.hid hm
  clear hr e1 hC hm hsec hS
  have hms : m * s ≤ 68719476736 := by have := Nat.mul_le_mul hm2 hs2; omega
  have w1 : IntKind.i64.wrap ((m : Int) * (s : Int)) = ((m * s : Nat) : Int) := by rw [← Int.natCast_mul]; exact IntWalk.i64_in _ (by omega)
  have w2 : wrap64 ((m : Int) * (s : Int)) = ((m * s : Nat) : Int) := by rw [← Int.natCast_mul]; unfold wrap64; omega
  go_enter Tryd.func58, Tryd.ntmps58
  go_wp2_with fail
  refine (HR.out _).mono ?_
  rintro e w3 ⟨rfl, hb1⟩
  go_wp2_with fail
  refine (HS.out _).mono ?_
  rintro e w4 ⟨rfl, hb2⟩
  have HB := Lib.hid (below_via hb1 hb2)
  clear hb1 hb2
  go_wp2_with (first | ((with_reducible refine gate_dst (N := 20) rfl ?_); refine Kd.R_make KB (w0 := w4) w4.heap.size 5 rfl (N := 20) rfl 27 _ _ rfl ((m : Int) * (s : Int)) rfl rfl Tryd.underlying27 (.int .u8 0) 1 infoB rfl (by decide) (by decide) 0 (ok := fun k => w4.heap.size ≤ k) (okp := fun _ => False) rfl (fun _ h => h.elim) (Nat.le_refl _) (by rw [← Int.natCast_mul]; omega) (by rw [← Int.natCast_mul]; omega) (Below.refl _ _) (Nat.le_refl _) ?_; intro v5 w5 HO5 HB5 _ hne5) | ((with_reducible refine gate_dst (N := 23) rfl ?_); refine Kd.R_copy (enc := Value.int .u8) (h1 := fun _ => rfl) 0 (w0 := w4) w4.heap.size rfl _ _ 27 27 5 rfl Tryd.underlying27 infoB1 v5 _ l A l.length c (fun k => w4.heap.size ≤ k) rfl rfl HO5 (Kd.C_below HC.out (below_via HB.out HB5)) HB5 HB5.size ?_; intro w6 HO6 HB6 HG6))
  have hcov := sectors_cover hs1 hs2 HM.out
  have hN : ((m : Int) * (s : Int)).toNat = m * s := by rw [← Int.natCast_mul]; omega
  rw [hN, pad_eq hcov] at HO6
  have HO := Lib.hid HO6
  have HBw := Lib.hid (below_via HB.out HB6)
  have HB4 := Lib.hid HB6
  clear HO5 HB5 HO6 HB6 HG6 hN
  obtain ⟨A5, c5, rfl, hle, -⟩ := Kd.R_reads HO.out
  have hA5 : ∃ ad, A5 = some ad := by
    obtain ⟨b5, h5, -⟩ := hne5
    cases A5 with
    | none => simp [Value.ownBlock] at h5
    | some ad => exact ⟨ad, rfl⟩
  obtain ⟨ad, rfl⟩ := hA5
  clear hne5
  have hlenP := padTo_length hcov
  rw [hlenP] at hle
  have HLP := Lib.hid hlenP
  clear hlenP
  rw [Nat.min_eq_left hcov]
  go_loopw [8, 25] (fun v i wr => ∃ k : Nat, k ≤ m ∧ i = .int .i64 (k : Int) ∧ Hid ((Kd.raw 1).R 27 wr w4.heap.size (fun k => w4.heap.size ≤ k) v (pieceV ad s k)) ∧ Hid (RB wr w4.heap.size (fun k => w4.heap.size ≤ k) (.slice (some ad) (padTo l (m * s)).length c5) (padTo l (m * s))) ∧ Hid (Below w4.heap.size w4 wr)) (fun _ i _ => m - (intOf i).toNat)
  case atStart => exact ⟨0, Nat.zero_le _, rfl, Lib.hid (Kd.R_nil _ _ _ _ _), HO, HB4⟩
  case round =>
    obtain ⟨k, hk, rfl, HV, HO', HB'⟩ := hrel
    by_cases hlt : k < m
    · obtain ⟨p1, p2, p3, p4⟩ := mul_in3 hlt hms hle
      have hcut2 : ∀ W, (Instr.slice 27 (.slice (some ad) (padTo l (m * s)).length c5) (some (.int .i64 ((k : Int) * (s : Int)))) (some (.int .i64 (((k : Int) + 1) * (s : Int)))) (some (.int .i64 (((k : Int) + 1) * (s : Int))))).run Tryd.prog W = .ok (.slice (some (ad.add (k * s))) s s) W := piece_run hs1 (some ad) _ c5 k s p4
      have q1 : wrap64 ((k : Int) * (s : Int)) = (k : Int) * (s : Int) := wrap_mul p2
      have q2 : wrap64 (((k : Int) + 1) * (s : Int)) = ((k : Int) + 1) * (s : Int) := wrap_mul1 p1
      have hpl : (pieceV ad s k).length = k := by simp [pieceV]
      have HPL := Lib.hid hpl
      clear hpl
      go_wp2_with ((with_reducible refine gate_dst (N := 43) rfl ?_); refine Kd.R_append (Kd.raw 1) (w0 := w4) w4.heap.size rfl _ _ 81 27 (.slice none 0 0) 24 rfl Tryd.underlying81 infoS rfl (by decide) (by decide) u8 (pieceV ad s k) [.slice (some (ad.add (k * s))) s s] [.slice (some (ad.add (k * s))) s s] (fun k => w4.heap.size ≤ k) (fun _ => False) rfl rfl ⟨rfl, rfl, by simp [Value.oneCell']⟩ (fun _ h => h.elim) (fun q hq => Nat.le_trans HB'.out.size hq) HV.out HB'.out HB'.out.size (by rw [HPL.out]; exact piece_bytes (Nat.lt_of_lt_of_le hlt hm2)) ?_; intro v1 w7 HV1 HB1 HG1 _)
      have r1 : Hid ((Kd.raw 1).R 27 w7 w4.heap.size (fun k => w4.heap.size ≤ k) v1 (pieceV ad s (k + 1))) := Lib.hid (by have e1 : pieceV ad s (k + 1) = pieceV ad s k ++ [[.slice (some (ad.add (k * s))) s s]] := (by simp [pieceV, List.range_succ]); rw [e1]; exact HV1)
      have r2 := Lib.hid (R_besides HO'.out HV.out (by decide) HG1)
      have r3 := Lib.hid HB1
      have hk1 : k + 1 ≤ m := by omega
      clear HV1 HB1 HG1
      go_roundw
      case rel => first | exact ⟨k + 1, hk1, by go_num, r1, r2, r3⟩ | ((repeat apply Exists.intro); exact ⟨⟨k + 1, hk1, by go_num, r1, r2, r3⟩, rfl⟩)
      case measure => simp [intOf]; omega
    · have hkm : k = m := by omega
      subst hkm
      go_wp2_with fail
      go_ret2
      refine ⟨_, k, ad, rfl, HM.out, Kd.R_mono (Kd.R_lower HV.out HB.out.size) (fun q hq => Nat.le_trans HB.out.size hq), ⟨_, _, Kd.R_mono (Kd.R_lower HO'.out HB.out.size) (fun q hq => Nat.le_trans HB.out.size hq)⟩, below_via HB.out HB'.out⟩
end Go.Proofs.YtcemageindmbkaaDoor
/- bytes.Join without a separator, and image.Glue. -/
namespace Go.Proofs.YtcemageindmbkaaDoor
open Go.RowKit Go.Proofs.YtcemageindmbkaaDoorW.PrintWords
open PSlotBytes

/-- Numbers as bytes. -/
def toU (l : List Int) : List UInt8 := l.map fun x => UInt8.ofNat x.toNat
def InB (l : List Int) : Prop := ∀ x ∈ l, 0 ≤ x ∧ x ≤ 255
theorem toU_at {l : List Int} (h : InB l) {i : Nat} {u : UInt8} (hu : (toU l)[i]? = some u) : l[i]? = some (u.toNat : Int) := by
  unfold toU at hu
  rw [List.getElem?_map] at hu
  cases hl : l[i]? with
  | none => rw [hl] at hu; cases hu
  | some x =>
    rw [hl] at hu
    simp only [Option.map_some, Option.some.injEq] at hu
    have hx := h x (List.mem_of_getElem? hl)
    subst hu
    congr 1
    simp [UInt8.toNat_ofNat']
    omega
theorem toU_length (l : List Int) : (toU l).length = l.length := by simp [toU]
theorem toU_flat (ls : List (List Int)) : (ls.map toU).flatten = toU ls.flatten := by
  unfold toU
  rw [List.map_flatten]
theorem join_nosep (ls : List (List UInt8)) : Lib.join ls [] = ls.flatten := by
  unfold Lib.join
  induction ls with
  | nil => rfl
  | cons a r ih =>
    cases r with
    | nil => simp [List.intercalate, List.intersperse]
    | cons b r => simpa [List.intercalate, List.intersperse] using ih

/-- A slice of bytes that is read, in a block from B on. -/
def CN (w : World) (B : Nat) (A : Option Addr) (l : List Int) : Prop := KB.C w A l.length l ∧ ∀ ad, A = some ad → 0 < l.length → B ≤ ad.block ∧ ad.block < w.heap.size
theorem CN.step {w w' : World} {B : Nat} {A : Option Addr} {l : List Int} (h : CN w B A l) (hs : w.heap.size ≤ w'.heap.size) (hm : ∀ k, B ≤ k → k < w.heap.size → w'.heap[k]? = w.heap[k]?) : CN w' B A l := by
  obtain ⟨⟨h1, h2, h3⟩, h4⟩ := h
  refine ⟨⟨h1, h2, fun hn => ?_⟩, fun ad he hn => ⟨(h4 ad he hn).1, Nat.lt_of_lt_of_le (h4 ad he hn).2 hs⟩⟩
  obtain ⟨ad, he, hc⟩ := h3 hn
  refine ⟨ad, he, fun j p hj => ?_⟩
  obtain ⟨c, a1, a2, a3⟩ := hc j p hj
  refine ⟨c, a1, a2, fun i u hu => ?_⟩
  have h5 := a3 i u hu
  have hb := hm ad.block (h4 ad he hn).1 (h4 ad he hn).2
  rw [← h5]
  refine World.cell?_of_block (w := w) ?_
  have e1 : (ad.add (j * KB.sz + i)).block = ad.block := by unfold Addr.add; split <;> rfl
  rw [e1]; exact hb
theorem CN.below {w w' : World} {B : Nat} {A : Option Addr} {l : List Int} (h : CN w B A l) (hb : Below w.heap.size w w') : CN w' B A l := h.step hb.size (fun k _ hk => hb.block k hk)
theorem CN.lower {w : World} {B B' : Nat} {A : Option Addr} {l : List Int} (h : CN w B A l) (hb : B' ≤ B) : CN w B' A l := ⟨h.1, fun ad he hn => ⟨Nat.le_trans hb (h.2 ad he hn).1, (h.2 ad he hn).2⟩⟩

theorem CN.take {w : World} {B m : Nat} {A : Option Addr} {l : List Int} (h : CN w B A l) (hm : m ≤ l.length) : CN w B A (l.take m) :=
  ⟨Kd.C_take h.1 hm, fun ad he hn => h.2 ad he (by rw [List.length_take] at hn; omega)⟩

/-- A fresh slice reads so. -/
theorem fresh_CN {B : Nat} {w : World} {v : Value} {l : List Int} (hb : InB l) (hl : l.length ≤ 9223372036854775807) (h : Lib.FreshBytes B w v (toU l)) : ∃ A c, v = .slice A l.length c ∧ l.length ≤ c ∧ (A = none → c = 0) ∧ CN w B A l := by
  obtain ⟨g, cap, zs, rfl, hB, hle, _, hz, hr, hbytes, hc, _⟩ := h
  rw [toU_length] at *
  have hzl : zs.take l.length = l := by
    have h1 : toU (zs.take l.length) = toU l := hbytes
    apply List.ext_getElem?
    intro i
    by_cases hi : i < l.length
    · have h2 := congrArg (fun x => x[i]?) h1
      have hzi : i < (zs.take l.length).length := by simp; omega
      have hin : InB (zs.take l.length) := fun x hx => by have := hr x (List.mem_of_mem_take hx); omega
      have hi' : i < (toU l).length := by rw [toU_length]; exact hi
      have h3 : (toU l)[i]? = some (toU l)[i] := List.getElem?_eq_getElem hi'
      rw [toU_at hb h3]
      exact toU_at hin (by rw [h1]; exact h3)
    · rw [List.getElem?_eq_none (by simp; omega), List.getElem?_eq_none (by omega)]
  refine ⟨some ⟨g, 0, none⟩, cap, rfl, hle, (fun h => by cases h), ⟨rfl, hl, fun hn => ⟨_, rfl, fun j p hj => ⟨[.int .u8 p], rfl, rfl, fun i u hu => ?_⟩⟩⟩, ?_⟩
  · obtain ⟨rfl, rfl⟩ : i = 0 ∧ .int .u8 p = u := by
      cases i with
      | zero => exact ⟨rfl, by simpa using hu⟩
      | succ i => simp at hu
    have hjl : j < l.length := (List.getElem?_eq_some_iff.1 hj).1
    have h1 := hc j (by omega)
    have h2 : zs.getD j 0 = p := by
      rw [← hzl, List.getElem?_take_of_lt hjl] at hj
      rw [List.getD_eq_getElem?_getD, hj]; rfl
    rw [h2] at h1
    have e1 : (⟨g, 0, none⟩ : Addr).add (j * KB.sz + 0) = ⟨g, j, none⟩ := by
      unfold Addr.add
      simp [KB, Kd.int, Kd.scalar]
      intro h; exact h.symm
    rw [e1]; exact h1
  · intro ad he hn
    cases he
    have h1 := hc 0 (by omega)
    exact ⟨hB, World.block_lt_of_cell? w _ h1⟩

abbrev KBs : Kd (List Int) := Kd.slice 5 KB
/-- The cell of a slice in a row of slices. -/
theorem rowAt {w : World} {A : Option Addr} {n : Nat} {ls : List (List Int)} (h : KBs.C w A n ls) {k : Nat} (hk : k < ls.length) : ∃ ad A1 c1, A = some ad ∧ w.cell? (ad.add k) = some (.slice A1 ls[k].length c1) ∧ ls[k].length ≤ c1 ∧ KB.C w A1 ls[k].length ls[k] := by
  obtain ⟨ad, e, hc⟩ := h.2.2 (by rw [← h.1]; omega)
  obtain ⟨cs, _, ⟨A1, c1, rfl, h1, h2⟩, h3⟩ := hc k ls[k] (List.getElem?_eq_getElem hk)
  exact ⟨ad, A1, c1, e, by simpa [KBs, Kd.slice] using h3 0 _ rfl, h1, h2⟩

theorem holds_of {w : World} {A : Option Addr} {c : Nat} {l : List Int} (hb : InB l) (h : KB.C w A l.length l) : Lib.HoldsBytes w (.slice A l.length c) (toU l) := by
  refine ⟨A, c, by rw [toU_length], ?_, ?_⟩
  · rintro rfl
    rcases Nat.eq_zero_or_pos l.length with h0 | h0
    · rw [List.eq_nil_of_length_eq_zero h0]; rfl
    · obtain ⟨ad, e, _⟩ := h.2.2 h0; cases e
  · intro a he i x hx
    have hx' := toU_at hb hx
    have hi := (List.getElem?_eq_some_iff.1 hx').1
    obtain ⟨ad, e, hc⟩ := byteAt h hi
    rw [he] at e
    cases e
    rw [hc]
    rw [List.getElem?_eq_getElem hi] at hx'
    injection hx' with hx'
    rw [hx']

theorem join_calls (b o c : Nat) (ls : List (List Int)) (w : World) (A : Option Addr) (hA : 0 < ls.length → A = some ⟨b, o, none⟩) (hC : KBs.C w A ls.length ls) (hcap : ls.length ≤ c) (hb : ∀ l ∈ ls, InB l ∧ 0 < l.length) (hn : ls.length ≤ 16777216) (hl : ls.flatten.length ≤ 16777216) :
    Calls Tryd.prog 126 #[.slice A ls.length c, .slice none 0 0] w fun e w' => ∃ A' c', e = .returned (.slice A' ls.flatten.length c') ∧ ls.flatten.length ≤ c' ∧ (A' = none → c' = 0) ∧ CN w' w.heap.size A' ls.flatten ∧ Below w.heap.size w w' := by
  have hflat : InB ls.flatten := fun x hx => by
    obtain ⟨l, h1, h2⟩ := List.mem_flatten.1 hx
    exact (hb l h1).1 x h2
  have fin : ∀ (w' : World) (v' : Value), Lib.FreshBytes w.heap.size w' v' (toU ls.flatten) → Below w.heap.size w w' → ∃ A' c', Ending.returned v' = .returned (.slice A' ls.flatten.length c') ∧ ls.flatten.length ≤ c' ∧ (A' = none → c' = 0) ∧ CN w' w.heap.size A' ls.flatten ∧ Below w.heap.size w w' := by
    intro w' v' hf hbel
    obtain ⟨A', c', rfl, h1, h2, h3⟩ := fresh_CN hflat (by omega) hf
    exact ⟨A', c', rfl, h1, h2, h3, hbel⟩
  match ls, hA, hC, hcap, hb, hn, hl, hflat, fin with
  | [], _, _, _, _, _, _, _, _ =>
    refine (Tryd.bytes_Join_none A c (.slice none 0 0) w).mono ?_
    rintro e w' ⟨rfl, rfl⟩
    exact ⟨some ⟨w.heap.size, 0, none⟩, 0, rfl, Nat.zero_le _, (fun h => by cases h), ⟨⟨rfl, by simp, fun h => absurd h (Nat.lt_irrefl 0)⟩, fun ad _ h => absurd h (Nat.lt_irrefl 0)⟩, below_alloc (Below.refl _ _) _⟩
  | [l], hA, hC, hcap, hb, hn, hl, hflat, fin =>
    obtain rfl := hA (by simp)
    obtain ⟨ad, A1, c1, e, hcell, hle, hC1⟩ := rowAt hC (k := 0) (by simp)
    cases e
    simp only [List.getElem_cons_zero] at hcell hle hC1
    have hl0 := (hb l (by simp)).2
    have hB := (hb l (by simp)).1
    obtain ⟨ad1, rfl, -⟩ := byteAt hC1 hl0
    have hh := holds_of (c := c1) hB hC1
    refine (Tryd.bytes_Join_one b o c ad1 c1 (toU l) (.slice none 0 0) w ?_ ?_ (by rw [toU_length]; exact hl0) (by rw [toU_length]; simp at hl; omega)).mono ?_
    · rw [toU_length]; simpa [Addr.add] using hcell
    · intro i x hx
      obtain ⟨p, cap, e1, _, h3⟩ := hh
      exact h3 ad1 (by injection e1 with a1 a2 a3; exact a1.symm) i x hx
    · rintro e w' ⟨v', rfl, hf, hbel⟩
      exact fin _ _ (by simpa using hf) hbel
  | l :: l2 :: r, hA, hC, hcap, hb, hn, hl, hflat, fin =>
    obtain rfl := hA (by simp)
    refine (Tryd.bytes_Join_many b o (l :: l2 :: r).length c ((List.range (l :: l2 :: r).length).map fun i => (w.cell? ((⟨b, o, none⟩ : Addr).add i)).getD .nilFunc) ((l :: l2 :: r).map toU) (.slice none 0 0) [] w (by simp) (by simp) ?_ hcap ⟨none, 0, rfl, fun _ => rfl, (fun a h => by cases h)⟩ (by omega) ?_).mono ?_
    · refine ⟨by simp, ?_, ?_⟩
      · intro i v hv
        rw [List.getElem?_map] at hv
        have hi : i < (l :: l2 :: r).length := by
          rcases Nat.lt_or_ge i (l :: l2 :: r).length with h | h
          · exact h
          · rw [List.getElem?_eq_none (by simpa using h)] at hv; cases hv
        rw [List.getElem?_eq_getElem (by simpa using hi)] at hv
        simp only [List.getElem_range, Option.map_some, Option.some.injEq] at hv
        obtain ⟨ad, A1, c1, e, hcell, _, _⟩ := rowAt hC hi
        cases e
        rw [hcell] at hv
        rw [hcell, ← hv]; rfl
      · intro i v u hv hu
        rw [List.getElem?_map] at hv hu
        have hi : i < (l :: l2 :: r).length := by
          rcases Nat.lt_or_ge i (l :: l2 :: r).length with h | h
          · exact h
          · rw [List.getElem?_eq_none (by simpa using h)] at hu; cases hu
        rw [List.getElem?_eq_getElem (by simpa using hi)] at hv
        rw [List.getElem?_eq_getElem hi] at hu
        simp only [List.getElem_range, Option.map_some, Option.some.injEq] at hv hu
        obtain ⟨ad, A1, c1, e, hcell, _, hC1⟩ := rowAt hC hi
        cases e
        rw [hcell] at hv
        subst hu
        rw [← hv]
        exact holds_of (hb _ (List.getElem_mem hi)).1 hC1
    · have h1 : ((l :: l2 :: r).map toU).flatten.length ≤ 16777216 := by rw [toU_flat, toU_length]; exact hl
      rw [List.length_flatten] at h1
      have h2 : Lib.lens ((l :: l2 :: r).map toU) ≤ 16777216 := h1
      simp only [List.length_nil, Nat.zero_mul, Nat.add_zero]
      omega
    · rintro e w' ⟨v', rfl, hf, hbel⟩
      rw [join_nosep, toU_flat] at hf
      exact fin _ _ hf hbel

set_option maxHeartbeats 1000000 in
theorem glue_calls (b o c many : Nat) (ls : List (List Int)) (w : World) (A : Option Addr) (hA : 0 < ls.length → A = some ⟨b, o, none⟩) (hC : KBs.C w A ls.length ls) (hcap : ls.length ≤ c) (hb : ∀ l ∈ ls, InB l ∧ 0 < l.length) (hn : ls.length ≤ 16777216) (hl : ls.flatten.length ≤ 16777216) (hm : many ≤ ls.flatten.length) :
    Calls Tryd.prog 95 #[.slice A ls.length c, .int .i64 (many : Int)] w fun e w' => ∃ A' c', e = .returned (.tuple #[.slice A' many c', .int .i64 0]) ∧ many ≤ c' ∧ (A' = none → c' = 0) ∧ CN w' w.heap.size A' (ls.flatten.take many) ∧ Below w.heap.size w w' := by
  have HJ := Lib.hid (join_calls b o c ls w A hA hC hcap hb hn hl)
  have hmany : (many : Int) ≤ (ls.flatten.length : Int) := by omega
  generalize hfl : ls.flatten = fl at *
  clear hA hC hcap hb hn hfl
  go_enter Tryd.func95, Tryd.ntmps95
  go_wp2_with fail
  refine HJ.out.mono ?_
  rintro e w1 ⟨A1, c1, rfl, hle, hnil, hCN, hbel⟩
  have HN := Lib.hid hnil
  have HC := Lib.hid hCN
  have HB := Lib.hid hbel
  clear hnil hCN hbel
  go_wp2_with fail
  go_ret2
  exact ⟨A1, c1, rfl, by omega, HN.out, HC.out.take (by omega), HB.out⟩
end Go.Proofs.YtcemageindmbkaaDoor
