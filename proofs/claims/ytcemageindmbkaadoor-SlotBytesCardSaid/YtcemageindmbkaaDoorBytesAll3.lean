/- Parts of the proof, in build order. -/
import Derived.Test.YtcemageindmbkaaDoorBytesAll2
import Derived.RangeFuncBox
/- slot.at and its two closures: what they return. -/
namespace Go.Proofs.YtcemageindmbkaaDoor
open Go.RowKit Go.Proofs.YtcemageindmbkaaDoorW.PrintWords
open PSlotBytes

def atE (D : DiskS) (which a b c : Int) : Int :=
  if rightF a b c = false then 9 else if which < 0 ∨ 2 ≤ which ∨ D.size < 32 then 1 else if D.sectors < 2 * spanF D.size a b c then 4 else 0

/-- The three boxes of 'at', in a world that has come of w0. -/
structure At3 (w0 W : World) (g : Nat) (a b c : Int) : Prop where
  below : Below w0.heap.size w0 W
  b0 : W.heap[w0.heap.size]? = some (.cells #[.pointer (some ⟨g, 0, none⟩)] 29)
  b1 : W.heap[w0.heap.size + 1]? = some (.cells #[.int .i64 a, .int .i64 b, .int .i64 c] 23)
  b2 : W.heap[w0.heap.size + 1 + 1]? = some (.cells #[.int .i64 0, .int .i64 0, .nilFunc, .nilFunc] 87)
theorem At3.made (w0 : World) (g : Nat) (a b c : Int) : At3 w0 (((w0.alloc (.cells #[.pointer (some ⟨g, 0, none⟩)] 29)).alloc (.cells #[.int .i64 a, .int .i64 b, .int .i64 c] 23)).alloc (.cells #[.int .i64 0, .int .i64 0, .nilFunc, .nilFunc] 87)) g a b c :=
  ⟨below_alloc (below_alloc (below_alloc (Below.refl _ _) _) _) _, blk_alloc (blk_alloc (heap_alloc_new w0 _) _) _, enc_blk1 _ _ _ _, enc_blk2 _ _ _ _⟩
theorem At3.step {w0 W W' : World} {g : Nat} {a b c : Int} (h : At3 w0 W g a b c) (hb : Below W.heap.size W W') : At3 w0 W' g a b c :=
  ⟨below_via h.below hb, (hb.block _ (blk_lt h.b0)).trans h.b0, (hb.block _ (blk_lt h.b1)).trans h.b1, (hb.block _ (blk_lt h.b2)).trans h.b2⟩
theorem At3.cells {w0 W : World} {g : Nat} {a b c : Int} (h : At3 w0 W g a b c) : W.cell? ⟨w0.heap.size, 0, none⟩ = some (.pointer (some ⟨g, 0, none⟩)) ∧ (W.cell? ⟨w0.heap.size + 1, 0, none⟩ = some (.int .i64 a) ∧ W.cell? ⟨w0.heap.size + 1, 1, none⟩ = some (.int .i64 b) ∧ W.cell? ⟨w0.heap.size + 1, 2, none⟩ = some (.int .i64 c)) ∧
    (W.cell? ⟨w0.heap.size + 1 + 1, 0, none⟩ = some (.int .i64 0) ∧ W.cell? ⟨w0.heap.size + 1 + 1, 1, none⟩ = some (.int .i64 0) ∧ W.cell? ⟨w0.heap.size + 1 + 1, 2, none⟩ = some .nilFunc ∧ W.cell? ⟨w0.heap.size + 1 + 1, 3, none⟩ = some .nilFunc) ∧
    (W.frozen? ⟨w0.heap.size + 1 + 1, 0, none⟩ = false ∧ W.frozen? ⟨w0.heap.size + 1 + 1, 1, none⟩ = false ∧ W.frozen? ⟨w0.heap.size + 1 + 1, 2, none⟩ = false ∧ W.frozen? ⟨w0.heap.size + 1 + 1, 3, none⟩ = false) :=
  ⟨(blk_cell h.b0 0).trans rfl, ⟨(blk_cell h.b1 0).trans rfl, (blk_cell h.b1 1).trans rfl, (blk_cell h.b1 2).trans rfl⟩, ⟨(blk_cell h.b2 0).trans rfl, (blk_cell h.b2 1).trans rfl, (blk_cell h.b2 2).trans rfl, (blk_cell h.b2 3).trans rfl⟩, blk_frozen h.b2 0, blk_frozen h.b2 1, blk_frozen h.b2 2, blk_frozen h.b2 3⟩
/-- Four cells are written, one behind the other. -/
theorem set4 {W : World} {g : Nat} {u0 u1 u2 u3 : Value} (v0 v1 v2 v3 : Value)
    (k : W.cell? ⟨g, 0, none⟩ = some u0 ∧ W.cell? ⟨g, 1, none⟩ = some u1 ∧ W.cell? ⟨g, 2, none⟩ = some u2 ∧ W.cell? ⟨g, 3, none⟩ = some u3) :
    ∃ W', W' = ((((W.setCell ⟨g, 0, none⟩ v0).setCell ⟨g, 1, none⟩ v1).setCell ⟨g, 2, none⟩ v2).setCell ⟨g, 3, none⟩ v3) ∧
      (W'.cell? ⟨g, 0, none⟩ = some v0 ∧ W'.cell? ⟨g, 1, none⟩ = some v1 ∧ W'.cell? ⟨g, 2, none⟩ = some v2 ∧ W'.cell? ⟨g, 3, none⟩ = some v3) ∧
      (∀ B w0, Below B w0 W → B ≤ g → Below B w0 W') ∧ W'.heap.size = W.heap.size ∧ ∀ k, k ≠ g → W'.heap[k]? = W.heap[k]? := by
  obtain ⟨k0, k1, k2, k3⟩ := k
  obtain ⟨W', hW⟩ : ∃ W', W' = ((((W.setCell ⟨g, 0, none⟩ v0).setCell ⟨g, 1, none⟩ v1).setCell ⟨g, 2, none⟩ v2).setCell ⟨g, 3, none⟩ v3) := ⟨_, rfl⟩
  refine ⟨W', hW, ⟨?_, ?_, ?_, ?_⟩, fun B w0 h hg => hW ▸ (((h.setCell hg _).setCell hg _).setCell hg _).setCell hg _, by rw [hW]; simp [World.setCell], fun k hk => ?_⟩
  · rw [hW]; simp [go_sem, *]
  · rw [hW]; simp [go_sem, *]
  · rw [hW]; simp [go_sem, *]
  · rw [hW]; simp [go_sem, *]
  · rw [hW, Below.heap_setCell _ _ _ _ (by simpa using hk), Below.heap_setCell _ _ _ _ (by simpa using hk), Below.heap_setCell _ _ _ _ (by simpa using hk), Below.heap_setCell _ _ _ _ (by simpa using hk)]

abbrev zeroP : Value := .agg #[.int .i64 0, .int .i64 0, .nilFunc, .nilFunc]
set_option maxRecDepth 100000 in
theorem at_geo (w : World) (g : Nat) (which a b c : Int) (hr : rightF a b c = false) :
    Calls Tryd.prog 48 #[.pointer (some ⟨g, 0, none⟩), .int .i64 which, .agg #[.int .i64 a, .int .i64 b, .int .i64 c]] w fun e w' => e = .returned (.tuple #[zeroP, .int .i64 9]) ∧ Below w.heap.size w w' := by
  have HR := Lib.hid (fun w => hr ▸ right_calls a b c w)
  clear hr
  have HA := Lib.hid (At3.made w g a b c)
  have sn : ∀ (m : Mode) (x : Addr) (w : World), (store x Value.nilFunc m).run Tryd.prog w = stored Tryd.prog w x Value.nilFunc m := fun m x w => run_store Tryd.prog w x _ m rfl
  go_enter Tryd.func48, Tryd.ntmps48
  go_wp2_with fail
  generalize (((w.alloc (.cells #[.pointer (some ⟨g, 0, none⟩)] 29)).alloc (.cells #[.int .i64 a, .int .i64 b, .int .i64 c] 23)).alloc (.cells #[.int .i64 0, .int .i64 0, .nilFunc, .nilFunc] 87)) = wB at *
  refine (HR.out _).mono ?_
  rintro e w1 ⟨rfl, hb1⟩
  have HA1 := Lib.hid (HA.out.step hb1)
  clear hb1
  obtain ⟨c0, ⟨c1, c2, c3⟩, ⟨k0, k1, k2, k3⟩, f0, f1, f2, f3⟩ := HA1.out.cells
  go_wp2_with fail
  obtain ⟨W9, hW9, ⟨l0, l1, l2, l3⟩, hbel, -, -⟩ := set4 (.int .i64 0) (.int .i64 0) .nilFunc .nilFunc ⟨k0, k1, k2, k3⟩
  rw [← hW9]
  have hb9 := hbel _ _ (HA1.out).below (by omega)
  clear hW9 hbel k0 k1 k2 k3 f0 f1 f2 f3
  exact bodyPost_ret (v := .tuple #[zeroP, .int .i64 9]) (by simp [results, Tryd.results48, go_sem, l0, l1, l2, l3]) rfl ⟨rfl, hb9⟩

set_option maxRecDepth 100000 in
theorem at_arg1 (w : World) (g : Nat) (which a b c : Int) (hr : rightF a b c = true) (hw : which < 0 ∨ 2 ≤ which) :
    Calls Tryd.prog 48 #[.pointer (some ⟨g, 0, none⟩), .int .i64 which, .agg #[.int .i64 a, .int .i64 b, .int .i64 c]] w fun e w' => e = .returned (.tuple #[zeroP, .int .i64 1]) ∧ Below w.heap.size w w' := by
  have HR := Lib.hid (fun w => hr ▸ right_calls a b c w)
  clear hr
  have HA := Lib.hid (At3.made w g a b c)
  have sn : ∀ (m : Mode) (x : Addr) (w : World), (store x Value.nilFunc m).run Tryd.prog w = stored Tryd.prog w x Value.nilFunc m := fun m x w => run_store Tryd.prog w x _ m rfl
  go_enter Tryd.func48, Tryd.ntmps48
  go_wp2_with fail
  generalize (((w.alloc (.cells #[.pointer (some ⟨g, 0, none⟩)] 29)).alloc (.cells #[.int .i64 a, .int .i64 b, .int .i64 c] 23)).alloc (.cells #[.int .i64 0, .int .i64 0, .nilFunc, .nilFunc] 87)) = wB at *
  refine (HR.out _).mono ?_
  rintro e w1 ⟨rfl, hb1⟩
  have HA1 := Lib.hid (HA.out.step hb1)
  clear hb1
  obtain ⟨c0, ⟨c1, c2, c3⟩, ⟨k0, k1, k2, k3⟩, f0, f1, f2, f3⟩ := HA1.out.cells
  rcases hw with hw | hw
  · skip
    go_wp2_with fail
    obtain ⟨W9, hW9, ⟨l0, l1, l2, l3⟩, hbel, -, -⟩ := set4 (.int .i64 0) (.int .i64 0) .nilFunc .nilFunc ⟨k0, k1, k2, k3⟩
    rw [← hW9]
    have hb9 := hbel _ _ (HA1.out).below (by omega)
    clear hW9 hbel k0 k1 k2 k3 f0 f1 f2 f3
    exact bodyPost_ret (v := .tuple #[zeroP, .int .i64 1]) (by simp [results, Tryd.results48, go_sem, l0, l1, l2, l3]) rfl ⟨rfl, hb9⟩
  · skip
    go_wp2_with fail
    obtain ⟨W9, hW9, ⟨l0, l1, l2, l3⟩, hbel, -, -⟩ := set4 (.int .i64 0) (.int .i64 0) .nilFunc .nilFunc ⟨k0, k1, k2, k3⟩
    rw [← hW9]
    have hb9 := hbel _ _ (HA1.out).below (by omega)
    clear hW9 hbel k0 k1 k2 k3 f0 f1 f2 f3
    exact bodyPost_ret (v := .tuple #[zeroP, .int .i64 1]) (by simp [results, Tryd.results48, go_sem, l0, l1, l2, l3]) rfl ⟨rfl, hb9⟩

set_option maxRecDepth 100000 in
theorem at_arg2 (w : World) (B g : Nat) (F : Nat → Prop) (D : DiskS) (which a b c : Int) (hD : IsDisk w B F g D) (hr : rightF a b c = true) (hw0 : 0 ≤ which) (hw1 : which < 2) (hs : D.size < 32) :
    Calls Tryd.prog 48 #[.pointer (some ⟨g, 0, none⟩), .int .i64 which, .agg #[.int .i64 a, .int .i64 b, .int .i64 c]] w fun e w' => e = .returned (.tuple #[zeroP, .int .i64 1]) ∧ Below w.heap.size w w' := by
  have HR := Lib.hid (fun w => hr ▸ right_calls a b c w)
  have HD := Lib.hid hD
  clear hr hD
  have HA := Lib.hid (At3.made w g a b c)
  have sn : ∀ (m : Mode) (x : Addr) (w : World), (store x Value.nilFunc m).run Tryd.prog w = stored Tryd.prog w x Value.nilFunc m := fun m x w => run_store Tryd.prog w x _ m rfl
  go_enter Tryd.func48, Tryd.ntmps48
  go_wp2_with fail
  generalize (((w.alloc (.cells #[.pointer (some ⟨g, 0, none⟩)] 29)).alloc (.cells #[.int .i64 a, .int .i64 b, .int .i64 c] 23)).alloc (.cells #[.int .i64 0, .int .i64 0, .nilFunc, .nilFunc] 87)) = wB at *
  refine (HR.out _).mono ?_
  rintro e w1 ⟨rfl, hb1⟩
  have HA1 := Lib.hid (HA.out.step hb1)
  clear hb1
  obtain ⟨c0, ⟨c1, c2, c3⟩, ⟨k0, k1, k2, k3⟩, f0, f1, f2, f3⟩ := HA1.out.cells
  go_wp2_with fail
  refine (size_calls w1 B g F D (HD.out.below HA1.out.below)).mono ?_
  rintro e w2 ⟨rfl, hb2⟩
  have HA2 := Lib.hid (HA1.out.step hb2)
  clear hb2 c0 c1 c2 c3 k0 k1 k2 k3 f0 f1 f2 f3
  obtain ⟨c0, ⟨c1, c2, c3⟩, ⟨k0, k1, k2, k3⟩, f0, f1, f2, f3⟩ := HA2.out.cells
  generalize D.size = sz at *
  go_wp2_with fail
  obtain ⟨W9, hW9, ⟨l0, l1, l2, l3⟩, hbel, -, -⟩ := set4 (.int .i64 0) (.int .i64 0) .nilFunc .nilFunc ⟨k0, k1, k2, k3⟩
  rw [← hW9]
  have hb9 := hbel _ _ (HA2.out).below (by omega)
  clear hW9 hbel k0 k1 k2 k3 f0 f1 f2 f3
  exact bodyPost_ret (v := .tuple #[zeroP, .int .i64 1]) (by simp [results, Tryd.results48, go_sem, l0, l1, l2, l3]) rfl ⟨rfl, hb9⟩

set_option maxRecDepth 100000 in
theorem at_full (w : World) (B g : Nat) (F : Nat → Prop) (D : DiskS) (which a b c : Int) (hl : Laid w) (hD : IsDisk w B F g D) (hok : DiskOk D) (hr : rightF a b c = true) (hw0 : 0 ≤ which) (hw1 : which < 2) (hs : 32 ≤ D.size) (hf : D.sectors < 2 * spanF D.size a b c) :
    Calls Tryd.prog 48 #[.pointer (some ⟨g, 0, none⟩), .int .i64 which, .agg #[.int .i64 a, .int .i64 b, .int .i64 c]] w fun e w' => e = .returned (.tuple #[zeroP, .int .i64 4]) ∧ Below w.heap.size w w' := by
  have HR := Lib.hid (fun w => hr ▸ right_calls a b c w)
  have HD := Lib.hid hD
  have HK := Lib.hid hok
  have HL := Lib.hid hl
  clear hr hD hl hok
  have HA := Lib.hid (At3.made w g a b c)
  have sn : ∀ (m : Mode) (x : Addr) (w : World), (store x Value.nilFunc m).run Tryd.prog w = stored Tryd.prog w x Value.nilFunc m := fun m x w => run_store Tryd.prog w x _ m rfl
  go_enter Tryd.func48, Tryd.ntmps48
  go_wp2_with fail
  generalize (((w.alloc (.cells #[.pointer (some ⟨g, 0, none⟩)] 29)).alloc (.cells #[.int .i64 a, .int .i64 b, .int .i64 c] 23)).alloc (.cells #[.int .i64 0, .int .i64 0, .nilFunc, .nilFunc] 87)) = wB at *
  refine (HR.out _).mono ?_
  rintro e w1 ⟨rfl, hb1⟩
  have HA1 := Lib.hid (HA.out.step hb1)
  clear hb1
  obtain ⟨c0, ⟨c1, c2, c3⟩, ⟨k0, k1, k2, k3⟩, f0, f1, f2, f3⟩ := HA1.out.cells
  go_wp2_with fail
  refine (size_calls w1 B g F D (HD.out.below HA1.out.below)).mono ?_
  rintro e w2 ⟨rfl, hb2⟩
  have HA2 := Lib.hid (HA1.out.step hb2)
  clear hb2 c0 c1 c2 c3 k0 k1 k2 k3 f0 f1 f2 f3
  obtain ⟨c0, ⟨c1, c2, c3⟩, -⟩ := HA2.out.cells
  have d0 := fun n : BT w2 => BT.cell c0 n
  have d1 := fun n : BT w2 => BT.cell c1 n
  have d2 := fun n : BT w2 => BT.cell c2 n
  have d3 := fun n : BT w2 => BT.cell c3 n
  have S1 := Lib.hid (fun n : BT w2 => sectorsOf_calls n.w B g F D (HD.out.below (below_via HA2.out.below n.ok)) HK.out.s1 (by have := HK.out.len; omega))
  have S2 := Lib.hid (fun n : BT w2 => size_calls n.w B g F D (HD.out.below (below_via HA2.out.below n.ok)))
  have S3 := Lib.hid (fun n : BT w2 => room_calls D.size a b c n.w (HL.out.of_below (below_via HA2.out.below n.ok)))
  generalize D.size = sz at *
  generalize D.sectors = sc at *
  go_wp2_with fail
  · skip
    refine wp_region_below (by kernel_rfl) (by kernel_rfl) ?_
    repeat (go_big_quiet_step (first | (go_at_call 87; exact Calls.below_of (S1.out _)) | (go_at_call 86; exact Calls.below_of (S2.out _)) | (go_at_call 11; exact Calls.below_of (S3.out _))))
    refine wpQuiet_nil ?_
    intro W5 hW5
    obtain ⟨⟨w5, hb5⟩, rfl⟩ := hW5
    have HA3 := Lib.hid (HA2.out.step hb5)
    clear hb5 c0 c1 c2 c3 d0 d1 d2 d3
    obtain ⟨c0, ⟨c1, c2, c3⟩, ⟨k0, k1, k2, k3⟩, f0, f1, f2, f3⟩ := HA3.out.cells
    go_wp2_with fail
    obtain ⟨W9, hW9, ⟨l0, l1, l2, l3⟩, hbel, -, -⟩ := set4 (.int .i64 0) (.int .i64 0) .nilFunc .nilFunc ⟨k0, k1, k2, k3⟩
    rw [← hW9]
    have hb9 := hbel _ _ (HA3.out).below (by omega)
    clear hW9 hbel k0 k1 k2 k3 f0 f1 f2 f3
    exact bodyPost_ret (v := .tuple #[zeroP, .int .i64 4]) (by simp [results, Tryd.results48, go_sem, l0, l1, l2, l3]) rfl ⟨rfl, hb9⟩

/-- A slot's place: the closures read the disk's box at p1, and the first sector's at p2. -/
abbrev placeV (p1 p2 : Nat) (many size : Int) : Value :=
  .agg #[.int .i64 many, .int .i64 size, .func (.func 88) #[] #[.pointer (some ⟨p1, 0, none⟩), .pointer (some ⟨p2, 0, none⟩)], .func (.func 90) #[] #[.pointer (some ⟨p1, 0, none⟩), .pointer (some ⟨p2, 0, none⟩)]]
set_option maxRecDepth 100000 in
theorem at_ok (w : World) (B g : Nat) (F : Nat → Prop) (D : DiskS) (which a b c : Int) (hl : Laid w) (hD : IsDisk w B F g D) (hok : DiskOk D) (hr : rightF a b c = true) (hw0 : 0 ≤ which) (hw1 : which < 2) (hs : 32 ≤ D.size) (hf : ¬ D.sectors < 2 * spanF D.size a b c) :
    Calls Tryd.prog 48 #[.pointer (some ⟨g, 0, none⟩), .int .i64 which, .agg #[.int .i64 a, .int .i64 b, .int .i64 c]] w fun e w' => ∃ p2, e = .returned (.tuple #[placeV w.heap.size p2 (spanF D.size a b c - 1) D.size, .int .i64 0]) ∧ Below w.heap.size w w' ∧
      w'.heap[w.heap.size]? = some (.cells #[.pointer (some ⟨g, 0, none⟩)] 29) ∧ w'.heap[p2]? = some (.cells #[.int .i64 (which * spanF D.size a b c)] 3) ∧ w.heap.size ≤ p2 := by
  have HR := Lib.hid (fun w => hr ▸ right_calls a b c w)
  have HD := Lib.hid hD
  have HK := Lib.hid hok
  have HL := Lib.hid hl
  clear hr hD hl hok
  have S1 := Lib.hid (fun (W : World) (hW : Below w.heap.size w W) => sectorsOf_calls W B g F D (HD.out.below hW) HK.out.s1 (by have := HK.out.len; omega))
  have S2 := Lib.hid (fun (W : World) (hW : Below w.heap.size w W) => size_calls W B g F D (HD.out.below hW))
  have S3 := Lib.hid (fun (W : World) (hW : Below w.heap.size w W) => room_calls D.size a b c W (HL.out.of_below hW))
  have S4 := Lib.hid (fun (W : World) (hW : Below w.heap.size w W) => span_calls D.size a b c W (HL.out.of_below hW))
  have hsp := spanF_bd D.size a b c
  have hwr : wrap64 (which * spanF D.size a b c) = which * spanF D.size a b c := by
    have h01 : which = 0 ∨ which = 1 := by omega
    rcases h01 with rfl | rfl
    · rw [Int.zero_mul]; unfold wrap64; omega
    · rw [Int.one_mul]; unfold wrap64; omega
  have sf : ∀ (fn : Fn) (u v : Array Value) (m : Mode) (x : Addr) (w : World), (store x (Value.func fn u v) m).run Tryd.prog w = stored Tryd.prog w x (Value.func fn u v) m := fun fn u v m x w => run_store Tryd.prog w x _ m rfl
  clear HL HK HD
  generalize spanF D.size a b c = sp at *
  generalize D.size = sz at *
  generalize D.sectors = sc at *
  clear D F B
  have HA := Lib.hid (At3.made w g a b c)
  have sn : ∀ (m : Mode) (x : Addr) (w : World), (store x Value.nilFunc m).run Tryd.prog w = stored Tryd.prog w x Value.nilFunc m := fun m x w => run_store Tryd.prog w x _ m rfl
  go_enter Tryd.func48, Tryd.ntmps48
  go_wp2_with fail
  generalize (((w.alloc (.cells #[.pointer (some ⟨g, 0, none⟩)] 29)).alloc (.cells #[.int .i64 a, .int .i64 b, .int .i64 c] 23)).alloc (.cells #[.int .i64 0, .int .i64 0, .nilFunc, .nilFunc] 87)) = wB at *
  refine (HR.out _).mono ?_
  rintro e w1 ⟨rfl, hb1⟩
  have HA1 := Lib.hid (HA.out.step hb1)
  clear hb1
  obtain ⟨c0, ⟨c1, c2, c3⟩, ⟨k0, k1, k2, k3⟩, f0, f1, f2, f3⟩ := HA1.out.cells
  go_wp2_with fail
  refine (S2.out _ HA1.out.below).mono ?_
  rintro e w2 ⟨rfl, hb2⟩
  have HA2 := Lib.hid (HA1.out.step hb2)
  clear hb2 c0 c1 c2 c3 k0 k1 k2 k3 f0 f1 f2 f3
  obtain ⟨c0, ⟨c1, c2, c3⟩, -⟩ := HA2.out.cells
  have d0 := fun n : BT w2 => BT.cell c0 n
  have d1 := fun n : BT w2 => BT.cell c1 n
  have d2 := fun n : BT w2 => BT.cell c2 n
  have d3 := fun n : BT w2 => BT.cell c3 n
  go_wp2_with fail
  · skip
    refine wp_region_below (by kernel_rfl) (by kernel_rfl) ?_
    repeat (go_big_quiet_step (first | (go_at_call 87; exact Calls.below_of (S1.out _ (below_via HA2.out.below (CT.ok _)))) | (go_at_call 86; exact Calls.below_of (S2.out _ (below_via HA2.out.below (CT.ok _)))) | (go_at_call 11; exact Calls.below_of (S3.out _ (below_via HA2.out.below (CT.ok _))))))
    refine wpQuiet_nil ?_
    intro W5 hW5
    obtain ⟨⟨w5, hb5⟩, rfl⟩ := hW5
    have HA3 := Lib.hid (HA2.out.step hb5)
    clear hb5 c0 c1 c2 c3 d0 d1 d2 d3
    obtain ⟨c0, ⟨c1, c2, c3⟩, -⟩ := HA3.out.cells
    have d0 := fun n : BT W5 => BT.cell c0 n
    have d1 := fun n : BT W5 => BT.cell c1 n
    have d2 := fun n : BT W5 => BT.cell c2 n
    have d3 := fun n : BT W5 => BT.cell c3 n
    go_wp2_with fail
    refine wp_region_below (by kernel_rfl) (by kernel_rfl) ?_
    repeat (go_big_quiet_step (first | (go_at_call 86; exact Calls.below_of (S2.out _ (below_via HA3.out.below (CT.ok _)))) | (go_at_call 9; exact Calls.below_of (S4.out _ (below_via HA3.out.below (CT.ok _))))))
    refine wpQuiet_nil ?_
    intro W5 hW5
    obtain ⟨⟨w5, hb5⟩, rfl⟩ := hW5
    have HA5 := Lib.hid (HA3.out.step hb5)
    clear hb5 c0 c1 c2 c3 d0 d1 d2 d3
    obtain ⟨c0, -, ⟨k0, k1, k2, k3⟩, f0, f1, f2, f3⟩ := HA5.out.cells
    have e0 := pw_cell_below (below_alloc (Below.refl W5.heap.size W5) (.cells #[.int .i64 (which * sp)] 3)) c0
    go_wp2_with fail
    refine (S2.out _ (below_via HA5.out.below (below_alloc (Below.refl _ _) _))).mono ?_
    rintro e w6 ⟨rfl, hb6⟩
    have HA6 := Lib.hid ((HA5.out.step (below_alloc (Below.refl W5.heap.size W5) (.cells #[.int .i64 (which * sp)] 3))).step hb6)
    have hp2 : w6.heap[W5.heap.size]? = some (.cells #[.int .i64 (which * sp)] 3) := (hb6.block _ (by simp)).trans (heap_alloc_new W5 _)
    have HP2 := Lib.hid hp2
    have hle : w.heap.size + 1 + 1 < W5.heap.size := blk_lt HA5.out.b2
    clear hb6 hp2 c0 e0 k0 k1 k2 k3 f0 f1 f2 f3
    obtain ⟨-, -, ⟨k0, k1, k2, k3⟩, f0, f1, f2, f3⟩ := HA6.out.cells
    generalize W5.heap.size = p2 at *
    go_wp2_with fail
    obtain ⟨W9, hW9, ⟨l0, l1, l2, l3⟩, hbel, hsz, hrest⟩ := set4 (.int .i64 (sp - 1)) (.int .i64 sz) (.func (.func 88) #[] #[.pointer (some ⟨w.heap.size, 0, none⟩), .pointer (some ⟨p2, 0, none⟩)]) (.func (.func 90) #[] #[.pointer (some ⟨w.heap.size, 0, none⟩), .pointer (some ⟨p2, 0, none⟩)]) ⟨k0, k1, k2, k3⟩
    rw [← hW9]
    have hb9 := hbel _ _ HA6.out.below (by omega)
    have hr0 := (hrest w.heap.size (by omega)).trans HA6.out.b0
    have hr2 := (hrest p2 (by omega)).trans HP2.out
    clear hW9 hbel k0 k1 k2 k3 f0 f1 f2 f3 hrest
    exact bodyPost_ret (v := .tuple #[placeV w.heap.size p2 (sp - 1) sz, .int .i64 0]) (by simp [results, Tryd.results48, go_sem, l0, l1, l2, l3]) rfl ⟨p2, rfl, hb9, hr0, hr2, by omega⟩
end Go.Proofs.YtcemageindmbkaaDoor
/- slot.at's closures. -/
namespace Go.Proofs.YtcemageindmbkaaDoor
open Go.RowKit Go.Proofs.YtcemageindmbkaaDoorW.PrintWords
open PSlotBytes

theorem rd_calls (w : World) (B g p1 p2 : Nat) (F : Nat → Prop) (D : DiskS) (first i : Int) (h1 : w.heap[p1]? = some (.cells #[.pointer (some ⟨g, 0, none⟩)] 29)) (h2 : w.heap[p2]? = some (.cells #[.int .i64 first] 3)) (hD : IsDisk w B F g D) (hok : DiskOk D) (hb : -1000000000 ≤ first + i ∧ first + i ≤ 1000000000) :
    Calls Tryd.prog 88 #[.int .i64 i, .pointer (some ⟨p1, 0, none⟩), .pointer (some ⟨p2, 0, none⟩)] w fun e w' => ∃ v, e = .returned (.tuple #[v, .int .i64 (readErr D (first + i))]) ∧ RB w' w.heap.size (fun k => w.heap.size ≤ k) v (readB D (first + i)) ∧ IsDisk w' B F g D.next ∧ Fr w w' (fun k => k = g) := by
  have HR := Lib.hid (read_calls w B g F D (first + i) hD hok)
  have c1 : w.cell? ⟨p1, 0, none⟩ = some (.pointer (some ⟨g, 0, none⟩)) := (blk_cell h1 0).trans rfl
  have c2 : w.cell? ⟨p2, 0, none⟩ = some (.int .i64 first) := (blk_cell h2 0).trans rfl
  clear h1 h2 hD hok
  go_enter Tryd.func88, Tryd.ntmps88
  go_wp2_with fail
  refine HR.out.mono ?_
  rintro e w1 ⟨v, rfl, hR1, hD1, hf1⟩
  have HR1 := Lib.hid hR1
  have HD1 := Lib.hid hD1
  have HF1 := Lib.hid hf1
  clear hR1 hD1 hf1
  go_wp2_with fail
  go_ret2
  exact ⟨v, rfl, HR1.out, HD1.out, HF1.out⟩

theorem wr_calls (w : World) (B g p1 p2 : Nat) (F : Nat → Prop) (D : DiskS) (first i : Int) (A : Option Addr) (c : Nat) (b : List Int) (h1 : w.heap[p1]? = some (.cells #[.pointer (some ⟨g, 0, none⟩)] 29)) (h2 : w.heap[p2]? = some (.cells #[.int .i64 first] 3)) (hD : IsDisk w B F g D) (hok : DiskOk D) (hB : B ≤ w.heap.size)
    (hC : ∀ w', Fr w w' (fun k => k = g) → KB.C w' A b.length b) (hnil : A = none → c = 0) (hb : -1000000000 ≤ first + i ∧ first + i ≤ 1000000000) :
    Calls Tryd.prog 90 #[.int .i64 i, .slice A b.length c, .pointer (some ⟨p1, 0, none⟩), .pointer (some ⟨p2, 0, none⟩)] w fun e w' => e = .returned (.int .i64 (writeErr D (first + i) b.length)) ∧ IsDisk w' B (fun k => F k ∨ (w.heap.size ≤ k ∧ k < w'.heap.size)) g (writeS D (first + i) b) ∧ Fr w w' F := by
  have HR := Lib.hid (write_calls w B g F D (first + i) A c b hD hok hB hC hnil)
  have c1 : w.cell? ⟨p1, 0, none⟩ = some (.pointer (some ⟨g, 0, none⟩)) := (blk_cell h1 0).trans rfl
  have c2 : w.cell? ⟨p2, 0, none⟩ = some (.int .i64 first) := (blk_cell h2 0).trans rfl
  clear h1 h2 hD hok hC
  go_enter Tryd.func90, Tryd.ntmps90
  go_wp2_with fail
  refine HR.out.mono ?_
  rintro e w1 ⟨rfl, hD1, hf1⟩
  have HD1 := Lib.hid hD1
  have HF1 := Lib.hid hf1
  clear hD1 hf1
  go_wp2_with fail
  exact bodyPost_ret (v := .int .i64 (writeErr D (first + i) b.length)) (by simp [results, Tryd.results90, go_sem]) rfl ⟨rfl, HD1.out, HF1.out⟩
end Go.Proofs.YtcemageindmbkaaDoor
/- (place).first, Wipe, Seal, Data: what they return. -/
namespace Go.Proofs.YtcemageindmbkaaDoor
open Go.RowKit Go.Proofs.YtcemageindmbkaaDoorW.PrintWords
open PSlotBytes

set_option maxHeartbeats 1000000 in
set_option maxRecDepth 100000 in
theorem first_calls (w : World) (B g p1 p2 : Nat) (F : Nat → Prop) (D : DiskS) (first many : Int) (s : Nat) (A : Option Addr) (c : Nat) (l : List Int) (h1 : w.heap[p1]? = some (.cells #[.pointer (some ⟨g, 0, none⟩)] 29)) (h2 : w.heap[p2]? = some (.cells #[.int .i64 first] 3)) (hD : IsDisk w B F g D) (hok : DiskOk D) (hB : B ≤ w.heap.size)
    (hC : KB.C w A l.length l) (hl : l.length ≤ s) (hs : s ≤ 4096) (hb : 0 ≤ first ∧ first ≤ 1000000000) :
    Calls Tryd.prog 60 #[placeV p1 p2 many (s : Int), .slice A l.length c] w fun e w' => e = .returned (.int .i64 (writeErr D first s)) ∧ IsDisk w' B (fun k => F k ∨ (w.heap.size ≤ k ∧ k < w'.heap.size)) g (writeS D first (padTo l s)) ∧ Fr w w' F := by
  have HC := Lib.hid hC
  have HD := Lib.hid hD
  have HK := Lib.hid hok
  have H1 := Lib.hid h1
  have H2 := Lib.hid h2
  have HFg : Hid (∀ k, F k → B ≤ k ∧ k < w.heap.size) := Lib.hid hD.bound
  have hgl : g < w.heap.size := by
    obtain ⟨_, _, _, _, _, hh, _⟩ := hD
    exact blk_lt hh
  clear h1 h2 hD hok hC
  go_enter Tryd.func60, Tryd.ntmps60
  go_wp2_with (first | ((with_reducible refine gate_dst (N := 8) rfl ?_); refine Kd.R_make KB (w0 := w) w.heap.size 5 rfl (N := 8) rfl 27 _ _ rfl (s : Int) rfl rfl Tryd.underlying27 (.int .u8 0) 1 infoB rfl (by decide) (by decide) 0 (ok := fun k => w.heap.size ≤ k) (okp := fun _ => False) rfl (fun _ h => h.elim) (by simp) (by omega) (by omega) (below_alloc (Below.refl _ _) _) (by simp) ?_; intro v5 w5 HO5 HB5 hg5 hne5; have hk5 := (hg5.block w.heap.size (by simp) (by simp)).trans (heap_alloc_new w _)) | ((with_reducible refine gate_dst (N := 11) rfl ?_); refine Kd.R_copy (enc := Value.int .u8) (h1 := fun _ => rfl) 0 (w0 := w) w.heap.size rfl _ _ 27 27 5 rfl Tryd.underlying27 infoB1 v5 _ l A l.length c (fun k => w.heap.size ≤ k) rfl rfl HO5 (Kd.C_below HC.out HB5) HB5 HB5.size ?_; intro w6 HO6 HB6 HG6; have hk6 := (HG6.block w.heap.size (blk_lt hk5) (by obtain ⟨bb, e, hle⟩ := hne5; rw [e]; simp only [World.size_alloc] at hle; intro e2; cases e2; omega)).trans hk5; have e3 := blk_cell hk6 3; simp only [List.getElem?_toArray, List.getElem?_cons_succ, List.getElem?_cons_zero] at e3))
  simp only [Int.toNat_natCast] at HO6
  rw [pad_eq hl] at HO6
  have hlp := padTo_length hl
  have h61 := (HB6.block p1 (blk_lt H1.out)).trans H1.out
  have h62 := (HB6.block p2 (blk_lt H2.out)).trans H2.out
  have HO := Lib.hid HO6
  have HB6' := Lib.hid HB6
  obtain ⟨A5, c5, rfl, hle, hC5⟩ := Kd.R_reads HO6
  have hnil : A5 = none → c5 = 0 := by
    obtain ⟨bb, hh, -⟩ := hne5
    rintro rfl
    simp [Value.ownBlock] at hh
  have HW := Lib.hid (wr_calls w6 B g p1 p2 F D first 0 A5 c5 (padTo l s) h61 h62 (HD.out.below HB6) HK.out (Nat.le_trans hB HB6.size)
    (fun w' hf => (Kd.R_reads' (Kd.R_step HO.out (fun k hk hk2 => hf.block k hk2 (fun e => by subst e; exact absurd hgl (by omega))))).2.2) hnil (by omega))
  rw [hlp] at HW
  clear HO5 HB5 hg5 hne5 hk5 hk6 HG6 HO6 HB6 h61 h62 hC5 hle hnil
  rw [hlp]
  go_wp2_with fail
  refine HW.out.mono ?_
  rintro e w7 ⟨rfl, hD7, hf7⟩
  rw [Int.add_zero] at hD7
  have HD7 := Lib.hid hD7
  have HF7 := Lib.hid hf7
  clear hD7 hf7
  go_wp2_with fail
  refine bodyPost_ret (v := .int .i64 (writeErr D (first + 0) s)) (by simp [results, Tryd.results60, go_sem]) rfl ⟨by rw [Int.add_zero], ?_, (Fr.of_below HB6'.out F).trans HF7.out (fun _ _ h => h)⟩
  refine HD7.out.mono (fun k hk => hk.elim .inl (fun h => .inr ⟨Nat.le_trans HB6'.out.size h.1, h.2⟩)) (fun k hk => hk.elim (fun h => ⟨(HFg.out k h).1, Nat.lt_of_lt_of_le (HFg.out k h).2 (Nat.le_trans HB6'.out.size HF7.out.size)⟩) (fun h => ⟨Nat.le_trans hB h.1, h.2⟩))

theorem at_err (w : World) (B g : Nat) (F : Nat → Prop) (D : DiskS) (which a b c : Int) (hl : Laid w) (hD : IsDisk w B F g D) (hok : DiskOk D) (h : atE D which a b c ≠ 0) :
    Calls Tryd.prog 48 #[.pointer (some ⟨g, 0, none⟩), .int .i64 which, .agg #[.int .i64 a, .int .i64 b, .int .i64 c]] w fun e w' => e = .returned (.tuple #[zeroP, .int .i64 (atE D which a b c)]) ∧ Below w.heap.size w w' := by
  unfold atE at *
  by_cases h1 : rightF a b c = false
  · rw [if_pos h1]; exact at_geo w g which a b c h1
  · rw [if_neg h1] at h ⊢
    have hr : rightF a b c = true := by simpa using h1
    by_cases h2 : which < 0 ∨ 2 ≤ which ∨ D.size < 32
    · rw [if_pos h2]
      by_cases h3 : which < 0 ∨ 2 ≤ which
      · exact at_arg1 w g which a b c hr h3
      · exact at_arg2 w B g F D which a b c hD hr (by omega) (by omega) (by omega)
    · rw [if_neg h2] at h ⊢
      by_cases h3 : D.sectors < 2 * spanF D.size a b c
      · rw [if_pos h3]; exact at_full w B g F D which a b c hl hD hok hr (by omega) (by omega) (by omega) h3
      · rw [if_neg h3] at h; exact absurd rfl h
theorem atE_ok {D : DiskS} {which a b c : Int} (h : atE D which a b c = 0) : rightF a b c = true ∧ 0 ≤ which ∧ which < 2 ∧ 32 ≤ D.size ∧ ¬ D.sectors < 2 * spanF D.size a b c := by
  unfold atE at h
  by_cases h1 : rightF a b c = false
  · rw [if_pos h1] at h; omega
  · rw [if_neg h1] at h
    by_cases h2 : which < 0 ∨ 2 ≤ which ∨ D.size < 32
    · rw [if_pos h2] at h; omega
    · rw [if_neg h2] at h
      by_cases h3 : D.sectors < 2 * spanF D.size a b c
      · rw [if_pos h3] at h; omega
      · exact ⟨by simpa using h1, by omega, by omega, by omega, h3⟩

set_option maxRecDepth 100000 in
theorem wipe_err (w : World) (B g : Nat) (F : Nat → Prop) (D : DiskS) (which a b c : Int) (hl : Laid w) (hD : IsDisk w B F g D) (hok : DiskOk D) (h : atE D which a b c ≠ 0) :
    Calls Tryd.prog 27 #[.pointer (some ⟨g, 0, none⟩), .int .i64 which, .agg #[.int .i64 a, .int .i64 b, .int .i64 c]] w fun e w' => e = .returned (.int .i64 (atE D which a b c)) ∧ Below w.heap.size w w' := by
  have HA := Lib.hid (fun (W : World) (hW : Below w.heap.size w W) => at_err W B g F D which a b c (hl.of_below hW) (hD.below hW) hok h)
  have sn : ∀ (m : Mode) (x : Addr) (w : World), (store x Value.nilFunc m).run Tryd.prog w = stored Tryd.prog w x Value.nilFunc m := fun m x w => run_store Tryd.prog w x _ m rfl
  clear hl hD hok
  generalize atE D which a b c = E at *
  go_enter Tryd.func27, Tryd.ntmps27
  go_wp2_with fail
  refine (HA.out _ (below_alloc (Below.refl _ _) _)).mono ?_
  rintro e w1 ⟨rfl, hb1⟩
  have HB1 := Lib.hid (below_via (w0 := w) (below_alloc (Below.refl _ _) _) hb1)
  clear hb1
  go_wp2_with fail
  exact bodyPost_ret (v := .int .i64 E) (by simp [results, Tryd.results27, go_sem]) rfl ⟨rfl, below_alloc HB1.out _⟩

set_option maxRecDepth 100000 in
set_option maxHeartbeats 1000000 in
theorem wipe_ok (w : World) (B g : Nat) (F : Nat → Prop) (D : DiskS) (which a b c : Int) (s : Nat) (hl : Laid w) (hD : IsDisk w B F g D) (hok : DiskOk D) (hB : B ≤ w.heap.size) (h : atE D which a b c = 0) (hs : D.size = s) :
    Calls Tryd.prog 27 #[.pointer (some ⟨g, 0, none⟩), .int .i64 which, .agg #[.int .i64 a, .int .i64 b, .int .i64 c]] w fun e w' => e = .returned (.int .i64 (writeErr D (which * spanF D.size a b c) s)) ∧ IsDisk w' B (fun k => F k ∨ (w.heap.size ≤ k ∧ k < w'.heap.size)) g (writeS D (which * spanF D.size a b c) (padTo [] s)) ∧ Fr w w' F := by
  obtain ⟨h1, h2, h3, h4, h5⟩ := atE_ok h
  have HA := Lib.hid (fun (W : World) (hW : Below w.heap.size w W) => at_ok W B g F D which a b c (hl.of_below hW) (hD.below hW) hok h1 h2 h3 h4 h5)
  have hsp := spanF_bd D.size a b c
  have hfi : 0 ≤ which * spanF D.size a b c ∧ which * spanF D.size a b c ≤ 1000000000 := by
    have h01 : which = 0 ∨ which = 1 := by omega
    rcases h01 with rfl | rfl
    · rw [Int.zero_mul]; omega
    · rw [Int.one_mul]; omega
  have hs2 := hok.s2
  rw [hs] at HA hs2 hfi
  rw [hs]
  generalize hsp : spanF (s : Int) a b c = sp at *
  generalize hfd : which * sp = fd at *
  have HF := Lib.hid (fun (w' : World) p1 p2 many A m l h1 h2 hD hB hC hl => first_calls w' B g p1 p2 F D fd many s A m l h1 h2 hD hok hB hC hl (by omega) hfi)
  have sn : ∀ (m : Mode) (x : Addr) (w : World), (store x Value.nilFunc m).run Tryd.prog w = stored Tryd.prog w x Value.nilFunc m := fun m x w => run_store Tryd.prog w x _ m rfl
  have sf : ∀ (fn : Fn) (u v : Array Value) (m : Mode) (x : Addr) (w : World), (store x (Value.func fn u v) m).run Tryd.prog w = stored Tryd.prog w x (Value.func fn u v) m := fun fn u v m x w => run_store Tryd.prog w x _ m rfl
  have HD := Lib.hid hD
  clear hl hD hok h h1 h2 h3 h4 h5 hs2 hfi hfd hsp
  go_enter Tryd.func27, Tryd.ntmps27
  go_wp2_with fail
  refine (HA.out _ (below_alloc (Below.refl _ _) _)).mono ?_
  rintro e w1 ⟨p2, rfl, hb1, hp1, hp2, hle⟩
  have HB1 := Lib.hid (below_via (w0 := w) (below_alloc (Below.refl _ _) _) hb1)
  have HP1 := Lib.hid hp1
  have HP2 := Lib.hid hp2
  clear hb1 hp1 hp2
  go_wp2_with fail
  simp only [World.size_alloc] at HP1
  refine (HF.out _ _ p2 _ none 0 [] (blk_alloc HP1.out _) (blk_alloc HP2.out _) (HD.out.below (below_alloc HB1.out _)) (Nat.le_trans hB (below_alloc HB1.out _).size) ⟨rfl, by simp, fun h => absurd h (by decide)⟩ (Nat.zero_le _)).mono ?_
  rintro e w7 ⟨rfl, hD7, hf7⟩
  have HD7 := Lib.hid hD7
  have HF7 := Lib.hid ((Fr.of_below (below_alloc HB1.out _) F).trans hf7 (fun _ _ h => h))
  have HL7 := Lib.hid (show w.heap.size ≤ (w1.alloc (.cells #[.int .i64 (sp - 1), .int .i64 s, .func (.func 88) #[] #[.pointer (some ⟨w.heap.size + 1, 0, none⟩), .pointer (some ⟨p2, 0, none⟩)], .func (.func 90) #[] #[.pointer (some ⟨w.heap.size + 1, 0, none⟩), .pointer (some ⟨p2, 0, none⟩)]] 87)).heap.size from (below_alloc HB1.out _).size)
  clear hD7 hf7
  go_wp2_with fail
  refine bodyPost_ret (v := .int .i64 (writeErr D fd s)) (by simp [results, Tryd.results27, go_sem]) rfl ⟨rfl, ?_, HF7.out⟩
  refine HD7.out.mono (fun k hk => hk.elim .inl (fun h => .inr ⟨Nat.le_trans HL7.out h.1, h.2⟩)) (fun k hk => hk.elim (fun h => ⟨(HD.out.bound k h).1, Nat.lt_of_lt_of_le (HD.out.bound k h).2 HF7.out.size⟩) (fun h => ⟨Nat.le_trans hB h.1, h.2⟩))
end Go.Proofs.YtcemageindmbkaaDoor
/- Seal: what it returns. -/
namespace Go.Proofs.YtcemageindmbkaaDoor
open Go.RowKit Go.Proofs.YtcemageindmbkaaDoorW.PrintWords
open PSlotBytes

/-- A place's cells. -/
abbrev plC (p1 p2 : Nat) (many size : Int) : Obj :=
  .cells #[.int .i64 many, .int .i64 size, .func (.func 88) #[] #[.pointer (some ⟨p1, 0, none⟩), .pointer (some ⟨p2, 0, none⟩)], .func (.func 90) #[] #[.pointer (some ⟨p1, 0, none⟩), .pointer (some ⟨p2, 0, none⟩)]] 87
set_option maxRecDepth 100000 in
theorem seal_err (w : World) (B g : Nat) (F : Nat → Prop) (D : DiskS) (which a b c q : Int) (sl : Value) (hl : Laid w) (hD : IsDisk w B F g D) (hok : DiskOk D) (h : atE D which a b c ≠ 0) :
    Calls Tryd.prog 24 #[.pointer (some ⟨g, 0, none⟩), .int .i64 which, .agg #[.int .i64 a, .int .i64 b, .int .i64 c], .int .u64 q, sl] w fun e w' => e = .returned (.int .i64 (atE D which a b c)) ∧ Below w.heap.size w w' := by
  have HA := Lib.hid (fun (W : World) (hW : Below w.heap.size w W) => at_err W B g F D which a b c (hl.of_below hW) (hD.below hW) hok h)
  have sn : ∀ (m : Mode) (x : Addr) (w : World), (store x Value.nilFunc m).run Tryd.prog w = stored Tryd.prog w x Value.nilFunc m := fun m x w => run_store Tryd.prog w x _ m rfl
  clear hl hD hok
  generalize atE D which a b c = E at *
  go_enter Tryd.func24, Tryd.ntmps24
  go_wp2_with fail
  refine (HA.out _ (below_alloc (Below.refl _ _) _)).mono ?_
  rintro e w1 ⟨rfl, hb1⟩
  have HB1 := Lib.hid (below_via (w0 := w) (below_alloc (Below.refl _ _) _) hb1)
  clear hb1
  go_wp2_with fail
  exact bodyPost_ret (v := .int .i64 E) (by simp [results, Tryd.results24, go_sem]) rfl ⟨rfl, below_alloc HB1.out _⟩

set_option maxRecDepth 100000 in
set_option maxHeartbeats 2000000 in
theorem seal_ok (w : World) (B g : Nat) (F : Nat → Prop) (D : DiskS) (which a b c q : Int) (s : Nat) (A : Option Addr) (m : Nat) (l : List Int) (hl : Laid w) (hD : IsDisk w B F g D) (hok : DiskOk D) (hB : B ≤ w.heap.size) (h : atE D which a b c = 0) (hs : D.size = s)
    (hC : KB.C w A l.length l) (hin : InB l) (hlen : (l.length : Int) = totalF a b c) :
    Calls Tryd.prog 24 #[.pointer (some ⟨g, 0, none⟩), .int .i64 which, .agg #[.int .i64 a, .int .i64 b, .int .i64 c], .int .u64 q, .slice A l.length m] w fun e w' => e = .returned (.int .i64 (writeErr D (which * spanF D.size a b c) s)) ∧ IsDisk w' B (fun k => F k ∨ (w.heap.size ≤ k ∧ k < w'.heap.size)) g (writeS D (which * spanF D.size a b c) (padTo (encF a b c l.length q (sumF l)) s)) ∧ Fr w w' F := by
  obtain ⟨h1, h2, h3, h4, h5⟩ := atE_ok h
  have HA := Lib.hid (fun (W : World) (hW : Below w.heap.size w W) => at_ok W B g F D which a b c (hl.of_below hW) (hD.below hW) hok h1 h2 h3 h4 h5)
  have hsp := spanF_bd D.size a b c
  have hfi : 0 ≤ which * spanF D.size a b c ∧ which * spanF D.size a b c ≤ 1000000000 := by
    have h01 : which = 0 ∨ which = 1 := by omega
    rcases h01 with rfl | rfl
    · rw [Int.zero_mul]; omega
    · rw [Int.one_mul]; omega
  have hs2 := hok.s2
  rw [hs] at HA hs2 hfi h4
  rw [hs]
  generalize hsp : spanF (s : Int) a b c = sp at *
  generalize hfd : which * sp = fd at *
  have HF := Lib.hid (fun (w' : World) p1 p2 many A m l h1 h2 hD hB hC hl => first_calls w' B g p1 p2 F D fd many s A m l h1 h2 hD hok hB hC hl (by omega) hfi)
  have htb := totalF_bd a b c
  have HT := Lib.hid (fun (W : World) (hW : Below w.heap.size w W) => hlen ▸ total_calls a b c W (hl.of_below hW))
  have HS := Lib.hid (fun (W : World) (hW : Below w.heap.size w W) => sum_calls A m l W (Kd.C_below hC hW) hin (by omega))
  rw [hlen]
  have hE := fun (W : World) (hW : Below w.heap.size w W) => enc_calls a b c (totalF a b c) q (sumF l) W (hl.of_below hW) (by simp [hrightF, h1])
  have hel : (encF a b c (totalF a b c) q (sumF l)).length = 28 := by simp [encF, enc24_length, layF_length]
  generalize encF a b c (totalF a b c) q (sumF l) = en at *
  generalize sumF l = su at *
  have HE := Lib.hid hE
  have sn : ∀ (m : Mode) (x : Addr) (w : World), (store x Value.nilFunc m).run Tryd.prog w = stored Tryd.prog w x Value.nilFunc m := fun m x w => run_store Tryd.prog w x _ m rfl
  have sf : ∀ (fn : Fn) (u v : Array Value) (m : Mode) (x : Addr) (w : World), (store x (Value.func fn u v) m).run Tryd.prog w = stored Tryd.prog w x (Value.func fn u v) m := fun fn u v m x w => run_store Tryd.prog w x _ m rfl
  have HD := Lib.hid hD
  clear hl hD hok h h1 h2 h3 h5 hs2 hfi hfd hsp hE hC hin htb
  go_enter Tryd.func24, Tryd.ntmps24
  go_wp2_with fail
  have e0 : (w.alloc (.cells #[.int .i64 a, .int .i64 b, .int .i64 c] 23)).heap[w.heap.size]? = _ := heap_alloc_new w _
  refine (HA.out _ (below_alloc (Below.refl _ _) _)).mono ?_
  rintro e w1 ⟨p2, rfl, hb1, hp1, hp2, hle⟩
  have hk1 := (hb1.block _ (blk_lt e0)).trans e0
  have HK1 := Lib.hid hk1
  have k0 := (blk_cell hk1 0).trans rfl
  have k1 := (blk_cell hk1 1).trans rfl
  have k2 := (blk_cell hk1 2).trans rfl
  have hlt := blk_lt hk1
  have HB1 := Lib.hid (below_via (w0 := w) (below_alloc (Below.refl _ _) _) hb1)
  have HP1 := Lib.hid hp1
  have HP2 := Lib.hid hp2
  clear hb1 hp1 hp2 hk1 e0
  go_wp2_with fail
  simp only [World.size_alloc] at HP1
  generalize hwP : w1.alloc (plC (w.heap.size + 1) p2 (sp - 1) s) = wP
  have hPl : wP.heap[w1.heap.size]? = some (plC (w.heap.size + 1) p2 (sp - 1) s) := hwP ▸ heap_alloc_new w1 _
  have hBP : Below w1.heap.size w1 wP := hwP ▸ below_alloc (Below.refl _ _) _
  clear hwP
  refine (HT.out _ (below_via HB1.out hBP)).mono ?_
  rintro e w2 ⟨rfl, hb2⟩
  have hB2 := below_via (below_via HB1.out hBP) hb2
  have hq1 := (hb2.block _ (blk_lt ((hBP.block _ (blk_lt HP1.out)).trans HP1.out))).trans ((hBP.block _ (blk_lt HP1.out)).trans HP1.out)
  have hq2 := (hb2.block _ (blk_lt ((hBP.block _ (blk_lt HP2.out)).trans HP2.out))).trans ((hBP.block _ (blk_lt HP2.out)).trans HP2.out)
  have hk2 := (hb2.block _ (blk_lt ((hBP.block _ (blk_lt HK1.out)).trans HK1.out))).trans ((hBP.block _ (blk_lt HK1.out)).trans HK1.out)
  have hpl := (hb2.block _ (blk_lt hPl)).trans hPl
  have HQ1 := Lib.hid hq1
  have HQ2 := Lib.hid hq2
  have HPL := Lib.hid hpl
  have HB2 := Lib.hid hB2
  clear k0 k1 k2 hlt hb2 hq1 hq2 hpl hPl hBP HP1 HP2 HK1 HB1
  have k0 := (blk_cell hk2 0).trans rfl
  have k1 := (blk_cell hk2 1).trans rfl
  have k2 := (blk_cell hk2 2).trans rfl
  clear hk2 hB2
  go_wp2_with fail
  refine wp_region_float2 8 48 rfl (by kernel_rfl) (by kernel_rfl) ?z (fun wa hwa => ?_) (fun w7 hw7 => ?_)
  case refine_1 =>
    simp only [List.take_succ_cons, List.take_zero, Nat.reduceSub]
    have HB7 := Lib.hid (below_via HB2.out hwa)
    have r0 := fun n : BT wa => BT.cell (pw_cell_below hwa k0) n
    have r1 := fun n : BT wa => BT.cell (pw_cell_below hwa k1) n
    have r2 := fun n : BT wa => BT.cell (pw_cell_below hwa k2) n
    repeat (go_big_quiet_step ((go_at_call 51; exact Calls.below_of (HS.out _ (below_via HB7.out (CT.ok _))))))
    refine wpQuiet_nil ?_
    exact Eq.refl _
  refine smOp_call (some 39) 59 _ rfl rfl rfl (by simp [go_sem]; rfl) ?_
  refine (HE.out _ (below_via HB2.out hw7)).mono ?_
  rintro e w8 ⟨v8, rfl, hR8, hb8⟩
  refine ⟨_, rfl, hb8, fun w3 hw3 => ?_⟩
  simp only [List.drop_succ_cons, List.drop_zero, Act.put, List.setIfInBounds_toArray, List.set_cons_succ, List.set_cons_zero]
  repeat (go_big_quiet_step (fail))
  refine wpQuiet_nil ?_
  rintro w9 ⟨⟨_, hw9⟩, rfl⟩
  have hb9 := below_via (below_via hw7 hb8) (below_via hw3 hw9)
  have HR9 := Lib.hid (Kd.R_below (Kd.R_below hR8 hw3) hw9)
  have HB9 := Lib.hid (below_via HB2.out hb9)
  have HQ1' := Lib.hid ((hb9.block _ (blk_lt HQ1.out)).trans HQ1.out)
  have HQ2' := Lib.hid ((hb9.block _ (blk_lt HQ2.out)).trans HQ2.out)
  have hpl := (hb9.block _ (blk_lt HPL.out)).trans HPL.out
  have j0 := (blk_cell hpl 0).trans rfl
  have j1 := (blk_cell hpl 1).trans rfl
  have j2 := (blk_cell hpl 2).trans rfl
  have j3 := (blk_cell hpl 3).trans rfl
  clear k0 k1 k2 hw7 hb8 hw3 hw9 hb9 hR8 hpl
  go_wp2_with fail
  obtain ⟨A8, c8, rfl, -, hC8⟩ := Kd.R_reads HR9.out
  have HC8 := Lib.hid hC8
  clear hC8
  refine (HF.out w9 _ p2 _ A8 c8 en HQ1'.out HQ2'.out (HD.out.below HB9.out) (Nat.le_trans hB HB9.out.size) HC8.out (by omega)).mono ?_
  rintro e w10 ⟨rfl, hD10, hf10⟩
  have HD10 := Lib.hid hD10
  have HF10 := Lib.hid ((Fr.of_below HB9.out F).trans hf10 (fun _ _ h => h))
  clear hD10 hf10
  go_wp2_with fail
  refine bodyPost_ret (v := .int .i64 (writeErr D fd s)) (by simp [results, Tryd.results24, go_sem]) rfl ⟨rfl, ?_, HF10.out⟩
  refine HD10.out.mono (fun k hk => hk.elim .inl (fun h => .inr ⟨Nat.le_trans HB9.out.size h.1, h.2⟩)) (fun k hk => hk.elim (fun h => ⟨(HD.out.bound k h).1, Nat.lt_of_lt_of_le (HD.out.bound k h).2 HF10.out.size⟩) (fun h => ⟨Nat.le_trans hB h.1, h.2⟩))
end Go.Proofs.YtcemageindmbkaaDoor
/- Data: what it returns. -/
namespace Go.Proofs.YtcemageindmbkaaDoor
open Go.RowKit Go.Proofs.YtcemageindmbkaaDoorW.PrintWords
open PSlotBytes

/-- A disk on which pieces are written, one sector each. -/
def dataS (D : DiskS) (first : Int) (ps : List (List Int)) : Nat → DiskS
  | 0 => D
  | k + 1 => writeS (dataS D first ps k) (first + (1 + (k : Int))) (ps.getD k [])

theorem getI_putI {α : Type} (k i : Int) (v : α) : ∀ es : List (Int × α), getI k (putI i v es) = if k = i then some v else getI k es
  | [] => rfl
  | p :: es => by
    simp only [putI]
    by_cases h1 : i = p.1
    · rw [if_pos h1]
      simp only [getI]
      by_cases h : k = i
      · rw [if_pos h, if_pos h]
      · rw [if_neg h, if_neg h, if_neg (by omega)]
    · rw [if_neg h1]
      simp only [getI]
      by_cases hk : k = p.1
      · rw [if_pos hk, if_pos hk, if_neg (by omega)]
      · rw [if_neg hk, if_neg hk, getI_putI k i v es]
theorem write_good {D : DiskS} {i : Int} {b : List Int} (hp : D.planned = []) (h0 : 0 ≤ i) (h1 : i < D.sectors) (hn : (b.length : Int) = D.size) :
    writeErr D i b.length = 0 ∧ writeS D i b = { D.next with cached := putI i b D.cached, writes := D.writes + 1 } := by
  have e : writeErr D i b.length = 0 := by
    unfold writeErr failsB
    rw [hp, if_neg (by simp), if_neg (by omega), if_neg (by omega), if_neg (by simp [hn])]
  exact ⟨e, by unfold writeS; rw [if_pos e]⟩
/-- A disk that has room for what is done with it. -/
structure Calm (D : DiskS) (n : Nat) : Prop where
  ok : DiskOk D
  planned : D.planned = []
  ops : D.ops + n ≤ 1000000000000
  writes : D.writes + n ≤ 1000000000000
theorem Calm.write {D : DiskS} {n : Nat} {i : Int} {b : List Int} (h : Calm D (n + 1)) (h0 : 0 ≤ i) (h1 : i < D.sectors) (hn : (b.length : Int) = D.size) : Calm (writeS D i b) n ∧ (writeS D i b).sectors = D.sectors ∧ (writeS D i b).size = D.size := by
  obtain ⟨-, e⟩ := write_good h.planned h0 h1 hn
  rw [e]
  have h2 := h.ok.s2
  have := h.ops
  have := h.writes
  have := h.ok.ops0
  have := h.ok.wr0
  refine ⟨⟨⟨h.ok.s1, h.ok.s2, h.ok.len, ?_, ?_, ?_, ?_, fun k l hk => ?_⟩, h.planned, ?_, ?_⟩, rfl, rfl⟩
  · show 0 ≤ D.ops + 1; omega
  · show D.ops + 1 ≤ _; omega
  · show 0 ≤ D.writes + 1; omega
  · show D.writes + 1 ≤ _; omega
  · have hk' : getI k (putI i b D.cached) = some l := hk
    rw [getI_putI] at hk'
    split at hk'
    · cases hk'; omega
    · exact h.ok.cach k l hk'
  · show D.ops + 1 + n ≤ _; omega
  · show D.writes + 1 + n ≤ _; omega
theorem Calm.read {D : DiskS} {n : Nat} (h : Calm D (n + 1)) : Calm D.next n := by
  have := h.ops
  have := h.writes
  have := h.ok.ops0
  exact ⟨⟨h.ok.s1, h.ok.s2, h.ok.len, (by show 0 ≤ D.ops + 1; omega), (by show D.ops + 1 ≤ _; omega), h.ok.wr0, h.ok.wr1, h.ok.cach⟩, h.planned, (by show D.ops + 1 + n ≤ _; omega), (by show D.writes + n ≤ _; omega)⟩
theorem Calm.data {D : DiskS} {first : Int} {ps : List (List Int)} {m : Nat} (hf : 0 ≤ first) : ∀ (n : Nat), Calm D (n + m) → (∀ k, k < n → ((ps.getD k []).length : Int) = D.size) → first + n < D.sectors →
    Calm (dataS D first ps n) m ∧ (dataS D first ps n).sectors = D.sectors ∧ (dataS D first ps n).size = D.size
  | 0, h, _, _ => ⟨(by rw [Nat.zero_add] at h; exact h), rfl, rfl⟩
  | n + 1, h, hp, hr => by
    obtain ⟨h1, h2, h3⟩ := Calm.data (m := m + 1) hf n (by rwa [show n + (m + 1) = n + 1 + m by omega]) (fun k hk => hp k (by omega)) (by omega)
    obtain ⟨q1, q2, q3⟩ := h1.write (i := first + (1 + (n : Int))) (b := ps.getD n []) (by omega) (by rw [h2]; omega) (by rw [h3]; exact hp n (by omega))
    exact ⟨q1, q2.trans h2, q3.trans h3⟩
/-- A value of a raw row. -/
theorem rawAt {w : World} {A : Option Addr} {vs : List (List Value)} (h : (Kd.raw 1).C w A vs.length vs) {k : Nat} {v : Value} (hk : vs[k]? = some [v]) : ∃ ad, A = some ad ∧ w.cell? (ad.add k) = some v := by
  have hlt : k < vs.length := (List.getElem?_eq_some_iff.1 hk).1
  obtain ⟨ad, e, hc⟩ := h.2.2 (by omega)
  obtain ⟨cs, _, hK, h3⟩ := hc k [v] hk
  have hcs : cs = [v] := hK.1
  exact ⟨ad, e, by simpa [Kd.raw] using h3 0 v (by rw [hcs]; rfl)⟩
theorem piece_C {w : World} {ad : Addr} {L : List Int} {s k : Nat} (hC : KB.C w (some ad) L.length L) (hk : (k + 1) * s ≤ L.length) : KB.C w (some (ad.add (k * s))) ((L.take ((k + 1) * s)).drop (k * s)).length ((L.take ((k + 1) * s)).drop (k * s)) := by
  have hl : (L.take ((k + 1) * s)).length = (k + 1) * s := by rw [List.length_take]; omega
  have hle : k * s ≤ (k + 1) * s := Nat.mul_le_mul_right _ (by omega)
  have h1 := Kd.C_drop (c := (L.take ((k + 1) * s)).length + 1) (Kd.C_take hC hk) (m := k * s) (by omega) (by omega)
  rw [if_neg (by omega)] at h1
  simpa only [Option.map_some, KB, Kd.int, Kd.scalar, Nat.mul_one] using h1

theorem pieces_getD {L : List Int} {s n k : Nat} (hk : k < n) : (pieces L s n).getD k [] = (L.take ((k + 1) * s)).drop (k * s) := by
  simp [pieces, List.getD, hk]
theorem piece_len {L : List Int} {s k : Nat} (hk : (k + 1) * s ≤ L.length) : ((L.take ((k + 1) * s)).drop (k * s)).length = s := by
  rw [List.length_drop, List.length_take, Nat.min_eq_left hk, Nat.add_mul]; omega

set_option maxRecDepth 100000 in
theorem data_err (w : World) (B g : Nat) (F : Nat → Prop) (D : DiskS) (which a b c : Int) (sl : Value) (hl : Laid w) (hD : IsDisk w B F g D) (hok : DiskOk D) (h : atE D which a b c ≠ 0) :
    Calls Tryd.prog 23 #[.pointer (some ⟨g, 0, none⟩), .int .i64 which, .agg #[.int .i64 a, .int .i64 b, .int .i64 c], sl] w fun e w' => e = .returned (.int .i64 (atE D which a b c)) ∧ Below w.heap.size w w' := by
  have HA := Lib.hid (fun (W : World) (hW : Below w.heap.size w W) => at_err W B g F D which a b c (hl.of_below hW) (hD.below hW) hok h)
  have sn : ∀ (m : Mode) (x : Addr) (w : World), (store x Value.nilFunc m).run Tryd.prog w = stored Tryd.prog w x Value.nilFunc m := fun m x w => run_store Tryd.prog w x _ m rfl
  clear hl hD hok
  generalize atE D which a b c = E at *
  go_enter Tryd.func23, Tryd.ntmps23
  go_wp2_with fail
  refine (HA.out _ (below_alloc (Below.refl _ _) _)).mono ?_
  rintro e w1 ⟨rfl, hb1⟩
  have HB1 := Lib.hid (below_via (w0 := w) (below_alloc (Below.refl _ _) _) hb1)
  clear hb1
  go_wp2_with fail
  exact bodyPost_ret (v := .int .i64 E) (by simp [results, Tryd.results23, go_sem]) rfl ⟨rfl, below_alloc HB1.out _⟩

set_option maxRecDepth 100000 in
set_option maxHeartbeats 2000000 in
theorem data_ok (w : World) (B g : Nat) (F : Nat → Prop) (D : DiskS) (which a b c : Int) (s : Nat) (A : Option Addr) (m : Nat) (l : List Int) (hl : Laid w) (hD : IsDisk w B F g D) (hB : B ≤ w.heap.size) (h : atE D which a b c = 0) (hs : D.size = s)
    (hcm : Calm D 100000) (hC : KB.C w A l.length l) (hlen : (l.length : Int) = totalF a b c) :
    Calls Tryd.prog 23 #[.pointer (some ⟨g, 0, none⟩), .int .i64 which, .agg #[.int .i64 a, .int .i64 b, .int .i64 c], .slice A l.length m] w fun e w' => ∃ n : Nat, e = .returned (.int .i64 0) ∧ sectorsF l.length s = (n : Int) ∧ IsDisk w' B (fun k => F k ∨ (w.heap.size ≤ k ∧ k < w'.heap.size)) g (dataS D (which * spanF D.size a b c) (pieces (padTo l (n * s)) s n) n) ∧ Fr w w' F := by
  have hok := hcm.ok
  obtain ⟨h1, h2, h3, h4, h5⟩ := atE_ok h
  have HA := Lib.hid (fun (W : World) (hW : Below w.heap.size w W) => at_ok W B g F D which a b c (hl.of_below hW) (hD.below hW) hok h1 h2 h3 h4 h5)
  have hsp := spanF_bd D.size a b c
  have hfi : 0 ≤ which * spanF D.size a b c ∧ which * spanF D.size a b c ≤ spanF D.size a b c := by
    have h01 : which = 0 ∨ which = 1 := by omega
    rcases h01 with rfl | rfl
    · rw [Int.zero_mul]; omega
    · rw [Int.one_mul]; omega
  have hs2 := hok.s2
  have hspe : spanF D.size a b c = 1 + sectorsF (l.length : Int) D.size := by unfold spanF; rw [if_pos ⟨h1, h4, hs2⟩, hlen]
  rw [hs] at HA hs2 hfi h4 hspe h5 hsp
  rw [hs]
  generalize hspg : spanF (s : Int) a b c = sp at *
  generalize hfd : which * sp = fd at *
  have htb := totalF_bd a b c
  have hlb : l.length ≤ 90112 := by omega
  clear htb
  have HT := Lib.hid (fun (W : World) (hW : Below w.heap.size w W) => hlen ▸ total_calls a b c W (hl.of_below hW))
  have HCut := Lib.hid (fun (W : World) (hW : Below w.heap.size w W) => cut_yes A m l s W (by omega) (by omega) (Kd.C_below hC hW) (by omega))
  have sn : ∀ (m : Mode) (x : Addr) (w : World), (store x Value.nilFunc m).run Tryd.prog w = stored Tryd.prog w x Value.nilFunc m := fun m x w => run_store Tryd.prog w x _ m rfl
  have sf : ∀ (fn : Fn) (u v : Array Value) (m : Mode) (x : Addr) (w : World), (store x (Value.func fn u v) m).run Tryd.prog w = stored Tryd.prog w x (Value.func fn u v) m := fun fn u v m x w => run_store Tryd.prog w x _ m rfl
  have HD := Lib.hid hD
  have HK := Lib.hid hok
  have HSZ := Lib.hid hs
  have HCM := Lib.hid hcm
  have HSPE := Lib.hid hspe
  clear hl hD hok h h1 h2 h3 hfd hspg hC hs hcm hspe hlen
  go_enter Tryd.func23, Tryd.ntmps23
  go_wp2_with fail
  have e0 : (w.alloc (.cells #[.int .i64 a, .int .i64 b, .int .i64 c] 23)).heap[w.heap.size]? = _ := heap_alloc_new w _
  refine (HA.out _ (below_alloc (Below.refl _ _) _)).mono ?_
  rintro e w1 ⟨p2, rfl, hb1, hp1, hp2, hle⟩
  have hk1 := (hb1.block _ (blk_lt e0)).trans e0
  have HK1 := Lib.hid hk1
  have k0 := (blk_cell hk1 0).trans rfl
  have k1 := (blk_cell hk1 1).trans rfl
  have k2 := (blk_cell hk1 2).trans rfl
  have hlt := blk_lt hk1
  have HB1 := Lib.hid (below_via (w0 := w) (below_alloc (Below.refl _ _) _) hb1)
  have hw1 : w.heap.size ≤ w1.heap.size := HB1.out.size
  have HP1 := Lib.hid hp1
  have HP2 := Lib.hid hp2
  clear hb1 hp1 hp2 hk1 e0
  go_wp2_with fail
  simp only [World.size_alloc] at HP1
  generalize hwP : w1.alloc (plC (w.heap.size + 1) p2 (sp - 1) s) = wP
  have hPl : wP.heap[w1.heap.size]? = some (plC (w.heap.size + 1) p2 (sp - 1) s) := hwP ▸ heap_alloc_new w1 _
  have hBP : Below w1.heap.size w1 wP := hwP ▸ below_alloc (Below.refl _ _) _
  clear hwP
  refine (HT.out _ (below_via HB1.out hBP)).mono ?_
  rintro e w2 ⟨rfl, hb2⟩
  have hB2 := below_via (below_via HB1.out hBP) hb2
  have hq1 := (hb2.block _ (blk_lt ((hBP.block _ (blk_lt HP1.out)).trans HP1.out))).trans ((hBP.block _ (blk_lt HP1.out)).trans HP1.out)
  have hq2 := (hb2.block _ (blk_lt ((hBP.block _ (blk_lt HP2.out)).trans HP2.out))).trans ((hBP.block _ (blk_lt HP2.out)).trans HP2.out)
  have hpl := (hb2.block _ (blk_lt hPl)).trans hPl
  have HQ1 := Lib.hid hq1
  have HQ2 := Lib.hid hq2
  have HPL := Lib.hid hpl
  have HB2 := Lib.hid hB2
  have j1 := (blk_cell hpl 1).trans rfl
  clear k0 k1 k2 hlt hb2 hq1 hq2 hpl hPl hBP HP1 HP2 HK1 HB1 hB2
  go_wp2_with fail
  refine (HCut.out _ HB2.out).mono ?_
  rintro e wS ⟨v, n, ad, rfl, hn, hV, ⟨n1, c1, hP⟩, hbS⟩
  clear j1
  have HN := Lib.hid hn
  have HV := Lib.hid hV
  have HP := Lib.hid hP
  have HBS := Lib.hid (below_via HB2.out hbS)
  have HQ1 := Lib.hid ((hbS.block _ (blk_lt HQ1.out)).trans HQ1.out)
  have HQ2 := Lib.hid ((hbS.block _ (blk_lt HQ2.out)).trans HQ2.out)
  have HPL := Lib.hid ((hbS.block _ (blk_lt HPL.out)).trans HPL.out)
  clear hn hV hP hbS
  obtain ⟨Av, cv, rfl, hvle, -⟩ := Kd.R_reads HV.out
  have hpl : (pieceV ad s n).length = n := by simp [pieceV]
  rw [hpl] at hvle
  rw [hpl]
  go_wp2_with fail
  have hnb : n ≤ 90112 := by have := (sectorsF_bd (l.length : Int) (s : Int) (by omega)).2; rw [HN.out] at this; omega
  have hspn : sp = 1 + (n : Int) := by rw [HSPE.out, HN.out]
  have hcov := sectors_cover (by omega) (by omega) HN.out
  have hPL := padTo_length hcov
  have hgl : ∀ k, F k → k < w.heap.size := fun k hk => (HD.out.bound k hk).2
  have hFg : F g := by obtain ⟨_, _, _, _, _, _, _, _, _, _, h6, _⟩ := HD.out; exact h6
  have hDS := HD.out.below HBS.out
  have hw2 : w.heap.size ≤ w2.heap.size := HB2.out.size
  generalize hL : padTo l (n * s) = L at *
  have HPs := Lib.hid (fun k (hk : k < n) => pieces_getD (L := L) (s := s) hk)
  have hlen : ∀ k, k < n → (k + 1) * s ≤ L.length := fun k hk => by rw [hPL]; exact Nat.mul_le_mul_right _ hk
  have hdat := fun k (hk : k ≤ n) => Calm.data (D := D) (first := fd) (ps := pieces L s n) (m := 100000 - k) hfi.1 k (by rw [show k + (100000 - k) = 100000 by omega]; exact HCM.out) (fun j hj => by rw [HPs.out j (by omega), piece_len (hlen j (by omega)), HSZ.out]) (by omega)
  have HDAT := Lib.hid hdat
  have HLEN := Lib.hid hlen
  have HSPN := Lib.hid hspn
  clear hdat hlen hspn
  go_loopw [42] (fun i wr => ∃ k : Nat, k ≤ n ∧ i = .int .i64 (k : Int) ∧ Hid (IsDisk wr B (fun q => F q ∨ (wS.heap.size ≤ q ∧ q < wr.heap.size)) g (dataS D fd (pieces L s n) k)) ∧ Hid (Fr wS wr F)) (fun i _ => n - (intOf i).toNat)
  case atStart => exact ⟨0, Nat.zero_le _, rfl, Lib.hid (hDS.mono (fun k hk => .inl hk) (fun k hk => hk.elim (fun h => hDS.bound k h) (fun h => absurd h.1 (by omega)))), Lib.hid (Fr.refl _ _)⟩
  case round =>
    obtain ⟨k, hk, rfl, HI, HFr⟩ := hrel
    by_cases hlt : k < n
    · have hVr : (Kd.raw 1).C wr Av (pieceV ad s n).length (pieceV ad s n) := by
        have := (Kd.R_reads' (Kd.R_step HV.out (fun q hq hq2 => HFr.out.block q hq2 (fun hf => by have := hgl q hf; have : w2.heap.size ≤ q := hq; omega)))).2.2
        exact this
      have hat : (pieceV ad s n)[k]? = some [.slice (some (ad.add (k * s))) s s] := by simp [pieceV, hlt]
      obtain ⟨adv, hAv, hcell⟩ := rawAt hVr hat
      cases hAv
      clear hVr hat
      have hnF : ∀ q, w.heap.size ≤ q → ¬ F q := fun q hq hf => by have := hgl q hf; omega
      have hb1s : w.heap.size ≤ w1.heap.size := hw1
      have hpl3 := HFr.out.blk HPL.out (hnF _ hb1s)
      have e3 := (blk_cell hpl3 3).trans rfl
      have hq1 := HFr.out.blk HQ1.out (hnF _ (by omega))
      have hq2 := HFr.out.blk HQ2.out (hnF _ (by simp only [World.size_alloc] at hle; omega))
      obtain ⟨hcm, hsc, hsz⟩ := HDAT.out k (by omega)
      have hspn := HSPN.out
      have hpk := HPs.out k hlt
      have hpiece := piece_len (HLEN.out k hlt)
      have hPr := Kd.R_step HP.out (fun q hq hq2 => HFr.out.block q hq2 (hnF q (Nat.le_trans hw2 hq)))
      have hwr := wr_calls wr B g (w.heap.size + 1) p2 (fun q => F q ∨ (wS.heap.size ≤ q ∧ q < wr.heap.size)) (dataS D fd (pieces L s n) k) fd (1 + (k : Int)) (some (ad.add (k * s))) s ((L.take ((k + 1) * s)).drop (k * s)) hq1 hq2 HI.out hcm.ok (Nat.le_trans hB (Nat.le_trans HBS.out.size HFr.out.size))
        (fun w' hf => piece_C (Kd.R_reads' (Kd.R_step hPr (fun q hq hq2 => hf.block q hq2 (fun e => hnF q (Nat.le_trans hw2 hq) (e ▸ hFg))))).2.2 (HLEN.out k hlt)) (fun h => by cases h) (by omega)
      rw [hpiece] at hwr
      have hgood := write_good (D := dataS D fd (pieces L s n) k) (i := fd + (1 + (k : Int))) (b := (L.take ((k + 1) * s)).drop (k * s)) hcm.planned (by omega) (by rw [hsc]; omega) (by rw [hsz, hpiece, HSZ.out])
      rw [hpiece] at hgood
      rw [hgood.1] at hwr
      have hst : writeS (dataS D fd (pieces L s n) k) (fd + (1 + (k : Int))) ((L.take ((k + 1) * s)).drop (k * s)) = dataS D fd (pieces L s n) (k + 1) := by rw [dataS, hpk]
      rw [hst] at hwr
      have HW := Lib.hid hwr
      have HWS : Hid (wS.heap.size ≤ wr.heap.size) := Lib.hid HFr.out.size
      have HI' := HI
      clear hspn hwr hpl3 hq1 hq2 hcm hsc hsz hpk hpiece hPr hgood hst hb1s
      go_wp2_with fail
      refine HW.out.mono ?_
      rintro e w6 ⟨rfl, hI6, hF6⟩
      have HI6 : Hid (IsDisk w6 B (fun q => F q ∨ (wS.heap.size ≤ q ∧ q < w6.heap.size)) g (dataS D fd (pieces L s n) (k + 1))) := Lib.hid (hI6.mono (fun q hq => hq.elim (fun h => h.elim .inl (fun h => .inr ⟨h.1, Nat.lt_of_lt_of_le h.2 hF6.size⟩)) (fun h => .inr ⟨Nat.le_trans HWS.out h.1, h.2⟩))
        (fun q hq => hq.elim (fun h => ⟨(HD.out.bound q h).1, Nat.lt_of_lt_of_le (HD.out.bound q h).2 (Nat.le_trans HBS.out.size (Nat.le_trans HWS.out hF6.size))⟩) (fun h => ⟨Nat.le_trans hB (Nat.le_trans HBS.out.size h.1), h.2⟩)))
      have HF6 : Hid (Fr wS w6 F) := Lib.hid (HFr.out.trans hF6 (fun q hq h => h.elim id (fun h => absurd h.1 (by omega))))
      have hk1 : k + 1 ≤ n := hlt
      clear hI6 hF6 e3 hcell
      go_wp2_with fail
      go_roundw
      case rel => first | exact ⟨k + 1, hk1, by go_num, HI6, HF6⟩ | ((repeat apply Exists.intro); exact ⟨⟨k + 1, hk1, by go_num, HI6, HF6⟩, rfl⟩)
      case measure => simp [intOf]; omega
    · have hkn : k = n := by omega
      subst hkn
      go_wp2_with fail
      refine bodyPost_ret (v := .int .i64 0) (by simp [results, Tryd.results23, go_sem]) rfl ⟨k, rfl, HN.out, ?_, (Fr.of_below HBS.out F).trans HFr.out (fun _ _ h => h)⟩
      rw [hL]
      exact HI.out.mono (fun q hq => hq.elim .inl (fun h => .inr ⟨Nat.le_trans HBS.out.size h.1, h.2⟩)) (fun q hq => hq.elim (fun h => ⟨(HD.out.bound q h).1, Nat.lt_of_lt_of_le (HD.out.bound q h).2 (Nat.le_trans HBS.out.size HFr.out.size)⟩) (fun h => ⟨Nat.le_trans hB h.1, h.2⟩))
end Go.Proofs.YtcemageindmbkaaDoor
/- (place).whole: what it returns. -/
namespace Go.Proofs.YtcemageindmbkaaDoor
open Go.RowKit Go.Proofs.YtcemageindmbkaaDoorW.PrintWords
open PSlotBytes

/-- What a sector reads as. -/
def sectR (D : DiskS) (i : Int) : List Int := (getI i D.cached).getD (D.sector i)
/-- A disk that was read n times. -/
def nextN (D : DiskS) (n : Nat) : DiskS := { D with ops := D.ops + n }
theorem nextN_next (D : DiskS) (n : Nat) : (nextN D n).next = nextN D (n + 1) := by
  simp only [nextN, DiskS.next, DiskS.mk.injEq, true_and, and_true]; omega
theorem Calm.nextN {D : DiskS} {m : Nat} : ∀ (n : Nat), Calm D (n + m) → Calm (Proofs.YtcemageindmbkaaDoor.nextN D n) m
  | n, h => by
    have := h.ops
    have := h.writes
    have := h.ok.ops0
    exact ⟨⟨h.ok.s1, h.ok.s2, h.ok.len, (by show 0 ≤ D.ops + n; omega), (by show D.ops + n ≤ _; omega), h.ok.wr0, h.ok.wr1, h.ok.cach⟩, h.planned, (by show D.ops + n + m ≤ _; omega), (by show D.writes + m ≤ _; omega)⟩
theorem read_good {D : DiskS} {i : Int} (hp : D.planned = []) (h0 : 0 ≤ i) (h1 : i < D.sectors) : readErr D i = 0 ∧ readB D i = sectR D i := by
  have e : readErr D i = 0 := by
    unfold readErr failsB
    rw [hp, if_neg (by simp), if_neg (by omega)]
  exact ⟨e, by unfold readB; rw [if_pos e]; rfl⟩
theorem plain_row {α : Type} {d : Kd α} {e : Nat} {w : World} {B : Nat} {ok : Nat → Prop} {A : Option Addr} {n c : Nat} {xs : List α} (h : d.R e w B ok (.slice A n c) xs) (hn : 0 < xs.length) : ∃ b, A = some ⟨b, 0, none⟩ := by
  obtain ⟨inner, ho⟩ := Kd.R_own h
  obtain ⟨k, hk⟩ : ∃ k, xs.length = k + 1 := ⟨xs.length - 1, by omega⟩
  rw [hk] at ho
  obtain ⟨b, cap, e1⟩ := ownsRow_succ ho
  injection e1 with e1
  exact ⟨b, e1⟩
/-- The bytes of the sectors behind the first one. -/
def sectsR (D : DiskS) (first : Int) (n : Nat) : List (List Int) := (List.range n).map fun (k : Nat) => sectR D (first + (1 + (k : Int)))

set_option maxRecDepth 100000 in
set_option maxHeartbeats 2000000 in
theorem whole_calls (w : World) (B g p1 p2 : Nat) (F : Nat → Prop) (D : DiskS) (first size : Int) (n m s : Nat) (h1 : w.heap[p1]? = some (.cells #[.pointer (some ⟨g, 0, none⟩)] 29)) (h2 : w.heap[p2]? = some (.cells #[.int .i64 first] 3)) (hD : IsDisk w B F g D) (hcm : Calm D (n + 1)) (hf : 0 ≤ first) (hfn : first + n < D.sectors)
    (hp1 : p1 ≠ g) (hp2 : p2 ≠ g) (hn : n ≤ 16777216) (hs1 : 1 ≤ s) (hb : ∀ l ∈ sectsR D first n, InB l ∧ l.length = s) (hns : n * s ≤ 16777216) (hm : m ≤ n * s) :
    Calls Tryd.prog 50 #[placeV p1 p2 (n : Int) size, .int .i64 (m : Int)] w fun e w' => ∃ A c, e = .returned (.tuple #[.slice A m c, .int .i64 0]) ∧ m ≤ c ∧ (A = none → c = 0) ∧ CN w' w.heap.size A ((sectsR D first n).flatten.take m) ∧ IsDisk w' B F g (nextN D n) ∧ Fr w w' (fun k => k = g) := by
  have hgl : g < w.heap.size := by
    obtain ⟨_, _, _, _, _, hh, _⟩ := hD
    exact blk_lt hh
  have hsc := (sectors_le hcm.ok).2
  have HD := Lib.hid hD
  have HCM := Lib.hid hcm
  have H1 := Lib.hid h1
  have H2 := Lib.hid h2
  have HBB := Lib.hid hb
  have HFN := Lib.hid hfn
  have HM := Lib.hid hm
  have HNS := Lib.hid hns
  clear h1 h2 hD hcm hb hfn hm hns
  go_enter Tryd.func50, Tryd.ntmps50
  go_wp2_with fail
  generalize hwX : w.alloc (plC p1 p2 (n : Int) size) = wX
  have hBX : Below w.heap.size w wX := hwX ▸ (below_alloc (Below.refl _ _) _)
  have hPX : wX.heap[w.heap.size]? = some (plC p1 p2 (n : Int) size) := hwX ▸ heap_alloc_new w _
  clear hwX
  have HBX := Lib.hid hBX
  have HPX := Lib.hid hPX
  clear hBX hPX
  go_loopw [6, 12] (fun v i wr => ∃ k : Nat, k ≤ n ∧ i = .int .i64 (k : Int) ∧ Hid (KBs.R 27 wr wX.heap.size (fun q => wX.heap.size ≤ q) v (sectsR D first k)) ∧ Hid (IsDisk wr B F g (nextN D k)) ∧ Hid (Fr wX wr (fun q => q = g))) (fun _ i _ => n - (intOf i).toNat)
  case atStart => exact ⟨0, Nat.zero_le _, rfl, Lib.hid (Kd.R_nil _ _ _ _ _), Lib.hid (by have := HD.out.below HBX.out; simpa [nextN] using this), Lib.hid (Fr.refl _ _)⟩
  case round =>
    obtain ⟨k, hk, rfl, HV, HI, HFr⟩ := hrel
    have hXl : w.heap.size < wX.heap.size := blk_lt HPX.out
    by_cases hlt : k < n
    · have e2 := (blk_cell (HFr.out.blk HPX.out (by omega)) 2).trans rfl
      have hq1 := HFr.out.blk ((HBX.out.block _ (blk_lt H1.out)).trans H1.out) hp1
      have hq2 := HFr.out.blk ((HBX.out.block _ (blk_lt H2.out)).trans H2.out) hp2
      have hck := Calm.nextN (D := D) (m := 1) k (by have := HCM.out; exact ⟨this.ok, this.planned, (by have := this.ops; omega), (by have := this.writes; omega)⟩)
      have hfn := HFN.out
      have hrd := rd_calls wr B g p1 p2 F (nextN D k) first (1 + (k : Int)) hq1 hq2 HI.out hck.ok (by omega)
      have hgood := read_good (D := nextN D k) (i := first + (1 + (k : Int))) hck.planned (by omega) (by show first + (1 + (k : Int)) < D.sectors; omega)
      rw [hgood.1, hgood.2, nextN_next] at hrd
      have hss : sectR (nextN D k) (first + (1 + (k : Int))) = sectR D (first + (1 + (k : Int))) := rfl
      rw [hss] at hrd
      have HRD := Lib.hid hrd
      have hwl : wX.heap.size ≤ wr.heap.size := HFr.out.size
      have HWL := Lib.hid hwl
      have hll : (sectsR D first k).length = k := by simp [sectsR]
      have HLL := Lib.hid hll
      clear hq1 hq2 hck hfn hrd hgood hss hwl hll
      go_wp2_with fail
      refine HRD.out.mono ?_
      rintro e w6 ⟨v6, rfl, hR6, hI6, hF6⟩
      have HR6 := Lib.hid hR6
      have HI6 := Lib.hid hI6
      have HF6 := Lib.hid hF6
      have hV6 := Kd.R_step HV.out (fun q hq hq2 => hF6.block q hq2 (fun e => by have : wX.heap.size ≤ q := hq; omega))
      have HV6 := Lib.hid hV6
      obtain ⟨A6, c6, rfl, -, -⟩ := Kd.R_reads HR6.out
      clear hR6 hI6 hF6 hV6 e2
      go_wp2_with ((with_reducible refine gate_dst (N := 29) rfl ?_); refine Kd.R_append KBs (w0 := w6) wX.heap.size rfl _ _ 81 27 (.slice none 0 0) 24 rfl Tryd.underlying81 infoS rfl (by decide) (by decide) u6 (sectsR D first k) (sectR D (first + (1 + (k : Int)))) [.slice A6 (sectR D (first + (1 + (k : Int)))).length c6] (fun q => wX.heap.size ≤ q) (fun q => wr.heap.size ≤ q) rfl rfl ⟨_, rfl, Kd.R_lower HR6.out HWL.out⟩ (fun q hq => ⟨Nat.le_trans HWL.out hq, fun e => absurd (Kd.R_lt HV.out q e.symm) (by omega)⟩) (fun q hq => Nat.le_trans HWL.out (Nat.le_trans HF6.out.size hq)) HV6.out (Below.mono (Below.refl _ _) (Nat.le_trans HWL.out HF6.out.size)) (Nat.le_trans HWL.out HF6.out.size) (by rw [HLL.out]; exact piece_bytes (by omega)) ?_; intro v1 w7 HV1 HB1 HG1 _)
      have r1 : Hid (KBs.R 27 w7 wX.heap.size (fun q => wX.heap.size ≤ q) v1 (sectsR D first (k + 1))) := Lib.hid (by have e1 : sectsR D first (k + 1) = sectsR D first k ++ [sectR D (first + (1 + (k : Int)))] := (by simp [sectsR, List.range_succ]); rw [e1]; exact HV1)
      have r2 : Hid (IsDisk w7 B F g (nextN D (k + 1))) := Lib.hid (HI6.out.step HB1.size (fun q hq => HB1.block q (by have := (HD.out.bound q hq).2; omega)))
      have r3 : Hid (Fr wX w7 (fun q => q = g)) := Lib.hid ((HFr.out.trans HF6.out (fun _ _ h => h)).trans (S2 := fun q => wX.heap.size ≤ q) ⟨HB1.os, HB1.tape, HB1.output, HB1.size, fun q _ hq => HB1.block q (by omega)⟩ (fun q h1 h2 => absurd h2 (by omega)))
      have hk1 : k + 1 ≤ n := hlt
      clear HV1 HB1 HG1
      go_roundw
      case rel => first | exact ⟨k + 1, hk1, by go_num, r1, r2, r3⟩ | ((repeat apply Exists.intro); exact ⟨⟨k + 1, hk1, by go_num, r1, r2, r3⟩, rfl⟩)
      case measure => simp [intOf]; omega
    · have hkn : k = n := by omega
      subst hkn
      obtain ⟨Al, cl, rfl, hcl, hCl⟩ := Kd.R_reads HV.out
      have hll : (sectsR D first k).length = k := by simp [sectsR]
      have hpr : 0 < (sectsR D first k).length → ∃ b, Al = some ⟨b, 0, none⟩ := fun h => plain_row HV.out h
      obtain ⟨bb, hbb⟩ : ∃ b, 0 < (sectsR D first k).length → Al = some ⟨b, 0, none⟩ := by
        by_cases h : 0 < (sectsR D first k).length
        · obtain ⟨b, e⟩ := hpr h; exact ⟨b, fun _ => e⟩
        · exact ⟨0, fun h2 => absurd h2 h⟩
      have hfl : (sectsR D first k).flatten.length = k * s := by
        rw [List.length_flatten]
        have : ∀ (L : List (List Int)), (∀ l ∈ L, l.length = s) → (L.map List.length).sum = L.length * s := by
          intro L
          induction L with
          | nil => simp
          | cons x L ih => intro h; rw [List.map_cons, List.sum_cons, ih (fun l hl => h l (List.mem_cons_of_mem _ hl)), h x (List.mem_cons_self ..), List.length_cons, Nat.add_mul]; omega
        rw [this _ (fun l hl => (HBB.out l hl).2), hll]
      have HG := Lib.hid (glue_calls bb 0 cl m (sectsR D first k) wr Al hbb hCl hcl (fun l hl => ⟨(HBB.out l hl).1, by rw [(HBB.out l hl).2]; omega⟩) (by omega) (by rw [hfl]; exact HNS.out) (by rw [hfl]; exact HM.out))
      clear hCl hpr hbb hfl hcl
      rw [hll]
      rw [hll] at HG
      go_wp2_with fail
      refine HG.out.mono ?_
      rintro e w8 ⟨A', c', rfl, hmc, hnil, hCN, hb8⟩
      have HCN := Lib.hid hCN
      have HB8 := Lib.hid hb8
      clear hCN hb8
      go_wp2_with fail
      go_ret2
      exact ⟨A', c', rfl, hmc, hnil, HCN.out.lower (Nat.le_trans HBX.out.size HFr.out.size), HI.out.below HB8.out, ((Fr.of_below HBX.out _).trans HFr.out (fun _ _ h => h)).thenB HB8.out⟩
end Go.Proofs.YtcemageindmbkaaDoor
/- slot.Read: what it returns. -/
namespace Go.Proofs.YtcemageindmbkaaDoor
open Go.RowKit Go.Proofs.YtcemageindmbkaaDoorW.PrintWords
open PSlotBytes

abbrev zeroSl : Value := .agg #[.int .i64 0, .int .i64 0, .int .u64 0, .slice none 0 0]
abbrev slC : Obj := .cells #[.int .i64 0, .int .i64 0, .int .u64 0, .slice none 0 0] 37
/-- The box of the chips, and the result's, in a world that has come of w0. -/
structure Rd2 (w0 W : World) (a b c : Int) : Prop where
  below : Below w0.heap.size w0 W
  b0 : W.heap[w0.heap.size]? = some (.cells #[.int .i64 a, .int .i64 b, .int .i64 c] 23)
  b1 : W.heap[w0.heap.size + 1]? = some slC
theorem Rd2.made (w0 : World) (a b c : Int) : Rd2 w0 ((w0.alloc (.cells #[.int .i64 a, .int .i64 b, .int .i64 c] 23)).alloc slC) a b c :=
  ⟨below_alloc (below_alloc (Below.refl _ _) _) _, blk_alloc (heap_alloc_new w0 _) _, by simpa using heap_alloc_new (w0.alloc (.cells #[.int .i64 a, .int .i64 b, .int .i64 c] 23)) slC⟩
theorem Rd2.step {w0 W W' : World} {a b c : Int} (h : Rd2 w0 W a b c) (hb : Below W.heap.size W W') : Rd2 w0 W' a b c :=
  ⟨below_via h.below hb, (hb.block _ (blk_lt h.b0)).trans h.b0, (hb.block _ (blk_lt h.b1)).trans h.b1⟩
theorem Rd2.cells {w0 W : World} {a b c : Int} (h : Rd2 w0 W a b c) : (W.cell? ⟨w0.heap.size, 0, none⟩ = some (.int .i64 a) ∧ W.cell? ⟨w0.heap.size, 1, none⟩ = some (.int .i64 b) ∧ W.cell? ⟨w0.heap.size, 2, none⟩ = some (.int .i64 c)) ∧
    (W.cell? ⟨w0.heap.size + 1, 0, none⟩ = some (.int .i64 0) ∧ W.cell? ⟨w0.heap.size + 1, 1, none⟩ = some (.int .i64 0) ∧ W.cell? ⟨w0.heap.size + 1, 2, none⟩ = some (.int .u64 0) ∧ W.cell? ⟨w0.heap.size + 1, 3, none⟩ = some (.slice none 0 0)) ∧
    (W.frozen? ⟨w0.heap.size + 1, 0, none⟩ = false ∧ W.frozen? ⟨w0.heap.size + 1, 1, none⟩ = false ∧ W.frozen? ⟨w0.heap.size + 1, 2, none⟩ = false ∧ W.frozen? ⟨w0.heap.size + 1, 3, none⟩ = false) :=
  ⟨⟨(blk_cell h.b0 0).trans rfl, (blk_cell h.b0 1).trans rfl, (blk_cell h.b0 2).trans rfl⟩, ⟨(blk_cell h.b1 0).trans rfl, (blk_cell h.b1 1).trans rfl, (blk_cell h.b1 2).trans rfl, (blk_cell h.b1 3).trans rfl⟩, blk_frozen h.b1 0, blk_frozen h.b1 1, blk_frozen h.b1 2, blk_frozen h.b1 3⟩

/-- The same behind a read of the disk at g. -/
structure Rd3 (w0 W : World) (g : Nat) (a b c : Int) : Prop where
  fr : Fr w0 W (fun k => k = g)
  b0 : W.heap[w0.heap.size]? = some (.cells #[.int .i64 a, .int .i64 b, .int .i64 c] 23)
  b1 : W.heap[w0.heap.size + 1]? = some slC
theorem Rd3.step {w0 W W' : World} {g : Nat} {a b c : Int} (h : Rd3 w0 W g a b c) (hb : Below W.heap.size W W') : Rd3 w0 W' g a b c :=
  ⟨h.fr.thenB hb, (hb.block _ (blk_lt h.b0)).trans h.b0, (hb.block _ (blk_lt h.b1)).trans h.b1⟩
theorem Rd3.cells {w0 W : World} {g : Nat} {a b c : Int} (h : Rd3 w0 W g a b c) : (W.cell? ⟨w0.heap.size, 0, none⟩ = some (.int .i64 a) ∧ W.cell? ⟨w0.heap.size, 1, none⟩ = some (.int .i64 b) ∧ W.cell? ⟨w0.heap.size, 2, none⟩ = some (.int .i64 c)) ∧
    (W.cell? ⟨w0.heap.size + 1, 0, none⟩ = some (.int .i64 0) ∧ W.cell? ⟨w0.heap.size + 1, 1, none⟩ = some (.int .i64 0) ∧ W.cell? ⟨w0.heap.size + 1, 2, none⟩ = some (.int .u64 0) ∧ W.cell? ⟨w0.heap.size + 1, 3, none⟩ = some (.slice none 0 0)) ∧
    (W.frozen? ⟨w0.heap.size + 1, 0, none⟩ = false ∧ W.frozen? ⟨w0.heap.size + 1, 1, none⟩ = false ∧ W.frozen? ⟨w0.heap.size + 1, 2, none⟩ = false ∧ W.frozen? ⟨w0.heap.size + 1, 3, none⟩ = false) :=
  ⟨⟨(blk_cell h.b0 0).trans rfl, (blk_cell h.b0 1).trans rfl, (blk_cell h.b0 2).trans rfl⟩, ⟨(blk_cell h.b1 0).trans rfl, (blk_cell h.b1 1).trans rfl, (blk_cell h.b1 2).trans rfl, (blk_cell h.b1 3).trans rfl⟩, blk_frozen h.b1 0, blk_frozen h.b1 1, blk_frozen h.b1 2, blk_frozen h.b1 3⟩

theorem rd_fin {w W W9 : World} {g : Nat} (h : Fr w W (fun k => k = g)) (hb : Below (w.heap.size + 1) W W9) : Fr w W9 (fun k => k = g) :=
  h.trans (S2 := fun q => w.heap.size + 1 ≤ q) ⟨hb.os, hb.tape, hb.output, hb.size, fun q _ hq => hb.block q (by omega)⟩ (fun q h1 h2 => absurd h2 (by omega))
set_option maxRecDepth 100000 in
theorem rd_err (w : World) (B g : Nat) (F : Nat → Prop) (D : DiskS) (which a b c : Int) (hl : Laid w) (hD : IsDisk w B F g D) (hok : DiskOk D) (h : atE D which a b c ≠ 0) :
    Calls Tryd.prog 15 #[.pointer (some ⟨g, 0, none⟩), .int .i64 which, .agg #[.int .i64 a, .int .i64 b, .int .i64 c]] w fun e w' => e = .returned (.tuple #[zeroSl, .int .i64 (atE D which a b c)]) ∧ Below w.heap.size w w' := by
  have HA := Lib.hid (fun (W : World) (hW : Below w.heap.size w W) => at_err W B g F D which a b c (hl.of_below hW) (hD.below hW) hok h)
  have sn : ∀ (m : Mode) (x : Addr) (w : World), (store x Value.nilFunc m).run Tryd.prog w = stored Tryd.prog w x Value.nilFunc m := fun m x w => run_store Tryd.prog w x _ m rfl
  clear hl hD hok
  generalize atE D which a b c = E at *
  go_enter Tryd.func15, Tryd.ntmps15
  go_wp2_with fail
  have HX := Lib.hid (Rd2.made w a b c)
  generalize (w.alloc (.cells #[.int .i64 a, .int .i64 b, .int .i64 c] 23)).alloc slC = wX at *
  refine (HA.out _ HX.out.below).mono ?_
  rintro e w1 ⟨rfl, hb1⟩
  have H1 := Lib.hid ((HX.out.step hb1).step (below_alloc (Below.refl _ _) (.cells #[.int .i64 0, .int .i64 0, .nilFunc, .nilFunc] 87)))
  obtain ⟨-, ⟨k0, k1, k2, k3⟩, f0, f1, f2, f3⟩ := H1.out.cells
  clear hb1
  go_wp2_with fail
  obtain ⟨W9, hW9, ⟨l0, l1, l2, l3⟩, hbel, hsz9, hrest⟩ := set4 (.int .i64 0) (.int .i64 0) (.int .u64 0) (.slice none 0 0) ⟨k0, k1, k2, k3⟩
  rw [← hW9]
  clear hW9 k0 k1 k2 k3 f0 f1 f2 f3
  refine bodyPost_ret (v := .tuple #[zeroSl, .int .i64 E]) (by simp [results, Tryd.results15, go_sem, l0, l1, l2, l3]) rfl ?_
  exact ⟨rfl, hbel _ _ H1.out.below (by omega)⟩

set_option maxRecDepth 100000 in
set_option maxHeartbeats 400000 in
theorem rd_bad (w : World) (B g : Nat) (F : Nat → Prop) (D : DiskS) (which a b c : Int) (s : Nat) (hl : Laid w) (hD : IsDisk w B F g D) (hcm : Calm D 100000) (hB0 : 0 < B) (h : atE D which a b c = 0) (hs : D.size = s) (x5 x6 x7 hn q u E : Int) 
    (hlen0 : (sectR D (which * spanF D.size a b c)).length = s) (hin0 : InB (sectR D (which * spanF D.size a b c))) (hdv : decV (sectR D (which * spanF D.size a b c)) = .agg #[.int .i64 x5, .int .i64 x6, .int .i64 x7, .int .i64 hn, .int .u64 q, .int .u32 u]) (hde : decE (sectR D (which * spanF D.size a b c)) = E) (hE : E ≠ 0) :
    Calls Tryd.prog 15 #[.pointer (some ⟨g, 0, none⟩), .int .i64 which, .agg #[.int .i64 a, .int .i64 b, .int .i64 c]] w fun e w' => e = .returned (.tuple #[.agg #[.int .i64 0, .int .i64 E, .int .u64 0, .slice none 0 0], .int .i64 0]) ∧ IsDisk w' B F g D.next ∧ Fr w w' (fun k => k = g) := by
  obtain ⟨h1, h2, h3, h4, h5⟩ := atE_ok h
  have hok := hcm.ok
  have HA := Lib.hid (fun (W : World) (hW : Below w.heap.size w W) => at_ok W B g F D which a b c (hl.of_below hW) (hD.below hW) hok h1 h2 h3 h4 h5)
  have hsp := spanF_bd D.size a b c
  have hfi : 0 ≤ which * spanF D.size a b c ∧ which * spanF D.size a b c ≤ spanF D.size a b c := by
    have h01 : which = 0 ∨ which = 1 := by omega
    rcases h01 with rfl | rfl
    · rw [Int.zero_mul]; omega
    · rw [Int.one_mul]; omega
  have hspe : spanF D.size a b c = 1 + sectorsF (totalF a b c) D.size := by unfold spanF; rw [if_pos ⟨h1, h4, hok.s2⟩]
  have hsn : 0 ≤ sectorsF (totalF a b c) D.size := (sectorsF_bd _ _ (totalF_bd a b c).1).1
  rw [hs] at HA hfi h4 hspe h5 hsp hsn
  rw [hs] at hlen0 hin0 hdv hde
  generalize hspg : spanF (s : Int) a b c = sp at *
  generalize hfd : which * sp = fd at *
  have hgood := read_good (D := D) (i := fd) hcm.planned (by omega) (by omega)
  have hrd := fun (W : World) p1 p2 q1 q2 hD => rd_calls W B g p1 p2 F D fd 0 q1 q2 hD hok (by omega)
  simp only [Int.add_zero, hgood.1, hgood.2] at hrd
  have HRD := Lib.hid hrd
  generalize hsec : sectR D fd = l0 at *
  have hdc := fun (W : World) bb o cc hl hC hc => decode_calls bb o cc l0 W hl hC hc hin0
  rw [hdv, hde] at hdc
  have HDC := Lib.hid hdc
  have sn : ∀ (m : Mode) (x : Addr) (w : World), (store x Value.nilFunc m).run Tryd.prog w = stored Tryd.prog w x Value.nilFunc m := fun m x w => run_store Tryd.prog w x _ m rfl
  have sf : ∀ (fn : Fn) (u v : Array Value) (m : Mode) (x : Addr) (w : World), (store x (Value.func fn u v) m).run Tryd.prog w = stored Tryd.prog w x (Value.func fn u v) m := fun fn u v m x w => run_store Tryd.prog w x _ m rfl
  have HD := Lib.hid hD
  have HL := Lib.hid hl
  have HCM := Lib.hid hcm
  have HSPE := Lib.hid hspe
  have HLEN0 := Lib.hid hlen0
  have HS32 : Hid (32 ≤ s) := Lib.hid (by omega)
  have hgl : g < w.heap.size := by
    obtain ⟨_, _, _, _, _, hh, _⟩ := hD
    exact blk_lt hh
  have hFg : F g := by obtain ⟨_, _, _, _, _, _, _, _, _, _, h6, _⟩ := hD; exact h6
  clear hlen0 hl hD hok h h1 h2 h3 h4 h5 hcm hfd hspg hspe hs hgood hrd hsec hdc hdv hde
  go_enter Tryd.func15, Tryd.ntmps15
  go_wp2_with fail
  have HX := Lib.hid (Rd2.made w a b c)
  generalize (w.alloc (.cells #[.int .i64 a, .int .i64 b, .int .i64 c] 23)).alloc slC = wX at *
  refine (HA.out _ HX.out.below).mono ?_
  rintro e w1 ⟨p2, rfl, hb1, hp1, hp2, hle⟩
  have HP1 := Lib.hid hp1
  have HP2 := Lib.hid hp2
  have HX1 := Lib.hid (HX.out.step hb1)
  have hx1 : w.heap.size + 1 < wX.heap.size := blk_lt HX.out.b1
  clear hb1 hp1 hp2
  go_wp2_with fail
  generalize hwP : w1.alloc (plC wX.heap.size p2 (sp - 1) s) = wP
  have hPl : wP.heap[w1.heap.size]? = some (plC wX.heap.size p2 (sp - 1) s) := hwP ▸ heap_alloc_new w1 _
  have hBP : Below w1.heap.size w1 wP := hwP ▸ below_alloc (Below.refl _ _) _
  clear hwP
  have hq1 := (hBP.block _ (blk_lt HP1.out)).trans HP1.out
  have hq2 := (hBP.block _ (blk_lt HP2.out)).trans HP2.out
  have HXP := Lib.hid (HX1.out.step hBP)
  have hw1 : wX.heap.size < w1.heap.size := blk_lt HP1.out
  have HQ1 := Lib.hid hq1
  have HQ2 := Lib.hid hq2
  have HPL := Lib.hid hPl
  clear hBP hPl hq1 hq2
  refine (HRD.out wP _ _ HQ1.out HQ2.out (HD.out.below HXP.out.below)).mono ?_
  rintro e w2 ⟨v2, rfl, hR2, hI2, hF2⟩
  have hx2 : Rd3 w w2 g a b c := ⟨(Fr.of_below HXP.out.below _).trans hF2 (fun _ _ h => h), hF2.blk HXP.out.b0 (by omega), hF2.blk HXP.out.b1 (by omega)⟩
  have hpl2 := hF2.blk HPL.out (by omega)
  have hq1 := hF2.blk HQ1.out (by omega)
  have hq2 := hF2.blk HQ2.out (by omega)
  obtain ⟨A2, c2, rfl, hc2, hC2⟩ := Kd.R_reads hR2
  obtain ⟨bb, rfl⟩ := plain_row hR2 (by rw [HLEN0.out]; have := HS32.out; omega)
  have HX2 := Lib.hid hx2
  have HPL2 := Lib.hid hpl2
  have HQ12 := Lib.hid hq1
  have HQ22 := Lib.hid hq2
  have HI2 := Lib.hid hI2
  have HDEC := Lib.hid (HDC.out w2 bb 0 c2 ((HL.out.of_below HXP.out.below).of_kept hF2.kept (by have := (HD.out.bound g hFg).1; omega)) hC2 hc2)
  clear hF2 hx2 hpl2 hq1 hq2 hI2 hR2 hC2 hc2
  go_wp2_with fail
  refine HDEC.out.mono ?_
  rintro e w3 ⟨rfl, hb3⟩
  have HX3 := Lib.hid ((HX2.out.step hb3).step (below_alloc (Below.refl _ _) (.cells #[.int .i64 x5, .int .i64 x6, .int .i64 x7, .int .i64 hn, .int .u64 q, .int .u32 u] 93)))
  have hb3' := below_via hb3 (below_alloc (Below.refl w3.heap.size w3) (.cells #[.int .i64 x5, .int .i64 x6, .int .i64 x7, .int .i64 hn, .int .u64 q, .int .u32 u] 93))
  have HI3 := Lib.hid (HI2.out.below hb3')
  have HPL3 := Lib.hid ((hb3'.block _ (blk_lt HPL2.out)).trans HPL2.out)
  have HQ13 := Lib.hid ((hb3'.block _ (blk_lt HQ12.out)).trans HQ12.out)
  have HQ23 := Lib.hid ((hb3'.block _ (blk_lt HQ22.out)).trans HQ22.out)
  clear hb3 hb3'
  obtain ⟨⟨c0, c1, c2⟩, ⟨k0, k1, k2, k3⟩, f0, f1, f2, f3⟩ := HX3.out.cells
  go_wp2_with fail
  obtain ⟨W9, hW9, ⟨l0, l1, l2, l3⟩, hbel, hsz9, hrest⟩ := set4 (.int .i64 0) (.int .i64 E) (.int .u64 0) (.slice none 0 0) ⟨k0, k1, k2, k3⟩
  rw [← hW9]
  clear hW9 k0 k1 k2 k3 f0 f1 f2 f3
  refine bodyPost_ret (v := .tuple #[.agg #[.int .i64 0, .int .i64 E, .int .u64 0, .slice none 0 0], .int .i64 0]) (by simp [results, Tryd.results15, go_sem, l0, l1, l2, l3]) rfl ?_
  have hb9 := hbel (w.heap.size + 1) _ (Below.refl _ _) (Nat.le_refl _)
  exact ⟨rfl, HI3.out.step hb9.size (fun q hq => hb9.block q (by have := (HD.out.bound q hq).2; omega)), rd_fin HX3.out.fr hb9⟩
set_option maxRecDepth 100000 in
set_option maxHeartbeats 400000 in
theorem rd_al1 (w : World) (B g : Nat) (F : Nat → Prop) (D : DiskS) (which a b c : Int) (s : Nat) (hl : Laid w) (hD : IsDisk w B F g D) (hcm : Calm D 100000) (hB0 : 0 < B) (h : atE D which a b c = 0) (hs : D.size = s) (x5 x6 x7 hn q u : Int) 
    (hlen0 : (sectR D (which * spanF D.size a b c)).length = s) (hin0 : InB (sectR D (which * spanF D.size a b c))) (hdv : decV (sectR D (which * spanF D.size a b c)) = .agg #[.int .i64 x5, .int .i64 x6, .int .i64 x7, .int .i64 hn, .int .u64 q, .int .u32 u]) (hde : decE (sectR D (which * spanF D.size a b c)) = 0) (hne : x5 ≠ a) :
    Calls Tryd.prog 15 #[.pointer (some ⟨g, 0, none⟩), .int .i64 which, .agg #[.int .i64 a, .int .i64 b, .int .i64 c]] w fun e w' => e = .returned (.tuple #[.agg #[.int .i64 1, .int .i64 0, .int .u64 0, .slice none 0 0], .int .i64 0]) ∧ IsDisk w' B F g D.next ∧ Fr w w' (fun k => k = g) := by
  obtain ⟨h1, h2, h3, h4, h5⟩ := atE_ok h
  have hok := hcm.ok
  have HA := Lib.hid (fun (W : World) (hW : Below w.heap.size w W) => at_ok W B g F D which a b c (hl.of_below hW) (hD.below hW) hok h1 h2 h3 h4 h5)
  have hsp := spanF_bd D.size a b c
  have hfi : 0 ≤ which * spanF D.size a b c ∧ which * spanF D.size a b c ≤ spanF D.size a b c := by
    have h01 : which = 0 ∨ which = 1 := by omega
    rcases h01 with rfl | rfl
    · rw [Int.zero_mul]; omega
    · rw [Int.one_mul]; omega
  have hspe : spanF D.size a b c = 1 + sectorsF (totalF a b c) D.size := by unfold spanF; rw [if_pos ⟨h1, h4, hok.s2⟩]
  have hsn : 0 ≤ sectorsF (totalF a b c) D.size := (sectorsF_bd _ _ (totalF_bd a b c).1).1
  rw [hs] at HA hfi h4 hspe h5 hsp hsn
  rw [hs] at hlen0 hin0 hdv hde
  generalize hspg : spanF (s : Int) a b c = sp at *
  generalize hfd : which * sp = fd at *
  have hgood := read_good (D := D) (i := fd) hcm.planned (by omega) (by omega)
  have hrd := fun (W : World) p1 p2 q1 q2 hD => rd_calls W B g p1 p2 F D fd 0 q1 q2 hD hok (by omega)
  simp only [Int.add_zero, hgood.1, hgood.2] at hrd
  have HRD := Lib.hid hrd
  generalize hsec : sectR D fd = l0 at *
  have hdc := fun (W : World) bb o cc hl hC hc => decode_calls bb o cc l0 W hl hC hc hin0
  rw [hdv, hde] at hdc
  have HDC := Lib.hid hdc
  have sn : ∀ (m : Mode) (x : Addr) (w : World), (store x Value.nilFunc m).run Tryd.prog w = stored Tryd.prog w x Value.nilFunc m := fun m x w => run_store Tryd.prog w x _ m rfl
  have sf : ∀ (fn : Fn) (u v : Array Value) (m : Mode) (x : Addr) (w : World), (store x (Value.func fn u v) m).run Tryd.prog w = stored Tryd.prog w x (Value.func fn u v) m := fun fn u v m x w => run_store Tryd.prog w x _ m rfl
  have HD := Lib.hid hD
  have HL := Lib.hid hl
  have HCM := Lib.hid hcm
  have HSPE := Lib.hid hspe
  have HLEN0 := Lib.hid hlen0
  have HS32 : Hid (32 ≤ s) := Lib.hid (by omega)
  have hgl : g < w.heap.size := by
    obtain ⟨_, _, _, _, _, hh, _⟩ := hD
    exact blk_lt hh
  have hFg : F g := by obtain ⟨_, _, _, _, _, _, _, _, _, _, h6, _⟩ := hD; exact h6
  clear hlen0 hl hD hok h h1 h2 h3 h4 h5 hcm hfd hspg hspe hs hgood hrd hsec hdc hdv hde
  go_enter Tryd.func15, Tryd.ntmps15
  go_wp2_with fail
  have HX := Lib.hid (Rd2.made w a b c)
  generalize (w.alloc (.cells #[.int .i64 a, .int .i64 b, .int .i64 c] 23)).alloc slC = wX at *
  refine (HA.out _ HX.out.below).mono ?_
  rintro e w1 ⟨p2, rfl, hb1, hp1, hp2, hle⟩
  have HP1 := Lib.hid hp1
  have HP2 := Lib.hid hp2
  have HX1 := Lib.hid (HX.out.step hb1)
  have hx1 : w.heap.size + 1 < wX.heap.size := blk_lt HX.out.b1
  clear hb1 hp1 hp2
  go_wp2_with fail
  generalize hwP : w1.alloc (plC wX.heap.size p2 (sp - 1) s) = wP
  have hPl : wP.heap[w1.heap.size]? = some (plC wX.heap.size p2 (sp - 1) s) := hwP ▸ heap_alloc_new w1 _
  have hBP : Below w1.heap.size w1 wP := hwP ▸ below_alloc (Below.refl _ _) _
  clear hwP
  have hq1 := (hBP.block _ (blk_lt HP1.out)).trans HP1.out
  have hq2 := (hBP.block _ (blk_lt HP2.out)).trans HP2.out
  have HXP := Lib.hid (HX1.out.step hBP)
  have hw1 : wX.heap.size < w1.heap.size := blk_lt HP1.out
  have HQ1 := Lib.hid hq1
  have HQ2 := Lib.hid hq2
  have HPL := Lib.hid hPl
  clear hBP hPl hq1 hq2
  refine (HRD.out wP _ _ HQ1.out HQ2.out (HD.out.below HXP.out.below)).mono ?_
  rintro e w2 ⟨v2, rfl, hR2, hI2, hF2⟩
  have hx2 : Rd3 w w2 g a b c := ⟨(Fr.of_below HXP.out.below _).trans hF2 (fun _ _ h => h), hF2.blk HXP.out.b0 (by omega), hF2.blk HXP.out.b1 (by omega)⟩
  have hpl2 := hF2.blk HPL.out (by omega)
  have hq1 := hF2.blk HQ1.out (by omega)
  have hq2 := hF2.blk HQ2.out (by omega)
  obtain ⟨A2, c2, rfl, hc2, hC2⟩ := Kd.R_reads hR2
  obtain ⟨bb, rfl⟩ := plain_row hR2 (by rw [HLEN0.out]; have := HS32.out; omega)
  have HX2 := Lib.hid hx2
  have HPL2 := Lib.hid hpl2
  have HQ12 := Lib.hid hq1
  have HQ22 := Lib.hid hq2
  have HI2 := Lib.hid hI2
  have HDEC := Lib.hid (HDC.out w2 bb 0 c2 ((HL.out.of_below HXP.out.below).of_kept hF2.kept (by have := (HD.out.bound g hFg).1; omega)) hC2 hc2)
  clear hF2 hx2 hpl2 hq1 hq2 hI2 hR2 hC2 hc2
  go_wp2_with fail
  refine HDEC.out.mono ?_
  rintro e w3 ⟨rfl, hb3⟩
  have HX3 := Lib.hid ((HX2.out.step hb3).step (below_alloc (Below.refl _ _) (.cells #[.int .i64 x5, .int .i64 x6, .int .i64 x7, .int .i64 hn, .int .u64 q, .int .u32 u] 93)))
  have hb3' := below_via hb3 (below_alloc (Below.refl w3.heap.size w3) (.cells #[.int .i64 x5, .int .i64 x6, .int .i64 x7, .int .i64 hn, .int .u64 q, .int .u32 u] 93))
  have HI3 := Lib.hid (HI2.out.below hb3')
  have HPL3 := Lib.hid ((hb3'.block _ (blk_lt HPL2.out)).trans HPL2.out)
  have HQ13 := Lib.hid ((hb3'.block _ (blk_lt HQ12.out)).trans HQ12.out)
  have HQ23 := Lib.hid ((hb3'.block _ (blk_lt HQ22.out)).trans HQ22.out)
  clear hb3 hb3'
  obtain ⟨⟨c0, c1, c2⟩, ⟨k0, k1, k2, k3⟩, f0, f1, f2, f3⟩ := HX3.out.cells
  go_wp2_with fail
  obtain ⟨W9, hW9, ⟨l0, l1, l2, l3⟩, hbel, hsz9, hrest⟩ := set4 (.int .i64 1) (.int .i64 0) (.int .u64 0) (.slice none 0 0) ⟨k0, k1, k2, k3⟩
  rw [← hW9]
  clear hW9 k0 k1 k2 k3 f0 f1 f2 f3
  refine bodyPost_ret (v := .tuple #[.agg #[.int .i64 1, .int .i64 0, .int .u64 0, .slice none 0 0], .int .i64 0]) (by simp [results, Tryd.results15, go_sem, l0, l1, l2, l3]) rfl ?_
  have hb9 := hbel (w.heap.size + 1) _ (Below.refl _ _) (Nat.le_refl _)
  exact ⟨rfl, HI3.out.step hb9.size (fun q hq => hb9.block q (by have := (HD.out.bound q hq).2; omega)), rd_fin HX3.out.fr hb9⟩
set_option maxRecDepth 100000 in
set_option maxHeartbeats 400000 in
theorem rd_al2 (w : World) (B g : Nat) (F : Nat → Prop) (D : DiskS) (which a b c : Int) (s : Nat) (hl : Laid w) (hD : IsDisk w B F g D) (hcm : Calm D 100000) (hB0 : 0 < B) (h : atE D which a b c = 0) (hs : D.size = s) (x6 x7 hn q u : Int) 
    (hlen0 : (sectR D (which * spanF D.size a b c)).length = s) (hin0 : InB (sectR D (which * spanF D.size a b c))) (hdv : decV (sectR D (which * spanF D.size a b c)) = .agg #[.int .i64 a, .int .i64 x6, .int .i64 x7, .int .i64 hn, .int .u64 q, .int .u32 u]) (hde : decE (sectR D (which * spanF D.size a b c)) = 0) (hne : x6 ≠ b) :
    Calls Tryd.prog 15 #[.pointer (some ⟨g, 0, none⟩), .int .i64 which, .agg #[.int .i64 a, .int .i64 b, .int .i64 c]] w fun e w' => e = .returned (.tuple #[.agg #[.int .i64 1, .int .i64 0, .int .u64 0, .slice none 0 0], .int .i64 0]) ∧ IsDisk w' B F g D.next ∧ Fr w w' (fun k => k = g) := by
  obtain ⟨h1, h2, h3, h4, h5⟩ := atE_ok h
  have hok := hcm.ok
  have HA := Lib.hid (fun (W : World) (hW : Below w.heap.size w W) => at_ok W B g F D which a b c (hl.of_below hW) (hD.below hW) hok h1 h2 h3 h4 h5)
  have hsp := spanF_bd D.size a b c
  have hfi : 0 ≤ which * spanF D.size a b c ∧ which * spanF D.size a b c ≤ spanF D.size a b c := by
    have h01 : which = 0 ∨ which = 1 := by omega
    rcases h01 with rfl | rfl
    · rw [Int.zero_mul]; omega
    · rw [Int.one_mul]; omega
  have hspe : spanF D.size a b c = 1 + sectorsF (totalF a b c) D.size := by unfold spanF; rw [if_pos ⟨h1, h4, hok.s2⟩]
  have hsn : 0 ≤ sectorsF (totalF a b c) D.size := (sectorsF_bd _ _ (totalF_bd a b c).1).1
  rw [hs] at HA hfi h4 hspe h5 hsp hsn
  rw [hs] at hlen0 hin0 hdv hde
  generalize hspg : spanF (s : Int) a b c = sp at *
  generalize hfd : which * sp = fd at *
  have hgood := read_good (D := D) (i := fd) hcm.planned (by omega) (by omega)
  have hrd := fun (W : World) p1 p2 q1 q2 hD => rd_calls W B g p1 p2 F D fd 0 q1 q2 hD hok (by omega)
  simp only [Int.add_zero, hgood.1, hgood.2] at hrd
  have HRD := Lib.hid hrd
  generalize hsec : sectR D fd = l0 at *
  have hdc := fun (W : World) bb o cc hl hC hc => decode_calls bb o cc l0 W hl hC hc hin0
  rw [hdv, hde] at hdc
  have HDC := Lib.hid hdc
  have sn : ∀ (m : Mode) (x : Addr) (w : World), (store x Value.nilFunc m).run Tryd.prog w = stored Tryd.prog w x Value.nilFunc m := fun m x w => run_store Tryd.prog w x _ m rfl
  have sf : ∀ (fn : Fn) (u v : Array Value) (m : Mode) (x : Addr) (w : World), (store x (Value.func fn u v) m).run Tryd.prog w = stored Tryd.prog w x (Value.func fn u v) m := fun fn u v m x w => run_store Tryd.prog w x _ m rfl
  have HD := Lib.hid hD
  have HL := Lib.hid hl
  have HCM := Lib.hid hcm
  have HSPE := Lib.hid hspe
  have HLEN0 := Lib.hid hlen0
  have HS32 : Hid (32 ≤ s) := Lib.hid (by omega)
  have hgl : g < w.heap.size := by
    obtain ⟨_, _, _, _, _, hh, _⟩ := hD
    exact blk_lt hh
  have hFg : F g := by obtain ⟨_, _, _, _, _, _, _, _, _, _, h6, _⟩ := hD; exact h6
  clear hlen0 hl hD hok h h1 h2 h3 h4 h5 hcm hfd hspg hspe hs hgood hrd hsec hdc hdv hde
  go_enter Tryd.func15, Tryd.ntmps15
  go_wp2_with fail
  have HX := Lib.hid (Rd2.made w a b c)
  generalize (w.alloc (.cells #[.int .i64 a, .int .i64 b, .int .i64 c] 23)).alloc slC = wX at *
  refine (HA.out _ HX.out.below).mono ?_
  rintro e w1 ⟨p2, rfl, hb1, hp1, hp2, hle⟩
  have HP1 := Lib.hid hp1
  have HP2 := Lib.hid hp2
  have HX1 := Lib.hid (HX.out.step hb1)
  have hx1 : w.heap.size + 1 < wX.heap.size := blk_lt HX.out.b1
  clear hb1 hp1 hp2
  go_wp2_with fail
  generalize hwP : w1.alloc (plC wX.heap.size p2 (sp - 1) s) = wP
  have hPl : wP.heap[w1.heap.size]? = some (plC wX.heap.size p2 (sp - 1) s) := hwP ▸ heap_alloc_new w1 _
  have hBP : Below w1.heap.size w1 wP := hwP ▸ below_alloc (Below.refl _ _) _
  clear hwP
  have hq1 := (hBP.block _ (blk_lt HP1.out)).trans HP1.out
  have hq2 := (hBP.block _ (blk_lt HP2.out)).trans HP2.out
  have HXP := Lib.hid (HX1.out.step hBP)
  have hw1 : wX.heap.size < w1.heap.size := blk_lt HP1.out
  have HQ1 := Lib.hid hq1
  have HQ2 := Lib.hid hq2
  have HPL := Lib.hid hPl
  clear hBP hPl hq1 hq2
  refine (HRD.out wP _ _ HQ1.out HQ2.out (HD.out.below HXP.out.below)).mono ?_
  rintro e w2 ⟨v2, rfl, hR2, hI2, hF2⟩
  have hx2 : Rd3 w w2 g a b c := ⟨(Fr.of_below HXP.out.below _).trans hF2 (fun _ _ h => h), hF2.blk HXP.out.b0 (by omega), hF2.blk HXP.out.b1 (by omega)⟩
  have hpl2 := hF2.blk HPL.out (by omega)
  have hq1 := hF2.blk HQ1.out (by omega)
  have hq2 := hF2.blk HQ2.out (by omega)
  obtain ⟨A2, c2, rfl, hc2, hC2⟩ := Kd.R_reads hR2
  obtain ⟨bb, rfl⟩ := plain_row hR2 (by rw [HLEN0.out]; have := HS32.out; omega)
  have HX2 := Lib.hid hx2
  have HPL2 := Lib.hid hpl2
  have HQ12 := Lib.hid hq1
  have HQ22 := Lib.hid hq2
  have HI2 := Lib.hid hI2
  have HDEC := Lib.hid (HDC.out w2 bb 0 c2 ((HL.out.of_below HXP.out.below).of_kept hF2.kept (by have := (HD.out.bound g hFg).1; omega)) hC2 hc2)
  clear hF2 hx2 hpl2 hq1 hq2 hI2 hR2 hC2 hc2
  go_wp2_with fail
  refine HDEC.out.mono ?_
  rintro e w3 ⟨rfl, hb3⟩
  have HX3 := Lib.hid ((HX2.out.step hb3).step (below_alloc (Below.refl _ _) (.cells #[.int .i64 a, .int .i64 x6, .int .i64 x7, .int .i64 hn, .int .u64 q, .int .u32 u] 93)))
  have hb3' := below_via hb3 (below_alloc (Below.refl w3.heap.size w3) (.cells #[.int .i64 a, .int .i64 x6, .int .i64 x7, .int .i64 hn, .int .u64 q, .int .u32 u] 93))
  have HI3 := Lib.hid (HI2.out.below hb3')
  have HPL3 := Lib.hid ((hb3'.block _ (blk_lt HPL2.out)).trans HPL2.out)
  have HQ13 := Lib.hid ((hb3'.block _ (blk_lt HQ12.out)).trans HQ12.out)
  have HQ23 := Lib.hid ((hb3'.block _ (blk_lt HQ22.out)).trans HQ22.out)
  clear hb3 hb3'
  obtain ⟨⟨c0, c1, c2⟩, ⟨k0, k1, k2, k3⟩, f0, f1, f2, f3⟩ := HX3.out.cells
  go_wp2_with fail
  obtain ⟨W9, hW9, ⟨l0, l1, l2, l3⟩, hbel, hsz9, hrest⟩ := set4 (.int .i64 1) (.int .i64 0) (.int .u64 0) (.slice none 0 0) ⟨k0, k1, k2, k3⟩
  rw [← hW9]
  clear hW9 k0 k1 k2 k3 f0 f1 f2 f3
  refine bodyPost_ret (v := .tuple #[.agg #[.int .i64 1, .int .i64 0, .int .u64 0, .slice none 0 0], .int .i64 0]) (by simp [results, Tryd.results15, go_sem, l0, l1, l2, l3]) rfl ?_
  have hb9 := hbel (w.heap.size + 1) _ (Below.refl _ _) (Nat.le_refl _)
  exact ⟨rfl, HI3.out.step hb9.size (fun q hq => hb9.block q (by have := (HD.out.bound q hq).2; omega)), rd_fin HX3.out.fr hb9⟩
set_option maxRecDepth 100000 in
set_option maxHeartbeats 400000 in
theorem rd_al3 (w : World) (B g : Nat) (F : Nat → Prop) (D : DiskS) (which a b c : Int) (s : Nat) (hl : Laid w) (hD : IsDisk w B F g D) (hcm : Calm D 100000) (hB0 : 0 < B) (h : atE D which a b c = 0) (hs : D.size = s) (x7 hn q u : Int) 
    (hlen0 : (sectR D (which * spanF D.size a b c)).length = s) (hin0 : InB (sectR D (which * spanF D.size a b c))) (hdv : decV (sectR D (which * spanF D.size a b c)) = .agg #[.int .i64 a, .int .i64 b, .int .i64 x7, .int .i64 hn, .int .u64 q, .int .u32 u]) (hde : decE (sectR D (which * spanF D.size a b c)) = 0) (hne : x7 ≠ c) :
    Calls Tryd.prog 15 #[.pointer (some ⟨g, 0, none⟩), .int .i64 which, .agg #[.int .i64 a, .int .i64 b, .int .i64 c]] w fun e w' => e = .returned (.tuple #[.agg #[.int .i64 1, .int .i64 0, .int .u64 0, .slice none 0 0], .int .i64 0]) ∧ IsDisk w' B F g D.next ∧ Fr w w' (fun k => k = g) := by
  obtain ⟨h1, h2, h3, h4, h5⟩ := atE_ok h
  have hok := hcm.ok
  have HA := Lib.hid (fun (W : World) (hW : Below w.heap.size w W) => at_ok W B g F D which a b c (hl.of_below hW) (hD.below hW) hok h1 h2 h3 h4 h5)
  have hsp := spanF_bd D.size a b c
  have hfi : 0 ≤ which * spanF D.size a b c ∧ which * spanF D.size a b c ≤ spanF D.size a b c := by
    have h01 : which = 0 ∨ which = 1 := by omega
    rcases h01 with rfl | rfl
    · rw [Int.zero_mul]; omega
    · rw [Int.one_mul]; omega
  have hspe : spanF D.size a b c = 1 + sectorsF (totalF a b c) D.size := by unfold spanF; rw [if_pos ⟨h1, h4, hok.s2⟩]
  have hsn : 0 ≤ sectorsF (totalF a b c) D.size := (sectorsF_bd _ _ (totalF_bd a b c).1).1
  rw [hs] at HA hfi h4 hspe h5 hsp hsn
  rw [hs] at hlen0 hin0 hdv hde
  generalize hspg : spanF (s : Int) a b c = sp at *
  generalize hfd : which * sp = fd at *
  have hgood := read_good (D := D) (i := fd) hcm.planned (by omega) (by omega)
  have hrd := fun (W : World) p1 p2 q1 q2 hD => rd_calls W B g p1 p2 F D fd 0 q1 q2 hD hok (by omega)
  simp only [Int.add_zero, hgood.1, hgood.2] at hrd
  have HRD := Lib.hid hrd
  generalize hsec : sectR D fd = l0 at *
  have hdc := fun (W : World) bb o cc hl hC hc => decode_calls bb o cc l0 W hl hC hc hin0
  rw [hdv, hde] at hdc
  have HDC := Lib.hid hdc
  have sn : ∀ (m : Mode) (x : Addr) (w : World), (store x Value.nilFunc m).run Tryd.prog w = stored Tryd.prog w x Value.nilFunc m := fun m x w => run_store Tryd.prog w x _ m rfl
  have sf : ∀ (fn : Fn) (u v : Array Value) (m : Mode) (x : Addr) (w : World), (store x (Value.func fn u v) m).run Tryd.prog w = stored Tryd.prog w x (Value.func fn u v) m := fun fn u v m x w => run_store Tryd.prog w x _ m rfl
  have HD := Lib.hid hD
  have HL := Lib.hid hl
  have HCM := Lib.hid hcm
  have HSPE := Lib.hid hspe
  have HLEN0 := Lib.hid hlen0
  have HS32 : Hid (32 ≤ s) := Lib.hid (by omega)
  have hgl : g < w.heap.size := by
    obtain ⟨_, _, _, _, _, hh, _⟩ := hD
    exact blk_lt hh
  have hFg : F g := by obtain ⟨_, _, _, _, _, _, _, _, _, _, h6, _⟩ := hD; exact h6
  clear hlen0 hl hD hok h h1 h2 h3 h4 h5 hcm hfd hspg hspe hs hgood hrd hsec hdc hdv hde
  go_enter Tryd.func15, Tryd.ntmps15
  go_wp2_with fail
  have HX := Lib.hid (Rd2.made w a b c)
  generalize (w.alloc (.cells #[.int .i64 a, .int .i64 b, .int .i64 c] 23)).alloc slC = wX at *
  refine (HA.out _ HX.out.below).mono ?_
  rintro e w1 ⟨p2, rfl, hb1, hp1, hp2, hle⟩
  have HP1 := Lib.hid hp1
  have HP2 := Lib.hid hp2
  have HX1 := Lib.hid (HX.out.step hb1)
  have hx1 : w.heap.size + 1 < wX.heap.size := blk_lt HX.out.b1
  clear hb1 hp1 hp2
  go_wp2_with fail
  generalize hwP : w1.alloc (plC wX.heap.size p2 (sp - 1) s) = wP
  have hPl : wP.heap[w1.heap.size]? = some (plC wX.heap.size p2 (sp - 1) s) := hwP ▸ heap_alloc_new w1 _
  have hBP : Below w1.heap.size w1 wP := hwP ▸ below_alloc (Below.refl _ _) _
  clear hwP
  have hq1 := (hBP.block _ (blk_lt HP1.out)).trans HP1.out
  have hq2 := (hBP.block _ (blk_lt HP2.out)).trans HP2.out
  have HXP := Lib.hid (HX1.out.step hBP)
  have hw1 : wX.heap.size < w1.heap.size := blk_lt HP1.out
  have HQ1 := Lib.hid hq1
  have HQ2 := Lib.hid hq2
  have HPL := Lib.hid hPl
  clear hBP hPl hq1 hq2
  refine (HRD.out wP _ _ HQ1.out HQ2.out (HD.out.below HXP.out.below)).mono ?_
  rintro e w2 ⟨v2, rfl, hR2, hI2, hF2⟩
  have hx2 : Rd3 w w2 g a b c := ⟨(Fr.of_below HXP.out.below _).trans hF2 (fun _ _ h => h), hF2.blk HXP.out.b0 (by omega), hF2.blk HXP.out.b1 (by omega)⟩
  have hpl2 := hF2.blk HPL.out (by omega)
  have hq1 := hF2.blk HQ1.out (by omega)
  have hq2 := hF2.blk HQ2.out (by omega)
  obtain ⟨A2, c2, rfl, hc2, hC2⟩ := Kd.R_reads hR2
  obtain ⟨bb, rfl⟩ := plain_row hR2 (by rw [HLEN0.out]; have := HS32.out; omega)
  have HX2 := Lib.hid hx2
  have HPL2 := Lib.hid hpl2
  have HQ12 := Lib.hid hq1
  have HQ22 := Lib.hid hq2
  have HI2 := Lib.hid hI2
  have HDEC := Lib.hid (HDC.out w2 bb 0 c2 ((HL.out.of_below HXP.out.below).of_kept hF2.kept (by have := (HD.out.bound g hFg).1; omega)) hC2 hc2)
  clear hF2 hx2 hpl2 hq1 hq2 hI2 hR2 hC2 hc2
  go_wp2_with fail
  refine HDEC.out.mono ?_
  rintro e w3 ⟨rfl, hb3⟩
  have HX3 := Lib.hid ((HX2.out.step hb3).step (below_alloc (Below.refl _ _) (.cells #[.int .i64 a, .int .i64 b, .int .i64 x7, .int .i64 hn, .int .u64 q, .int .u32 u] 93)))
  have hb3' := below_via hb3 (below_alloc (Below.refl w3.heap.size w3) (.cells #[.int .i64 a, .int .i64 b, .int .i64 x7, .int .i64 hn, .int .u64 q, .int .u32 u] 93))
  have HI3 := Lib.hid (HI2.out.below hb3')
  have HPL3 := Lib.hid ((hb3'.block _ (blk_lt HPL2.out)).trans HPL2.out)
  have HQ13 := Lib.hid ((hb3'.block _ (blk_lt HQ12.out)).trans HQ12.out)
  have HQ23 := Lib.hid ((hb3'.block _ (blk_lt HQ22.out)).trans HQ22.out)
  clear hb3 hb3'
  obtain ⟨⟨c0, c1, c2⟩, ⟨k0, k1, k2, k3⟩, f0, f1, f2, f3⟩ := HX3.out.cells
  go_wp2_with fail
  obtain ⟨W9, hW9, ⟨l0, l1, l2, l3⟩, hbel, hsz9, hrest⟩ := set4 (.int .i64 1) (.int .i64 0) (.int .u64 0) (.slice none 0 0) ⟨k0, k1, k2, k3⟩
  rw [← hW9]
  clear hW9 k0 k1 k2 k3 f0 f1 f2 f3
  refine bodyPost_ret (v := .tuple #[.agg #[.int .i64 1, .int .i64 0, .int .u64 0, .slice none 0 0], .int .i64 0]) (by simp [results, Tryd.results15, go_sem, l0, l1, l2, l3]) rfl ?_
  have hb9 := hbel (w.heap.size + 1) _ (Below.refl _ _) (Nat.le_refl _)
  exact ⟨rfl, HI3.out.step hb9.size (fun q hq => hb9.block q (by have := (HD.out.bound q hq).2; omega)), rd_fin HX3.out.fr hb9⟩
end Go.Proofs.YtcemageindmbkaaDoor
