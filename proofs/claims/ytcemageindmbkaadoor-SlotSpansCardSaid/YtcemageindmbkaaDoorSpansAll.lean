/- SlotSpans holds: for every size and any chips, a slot's sectors, and both slots', are as many as the document says; and the chapter's example is met. The one listed variable (geo.rows) is tied to the program's text. -/
import Derived.Test.YtcemageindmbkaaDoorSpansAll3
import Derived.Test.YtcemageindmbkaaDoorRows
import Derived.ProofKit
import Derived.LaidMore
import Derived.OpenShut
import Derived.Stop.Joined
import Derived.Lib.LaidTab
import Derived.Lib.SmallJoins
import Derived.Test.YtcemageindmbkaaDoorCards
import Derived.Test.YtcemageindmbkaaDoorTie
import Derived.SevenTiedAt
/- The chapter's example: it is as it must be. -/
namespace Go.Proofs.YtcemageindmbkaaDoor
open Go.RowKit Go.Proofs.YtcemageindmbkaaDoorW.PrintWords
open PSlotBytes

/-- The operation that makes bytes 0. -/
theorem smOp_make {ops : Array Oper} {i : Nat} {o : Oper} {z : Act} {w : World} {K : Act → World → Prop} (d : Option Tmp) (m : Nat) (hm : m ≤ 16777216) (ho : ops[i]? = some o) (hd : o.dst = d) (hg : Region.wanted o (yielded ops z.tmps) = true)
    (hr : ∀ r W, (Instr.makeSlice 27 (.int .i64 (m : Int)) (.int .i64 (m : Int))).run Tryd.prog w = .ok r W → (execOp z.eval o).run Tryd.prog w = .ok (.value r) W)
    (h : ∀ A W, RB W w.heap.size (fun k => w.heap.size ≤ k) (.slice A m m) (List.replicate m 0) → A ≠ none → Abv w W → K (z.put d (.slice A m m)) W) : smOp Tryd.prog ops i K z w := by
  subst hd
  unfold smOp
  simp only [ho, hg, if_true]
  unfold smooth
  rw [hr _ _ (print_make 27 5 .u8 1 Tryd.underlying27 infoB (by decide) m (by omega) w)]
  have h1 := own_made w w.heap.size 5 .u8 m (Nat.le_refl _) (by omega)
  exact ⟨below_alloc (Below.refl _ _) _, h _ _ (RB_of_own (l := List.replicate m 0) (by rw [List.length_replicate]; exact h1)) (by simp) (below_alloc (Below.refl _ _) _)⟩

/-- The example's box of chips, and its disk. -/
structure Aw (w W : World) (g : Nat) (F : Nat → Prop) (D : DiskS) : Prop where
  below : Below w.heap.size w W
  box : W.heap[w.heap.size]? = some (.cells #[.int .i64 0, .int .i64 0, .int .i64 1] 23)
  disk : IsDisk W (w.heap.size + 1) F g D
section
variable {w W W' : World} {g : Nat} {F F' : Nat → Prop} {D D' : DiskS}
theorem Aw.step (h : Aw w W g F D) (hb : Below W.heap.size W W') : Aw w W' g F D := ⟨below_via h.below hb, (hb.block _ (blk_lt h.box)).trans h.box, h.disk.below hb⟩
theorem Aw.turn (h : Aw w W g F D) (hd : IsDisk W' (w.heap.size + 1) F' g D') (hf : Fr W W' F) : Aw w W' g F' D' :=
  ⟨h.below.trans (hf.below h.below.size (fun k hk => by have := (h.disk.bound k hk).1; omega)), hf.blk h.box (fun hk => by have := (h.disk.bound _ hk).1; omega), hd⟩
theorem Aw.cells (h : Aw w W g F D) : W.cell? ⟨w.heap.size, 0, none⟩ = some (.int .i64 0) ∧ W.cell? ⟨w.heap.size, 1, none⟩ = some (.int .i64 0) ∧ W.cell? ⟨w.heap.size, 2, none⟩ = some (.int .i64 1) :=
  ⟨(blk_cell h.box 0).trans rfl, (blk_cell h.box 1).trans rfl, (blk_cell h.box 2).trans rfl⟩
end

/-- The example's disk, and what it is behind Data, and Seal. -/
def aw0 : DiskS := freshD 32 (List.replicate (6 * 32) 0)
def aw1 : DiskS := dataS aw0 (1 * spanF aw0.size 0 0 1) (pieces (padTo (List.replicate 64 0) (2 * 32)) 32 2) 2
def aw2 : DiskS := writeS aw1 (1 * spanF aw0.size 0 0 1) (padTo (encF 0 0 1 (List.replicate 64 (0 : Int)).length 9 (sumF (List.replicate 64 0))) 32)
theorem aw_at : atE aw0 1 0 0 1 = 0 := by decide +kernel
set_option maxRecDepth 100000 in
theorem aw_calm : Calm aw0 300000 := ⟨⟨by decide, by decide, by decide, by decide, by decide, by decide, by decide, fun k l h => by cases h⟩, rfl, by decide, by decide⟩
set_option maxRecDepth 100000 in
theorem aw_sealed : Sealed aw0 1 0 0 1 9 32 2 (List.replicate 64 0) := sealed_of aw_calm rfl aw_at (by decide +kernel) (by decide +kernel)
theorem aw_in : InB (List.replicate 64 (0 : Int)) := fun x hx => by have := List.eq_of_mem_replicate hx; omega
theorem aw_total : totalF 0 0 1 = 64 := by decide +kernel
theorem aw_span : spanF 32 0 0 1 = 3 := by decide +kernel

theorem aw_data (W : World) (B g : Nat) (F : Nat → Prop) (A : Option Addr) (hl : Laid W) (hD : IsDisk W B F g aw0) (hB : B ≤ W.heap.size) (hR : RB W B (fun k => B ≤ k) (.slice A 64 64) (List.replicate 64 0)) :
    Calls Tryd.prog 23 #[.pointer (some ⟨g, 0, none⟩), .int .i64 1, .agg #[.int .i64 0, .int .i64 0, .int .i64 1], .slice A 64 64] W fun e w' => e = .returned (.int .i64 0) ∧ IsDisk w' B (fun k => F k ∨ (W.heap.size ≤ k ∧ k < w'.heap.size)) g aw1 ∧ Fr W w' F := by
  obtain ⟨A', c', hv, hle, hC⟩ := Kd.R_reads hR
  obtain ⟨rfl, rfl⟩ : A = A' ∧ 64 = c' := by injection hv with e1 e2 e3; exact ⟨e1, e3⟩
  refine (data_ok W B g F aw0 1 0 0 1 32 A 64 (List.replicate 64 0) hl hD hB aw_at rfl ⟨aw_calm.ok, aw_calm.planned, by decide, by decide⟩ hC (by decide +kernel)).mono ?_
  rintro e w' ⟨n, rfl, hn, h1, h2⟩
  obtain rfl : n = 2 := by
    have e : sectorsF (List.replicate 64 (0 : Int)).length ((32 : Nat) : Int) = 2 := by decide +kernel
    rw [e] at hn; omega
  exact ⟨rfl, h1, h2⟩
theorem aw_seal (W : World) (B g : Nat) (F : Nat → Prop) (A : Option Addr) (hl : Laid W) (hD : IsDisk W B F g aw1) (hB : B ≤ W.heap.size) (hR : RB W B (fun k => B ≤ k) (.slice A 64 64) (List.replicate 64 0)) :
    Calls Tryd.prog 24 #[.pointer (some ⟨g, 0, none⟩), .int .i64 1, .agg #[.int .i64 0, .int .i64 0, .int .i64 1], .int .u64 9, .slice A 64 64] W fun e w' => e = .returned (.int .i64 0) ∧ IsDisk w' B (fun k => F k ∨ (W.heap.size ≤ k ∧ k < w'.heap.size)) g aw2 ∧ Fr W w' F := by
  obtain ⟨A', c', hv, hle, hC⟩ := Kd.R_reads hR
  obtain ⟨rfl, rfl⟩ : A = A' ∧ 64 = c' := by injection hv with e1 e2 e3; exact ⟨e1, e3⟩
  have S := aw_sealed
  have hsz : aw1.size = aw0.size := S.size1
  have h0 : atE aw1 1 0 0 1 = 0 := (S.at1 1 0 0 1).trans aw_at
  refine (seal_ok W B g F aw1 1 0 0 1 9 32 A 64 (List.replicate 64 0) hl hD S.calm1.ok hB h0 S.size1 hC aw_in (by decide +kernel)).mono ?_
  rintro e w' ⟨rfl, h1, h2⟩
  rw [hsz] at h1 ⊢
  exact ⟨congrArg _ (congrArg _ S.err), h1, h2⟩
theorem aw_read (W : World) (B g : Nat) (F : Nat → Prop) (hl : Laid W) (hD : IsDisk W B F g aw2) (hB0 : 0 < B) :
    Calls Tryd.prog 15 #[.pointer (some ⟨g, 0, none⟩), .int .i64 1, .agg #[.int .i64 0, .int .i64 0, .int .i64 1]] W fun e w' => ∃ A c, e = .returned (.tuple #[.agg #[.int .i64 2, .int .i64 0, .int .u64 9, .slice A 64 c], .int .i64 0]) ∧ Fr W w' (fun k => k = g) := by
  have S := aw_sealed
  have hsz : aw2.size = aw0.size := S.size2
  have h0 : atE aw2 1 0 0 1 = 0 := (S.at2 1 0 0 1).trans aw_at
  have hb := body_of (l := List.replicate 64 (0 : Int)) (s := 32) (n := 2) (by decide) aw_in
  have hh : sectR aw2 (1 * spanF aw2.size 0 0 1) = padTo (encF 0 0 1 (List.replicate 64 (0 : Int)).length 9 (sumF (List.replicate 64 0))) 32 := by rw [hsz]; exact S.head
  have hbd : sectsR aw2 (1 * spanF aw2.size 0 0 1) 2 = pieces (padTo (List.replicate 64 0) (2 * 32)) 32 2 := by rw [hsz]; exact S.body
  have hd := dec_enc 0 0 1 (List.replicate 64 (0 : Int)).length 9 (sumF (List.replicate 64 0)) 32 (by decide) (by decide +kernel) ⟨by decide, by decide⟩ (sumF_bd _) (by decide)
  rw [← hh] at hd
  refine (rd_good W B g F aw2 1 0 0 1 32 2 64 hl hD S.calm2 hB0 h0 S.size2 9 (sumF (List.replicate 64 0)) ?_ ?_ hd.2 hd.1 (by decide +kernel) (by decide +kernel) ?_ ?_).mono ?_
  · rw [hh]; exact pad_len _ _ (by rw [enc_long]; decide)
  · rw [hh]; intro x hx
    unfold padTo encF at hx
    rcases List.mem_append.1 hx with hx | hx
    · rcases List.mem_append.1 hx with hx | hx
      · exact enc24_in _ _ _ _ _ _ x hx
      · exact layF_in _ _ x hx
    · have := List.eq_of_mem_replicate hx; omega
  · rw [hbd]; exact hb.1
  · rw [hbd]; exact congrArg sumF hb.2
  · rintro e w' ⟨A, c, rfl, -, -, -, -, hf⟩
    exact ⟨_, _, rfl, hf⟩

set_option maxRecDepth 100000 in
set_option maxHeartbeats 2000000 in
theorem awake_calls (w : World) (hl : Laid w) :
    Calls Tryd.prog 8 #[] w fun e w' => e = .returned (.bool true) ∧ Below w.heap.size w w' := by
  have HN : Hid _ := Lib.hid (fun (W : World) => (new_yes W 6 32 (by omega) (by omega) (by omega) : Calls Tryd.prog 22 #[.int .i64 6, .int .i64 32] W _))
  have HL := Lib.hid hl
  have hrow : 0 < w.heap.size := World.block_lt_of_cell? w _ (hl 0 (by omega))
  have HSP : Hid _ := Lib.hid (fun (W : World) (hl : Laid W) => span_calls 32 0 0 1 W hl)
  have HRO : Hid _ := Lib.hid (fun (W : World) (hl : Laid W) => room_calls 32 0 0 1 W hl)
  rw [aw_span] at HSP HRO
  clear hl
  go_enter Tryd.func8, Tryd.ntmps8
  go_wp2_with fail
  refine (HN.out _).mono ?_
  rintro e w1 ⟨g, rfl, hD, hb1⟩
  have HA : Hid (Aw w w1 g _ aw0) := Lib.hid ⟨below_via (below_alloc (Below.refl _ _) _) hb1, (hb1.block _ (blk_lt (heap_alloc_new w _))).trans (heap_alloc_new w _), by rw [World.size_alloc] at hD; exact hD⟩
  clear hD hb1
  obtain ⟨k0, k1, k2⟩ := HA.out.cells
  go_wp2_with fail
  refine wp_region_float 3 63 rfl (by kernel_rfl) (by kernel_rfl) ?z (fun wa hwa => ?_) (fun w7 hw7 => ?_)
  case refine_1 =>
    simp only [List.take_succ_cons, List.take_zero, Nat.reduceSub]
    have r0 := fun n : BT wa => BT.cell (pw_cell_below hwa k0) n
    have r1 := fun n : BT wa => BT.cell (pw_cell_below hwa k1) n
    have r2 := fun n : BT wa => BT.cell (pw_cell_below hwa k2) n
    repeat (go_big_quiet_step (fail))
    refine wpQuiet_nil ?_
    exact Eq.refl _
  refine smOp_make (some 21) 64 (by omega) rfl rfl rfl (fun r W h => by have h' : (Instr.makeSlice 27 (Value.int IntKind.i64 64) (Value.int IntKind.i64 64)).run Tryd.prog w7 = .ok r W := h; simp only [go_sem, execOp]; simp [h']) ?_
  intro A8 W8 hR8 hnA hb8
  intro w3 hw3
  have HA3 := Lib.hid (HA.out.step (below_via (below_via hw7 hb8) hw3))
  have hwg : w.heap.size + 1 ≤ w7.heap.size := Nat.le_trans (blk_lt HA.out.box) (show Below _ _ _ from hw7).size
  have HR3 := Lib.hid (Kd.R_mono (Kd.R_lower (Kd.R_below hR8 hw3) hwg) (ok' := fun k => w.heap.size + 1 ≤ k) (fun k hk => Nat.le_trans hwg hk))
  clear k0 k1 k2 hR8 hw7 hb8 hw3 hnA hwg
  simp only [List.drop_succ_cons, List.drop_zero, Act.put]
  go_wp2_with fail
  refine (aw_data w3 (w.heap.size + 1) g _ A8 (HL.out.of_below HA3.out.below) HA3.out.disk (blk_lt HA3.out.box) HR3.out).mono ?_
  rintro e w4 ⟨rfl, hD4, hF4⟩
  have HA4 := Lib.hid (HA3.out.turn hD4 hF4)
  obtain ⟨k0, k1, k2⟩ := HA4.out.cells
  clear hD4 hF4 HR3 HA HA3
  go_wp2_with fail
  refine wp_region_float 3 63 rfl (by kernel_rfl) (by kernel_rfl) ?z2 (fun wa hwa => ?_) (fun w7 hw7 => ?_)
  case refine_1 =>
    simp only [List.take_succ_cons, List.take_zero, Nat.reduceSub]
    have r0 := fun n : BT wa => BT.cell (pw_cell_below hwa k0) n
    have r1 := fun n : BT wa => BT.cell (pw_cell_below hwa k1) n
    have r2 := fun n : BT wa => BT.cell (pw_cell_below hwa k2) n
    repeat (go_big_quiet_step (fail))
    refine wpQuiet_nil ?_
    exact Eq.refl _
  refine smOp_make (some 25) 64 (by omega) rfl rfl rfl (fun r W h => by have h' : (Instr.makeSlice 27 (Value.int IntKind.i64 64) (Value.int IntKind.i64 64)).run Tryd.prog w7 = .ok r W := h; simp only [go_sem, execOp]; simp [h']) ?_
  intro A9 W9 hR9 hnA hb9
  intro w5 hw5
  have HA5 := Lib.hid (HA4.out.step (below_via (below_via hw7 hb9) hw5))
  have hwg : w.heap.size + 1 ≤ w7.heap.size := Nat.le_trans (blk_lt HA4.out.box) (show Below _ _ _ from hw7).size
  have HR5 := Lib.hid (Kd.R_mono (Kd.R_lower (Kd.R_below hR9 hw5) hwg) (ok' := fun k => w.heap.size + 1 ≤ k) (fun k hk => Nat.le_trans hwg hk))
  clear k0 k1 k2 hR9 hw7 hb9 hw5 hnA hwg
  simp only [List.drop_succ_cons, List.drop_zero, Act.put]
  go_wp2_with fail
  refine (aw_seal w5 (w.heap.size + 1) g _ A9 (HL.out.of_below HA5.out.below) HA5.out.disk (blk_lt HA5.out.box) HR5.out).mono ?_
  rintro e w6 ⟨rfl, hD6, hF6⟩
  have HA6 := Lib.hid (HA5.out.turn hD6 hF6)
  obtain ⟨k0, k1, k2⟩ := HA6.out.cells
  clear hD6 hF6 HR5 HA5 HA4
  go_wp2_with fail
  refine (aw_read w6 (w.heap.size + 1) g _ (HL.out.of_below HA6.out.below) HA6.out.disk (by omega)).mono ?_
  rintro e w7 ⟨A7, c7, rfl, hF7⟩
  have hg7 : g ≠ w.heap.size := fun e => by
    obtain ⟨_, _, _, _, _, _, _, _, _, _, h6, _⟩ := HA6.out.disk
    have := (HA6.out.disk.bound g h6).1; omega
  have hb7 : Below w.heap.size w w7 := HA6.out.below.trans (hF7.below HA6.out.below.size (fun k hk => by
    obtain ⟨_, _, _, _, _, _, _, _, _, _, h6, _⟩ := HA6.out.disk
    have := (HA6.out.disk.bound g h6).1; omega))
  have hx7 := hF7.blk HA6.out.box (by omega)
  have HX7 := Lib.hid hx7
  have k0 := (blk_cell hx7 0).trans rfl
  have k1 := (blk_cell hx7 1).trans rfl
  have k2 := (blk_cell hx7 2).trans rfl
  have HB7 := Lib.hid hb7
  have HL7 := Lib.hid (HL.out.of_below hb7)
  have hlt7 := blk_lt hx7
  clear hF7 hb7 hx7 HA6 hg7
  go_wp2_with fail
  have hb8 : Below w7.heap.size w7 (w7.alloc (.cells #[.int .i64 2, .int .i64 0, .int .u64 9, .slice A7 64 c7] 37)) := below_alloc (Below.refl _ _) _
  have hbw := below_via HB7.out hb8
  have hx8 := (hb8.block _ (blk_lt HX7.out)).trans HX7.out
  have hy8 := heap_alloc_new w7 (.cells #[.int .i64 2, .int .i64 0, .int .u64 9, .slice A7 64 c7] 37)
  generalize (w7.alloc (.cells #[.int .i64 2, .int .i64 0, .int .u64 9, .slice A7 64 c7] 37)) = w8 at *
  refine (HSP.out _ (HL.out.of_below hbw)).mono ?_
  rintro e w9 ⟨rfl, hb9⟩
  have HB9 := Lib.hid (below_via hbw hb9)
  have hx9 := (hb9.block _ (blk_lt hx8)).trans hx8
  have k0 := (blk_cell hx9 0).trans rfl
  have k1 := (blk_cell hx9 1).trans rfl
  have k2 := (blk_cell hx9 2).trans rfl
  clear hx8 hy8 hb9 hbw hb8 hx9
  go_wp2_with fail
  refine (HRO.out _ (HL.out.of_below HB9.out)).mono ?_
  rintro e w10 ⟨rfl, hb10⟩
  have HB10 := Lib.hid (below_via HB9.out hb10)
  clear hb10 HB9
  go_wp2_with fail
  go_ret
  exact ⟨rfl, HB10.out⟩
end Go.Proofs.YtcemageindmbkaaDoor
/- The references' Right, Total, Sectors, Span, Few: what they return is what the program's return. -/
namespace Go.Proofs.YtcemageindmbkaaDoor
open Go.RowKit Go.Proofs.YtcemageindmbkaaDoorW.PrintWords
open PSlotBytes

theorem refRight_eq (a b c : Int) : keepsakeref03_Right.f a b c = some (rightF a b c) := by
  unfold keepsakeref03_Right.f rightF
  by_cases h1 : 0 ≤ a <;> by_cases h2 : a ≤ 10 <;> by_cases h3 : 0 ≤ b <;> by_cases h4 : b ≤ 64 <;> by_cases h5 : 0 ≤ c <;> by_cases h6 : c ≤ 128 <;> simp [h1, h2, h3, h4, h5, h6]
theorem refEeprom_eq (a : Int) : keepsakeref03_Eeprom.f a = some (powF a 0) := by
  unfold keepsakeref03_Eeprom.f keepsakeref03_at.f
  by_cases h : 1 ≤ a ∧ a ≤ 10
  · have hh : ∀ n : Nat, n < 10 → ((if ((n : Int) + 1) < 1 then (some 0) else (if ((n : Int) + 1) > 10 then (some 0) else (if 0 ≤ (wrap64 (((n : Int) + 1) - 1)) then (if (wrap64 (((n : Int) + 1) - 1)) < (([128, 256, 512, 1024, 2048, 4096, 8192, 16384, 32768, 65536] : List Int).length : Int) then (some (rd ([128, 256, 512, 1024, 2048, 4096, 8192, 16384, 32768, 65536] : List Int) (wrap64 (((n : Int) + 1) - 1)))) else (none)) else (none)))).bind fun t143 => (some t143)) = some (powF ((n : Int) + 1) 0) := by decide +kernel
    obtain ⟨n, hn⟩ := Int.eq_ofNat_of_zero_le (show 0 ≤ a - 1 by omega)
    obtain rfl : a = (n : Int) + 1 := by omega
    exact hh n (by omega)
  · have : powF a 0 = 0 := by unfold powF; rw [if_neg h]
    rw [this]
    by_cases h1 : a < 1
    · rw [if_pos h1]; rfl
    · rw [if_neg h1, if_pos (by omega)]; rfl
theorem refTotal_eq (a b c : Int) : keepsakeref03_Total.f a b c = some (totalF a b c) := by
  unfold keepsakeref03_Total.f
  rw [refRight_eq]
  unfold totalF
  have h1 := powF_bd a
  have h2 := flashF_bd b
  have h3 := sramF_bd c
  rcases hr : rightF a b c with _ | _
  · rfl
  · have hr' : 0 ≤ a ∧ a ≤ 10 ∧ 0 ≤ b ∧ b ≤ 64 ∧ 0 ≤ c ∧ c ≤ 128 := by simpa [rightF] using hr
    have e1 : keepsakeref03_Flash.f b = some (flashF b) := by
      unfold keepsakeref03_Flash.f flashF; rw [if_neg (by omega), if_neg (by omega), if_pos (by omega)]; unfold wrap64; congr 1; omega
    have e2 : keepsakeref03_Sram.f c = some (sramF c) := by
      unfold keepsakeref03_Sram.f sramF; rw [if_neg (by omega), if_neg (by omega), if_pos (by omega)]; unfold wrap64; congr 1; omega
    simp only [Option.bind_some, if_true, refEeprom_eq, e1, e2]
    unfold wrap64; congr 1; omega
theorem refFew_eq (a b c : Int) : keepsakeref06_Few.f a b c = some (!rightF a b c || decide (totalF a b c ≤ 500)) := by
  unfold keepsakeref06_Few.f
  rw [refRight_eq, refTotal_eq]
  rcases hr : rightF a b c with _ | _ <;> simp
theorem refSectors_eq (many size : Int) (h0 : 0 ≤ many) (h1 : many ≤ 1000000000) : keepsakeref05_Sectors.f 1 many size = some (sectorsF many size) := by
  unfold keepsakeref05_Sectors.f sectorsF
  rw [keepsakeref05_Sectors.j0, keepsakeref05_Sectors.j0]
  by_cases hs : size < 1
  · rw [if_pos hs, if_pos (Or.inr (Or.inl hs))]; rfl
  · by_cases hs2 : size > 4096
    · rw [if_neg hs, if_pos hs2, if_pos (Or.inr (Or.inr hs2))]; rfl
    · rw [if_neg hs, if_neg hs2]
      by_cases hm : many < 1
      · rw [if_pos (show decide (many < 1) = true by simpa using hm), if_pos (Or.inl hm)]
      · rw [if_neg (show ¬ decide (many < 1) = true by simpa using hm), if_neg (show ¬ size = 0 by omega), if_neg (show ¬ (many < 1 ∨ size < 1 ∨ 4096 < size) by omega)]
        obtain ⟨m, rfl⟩ := Int.eq_ofNat_of_zero_le h0
        obtain ⟨s, rfl⟩ := Int.eq_ofNat_of_zero_le (show 0 ≤ size by omega)
        rw [Int.tmod_eq_emod_of_nonneg (by omega), Int.tdiv_eq_ediv_of_nonneg (by omega)]
        have hd : (m : Int) / (s : Int) = ((m / s : Nat) : Int) := by simp
        have hmo : (m : Int) % (s : Int) = ((m % s : Nat) : Int) := by simp
        have hd2 : ((m : Int) - 1) / (s : Int) = (((m - 1) / s : Nat) : Int) := by
          rw [show ((m : Int) - 1) = ((m - 1 : Nat) : Int) by omega]; simp
        rw [hd, hmo, hd2]
        have hle : m / s ≤ m := Nat.div_le_self _ _
        have hs0 : 0 < s := by omega
        have hkey : (m - 1) / s + 1 = m / s + (if m % s > 0 then 1 else 0) := by
          have e := Nat.div_add_mod m s
          have hlt := Nat.mod_lt m hs0
          by_cases hz : m % s = 0
          · rw [if_neg (by omega)]
            have hq : 1 ≤ m / s := by
              rcases Nat.eq_zero_or_pos (m / s) with h | h
              · rw [h] at e; simp at e; omega
              · exact h
            have : (m - 1) / s = m / s - 1 := by
              rw [Nat.div_eq_iff hs0]
              obtain ⟨q, hq2⟩ : ∃ q, m / s = q + 1 := ⟨m / s - 1, by omega⟩
              rw [hq2] at e ⊢
              rw [Nat.mul_add] at e
              have e3 : q * s = s * q := Nat.mul_comm _ _
              have e4 : (q + 1 - 1) * s = s * q := by rw [Nat.add_sub_cancel, e3]
              rw [e4]
              omega
            omega
          · rw [if_pos (by omega)]
            have : (m - 1) / s = m / s := by
              rw [Nat.div_eq_iff hs0]
              have e3 : m / s * s = s * (m / s) := Nat.mul_comm _ _
              rw [e3]; omega
            omega
        generalize m / s = q1 at *
        generalize (m - 1) / s = q2 at *
        by_cases hz : m % s > 0
        · rw [if_pos (show ((m % s : Nat) : Int) > 0 by omega)]; unfold wrap64; rw [if_pos hz] at hkey; refine congrArg some ?_; omega
        · rw [if_neg (show ¬ ((m % s : Nat) : Int) > 0 by omega)]; unfold wrap64; rw [if_neg hz] at hkey; refine congrArg some ?_; omega
theorem refSpan_eq (s a b c : Int) : keepsakeref06_Span.f 2 s a b c = some (spanF s a b c) := by
  have ht := totalF_bd a b c
  have hb := sectorsF_bd (totalF a b c) s (by omega)
  unfold keepsakeref06_Span.f spanF
  rw [keepsakeref06_Span.j0, keepsakeref06_Span.j0]
  rw [refRight_eq, refTotal_eq]
  simp only [Option.bind_some]
  rw [refSectors_eq _ _ (by omega) (by omega)]
  rcases hr : rightF a b c with _ | _
  · rw [if_neg (by simp), if_pos trivial, if_neg (by simp)]
  · rw [if_pos rfl]
    by_cases h1 : s < 32
    · rw [if_pos h1, if_pos trivial, if_neg (by omega)]
    · rw [if_neg h1]
      by_cases h2 : s > 4096
      · rw [if_pos (by simpa using h2), if_neg (by omega)]
      · rw [if_neg (by simpa using h2), if_pos (by exact ⟨rfl, by omega, by omega⟩)]
        simp only [Option.bind_some]
        unfold wrap64; congr 1; omega

set_option maxRecDepth 100000 in
theorem refRight_calls (a b c : Int) (w : World) : Calls Tryd.prog 20 #[.agg #[.int .i64 a, .int .i64 b, .int .i64 c]] w fun e w' => e = .returned (.bool (rightF a b c)) ∧ Below w.heap.size w w' := keepsakeref03_Right.calls a b c _ w (refRight_eq a b c)
set_option maxRecDepth 100000 in
theorem refTotal_calls (a b c : Int) (w : World) : Calls Tryd.prog 21 #[.agg #[.int .i64 a, .int .i64 b, .int .i64 c]] w fun e w' => e = .returned (.int .i64 (totalF a b c)) ∧ Below w.heap.size w w' := keepsakeref03_Total.calls a b c _ w (refTotal_eq a b c)
set_option maxRecDepth 100000 in
theorem refFew_calls (a b c : Int) (w : World) : Calls Tryd.prog 12 #[.agg #[.int .i64 a, .int .i64 b, .int .i64 c]] w fun e w' => e = .returned (.bool (!rightF a b c || decide (totalF a b c ≤ 500))) ∧ Below w.heap.size w w' := keepsakeref06_Few.calls a b c _ w (refFew_eq a b c)
set_option maxRecDepth 100000 in
theorem refSpan_calls (s a b c : Int) (w : World) : Calls Tryd.prog 10 #[.int .i64 s, .agg #[.int .i64 a, .int .i64 b, .int .i64 c]] w fun e w' => e = .returned (.int .i64 (spanF s a b c)) ∧ Below w.heap.size w w' := keepsakeref06_Span.calls 2 s a b c _ w (refSpan_eq s a b c)
end Go.Proofs.YtcemageindmbkaaDoor
/- SlotSpans: what it returns. -/
namespace Go.Proofs.YtcemageindmbkaaDoor
open Go.RowKit Go.Proofs.YtcemageindmbkaaDoorW.PrintWords
open PSlotBytes

set_option maxRecDepth 100000 in
set_option maxHeartbeats 2000000 in
theorem spans_calls (s a b c : Int) (w : World) (hl : Laid w) :
    Calls Tryd.prog 3 #[.int .i64 s, .agg #[.int .i64 a, .int .i64 b, .int .i64 c]] w fun e w' => e = .returned (.bool true) ∧ Below w.heap.size w w' := by
  have HL := Lib.hid hl
  have HA := Lib.hid (fun (W : World) (hl : Laid W) => awake_calls W hl)
  have HS := Lib.hid (fun (W : World) (hl : Laid W) => span_calls s a b c W hl)
  have HR := Lib.hid (fun (W : World) (hl : Laid W) => room_calls s a b c W hl)
  have HF := Lib.hid (fun (W : World) => refSpan_calls s a b c W)
  have hb := spanF_bd s a b c
  generalize spanF s a b c = sp at *
  have e1 : wrap64 (2 * sp) = 2 * sp := by unfold wrap64; omega
  clear hl
  go_enter Tryd.func3, Tryd.ntmps3
  go_wp2_with fail
  have e0 : (w.alloc (.cells #[.int .i64 a, .int .i64 b, .int .i64 c] 23)).heap[w.heap.size]? = _ := heap_alloc_new w _
  have hb0 : Below w.heap.size w (w.alloc (.cells #[.int .i64 a, .int .i64 b, .int .i64 c] 23)) := (below_alloc (Below.refl _ _) _)
  generalize (w.alloc (.cells #[.int .i64 a, .int .i64 b, .int .i64 c] 23)) = w0 at *
  refine (HA.out _ (HL.out.of_below hb0)).mono ?_
  rintro e w1 ⟨rfl, hb1⟩
  have HB1 := Lib.hid (below_via hb0 hb1)
  have hx1 := (hb1.block _ (blk_lt e0)).trans e0
  have k0 := (blk_cell hx1 0).trans rfl
  have k1 := (blk_cell hx1 1).trans rfl
  have k2 := (blk_cell hx1 2).trans rfl
  have c0 := fun n : BT w1 => BT.cell k0 n
  have c1 := fun n : BT w1 => BT.cell k1 n
  have c2 := fun n : BT w1 => BT.cell k2 n
  clear e0 hb0 hb1 hx1
  go_wp2_with fail
  refine wp_region_below (by kernel_rfl) (by kernel_rfl) ?_
  repeat (go_big_quiet_step (first | (go_at_call 9; exact Calls.below_of (HS.out _ (HL.out.of_below (below_via HB1.out (CT.ok _))))) | (go_at_call 10; exact Calls.below_of (HF.out _)) | (go_at_call 11; exact Calls.below_of (HR.out _ (HL.out.of_below (below_via HB1.out (CT.ok _)))))))
  refine wpQuiet_nil ?_
  intro W5 hW5
  obtain ⟨⟨w5, hb5⟩, rfl⟩ := hW5
  go_wp2_with fail
  go_ret
  exact ⟨rfl, below_via HB1.out hb5⟩
end Go.Proofs.YtcemageindmbkaaDoor
/- What the rows' condition gives the walks: the table geo.rows lies as laid; and a world that meets it. -/
namespace Go.Proofs.YtcemageindmbkaaDoor
open Go.ChangeShapes Go.WideShapes Go.ChangeAt Go.RowKit

theorem own : ownKnob Tryd.prog.godebug = none := by kernel_rfl
theorem laidOut : laidOutB Tryd.prog = true := by kernel_rfl
theorem gRows : Tryd.prog.globalNamed "keepsake/geo.rows" = some 0 := by kernel_rfl
theorem tRows : (Tryd.prog.globals[0]?).map (·.type) = some 160 := by kernel_rfl
theorem cRows : Tryd.prog.cellsOf 160 = 44 := by kernel_rfl
theorem cRow : Tryd.prog.cellsOf 151 = 4 := by kernel_rfl
theorem cInt : Tryd.prog.cellsOf 3 = 1 := by kernel_rfl
abbrev laidL : List (String × DataW Unit) := [("keepsake/geo.rows", Rows.laid_keepsake_geo_rows)]

theorem datum {H : Type} : (Rows.laid_keepsake_geo_rows : DataW H) = .agg ((List.range 11).map fun i => Lib.tabData .i64 ((tab.drop (i * 4)).take 4)) := rfl

theorem laid_of {W : World} (h : laidMetH Tryd.prog laidL W) : Laid W := by
  rw [MakeChecks.laidMetH_plain _ _ _ (by kernel_rfl)] at h
  obtain ⟨ps, ⟨g', t', cs, fuel, p, q, hg', ht', hvar, hd, -, -⟩, -⟩ := h
  obtain rfl := Option.some.inj (gRows.symm.trans hg')
  obtain rfl := Option.some.inj (tRows.symm.trans ht')
  obtain ⟨xs, m, rfl, hx, hlen, hn, hel⟩ := DataW.trod_array Tryd.underlying160 hd
  rw [datum] at hx
  simp only [Prod.mk.injEq, DataW.agg.injEq] at hx
  rw [cRow] at hel
  intro j hj
  have hc := World.var?_cell hg' hvar j
  rw [hc]
  have hi : j / 4 < 11 := by omega
  have h1 := hel (j / 4) hi
  have h2 : (xs.map (·.1))[j / 4]? = some (Lib.tabData .i64 ((tab.drop (j / 4 * 4)).take 4)) := by rw [← hx.1]; simp [hi]
  rw [List.getElem?_map] at h2
  obtain ⟨y, hy, hy2⟩ := Option.map_eq_some_iff.1 h2
  rw [hy] at h1
  have h3 := Lib.cells_of_tab (p := y.2) Tryd.underlying151 Tryd.underlying3 cInt cRow (h1.trans (congrArg some (Prod.ext hy2 rfl)))
  have h4 : ((cs.toList.drop (j / 4 * 4)).take 4)[j % 4]? = cs.toList[j]? := by
    rw [List.getElem?_take, if_pos (by omega), List.getElem?_drop, show j / 4 * 4 + j % 4 = j by omega]
  have h5 : (((tab.drop (j / 4 * 4)).take 4).map fun z => Value.int .i64 z)[j % 4]? = some (.int .i64 (tab.getD j 0)) := by
    have : j < tab.length := hj
    rw [List.getElem?_map, List.getElem?_take, if_pos (by omega), List.getElem?_drop, show j / 4 * 4 + j % 4 = j by omega, List.getElem?_eq_getElem this, List.getD_eq_getElem?_getD, List.getElem?_eq_getElem this]
    rfl
  rw [h3, h5] at h4
  simpa using h4.symm

/-- The door's own heap meets the condition. -/
theorem door_met (os : Os) (args : Array Value) : laidMetH Tryd.prog laidL ((World.doorLaid Tryd.prog 25 os).forCall (fun _ _ => 0) ⟨#[], args, []⟩).memory :=
  laidMetH_of_parts3 (fuel := 8) (laidMet_of_run' 8 (by kernel_rfl) (by kernel_rfl)) (by kernel_rfl) (by kernel_rfl)
end Go.Proofs.YtcemageindmbkaaDoor
namespace Go.Proofs.YtcemageindmbkaaDoor
open Go.ChangeShapes Go.WideShapes Go.ChangeAt Go.RowKit

set_option maxRecDepth 100000 in
theorem spans_lifted (os : Os) (started : os.Started) (H : Type) (enc : TypeId × Value → H) :
    ReturnsInHanded {} Tryd.checked os 3 .any (fun w args => (Rows.slotSpansSpec.pre enc Tryd.prog Tryd.f3 [] false w args ∧ laidMetH Tryd.prog laidL w) ∧ sizedMet enc Tryd.prog Tryd.f3 (OpenSpec.ofChange Rows.slotSpansSpec) false w args)
      (Rows.slotSpansSpec.post enc Tryd.prog Tryd.f3 false true false false) := by
  refine returnsInHanded_of_change_and (C := Tryd.checked) (X := fun w _ => laidMetH Tryd.prog laidL w) (fun _ _ _ hh h => h.of_heap hh) own started (by kernel_rfl) Tryd.func3
    (ChangeSpec.witness_shaped (enc := enc) (C := Tryd.checked) (os := os) (X := fun w _ => laidMetH Tryd.prog laidL w) false (World.doorLaid Tryd.prog 25 os) #[.int .i64 0, .agg #[.int .i64 0, .int .i64 0, .int .i64 0]] 8 rfl (World.shaped_of_RefB (by kernel_rfl) (by kernel_rfl)) (by kernel_rfl) (by kernel_rfl) (by kernel_rfl) (door_met os _)) ?_
  intro W base args ds gs before hval0 hW _ _ hL _
  have hval : ∀ (j : Nat) t v, Tryd.f3.params[j]? = some t → args[j]? = some v → Value.okWide Tryd.prog W .any base t v := hval0
  have hW' := hW
  obtain ⟨p, q, hA0, hV, rfl, hfz, hnd⟩ := hW
  have hA : DataW.TrodAll enc Tryd.prog W 0 (fun _ => true) true Tryd.f3.params.toList args.toList ds p := hA0
  rw [Tryd.params3] at hA hval
  obtain ⟨v0, v1, d0, d1, p0, p1, rfl, rfl, rfl, h0, h1⟩ := trodAll_two hA
  obtain ⟨rfl, rfl⟩ := trodVars_none hV
  obtain ⟨s, rfl, rfl, rfl, ws⟩ := open_int Tryd.underlying3 (hval 0 3 v0 rfl rfl) h0
  have k1 := h1
  obtain ⟨x0, x1, x2, y0, y1, y2, n, rfl, -, -, g0, g1, g2⟩ := Joins.open_agg3 Tryd.underlying23 (by kernel_rfl) (by kernel_rfl) (hval 1 23 v1 rfl rfl) h1
  obtain ⟨a, e1, -, -⟩ := DataW.trod_int Tryd.underlying3 g0
  obtain ⟨b, e2, -, -⟩ := DataW.trod_int Tryd.underlying3 g1
  obtain ⟨c, e3, -, -⟩ := DataW.trod_int Tryd.underlying3 g2
  simp only [List.cons.injEq, and_true] at e1 e2 e3
  subst e1; subst e2; subst e3
  have lt1 : ∀ x ∈ p1, x.block < W.heap.size := by obtain ⟨m, hm⟩ := k1; exact DataW.trod_lt m _ _ _ hm
  clear hA0 hval0
  simp only [List.append_nil] at hW'
  refine (spans_calls s a b c W (laid_of hL)).mono fun e W' ⟨he, bel⟩ => ?_
  subst he
  exact ⟨_, rfl, _, _, _, [], _, [], hW', trodAll_mk1 (shut_bool Tryd.underlying4 _), trodAll_mk2 (shut_int Tryd.underlying3 ws) (Below.trod laidOut (by kernel_rfl) (of_decide_eq_true (by kernel_rfl)) k1 bel lt1), rfl, bel.frame _, fun h => by cases h⟩

theorem spans_row : Rows.SlotSpansSaid :=
  OpenClaim.holds_of_wide 3 Tryd.f3 rfl rfl rfl rfl rfl rfl rfl ⟨rfl, rfl, rfl, rfl, rfl⟩ rfl rfl rfl rfl rfl (by kernel_rfl) Tryd.func3 (by kernel_rfl)
    (of_decide_eq_true (by kernel_rfl)) (by unfold Func.isWrapper; first | (rw [if_pos (by decide +kernel)]; kernel_rfl) | (rw [if_neg (by decide +kernel)]; exact ⟨rfl, rfl⟩))
    (fun os started H enc _ => spans_lifted os started H enc)
theorem slotSpans_holds : Rows.SlotSpansCardSaid :=
  Claim7.holds_tied_plain_at .later [] [.data] true (true, "4726cab8438cce3db2bb13aeedb02c700030f2d6115c4540c3c86b96834fbcc4") false
    spans_row (fun _ h => by cases h) (by kernel_rfl) (fun _ h => by cases h) slotSpans_row_tie rfl ⟨rfl, rfl⟩ (by kernel_rfl) rfl
    (fun f fn hf hfn => by
      obtain rfl : f = 3 := Option.some.inj ((show Tryd.prog.funcNamed "keepsake/keepsakelaw06.SlotSpans" = some 3 by kernel_rfl).symm.trans hf) |>.symm
      obtain rfl : fn = Tryd.f3 := (Option.some.inj (Tryd.func3.symm.trans hfn)).symm
      exact ⟨by kernel_rfl, fun j t ht => by
        rw [Tryd.params3] at ht
        have hm : t ∈ [3, 23] := by simpa using Array.mem_of_getElem? ht
        have hall : ([3, 23].all fun u => !Tryd.prog.wantsStandIn u) = true := by kernel_rfl
        exact (show Tryd.prog.wantsStandIn t = false by simpa using List.all_eq_true.1 hall t hm)⟩)
    (by kernel_rfl)
#print axioms slotSpans_holds
end Go.Proofs.YtcemageindmbkaaDoor
