/- SlotStranger holds: for any two kinds of chips, any size byte and any bytes, a slot that was laid and sealed for the one kind of chips is told to be another one's when it is read for the other kind, and good when read for its own; of chips that can't be nothing is done. The one listed variable (geo.rows) is tied to the program's text. -/
import Derived.Test.YtcemageindmbkaaDoorStrangerAll3
import Derived.Test.YtcemageindmbkaaDoorRows
import Derived.ProofKit
import Derived.LaidMore
import Derived.OpenShut
import Derived.Stop.Joined
import Derived.Lib.LaidTab
import Derived.Lib.SmallJoins
import Derived.WalkKit
import Derived.Test.YtcemageindmbkaaDoorCards
import Derived.Test.YtcemageindmbkaaDoorTie
import Derived.SevenTiedAt
/- The chapter's example: it is as it must be. -/
namespace Go.Proofs.YtcemageindmbkaaDoor
open Go.RowKit Go.Proofs.YtcemageindmbkaaDoorW.PrintWords
open PSlotBytes

/-- The operation that makes bytes 0. -/
theorem smOp_make {ops : Array Oper} {i : Nat} {o : Oper} {z : Act} {w : World} {K : Act → World → Prop} (d : Option Tmp) (m : Nat) (hm : m ≤ 16777216) (ho : ops[i]? = some o) (hd : o.dst = d) (hg : Region.wanted o (yielded ops z.tmps) = true)
    (hr : ∀ r W, (Instr.makeSlice 27 (.int .i64 (m : Int)) (.int .i64 (m : Int))).run Tryd.prog w = .ok r W → (execOp z.eval o).run Tryd.prog w = .ok (.value r) W)
    (h : ∀ A W, RB W w.heap.size (fun k => w.heap.size ≤ k) (.slice A m m) (List.replicate m 0) → A ≠ none → Abv w W → K (z.put d (.slice A m m)) W) : smOp Tryd.prog ops i K z w := by
  subst hd
  unfold smOp
  simp only [ho, hg, if_true]
  unfold smooth
  rw [hr _ _ (print_make 27 5 .u8 1 Tryd.underlying27 infoB (by decide) m (by omega) w)]
  have h1 := own_made w w.heap.size 5 .u8 m (Nat.le_refl _) (by omega)
  exact ⟨below_alloc (Below.refl _ _) _, h _ _ (RB_of_own (l := List.replicate m 0) (by rw [List.length_replicate]; exact h1)) (by simp) (below_alloc (Below.refl _ _) _)⟩

/-- The example's box of chips, and its disk. -/
structure Aw (w W : World) (g : Nat) (F : Nat → Prop) (D : DiskS) : Prop where
  below : Below w.heap.size w W
  box : W.heap[w.heap.size]? = some (.cells #[.int .i64 0, .int .i64 0, .int .i64 1] 23)
  disk : IsDisk W (w.heap.size + 1) F g D
section
variable {w W W' : World} {g : Nat} {F F' : Nat → Prop} {D D' : DiskS}
theorem Aw.step (h : Aw w W g F D) (hb : Below W.heap.size W W') : Aw w W' g F D := ⟨below_via h.below hb, (hb.block _ (blk_lt h.box)).trans h.box, h.disk.below hb⟩
theorem Aw.turn (h : Aw w W g F D) (hd : IsDisk W' (w.heap.size + 1) F' g D') (hf : Fr W W' F) : Aw w W' g F' D' :=
  ⟨h.below.trans (hf.below h.below.size (fun k hk => by have := (h.disk.bound k hk).1; omega)), hf.blk h.box (fun hk => by have := (h.disk.bound _ hk).1; omega), hd⟩
theorem Aw.cells (h : Aw w W g F D) : W.cell? ⟨w.heap.size, 0, none⟩ = some (.int .i64 0) ∧ W.cell? ⟨w.heap.size, 1, none⟩ = some (.int .i64 0) ∧ W.cell? ⟨w.heap.size, 2, none⟩ = some (.int .i64 1) :=
  ⟨(blk_cell h.box 0).trans rfl, (blk_cell h.box 1).trans rfl, (blk_cell h.box 2).trans rfl⟩
end

/-- The example's disk, and what it is behind Data, and Seal. -/
def aw0 : DiskS := freshD 32 (List.replicate (6 * 32) 0)
def aw1 : DiskS := dataS aw0 (1 * spanF aw0.size 0 0 1) (pieces (padTo (List.replicate 64 0) (2 * 32)) 32 2) 2
def aw2 : DiskS := writeS aw1 (1 * spanF aw0.size 0 0 1) (padTo (encF 0 0 1 (List.replicate 64 (0 : Int)).length 9 (sumF (List.replicate 64 0))) 32)
theorem aw_at : atE aw0 1 0 0 1 = 0 := by decide +kernel
set_option maxRecDepth 100000 in
theorem aw_calm : Calm aw0 300000 := ⟨⟨by decide, by decide, by decide, by decide, by decide, by decide, by decide, fun k l h => by cases h⟩, rfl, by decide, by decide⟩
set_option maxRecDepth 100000 in
theorem aw_sealed : Sealed aw0 1 0 0 1 9 32 2 (List.replicate 64 0) := sealed_of aw_calm rfl aw_at (by decide +kernel) (by decide +kernel)
theorem aw_in : InB (List.replicate 64 (0 : Int)) := fun x hx => by have := List.eq_of_mem_replicate hx; omega
theorem aw_total : totalF 0 0 1 = 64 := by decide +kernel
theorem aw_span : spanF 32 0 0 1 = 3 := by decide +kernel

theorem aw_data (W : World) (B g : Nat) (F : Nat → Prop) (A : Option Addr) (hl : Laid W) (hD : IsDisk W B F g aw0) (hB : B ≤ W.heap.size) (hR : RB W B (fun k => B ≤ k) (.slice A 64 64) (List.replicate 64 0)) :
    Calls Tryd.prog 23 #[.pointer (some ⟨g, 0, none⟩), .int .i64 1, .agg #[.int .i64 0, .int .i64 0, .int .i64 1], .slice A 64 64] W fun e w' => e = .returned (.int .i64 0) ∧ IsDisk w' B (fun k => F k ∨ (W.heap.size ≤ k ∧ k < w'.heap.size)) g aw1 ∧ Fr W w' F := by
  obtain ⟨A', c', hv, hle, hC⟩ := Kd.R_reads hR
  obtain ⟨rfl, rfl⟩ : A = A' ∧ 64 = c' := by injection hv with e1 e2 e3; exact ⟨e1, e3⟩
  refine (data_ok W B g F aw0 1 0 0 1 32 A 64 (List.replicate 64 0) hl hD hB aw_at rfl ⟨aw_calm.ok, aw_calm.planned, by decide, by decide⟩ hC (by decide +kernel)).mono ?_
  rintro e w' ⟨n, rfl, hn, h1, h2⟩
  obtain rfl : n = 2 := by
    have e : sectorsF (List.replicate 64 (0 : Int)).length ((32 : Nat) : Int) = 2 := by decide +kernel
    rw [e] at hn; omega
  exact ⟨rfl, h1, h2⟩
theorem aw_seal (W : World) (B g : Nat) (F : Nat → Prop) (A : Option Addr) (hl : Laid W) (hD : IsDisk W B F g aw1) (hB : B ≤ W.heap.size) (hR : RB W B (fun k => B ≤ k) (.slice A 64 64) (List.replicate 64 0)) :
    Calls Tryd.prog 24 #[.pointer (some ⟨g, 0, none⟩), .int .i64 1, .agg #[.int .i64 0, .int .i64 0, .int .i64 1], .int .u64 9, .slice A 64 64] W fun e w' => e = .returned (.int .i64 0) ∧ IsDisk w' B (fun k => F k ∨ (W.heap.size ≤ k ∧ k < w'.heap.size)) g aw2 ∧ Fr W w' F := by
  obtain ⟨A', c', hv, hle, hC⟩ := Kd.R_reads hR
  obtain ⟨rfl, rfl⟩ : A = A' ∧ 64 = c' := by injection hv with e1 e2 e3; exact ⟨e1, e3⟩
  have S := aw_sealed
  have hsz : aw1.size = aw0.size := S.size1
  have h0 : atE aw1 1 0 0 1 = 0 := (S.at1 1 0 0 1).trans aw_at
  refine (seal_ok W B g F aw1 1 0 0 1 9 32 A 64 (List.replicate 64 0) hl hD S.calm1.ok hB h0 S.size1 hC aw_in (by decide +kernel)).mono ?_
  rintro e w' ⟨rfl, h1, h2⟩
  rw [hsz] at h1 ⊢
  exact ⟨congrArg _ (congrArg _ S.err), h1, h2⟩
theorem aw_read (W : World) (B g : Nat) (F : Nat → Prop) (hl : Laid W) (hD : IsDisk W B F g aw2) (hB0 : 0 < B) :
    Calls Tryd.prog 15 #[.pointer (some ⟨g, 0, none⟩), .int .i64 1, .agg #[.int .i64 0, .int .i64 0, .int .i64 1]] W fun e w' => ∃ A c, e = .returned (.tuple #[.agg #[.int .i64 2, .int .i64 0, .int .u64 9, .slice A 64 c], .int .i64 0]) ∧ Fr W w' (fun k => k = g) := by
  have S := aw_sealed
  have hsz : aw2.size = aw0.size := S.size2
  have h0 : atE aw2 1 0 0 1 = 0 := (S.at2 1 0 0 1).trans aw_at
  have hb := body_of (l := List.replicate 64 (0 : Int)) (s := 32) (n := 2) (by decide) aw_in
  have hh : sectR aw2 (1 * spanF aw2.size 0 0 1) = padTo (encF 0 0 1 (List.replicate 64 (0 : Int)).length 9 (sumF (List.replicate 64 0))) 32 := by rw [hsz]; exact S.head
  have hbd : sectsR aw2 (1 * spanF aw2.size 0 0 1) 2 = pieces (padTo (List.replicate 64 0) (2 * 32)) 32 2 := by rw [hsz]; exact S.body
  have hd := dec_enc 0 0 1 (List.replicate 64 (0 : Int)).length 9 (sumF (List.replicate 64 0)) 32 (by decide) (by decide +kernel) ⟨by decide, by decide⟩ (sumF_bd _) (by decide)
  rw [← hh] at hd
  refine (rd_good W B g F aw2 1 0 0 1 32 2 64 hl hD S.calm2 hB0 h0 S.size2 9 (sumF (List.replicate 64 0)) ?_ ?_ hd.2 hd.1 (by decide +kernel) (by decide +kernel) ?_ ?_).mono ?_
  · rw [hh]; exact pad_len _ _ (by rw [enc_long]; decide)
  · rw [hh]; intro x hx
    unfold padTo encF at hx
    rcases List.mem_append.1 hx with hx | hx
    · rcases List.mem_append.1 hx with hx | hx
      · exact enc24_in _ _ _ _ _ _ x hx
      · exact layF_in _ _ x hx
    · have := List.eq_of_mem_replicate hx; omega
  · rw [hbd]; exact hb.1
  · rw [hbd]; exact congrArg sumF hb.2
  · rintro e w' ⟨A, c, rfl, -, -, -, -, hf⟩
    exact ⟨_, _, rfl, hf⟩

set_option maxRecDepth 100000 in
set_option maxHeartbeats 2000000 in
theorem awake_calls (w : World) (hl : Laid w) :
    Calls Tryd.prog 8 #[] w fun e w' => e = .returned (.bool true) ∧ Below w.heap.size w w' := by
  have HN : Hid _ := Lib.hid (fun (W : World) => (new_yes W 6 32 (by omega) (by omega) (by omega) : Calls Tryd.prog 22 #[.int .i64 6, .int .i64 32] W _))
  have HL := Lib.hid hl
  have hrow : 0 < w.heap.size := World.block_lt_of_cell? w _ (hl 0 (by omega))
  have HSP : Hid _ := Lib.hid (fun (W : World) (hl : Laid W) => span_calls 32 0 0 1 W hl)
  have HRO : Hid _ := Lib.hid (fun (W : World) (hl : Laid W) => room_calls 32 0 0 1 W hl)
  rw [aw_span] at HSP HRO
  clear hl
  go_enter Tryd.func8, Tryd.ntmps8
  go_wp2_with fail
  refine (HN.out _).mono ?_
  rintro e w1 ⟨g, rfl, hD, hb1⟩
  have HA : Hid (Aw w w1 g _ aw0) := Lib.hid ⟨below_via (below_alloc (Below.refl _ _) _) hb1, (hb1.block _ (blk_lt (heap_alloc_new w _))).trans (heap_alloc_new w _), by rw [World.size_alloc] at hD; exact hD⟩
  clear hD hb1
  obtain ⟨k0, k1, k2⟩ := HA.out.cells
  go_wp2_with fail
  refine wp_region_float 3 63 rfl (by kernel_rfl) (by kernel_rfl) ?z (fun wa hwa => ?_) (fun w7 hw7 => ?_)
  case refine_1 =>
    simp only [List.take_succ_cons, List.take_zero, Nat.reduceSub]
    have r0 := fun n : BT wa => BT.cell (pw_cell_below hwa k0) n
    have r1 := fun n : BT wa => BT.cell (pw_cell_below hwa k1) n
    have r2 := fun n : BT wa => BT.cell (pw_cell_below hwa k2) n
    repeat (go_big_quiet_step (fail))
    refine wpQuiet_nil ?_
    exact Eq.refl _
  refine smOp_make (some 21) 64 (by omega) rfl rfl rfl (fun r W h => by have h' : (Instr.makeSlice 27 (Value.int IntKind.i64 64) (Value.int IntKind.i64 64)).run Tryd.prog w7 = .ok r W := h; simp only [go_sem, execOp]; simp [h']) ?_
  intro A8 W8 hR8 hnA hb8
  intro w3 hw3
  have HA3 := Lib.hid (HA.out.step (below_via (below_via hw7 hb8) hw3))
  have hwg : w.heap.size + 1 ≤ w7.heap.size := Nat.le_trans (blk_lt HA.out.box) (show Below _ _ _ from hw7).size
  have HR3 := Lib.hid (Kd.R_mono (Kd.R_lower (Kd.R_below hR8 hw3) hwg) (ok' := fun k => w.heap.size + 1 ≤ k) (fun k hk => Nat.le_trans hwg hk))
  clear k0 k1 k2 hR8 hw7 hb8 hw3 hnA hwg
  simp only [List.drop_succ_cons, List.drop_zero, Act.put]
  go_wp2_with fail
  refine (aw_data w3 (w.heap.size + 1) g _ A8 (HL.out.of_below HA3.out.below) HA3.out.disk (blk_lt HA3.out.box) HR3.out).mono ?_
  rintro e w4 ⟨rfl, hD4, hF4⟩
  have HA4 := Lib.hid (HA3.out.turn hD4 hF4)
  obtain ⟨k0, k1, k2⟩ := HA4.out.cells
  clear hD4 hF4 HR3 HA HA3
  go_wp2_with fail
  refine wp_region_float 3 63 rfl (by kernel_rfl) (by kernel_rfl) ?z2 (fun wa hwa => ?_) (fun w7 hw7 => ?_)
  case refine_1 =>
    simp only [List.take_succ_cons, List.take_zero, Nat.reduceSub]
    have r0 := fun n : BT wa => BT.cell (pw_cell_below hwa k0) n
    have r1 := fun n : BT wa => BT.cell (pw_cell_below hwa k1) n
    have r2 := fun n : BT wa => BT.cell (pw_cell_below hwa k2) n
    repeat (go_big_quiet_step (fail))
    refine wpQuiet_nil ?_
    exact Eq.refl _
  refine smOp_make (some 25) 64 (by omega) rfl rfl rfl (fun r W h => by have h' : (Instr.makeSlice 27 (Value.int IntKind.i64 64) (Value.int IntKind.i64 64)).run Tryd.prog w7 = .ok r W := h; simp only [go_sem, execOp]; simp [h']) ?_
  intro A9 W9 hR9 hnA hb9
  intro w5 hw5
  have HA5 := Lib.hid (HA4.out.step (below_via (below_via hw7 hb9) hw5))
  have hwg : w.heap.size + 1 ≤ w7.heap.size := Nat.le_trans (blk_lt HA4.out.box) (show Below _ _ _ from hw7).size
  have HR5 := Lib.hid (Kd.R_mono (Kd.R_lower (Kd.R_below hR9 hw5) hwg) (ok' := fun k => w.heap.size + 1 ≤ k) (fun k hk => Nat.le_trans hwg hk))
  clear k0 k1 k2 hR9 hw7 hb9 hw5 hnA hwg
  simp only [List.drop_succ_cons, List.drop_zero, Act.put]
  go_wp2_with fail
  refine (aw_seal w5 (w.heap.size + 1) g _ A9 (HL.out.of_below HA5.out.below) HA5.out.disk (blk_lt HA5.out.box) HR5.out).mono ?_
  rintro e w6 ⟨rfl, hD6, hF6⟩
  have HA6 := Lib.hid (HA5.out.turn hD6 hF6)
  obtain ⟨k0, k1, k2⟩ := HA6.out.cells
  clear hD6 hF6 HR5 HA5 HA4
  go_wp2_with fail
  refine (aw_read w6 (w.heap.size + 1) g _ (HL.out.of_below HA6.out.below) HA6.out.disk (by omega)).mono ?_
  rintro e w7 ⟨A7, c7, rfl, hF7⟩
  have hg7 : g ≠ w.heap.size := fun e => by
    obtain ⟨_, _, _, _, _, _, _, _, _, _, h6, _⟩ := HA6.out.disk
    have := (HA6.out.disk.bound g h6).1; omega
  have hb7 : Below w.heap.size w w7 := HA6.out.below.trans (hF7.below HA6.out.below.size (fun k hk => by
    obtain ⟨_, _, _, _, _, _, _, _, _, _, h6, _⟩ := HA6.out.disk
    have := (HA6.out.disk.bound g h6).1; omega))
  have hx7 := hF7.blk HA6.out.box (by omega)
  have HX7 := Lib.hid hx7
  have k0 := (blk_cell hx7 0).trans rfl
  have k1 := (blk_cell hx7 1).trans rfl
  have k2 := (blk_cell hx7 2).trans rfl
  have HB7 := Lib.hid hb7
  have HL7 := Lib.hid (HL.out.of_below hb7)
  have hlt7 := blk_lt hx7
  clear hF7 hb7 hx7 HA6 hg7
  go_wp2_with fail
  have hb8 : Below w7.heap.size w7 (w7.alloc (.cells #[.int .i64 2, .int .i64 0, .int .u64 9, .slice A7 64 c7] 37)) := below_alloc (Below.refl _ _) _
  have hbw := below_via HB7.out hb8
  have hx8 := (hb8.block _ (blk_lt HX7.out)).trans HX7.out
  have hy8 := heap_alloc_new w7 (.cells #[.int .i64 2, .int .i64 0, .int .u64 9, .slice A7 64 c7] 37)
  generalize (w7.alloc (.cells #[.int .i64 2, .int .i64 0, .int .u64 9, .slice A7 64 c7] 37)) = w8 at *
  refine (HSP.out _ (HL.out.of_below hbw)).mono ?_
  rintro e w9 ⟨rfl, hb9⟩
  have HB9 := Lib.hid (below_via hbw hb9)
  have hx9 := (hb9.block _ (blk_lt hx8)).trans hx8
  have k0 := (blk_cell hx9 0).trans rfl
  have k1 := (blk_cell hx9 1).trans rfl
  have k2 := (blk_cell hx9 2).trans rfl
  clear hx8 hy8 hb9 hbw hb8 hx9
  go_wp2_with fail
  refine (HRO.out _ (HL.out.of_below HB9.out)).mono ?_
  rintro e w10 ⟨rfl, hb10⟩
  have HB10 := Lib.hid (below_via HB9.out hb10)
  clear hb10 HB9
  go_wp2_with fail
  go_ret
  exact ⟨rfl, HB10.out⟩
end Go.Proofs.YtcemageindmbkaaDoor
/- The references' Right, Total, Sectors, Span, Few: what they return is what the program's return. -/
namespace Go.Proofs.YtcemageindmbkaaDoor
open Go.RowKit Go.Proofs.YtcemageindmbkaaDoorW.PrintWords
open PSlotBytes

theorem refRight_eq (a b c : Int) : keepsakeref03_Right.f a b c = some (rightF a b c) := by
  unfold keepsakeref03_Right.f rightF
  by_cases h1 : 0 ≤ a <;> by_cases h2 : a ≤ 10 <;> by_cases h3 : 0 ≤ b <;> by_cases h4 : b ≤ 64 <;> by_cases h5 : 0 ≤ c <;> by_cases h6 : c ≤ 128 <;> simp [h1, h2, h3, h4, h5, h6]
theorem refEeprom_eq (a : Int) : keepsakeref03_Eeprom.f a = some (powF a 0) := by
  unfold keepsakeref03_Eeprom.f keepsakeref03_at.f
  by_cases h : 1 ≤ a ∧ a ≤ 10
  · have hh : ∀ n : Nat, n < 10 → ((if ((n : Int) + 1) < 1 then (some 0) else (if ((n : Int) + 1) > 10 then (some 0) else (if 0 ≤ (wrap64 (((n : Int) + 1) - 1)) then (if (wrap64 (((n : Int) + 1) - 1)) < (([128, 256, 512, 1024, 2048, 4096, 8192, 16384, 32768, 65536] : List Int).length : Int) then (some (rd ([128, 256, 512, 1024, 2048, 4096, 8192, 16384, 32768, 65536] : List Int) (wrap64 (((n : Int) + 1) - 1)))) else (none)) else (none)))).bind fun t143 => (some t143)) = some (powF ((n : Int) + 1) 0) := by decide +kernel
    obtain ⟨n, hn⟩ := Int.eq_ofNat_of_zero_le (show 0 ≤ a - 1 by omega)
    obtain rfl : a = (n : Int) + 1 := by omega
    exact hh n (by omega)
  · have : powF a 0 = 0 := by unfold powF; rw [if_neg h]
    rw [this]
    by_cases h1 : a < 1
    · rw [if_pos h1]; rfl
    · rw [if_neg h1, if_pos (by omega)]; rfl
theorem refTotal_eq (a b c : Int) : keepsakeref03_Total.f a b c = some (totalF a b c) := by
  unfold keepsakeref03_Total.f
  rw [refRight_eq]
  unfold totalF
  have h1 := powF_bd a
  have h2 := flashF_bd b
  have h3 := sramF_bd c
  rcases hr : rightF a b c with _ | _
  · rfl
  · have hr' : 0 ≤ a ∧ a ≤ 10 ∧ 0 ≤ b ∧ b ≤ 64 ∧ 0 ≤ c ∧ c ≤ 128 := by simpa [rightF] using hr
    have e1 : keepsakeref03_Flash.f b = some (flashF b) := by
      unfold keepsakeref03_Flash.f flashF; rw [if_neg (by omega), if_neg (by omega), if_pos (by omega)]; unfold wrap64; congr 1; omega
    have e2 : keepsakeref03_Sram.f c = some (sramF c) := by
      unfold keepsakeref03_Sram.f sramF; rw [if_neg (by omega), if_neg (by omega), if_pos (by omega)]; unfold wrap64; congr 1; omega
    simp only [Option.bind_some, if_true, refEeprom_eq, e1, e2]
    unfold wrap64; congr 1; omega
theorem refFew_eq (a b c : Int) : keepsakeref06_Few.f a b c = some (!rightF a b c || decide (totalF a b c ≤ 500)) := by
  unfold keepsakeref06_Few.f
  rw [refRight_eq, refTotal_eq]
  rcases hr : rightF a b c with _ | _ <;> simp
theorem refSectors_eq (many size : Int) (h0 : 0 ≤ many) (h1 : many ≤ 1000000000) : keepsakeref05_Sectors.f 1 many size = some (sectorsF many size) := by
  unfold keepsakeref05_Sectors.f sectorsF
  rw [keepsakeref05_Sectors.j0, keepsakeref05_Sectors.j0]
  by_cases hs : size < 1
  · rw [if_pos hs, if_pos (Or.inr (Or.inl hs))]; rfl
  · by_cases hs2 : size > 4096
    · rw [if_neg hs, if_pos hs2, if_pos (Or.inr (Or.inr hs2))]; rfl
    · rw [if_neg hs, if_neg hs2]
      by_cases hm : many < 1
      · rw [if_pos (show decide (many < 1) = true by simpa using hm), if_pos (Or.inl hm)]
      · rw [if_neg (show ¬ decide (many < 1) = true by simpa using hm), if_neg (show ¬ size = 0 by omega), if_neg (show ¬ (many < 1 ∨ size < 1 ∨ 4096 < size) by omega)]
        obtain ⟨m, rfl⟩ := Int.eq_ofNat_of_zero_le h0
        obtain ⟨s, rfl⟩ := Int.eq_ofNat_of_zero_le (show 0 ≤ size by omega)
        rw [Int.tmod_eq_emod_of_nonneg (by omega), Int.tdiv_eq_ediv_of_nonneg (by omega)]
        have hd : (m : Int) / (s : Int) = ((m / s : Nat) : Int) := by simp
        have hmo : (m : Int) % (s : Int) = ((m % s : Nat) : Int) := by simp
        have hd2 : ((m : Int) - 1) / (s : Int) = (((m - 1) / s : Nat) : Int) := by
          rw [show ((m : Int) - 1) = ((m - 1 : Nat) : Int) by omega]; simp
        rw [hd, hmo, hd2]
        have hle : m / s ≤ m := Nat.div_le_self _ _
        have hs0 : 0 < s := by omega
        have hkey : (m - 1) / s + 1 = m / s + (if m % s > 0 then 1 else 0) := by
          have e := Nat.div_add_mod m s
          have hlt := Nat.mod_lt m hs0
          by_cases hz : m % s = 0
          · rw [if_neg (by omega)]
            have hq : 1 ≤ m / s := by
              rcases Nat.eq_zero_or_pos (m / s) with h | h
              · rw [h] at e; simp at e; omega
              · exact h
            have : (m - 1) / s = m / s - 1 := by
              rw [Nat.div_eq_iff hs0]
              obtain ⟨q, hq2⟩ : ∃ q, m / s = q + 1 := ⟨m / s - 1, by omega⟩
              rw [hq2] at e ⊢
              rw [Nat.mul_add] at e
              have e3 : q * s = s * q := Nat.mul_comm _ _
              have e4 : (q + 1 - 1) * s = s * q := by rw [Nat.add_sub_cancel, e3]
              rw [e4]
              omega
            omega
          · rw [if_pos (by omega)]
            have : (m - 1) / s = m / s := by
              rw [Nat.div_eq_iff hs0]
              have e3 : m / s * s = s * (m / s) := Nat.mul_comm _ _
              rw [e3]; omega
            omega
        generalize m / s = q1 at *
        generalize (m - 1) / s = q2 at *
        by_cases hz : m % s > 0
        · rw [if_pos (show ((m % s : Nat) : Int) > 0 by omega)]; unfold wrap64; rw [if_pos hz] at hkey; refine congrArg some ?_; omega
        · rw [if_neg (show ¬ ((m % s : Nat) : Int) > 0 by omega)]; unfold wrap64; rw [if_neg hz] at hkey; refine congrArg some ?_; omega
theorem refSpan_eq (s a b c : Int) : keepsakeref06_Span.f 2 s a b c = some (spanF s a b c) := by
  have ht := totalF_bd a b c
  have hb := sectorsF_bd (totalF a b c) s (by omega)
  unfold keepsakeref06_Span.f spanF
  rw [keepsakeref06_Span.j0, keepsakeref06_Span.j0]
  rw [refRight_eq, refTotal_eq]
  simp only [Option.bind_some]
  rw [refSectors_eq _ _ (by omega) (by omega)]
  rcases hr : rightF a b c with _ | _
  · rw [if_neg (by simp), if_pos trivial, if_neg (by simp)]
  · rw [if_pos rfl]
    by_cases h1 : s < 32
    · rw [if_pos h1, if_pos trivial, if_neg (by omega)]
    · rw [if_neg h1]
      by_cases h2 : s > 4096
      · rw [if_pos (by simpa using h2), if_neg (by omega)]
      · rw [if_neg (by simpa using h2), if_pos (by exact ⟨rfl, by omega, by omega⟩)]
        simp only [Option.bind_some]
        unfold wrap64; congr 1; omega

set_option maxRecDepth 100000 in
theorem refRight_calls (a b c : Int) (w : World) : Calls Tryd.prog 20 #[.agg #[.int .i64 a, .int .i64 b, .int .i64 c]] w fun e w' => e = .returned (.bool (rightF a b c)) ∧ Below w.heap.size w w' := keepsakeref03_Right.calls a b c _ w (refRight_eq a b c)
set_option maxRecDepth 100000 in
theorem refTotal_calls (a b c : Int) (w : World) : Calls Tryd.prog 21 #[.agg #[.int .i64 a, .int .i64 b, .int .i64 c]] w fun e w' => e = .returned (.int .i64 (totalF a b c)) ∧ Below w.heap.size w w' := keepsakeref03_Total.calls a b c _ w (refTotal_eq a b c)
set_option maxRecDepth 100000 in
theorem refFew_calls (a b c : Int) (w : World) : Calls Tryd.prog 12 #[.agg #[.int .i64 a, .int .i64 b, .int .i64 c]] w fun e w' => e = .returned (.bool (!rightF a b c || decide (totalF a b c ≤ 500))) ∧ Below w.heap.size w w' := keepsakeref06_Few.calls a b c _ w (refFew_eq a b c)
set_option maxRecDepth 100000 in
theorem refSpan_calls (s a b c : Int) (w : World) : Calls Tryd.prog 10 #[.int .i64 s, .agg #[.int .i64 a, .int .i64 b, .int .i64 c]] w fun e w' => e = .returned (.int .i64 (spanF s a b c)) ∧ Below w.heap.size w w' := keepsakeref06_Span.calls 2 s a b c _ w (refSpan_eq s a b c)
end Go.Proofs.YtcemageindmbkaaDoor
/- SlotStranger: the disk of forty sectors, and what its slots are. -/
namespace Go.Proofs.YtcemageindmbkaaDoor
open Go.RowKit Go.Proofs.YtcemageindmbkaaDoorW.PrintWords
open PSlotBytes

section
variable (a b c : Int) (l : List Int) (s : Nat)
def stD : DiskS := freshD s (List.replicate (40 * s) 0)
def stN : Nat := (sectorsF l.length s).toNat
def stD1 : DiskS := dataS (stD s) (0 * spanF (stD s).size a b c) (pieces (padTo l (stN l s * s)) s (stN l s)) (stN l s)
def stD2 : DiskS := writeS (stD1 a b c l s) (0 * spanF (stD s).size a b c) (padTo (encF a b c l.length 5 (sumF l)) s)
theorem st_sectors (hs : 32 ≤ s) : (stD s).sectors = 40 := by
  show (((List.replicate (40 * s) (0 : Int)).length : Nat) : Int) / (s : Int) = 40
  rw [List.length_replicate, Int.natCast_mul]
  exact Int.mul_ediv_cancel _ (by omega)
theorem st_at {a' b' c' which : Int} (hs : 32 ≤ s) (hs2 : s ≤ 131) (hr : rightF a' b' c' = true) (ht : totalF a' b' c' ≤ 500) (h0 : 0 ≤ which) (h1 : which < 2) : atE (stD s) which a' b' c' = 0 := by
  have htb := totalF_bd a' b' c'
  have hsz : (stD s).size = s := rfl
  unfold atE
  rw [if_neg (by simp [hr]), hsz, if_neg (by omega), st_sectors s hs, if_neg]
  unfold spanF
  rw [if_pos ⟨hr, by omega, by omega⟩]
  unfold sectorsF
  split
  · omega
  · have : (totalF a' b' c' - 1) / (s : Int) ≤ 15 := by
      have h3 : (totalF a' b' c' - 1) / (s : Int) < 16 := Int.ediv_lt_of_lt_mul (by omega) (by omega)
      omega
    omega
theorem st_at9 {a' b' c' which : Int} (hr : rightF a' b' c' = false) (D : DiskS) : atE D which a' b' c' = 9 := by
  unfold atE; rw [if_pos hr]
theorem st_calm (hs : 32 ≤ s) (hs2 : s ≤ 131) : Calm (stD s) 300000 := by
  refine ⟨⟨?_, ?_, ?_, ?_, ?_, ?_, ?_, fun k l h => by cases h⟩, rfl, ?_, ?_⟩
  · show 1 ≤ (s : Int); omega
  · show (s : Int) ≤ 4096; omega
  · show (List.replicate (40 * s) (0 : Int)).length ≤ _; rw [List.length_replicate]; omega
  · show (0 : Int) ≤ 0; omega
  · show (0 : Int) ≤ _; omega
  · show (0 : Int) ≤ 0; omega
  · show (0 : Int) ≤ _; omega
  · show (0 : Int) + _ ≤ _; omega
  · show (0 : Int) + _ ≤ _; omega
theorem stN_eq : sectorsF l.length s = (stN l s : Int) := by
  have := (sectorsF_bd (l.length : Int) (s : Int) (by omega)).1
  unfold stN; omega
end
section
variable {a b c : Int} {l : List Int} {s : Nat} (hs : 32 ≤ s) (hs2 : s ≤ 131) (hr : rightF a b c = true) (ht : totalF a b c ≤ 500) (hlen : (l.length : Int) = totalF a b c)
include hs hs2 hr ht hlen
theorem st_sealed : Sealed (stD s) 0 a b c 5 s (stN l s) l := sealed_of (st_calm s hs hs2) rfl (st_at s hs hs2 hr ht (by omega) (by omega)) hlen (stN_eq l s)
theorem st_data (W : World) (B g : Nat) (F : Nat → Prop) (A : Option Addr) (m : Nat) (hl : Laid W) (hD : IsDisk W B F g (stD s)) (hB : B ≤ W.heap.size) (hC : KB.C W A l.length l) :
    Calls Tryd.prog 23 #[.pointer (some ⟨g, 0, none⟩), .int .i64 0, .agg #[.int .i64 a, .int .i64 b, .int .i64 c], .slice A l.length m] W fun e w' => e = .returned (.int .i64 0) ∧ IsDisk w' B (fun k => F k ∨ (W.heap.size ≤ k ∧ k < w'.heap.size)) g (stD1 a b c l s) ∧ Fr W w' F := by
  have hcm := st_calm s hs hs2
  refine (data_ok W B g F (stD s) 0 a b c s A m l hl hD hB (st_at s hs hs2 hr ht (by omega) (by omega)) rfl ⟨hcm.ok, hcm.planned, by have := hcm.ops; omega, by have := hcm.writes; omega⟩ hC hlen).mono ?_
  rintro e w' ⟨n, rfl, hn, h1, h2⟩
  obtain rfl : n = stN l s := by rw [stN_eq l s] at hn; omega
  exact ⟨rfl, h1, h2⟩
theorem st_seal (W : World) (B g : Nat) (F : Nat → Prop) (A : Option Addr) (m : Nat) (hl : Laid W) (hD : IsDisk W B F g (stD1 a b c l s)) (hB : B ≤ W.heap.size) (hC : KB.C W A l.length l) (hin : InB l) :
    Calls Tryd.prog 24 #[.pointer (some ⟨g, 0, none⟩), .int .i64 0, .agg #[.int .i64 a, .int .i64 b, .int .i64 c], .int .u64 5, .slice A l.length m] W fun e w' => e = .returned (.int .i64 0) ∧ IsDisk w' B (fun k => F k ∨ (W.heap.size ≤ k ∧ k < w'.heap.size)) g (stD2 a b c l s) ∧ Fr W w' F := by
  have S := st_sealed hs hs2 hr ht hlen
  have hsz : (stD1 a b c l s).size = (stD s).size := S.size1
  have h0 : atE (stD1 a b c l s) 0 a b c = 0 := (S.at1 0 a b c).trans (st_at s hs hs2 hr ht (by omega) (by omega))
  refine (seal_ok W B g F (stD1 a b c l s) 0 a b c 5 s A m l hl hD S.calm1.ok hB h0 S.size1 hC hin hlen).mono ?_
  rintro e w' ⟨rfl, h1, h2⟩
  rw [hsz] at h1 ⊢
  exact ⟨congrArg _ (congrArg _ S.err), h1, h2⟩
theorem st_head (a' b' c' : Int) : sectR (stD2 a b c l s) (0 * spanF (stD2 a b c l s).size a' b' c') = padTo (encF a b c l.length 5 (sumF l)) s ∧ (padTo (encF a b c l.length 5 (sumF l)) s).length = s ∧ InB (padTo (encF a b c l.length 5 (sumF l)) s) ∧
    decE (padTo (encF a b c l.length 5 (sumF l)) s) = 0 ∧ decV (padTo (encF a b c l.length 5 (sumF l)) s) = .agg #[.int .i64 a, .int .i64 b, .int .i64 c, .int .i64 l.length, .int .u64 5, .int .u32 (sumF l)] := by
  have S := st_sealed hs hs2 hr ht hlen
  have hd := dec_enc a b c l.length 5 (sumF l) s hr hlen ⟨by decide, by decide⟩ (sumF_bd _) (by omega)
  refine ⟨?_, pad_len _ _ (by rw [enc_long]; omega), ?_, hd.1, hd.2⟩
  · rw [Int.zero_mul]; have := S.head; rw [Int.zero_mul] at this
    unfold stD2 stD1; rw [Int.zero_mul]; exact this
  · intro x hx
    unfold padTo encF at hx
    rcases List.mem_append.1 hx with hx | hx
    · rcases List.mem_append.1 hx with hx | hx
      · exact enc24_in _ _ _ _ _ _ x hx
      · exact layF_in _ _ x hx
    · have := List.eq_of_mem_replicate hx; omega
/-- Read, of other chips. -/
theorem st_alien (W : World) (B g : Nat) (F : Nat → Prop) (a' b' c' : Int) (hl : Laid W) (hD : IsDisk W B F g (stD2 a b c l s)) (hB0 : 0 < B) (hr' : rightF a' b' c' = true) (ht' : totalF a' b' c' ≤ 500) (hne : ¬ (a = a' ∧ b = b' ∧ c = c')) :
    Calls Tryd.prog 15 #[.pointer (some ⟨g, 0, none⟩), .int .i64 0, .agg #[.int .i64 a', .int .i64 b', .int .i64 c']] W fun e w' => e = .returned (.tuple #[.agg #[.int .i64 1, .int .i64 0, .int .u64 0, .slice none 0 0], .int .i64 0]) ∧ IsDisk w' B F g (stD2 a b c l s).next ∧ Fr W w' (fun k => k = g) := by
  have S := st_sealed hs hs2 hr ht hlen
  obtain ⟨h1, h2, h3, h4, h5⟩ := st_head hs hs2 hr ht hlen a' b' c'
  have h0 : atE (stD2 a b c l s) 0 a' b' c' = 0 := (S.at2 0 a' b' c').trans (st_at s hs hs2 hr' ht' (by omega) (by omega))
  rw [← h1] at h2 h3 h4 h5
  by_cases e1 : a = a'
  · subst e1
    by_cases e2 : b = b'
    · subst e2
      exact rd_al3 W B g F _ 0 a b c' s hl hD S.calm2 hB0 h0 S.size2 c l.length 5 (sumF l) h2 h3 h5 h4 (fun e => hne ⟨rfl, rfl, e⟩)
    · exact rd_al2 W B g F _ 0 a b' c' s hl hD S.calm2 hB0 h0 S.size2 b c l.length 5 (sumF l) h2 h3 h5 h4 e2
  · exact rd_al1 W B g F _ 0 a' b' c' s hl hD S.calm2 hB0 h0 S.size2 a b c l.length 5 (sumF l) h2 h3 h5 h4 e1
/-- Read, of its own. -/
theorem st_good (W : World) (B g : Nat) (F : Nat → Prop) (hl : Laid W) (hD : IsDisk W B F g (stD2 a b c l s)) (hB0 : 0 < B) (hin : InB l) :
    Calls Tryd.prog 15 #[.pointer (some ⟨g, 0, none⟩), .int .i64 0, .agg #[.int .i64 a, .int .i64 b, .int .i64 c]] W fun e w' => ∃ A cc, e = .returned (.tuple #[.agg #[.int .i64 2, .int .i64 0, .int .u64 5, .slice A l.length cc], .int .i64 0]) ∧ Fr W w' (fun k => k = g) := by
  have S := st_sealed hs hs2 hr ht hlen
  obtain ⟨h1, h2, h3, h4, h5⟩ := st_head hs hs2 hr ht hlen a b c
  have hat := st_at s hs hs2 hr ht (which := 0) (by omega) (by omega)
  have h0 : atE (stD2 a b c l s) 0 a b c = 0 := (S.at2 0 a b c).trans hat
  rw [← h1] at h2 h3 h4 h5
  have hcov : l.length ≤ stN l s * s := sectors_cover (by omega) (by omega) (stN_eq l s)
  have hbody : sectsR (stD2 a b c l s) (0 * spanF (stD2 a b c l s).size a b c) (stN l s) = pieces (padTo l (stN l s * s)) s (stN l s) := by
    have hsz : (stD2 a b c l s).size = (stD s).size := S.size2
    rw [hsz]; exact S.body
  have hb := body_of hcov hin
  refine (rd_good W B g F _ 0 a b c s (stN l s) l.length hl hD S.calm2 hB0 h0 S.size2 5 (sumF l) h2 h3 h5 h4 hlen (by rw [← hlen]; exact stN_eq l s) ?_ ?_).mono ?_
  · rw [hbody]; exact hb.1
  · rw [hbody]; exact congrArg sumF hb.2
  · rintro e w' ⟨A, cc, rfl, -, -, -, -, hf⟩
    exact ⟨_, _, rfl, hf⟩
end
end Go.Proofs.YtcemageindmbkaaDoor
/- SlotStranger: what it returns. -/
namespace Go.Proofs.YtcemageindmbkaaDoor
open Go.RowKit Go.Proofs.YtcemageindmbkaaDoorW.PrintWords
open PSlotBytes

/-- The boxes of both kinds of chips. -/
abbrev geoC (a b c : Int) : Obj := .cells #[.int .i64 a, .int .i64 b, .int .i64 c] 23
structure Bx (w W : World) (a b c a' b' c' : Int) : Prop where
  below : Below w.heap.size w W
  b0 : W.heap[w.heap.size]? = some (geoC a b c)
  b1 : W.heap[w.heap.size + 1]? = some (geoC a' b' c')
section
variable {w W W' : World} {a b c a' b' c' : Int}
theorem Bx.made : Bx w ((w.alloc (geoC a b c)).alloc (geoC a' b' c')) a b c a' b' c' :=
  ⟨below_alloc (below_alloc (Below.refl _ _) _) _, blk_alloc (heap_alloc_new w _) _, by simpa using heap_alloc_new (w.alloc (geoC a b c)) (geoC a' b' c')⟩
theorem Bx.step (h : Bx w W a b c a' b' c') (hb : Below W.heap.size W W') : Bx w W' a b c a' b' c' := ⟨below_via h.below hb, (hb.block _ (blk_lt h.b0)).trans h.b0, (hb.block _ (blk_lt h.b1)).trans h.b1⟩
theorem Bx.fr {S : Nat → Prop} (h : Bx w W a b c a' b' c') (hf : Fr W W' S) (hs : ∀ k, S k → w.heap.size + 2 ≤ k) : Bx w W' a b c a' b' c' :=
  ⟨h.below.trans (hf.below h.below.size (fun k hk => by have := hs k hk; omega)), hf.blk h.b0 (fun hk => by have := hs _ hk; omega), hf.blk h.b1 (fun hk => by have := hs _ hk; omega)⟩
theorem Bx.cells (h : Bx w W a b c a' b' c') : (W.cell? ⟨w.heap.size, 0, none⟩ = some (.int .i64 a) ∧ W.cell? ⟨w.heap.size, 1, none⟩ = some (.int .i64 b) ∧ W.cell? ⟨w.heap.size, 2, none⟩ = some (.int .i64 c)) ∧
    (W.cell? ⟨w.heap.size + 1, 0, none⟩ = some (.int .i64 a') ∧ W.cell? ⟨w.heap.size + 1, 1, none⟩ = some (.int .i64 b') ∧ W.cell? ⟨w.heap.size + 1, 2, none⟩ = some (.int .i64 c')) :=
  ⟨⟨(blk_cell h.b0 0).trans rfl, (blk_cell h.b0 1).trans rfl, (blk_cell h.b0 2).trans rfl⟩, ⟨(blk_cell h.b1 0).trans rfl, (blk_cell h.b1 1).trans rfl, (blk_cell h.b1 2).trans rfl⟩⟩
end

set_option maxRecDepth 100000 in
set_option maxHeartbeats 2000000 in
/-- Where nothing is asked. -/
theorem str_skip (a b c a' b' c' x : Int) (A : Option Addr) (n m : Nat) (w : World) (hl : Laid w)
    (h : (!rightF a b c || decide (totalF a b c ≤ 500)) = false ∨ (!rightF a' b' c' || decide (totalF a' b' c' ≤ 500)) = false ∨ rightF a b c = false ∨ (n : Int) ≠ totalF a b c) :
    Calls Tryd.prog 5 #[.agg #[.int .i64 a, .int .i64 b, .int .i64 c], .agg #[.int .i64 a', .int .i64 b', .int .i64 c'], .int .u8 x, .slice A n m] w fun e w' => e = .returned (.bool true) ∧ Below w.heap.size w w' := by
  have HL := Lib.hid hl
  have HA := Lib.hid (fun (W : World) (hl : Laid W) => awake_calls W hl)
  have H1 := Lib.hid (fun (W : World) => refFew_calls a b c W)
  have H2 := Lib.hid (fun (W : World) => refFew_calls a' b' c' W)
  have H3 := Lib.hid (fun (W : World) => refRight_calls a b c W)
  have H4 := Lib.hid (fun (W : World) => refTotal_calls a b c W)
  generalize (!rightF a b c || decide (totalF a b c ≤ 500)) = o1 at *
  generalize (!rightF a' b' c' || decide (totalF a' b' c' ≤ 500)) = o2 at *
  generalize rightF a b c = o3 at *
  generalize totalF a b c = t at *
  clear hl
  have fin : ∀ (g1 : o1 = false ∨ (o1 = true ∧ o2 = false) ∨ (o1 = true ∧ o2 = true ∧ o3 = false) ∨ (o1 = true ∧ o2 = true ∧ o3 = true ∧ ((n : Int) != t) = true)), Calls Tryd.prog 5 #[.agg #[.int .i64 a, .int .i64 b, .int .i64 c], .agg #[.int .i64 a', .int .i64 b', .int .i64 c'], .int .u8 x, .slice A n m] w fun e w' => e = .returned (.bool true) ∧ Below w.heap.size w w' := by
    clear h
    rintro (rfl | ⟨rfl, rfl⟩ | ⟨rfl, rfl, rfl⟩ | ⟨rfl, rfl, rfl, hne⟩)
    all_goals
      go_enter Tryd.func5, Tryd.ntmps5
      go_wp2_with fail
      have HX := Lib.hid (Bx.made (w := w) (a := a) (b := b) (c := c) (a' := a') (b' := b') (c' := c'))
      generalize (w.alloc (geoC a b c)).alloc (geoC a' b' c') = w0 at *
      refine (HA.out w0 (HL.out.of_below HX.out.below)).mono ?_
      rintro e w1 ⟨rfl, hb1⟩
      have HX1 := Lib.hid (HX.out.step hb1)
      obtain ⟨⟨k0, k1, k2⟩, ⟨l0, l1, l2⟩⟩ := HX1.out.cells
      clear hb1
      go_wp2_with fail
      refine (H1.out w1).mono ?_
      rintro e w2 ⟨rfl, hb2⟩
      have HX2 := Lib.hid (HX1.out.step hb2)
      clear k0 k1 k2 l0 l1 l2 hb2
      obtain ⟨⟨k0, k1, k2⟩, ⟨l0, l1, l2⟩⟩ := HX2.out.cells
      go_wp2_with fail
      refine (H2.out w2).mono ?_
      rintro e w3 ⟨rfl, hb3⟩
      have HX3 := Lib.hid (HX2.out.step hb3)
      clear k0 k1 k2 l0 l1 l2 hb3
      obtain ⟨⟨k0, k1, k2⟩, ⟨l0, l1, l2⟩⟩ := HX3.out.cells
      go_wp2_with fail
      refine (H3.out w3).mono ?_
      rintro e w4 ⟨rfl, hb4⟩
      have HX4 := Lib.hid (HX3.out.step hb4)
      clear k0 k1 k2 l0 l1 l2 hb4
      obtain ⟨⟨k0, k1, k2⟩, ⟨l0, l1, l2⟩⟩ := HX4.out.cells
      go_wp2_with fail
      first
        | (go_ret; exact ⟨rfl, HX4.out.below⟩)
        | (refine (H4.out w4).mono ?_
           rintro e w5 ⟨rfl, hb5⟩
           have HX5 := Lib.hid (HX4.out.step hb5)
           clear k0 k1 k2 l0 l1 l2 hb5
           go_wp2_with fail
           go_ret
           exact ⟨rfl, HX5.out.below⟩)
  apply fin
  have e4 : (n : Int) ≠ t → ((n : Int) != t) = true := fun h => by rw [bne_iff_ne]; exact h
  cases o1 <;> cases o2 <;> cases o3 <;> simp_all
end Go.Proofs.YtcemageindmbkaaDoor
/- SlotStranger: what it returns, where it asks. -/
namespace Go.Proofs.YtcemageindmbkaaDoor
open Go.RowKit Go.Proofs.YtcemageindmbkaaDoorW.PrintWords
open PSlotBytes

theorem IsDisk.le6 {w : World} {B g : Nat} {F : Nat → Prop} {D : DiskS} (h : IsDisk w B F g D) : B ≤ w.heap.size := by
  obtain ⟨_, _, _, _, _, _, _, _, _, _, h6, _⟩ := id h
  have := h.bound g h6; omega
set_option maxRecDepth 100000 in
set_option maxHeartbeats 2000000 in
/-- Chips that can't be. -/
theorem str_wrong (a b c a' b' c' x : Int) (l : List Int) (A : Option Addr) (m s : Nat) (w : World) (hl : Laid w) (hr : rightF a b c = true) (ht : totalF a b c ≤ 500) (hlen : (l.length : Int) = totalF a b c) (hr' : rightF a' b' c' = false)
    (hx : 0 ≤ x ∧ x ≤ 255) (hs : (s : Int) = 32 + x % 100) (hC : KB.C w A l.length l) (hin : InB l) :
    Calls Tryd.prog 5 #[.agg #[.int .i64 a, .int .i64 b, .int .i64 c], .agg #[.int .i64 a', .int .i64 b', .int .i64 c'], .int .u8 x, .slice A l.length m] w fun e w' => e = .returned (.bool true) ∧ Below w.heap.size w w' := by
  have hs1 : 32 ≤ s := by omega
  have hs2 : s ≤ 131 := by omega
  have HL := Lib.hid hl
  have HA := Lib.hid (fun (W : World) (hl : Laid W) => awake_calls W hl)
  have H1 := Lib.hid (fun (W : World) => refFew_calls a b c W)
  have H2 := Lib.hid (fun (W : World) => refFew_calls a' b' c' W)
  have H3 := Lib.hid (fun (W : World) => refRight_calls a b c W)
  have H4 := Lib.hid (fun (W : World) => refTotal_calls a b c W)
  have e1 : (!rightF a b c || decide (totalF a b c ≤ 500)) = true := by simp [hr, ht]
  have e2 : (!rightF a' b' c' || decide (totalF a' b' c' ≤ 500)) = true := by simp [hr']
  rw [e1] at H1
  rw [e2] at H2
  rw [hr] at H3
  rw [← hlen] at H4
  have HN : Hid _ := Lib.hid (fun (W : World) => (new_yes W 40 s (by omega) (by omega) (by omega) : Calls Tryd.prog 22 #[.int .i64 40, .int .i64 (s : Int)] W _))
  have HDA := Lib.hid (fun (W : World) (B g : Nat) (F : Nat → Prop) => st_data hs1 hs2 hr ht hlen W B g F A m)
  have HSE := Lib.hid (fun (W : World) (B g : Nat) (F : Nat → Prop) h1 h2 h3 h4 => st_seal hs1 hs2 hr ht hlen W B g F A m h1 h2 h3 h4 hin)
  have HOP := Lib.hid (fun (W : World) (B g : Nat) (F : Nat → Prop) hD => ops_calls W B g F (stD2 a b c l s) hD)
  have hrow : 0 < w.heap.size := World.block_lt_of_cell? w _ (hl 0 (by omega))
  have HC := Lib.hid hC
  have hrem : Int.tmod x 100 = x % 100 := Int.tmod_eq_emod_of_nonneg hx.1
  clear hl hC
  go_enter Tryd.func5, Tryd.ntmps5
  go_wp2_with fail
  have HX := Lib.hid (Bx.made (w := w) (a := a) (b := b) (c := c) (a' := a') (b' := b') (c' := c'))
  generalize (w.alloc (geoC a b c)).alloc (geoC a' b' c') = w0 at *
  refine (HA.out w0 (HL.out.of_below HX.out.below)).mono ?_
  rintro e w1 ⟨rfl, hb1⟩
  have HX1 := Lib.hid (HX.out.step hb1)
  obtain ⟨⟨k0, k1, k2⟩, ⟨l0, l1, l2⟩⟩ := HX1.out.cells
  clear hb1
  go_wp2_with fail
  refine (H1.out w1).mono ?_
  rintro e w2 ⟨rfl, hb2⟩
  have HX2 := Lib.hid (HX1.out.step hb2)
  clear k0 k1 k2 l0 l1 l2 hb2
  obtain ⟨⟨k0, k1, k2⟩, ⟨l0, l1, l2⟩⟩ := HX2.out.cells
  go_wp2_with fail
  refine (H2.out w2).mono ?_
  rintro e w3 ⟨rfl, hb3⟩
  have HX3 := Lib.hid (HX2.out.step hb3)
  clear k0 k1 k2 l0 l1 l2 hb3
  obtain ⟨⟨k0, k1, k2⟩, ⟨l0, l1, l2⟩⟩ := HX3.out.cells
  go_wp2_with fail
  refine (H3.out w3).mono ?_
  rintro e w4 ⟨rfl, hb4⟩
  have HX4 := Lib.hid (HX3.out.step hb4)
  clear k0 k1 k2 l0 l1 l2 hb4
  obtain ⟨⟨k0, k1, k2⟩, ⟨l0, l1, l2⟩⟩ := HX4.out.cells
  go_wp2_with fail
  refine (H4.out w4).mono ?_
  rintro e w5 ⟨rfl, hb5⟩
  have HX5 := Lib.hid (HX4.out.step hb5)
  clear k0 k1 k2 l0 l1 l2 hb5
  go_wp2_with fail
  rw [← hs]
  refine (HN.out w5).mono ?_
  rintro e w6 ⟨g, rfl, hD6, hb6⟩
  have HX6 := Lib.hid (HX5.out.step hb6)
  have HD6 : Hid (IsDisk w6 w5.heap.size _ g (stD s)) := Lib.hid hD6
  have hle5 : w.heap.size + 2 ≤ w5.heap.size := blk_lt HX5.out.b1
  clear hD6 hb6
  obtain ⟨⟨k0, k1, k2⟩, ⟨l0, l1, l2⟩⟩ := HX6.out.cells
  go_wp2_with fail
  refine (HDA.out w6 w5.heap.size g _ (HL.out.of_below HX6.out.below) HD6.out (HD6.out.le6) (Kd.C_below HC.out HX6.out.below)).mono ?_
  rintro e w7 ⟨rfl, hD7, hF7⟩
  have HX7 := Lib.hid (HX6.out.fr hF7 (fun k hk => by have := (HD6.out.bound k hk).1; omega))
  have HD7 := Lib.hid hD7
  clear k0 k1 k2 l0 l1 l2 hD7 hF7
  obtain ⟨⟨k0, k1, k2⟩, ⟨l0, l1, l2⟩⟩ := HX7.out.cells
  go_wp2_with fail
  refine (HSE.out w7 w5.heap.size g _ (HL.out.of_below HX7.out.below) HD7.out (HD7.out.le6) (Kd.C_below HC.out HX7.out.below)).mono ?_
  rintro e w8 ⟨rfl, hD8, hF8⟩
  have HX8 := Lib.hid (HX7.out.fr hF8 (fun k hk => by have := (HD7.out.bound k hk).1; omega))
  have HD8 := Lib.hid hD8
  clear k0 k1 k2 l0 l1 l2 hD8 hF8
  go_wp2_with fail
  refine (HOP.out w8 w5.heap.size g _ HD8.out).mono ?_
  rintro e w9 ⟨rfl, hb9⟩
  have HX9 := Lib.hid (HX8.out.step hb9)
  have HD9 := Lib.hid (HD8.out.below hb9)
  clear hb9
  obtain ⟨⟨k0, k1, k2⟩, ⟨l0, l1, l2⟩⟩ := HX9.out.cells
  go_wp2_with fail
  have H9 : atE (stD2 a b c l s) 0 a' b' c' = 9 := st_at9 hr' _
  have H9' : atE (stD2 a b c l s) 1 a' b' c' = 9 := st_at9 hr' _
  have hok := (st_sealed hs1 hs2 hr ht hlen).calm2.ok
  have HRD := Lib.hid (fun (W : World) (B g : Nat) (F : Nat → Prop) h1 h2 => rd_err W B g F (stD2 a b c l s) 0 a' b' c' h1 h2 hok (by omega))
  have HDE := Lib.hid (fun (W : World) (B g : Nat) (F : Nat → Prop) h1 h2 => data_err W B g F (stD2 a b c l s) 0 a' b' c' (.slice A l.length m) h1 h2 hok (by omega))
  have HWE := Lib.hid (fun (W : World) (B g : Nat) (F : Nat → Prop) h1 h2 => wipe_err W B g F (stD2 a b c l s) 1 a' b' c' h1 h2 hok (by omega))
  have H5 := Lib.hid (fun (W : World) => refRight_calls a' b' c' W)
  rw [H9] at HRD HDE
  rw [H9'] at HWE
  rw [hr'] at H5
  clear H9 H9' hok
  refine (HRD.out w9 w5.heap.size g _ (HL.out.of_below HX9.out.below) HD9.out).mono ?_
  rintro e w10 ⟨rfl, hb10⟩
  have HX10 := Lib.hid (HX9.out.step hb10)
  have HD10 := Lib.hid (HD9.out.below hb10)
  clear k0 k1 k2 l0 l1 l2 hb10
  obtain ⟨⟨k0, k1, k2⟩, ⟨l0, l1, l2⟩⟩ := HX10.out.cells
  have hlt0 := blk_lt HX10.out.b0
  have hlt1 := blk_lt HX10.out.b1
  go_wp2_with fail
  have hb11 : Below w10.heap.size w10 (w10.alloc slC) := below_alloc (Below.refl _ _) _
  generalize w10.alloc slC = w11 at *
  refine (H5.out w11).mono ?_
  rintro e w12 ⟨rfl, hb12⟩
  have HX12 := Lib.hid ((HX10.out.step hb11).step hb12)
  have HD12 := Lib.hid ((HD10.out.below hb11).below hb12)
  clear k0 k1 k2 l0 l1 l2 hb11 hb12 hlt0 hlt1
  go_wp2_with fail
  refine (HOP.out w12 w5.heap.size g _ HD12.out).mono ?_
  rintro e w13 ⟨rfl, hb13⟩
  have HX13 := Lib.hid (HX12.out.step hb13)
  have HD13 := Lib.hid (HD12.out.below hb13)
  obtain ⟨⟨k0, k1, k2⟩, ⟨l0, l1, l2⟩⟩ := HX13.out.cells
  clear hb13
  go_wp2_with fail
  refine (HDE.out w13 w5.heap.size g _ (HL.out.of_below HX13.out.below) HD13.out).mono ?_
  rintro e w14 ⟨rfl, hb14⟩
  have HX14 := Lib.hid (HX13.out.step hb14)
  have HD14 := Lib.hid (HD13.out.below hb14)
  clear k0 k1 k2 l0 l1 l2 hb14
  obtain ⟨⟨k0, k1, k2⟩, ⟨l0, l1, l2⟩⟩ := HX14.out.cells
  go_wp2_with fail
  refine (HWE.out w14 w5.heap.size g _ (HL.out.of_below HX14.out.below) HD14.out).mono ?_
  rintro e w15 ⟨rfl, hb15⟩
  have HX15 := Lib.hid (HX14.out.step hb15)
  clear k0 k1 k2 l0 l1 l2 hb15
  go_wp2_with fail
  go_ret
  exact ⟨rfl, HX15.out.below⟩

set_option maxRecDepth 100000 in
set_option maxHeartbeats 2000000 in
/-- Other chips. -/
theorem str_other (a b c a' b' c' x : Int) (l : List Int) (A : Option Addr) (m s : Nat) (w : World) (hl : Laid w) (hr : rightF a b c = true) (ht : totalF a b c ≤ 500) (hlen : (l.length : Int) = totalF a b c) (hr' : rightF a' b' c' = true) (ht' : totalF a' b' c' ≤ 500)
    (hne : ¬ (a = a' ∧ b = b' ∧ c = c')) (hx : 0 ≤ x ∧ x ≤ 255) (hs : (s : Int) = 32 + x % 100) (hC : KB.C w A l.length l) (hin : InB l) :
    Calls Tryd.prog 5 #[.agg #[.int .i64 a, .int .i64 b, .int .i64 c], .agg #[.int .i64 a', .int .i64 b', .int .i64 c'], .int .u8 x, .slice A l.length m] w fun e w' => e = .returned (.bool true) ∧ Below w.heap.size w w' := by
  have hs1 : 32 ≤ s := by omega
  have hs2 : s ≤ 131 := by omega
  have HL := Lib.hid hl
  have HA := Lib.hid (fun (W : World) (hl : Laid W) => awake_calls W hl)
  have H1 := Lib.hid (fun (W : World) => refFew_calls a b c W)
  have H2 := Lib.hid (fun (W : World) => refFew_calls a' b' c' W)
  have H3 := Lib.hid (fun (W : World) => refRight_calls a b c W)
  have H4 := Lib.hid (fun (W : World) => refTotal_calls a b c W)
  have e1 : (!rightF a b c || decide (totalF a b c ≤ 500)) = true := by simp [hr, ht]
  have e2 : (!rightF a' b' c' || decide (totalF a' b' c' ≤ 500)) = true := by simp [hr', ht']
  rw [e1] at H1
  rw [e2] at H2
  rw [hr] at H3
  rw [← hlen] at H4
  have HN : Hid _ := Lib.hid (fun (W : World) => (new_yes W 40 s (by omega) (by omega) (by omega) : Calls Tryd.prog 22 #[.int .i64 40, .int .i64 (s : Int)] W _))
  have HDA := Lib.hid (fun (W : World) (B g : Nat) (F : Nat → Prop) => st_data hs1 hs2 hr ht hlen W B g F A m)
  have HSE := Lib.hid (fun (W : World) (B g : Nat) (F : Nat → Prop) h1 h2 h3 h4 => st_seal hs1 hs2 hr ht hlen W B g F A m h1 h2 h3 h4 hin)
  have HOP := Lib.hid (fun (W : World) (B g : Nat) (F : Nat → Prop) hD => ops_calls W B g F (stD2 a b c l s) hD)
  have hrow : 0 < w.heap.size := World.block_lt_of_cell? w _ (hl 0 (by omega))
  have HC := Lib.hid hC
  have hrem : Int.tmod x 100 = x % 100 := Int.tmod_eq_emod_of_nonneg hx.1
  clear hl hC
  go_enter Tryd.func5, Tryd.ntmps5
  go_wp2_with fail
  have HX := Lib.hid (Bx.made (w := w) (a := a) (b := b) (c := c) (a' := a') (b' := b') (c' := c'))
  generalize (w.alloc (geoC a b c)).alloc (geoC a' b' c') = w0 at *
  refine (HA.out w0 (HL.out.of_below HX.out.below)).mono ?_
  rintro e w1 ⟨rfl, hb1⟩
  have HX1 := Lib.hid (HX.out.step hb1)
  obtain ⟨⟨k0, k1, k2⟩, ⟨l0, l1, l2⟩⟩ := HX1.out.cells
  clear hb1
  go_wp2_with fail
  refine (H1.out w1).mono ?_
  rintro e w2 ⟨rfl, hb2⟩
  have HX2 := Lib.hid (HX1.out.step hb2)
  clear k0 k1 k2 l0 l1 l2 hb2
  obtain ⟨⟨k0, k1, k2⟩, ⟨l0, l1, l2⟩⟩ := HX2.out.cells
  go_wp2_with fail
  refine (H2.out w2).mono ?_
  rintro e w3 ⟨rfl, hb3⟩
  have HX3 := Lib.hid (HX2.out.step hb3)
  clear k0 k1 k2 l0 l1 l2 hb3
  obtain ⟨⟨k0, k1, k2⟩, ⟨l0, l1, l2⟩⟩ := HX3.out.cells
  go_wp2_with fail
  refine (H3.out w3).mono ?_
  rintro e w4 ⟨rfl, hb4⟩
  have HX4 := Lib.hid (HX3.out.step hb4)
  clear k0 k1 k2 l0 l1 l2 hb4
  obtain ⟨⟨k0, k1, k2⟩, ⟨l0, l1, l2⟩⟩ := HX4.out.cells
  go_wp2_with fail
  refine (H4.out w4).mono ?_
  rintro e w5 ⟨rfl, hb5⟩
  have HX5 := Lib.hid (HX4.out.step hb5)
  clear k0 k1 k2 l0 l1 l2 hb5
  go_wp2_with fail
  rw [← hs]
  refine (HN.out w5).mono ?_
  rintro e w6 ⟨g, rfl, hD6, hb6⟩
  have HX6 := Lib.hid (HX5.out.step hb6)
  have HD6 : Hid (IsDisk w6 w5.heap.size _ g (stD s)) := Lib.hid hD6
  have hle5 : w.heap.size + 2 ≤ w5.heap.size := blk_lt HX5.out.b1
  clear hD6 hb6
  obtain ⟨⟨k0, k1, k2⟩, ⟨l0, l1, l2⟩⟩ := HX6.out.cells
  go_wp2_with fail
  refine (HDA.out w6 w5.heap.size g _ (HL.out.of_below HX6.out.below) HD6.out (HD6.out.le6) (Kd.C_below HC.out HX6.out.below)).mono ?_
  rintro e w7 ⟨rfl, hD7, hF7⟩
  have HX7 := Lib.hid (HX6.out.fr hF7 (fun k hk => by have := (HD6.out.bound k hk).1; omega))
  have HD7 := Lib.hid hD7
  clear k0 k1 k2 l0 l1 l2 hD7 hF7
  obtain ⟨⟨k0, k1, k2⟩, ⟨l0, l1, l2⟩⟩ := HX7.out.cells
  go_wp2_with fail
  refine (HSE.out w7 w5.heap.size g _ (HL.out.of_below HX7.out.below) HD7.out (HD7.out.le6) (Kd.C_below HC.out HX7.out.below)).mono ?_
  rintro e w8 ⟨rfl, hD8, hF8⟩
  have HX8 := Lib.hid (HX7.out.fr hF8 (fun k hk => by have := (HD7.out.bound k hk).1; omega))
  have HD8 := Lib.hid hD8
  clear k0 k1 k2 l0 l1 l2 hD8 hF8
  go_wp2_with fail
  refine (HOP.out w8 w5.heap.size g _ HD8.out).mono ?_
  rintro e w9 ⟨rfl, hb9⟩
  have HX9 := Lib.hid (HX8.out.step hb9)
  have HD9 := Lib.hid (HD8.out.below hb9)
  clear hb9
  obtain ⟨⟨k0, k1, k2⟩, ⟨l0, l1, l2⟩⟩ := HX9.out.cells
  go_wp2_with fail
  have HRD := Lib.hid (fun (W : World) (B g : Nat) (F : Nat → Prop) h1 h2 h3 => st_alien hs1 hs2 hr ht hlen W B g F a' b' c' h1 h2 h3 hr' ht' hne)
  have H5 := Lib.hid (fun (W : World) => refRight_calls a' b' c' W)
  rw [hr'] at H5
  have hg9 : w.heap.size + 2 ≤ g := by
    obtain ⟨_, _, _, _, _, _, _, _, _, _, h6, _⟩ := id HD9.out
    have := (HD9.out.bound g h6).1; omega
  refine (HRD.out w9 w5.heap.size g _ (HL.out.of_below HX9.out.below) HD9.out (by omega)).mono ?_
  rintro e w10 ⟨rfl, -, hF10⟩
  have HX10 := Lib.hid (HX9.out.fr hF10 (fun k hk => by rw [hk]; exact hg9))
  clear k0 k1 k2 l0 l1 l2 hF10
  obtain ⟨⟨k0, k1, k2⟩, ⟨l0, l1, l2⟩⟩ := HX10.out.cells
  have hlt0 := blk_lt HX10.out.b0
  have hlt1 := blk_lt HX10.out.b1
  go_wp2_with fail
  have hb11 : Below w10.heap.size w10 (w10.alloc (.cells #[.int .i64 1, .int .i64 0, .int .u64 0, .slice none 0 0] 37)) := below_alloc (Below.refl _ _) _
  have hy11 := heap_alloc_new w10 (.cells #[.int .i64 1, .int .i64 0, .int .u64 0, .slice none 0 0] 37)
  generalize w10.alloc (.cells #[.int .i64 1, .int .i64 0, .int .u64 0, .slice none 0 0] 37) = w11 at *
  refine (H5.out w11).mono ?_
  rintro e w12 ⟨rfl, hb12⟩
  have HX12 := Lib.hid ((HX10.out.step hb11).step hb12)
  have hy12 := (hb12.block _ (blk_lt hy11)).trans hy11
  have y0 := (blk_cell hy12 0).trans rfl
  clear k0 k1 k2 l0 l1 l2 hb11 hb12 hlt0 hlt1 hy11 hy12
  obtain ⟨⟨k0, k1, k2⟩, ⟨l0, l1, l2⟩⟩ := HX12.out.cells
  have z0 := fun n : BT w12 => BT.cell y0 n
  have p0 := fun n : BT w12 => BT.cell k0 n
  have p1 := fun n : BT w12 => BT.cell k1 n
  have p2 := fun n : BT w12 => BT.cell k2 n
  have q0 := fun n : BT w12 => BT.cell l0 n
  have q1 := fun n : BT w12 => BT.cell l1 n
  have q2 := fun n : BT w12 => BT.cell l2 n
  have hcase : (a ≠ a') ∨ (a = a' ∧ b ≠ b') ∨ (a = a' ∧ b = b' ∧ c ≠ c') := by omega
  clear hne HRD H1 H2 H3 H4 HDA HSE HC
  rcases hcase with hh | ⟨rfl, hh⟩ | ⟨rfl, rfl, hh⟩
  all_goals
    go_wp2_with fail
    refine wp_region_below (by kernel_rfl) (by kernel_rfl) ?_
    repeat (go_big_quiet_step (fail))
    refine wpQuiet_nil ?_
    intro W5 hW5
    obtain ⟨⟨w5, hb5⟩, rfl⟩ := hW5
    go_wp2_with fail
    go_ret
    exact ⟨rfl, below_via HX12.out.below hb5⟩
set_option maxRecDepth 100000 in
set_option maxHeartbeats 2000000 in
/-- The same chips. -/
theorem str_same (a b c x : Int) (l : List Int) (A : Option Addr) (m s : Nat) (w : World) (hl : Laid w) (hr : rightF a b c = true) (ht : totalF a b c ≤ 500) (hlen : (l.length : Int) = totalF a b c)
    (hx : 0 ≤ x ∧ x ≤ 255) (hs : (s : Int) = 32 + x % 100) (hC : KB.C w A l.length l) (hin : InB l) :
    Calls Tryd.prog 5 #[.agg #[.int .i64 a, .int .i64 b, .int .i64 c], .agg #[.int .i64 a, .int .i64 b, .int .i64 c], .int .u8 x, .slice A l.length m] w fun e w' => e = .returned (.bool true) ∧ Below w.heap.size w w' := by
  have hs1 : 32 ≤ s := by omega
  have hs2 : s ≤ 131 := by omega
  have HL := Lib.hid hl
  have HA := Lib.hid (fun (W : World) (hl : Laid W) => awake_calls W hl)
  have H1 := Lib.hid (fun (W : World) => refFew_calls a b c W)
  have H2 := Lib.hid (fun (W : World) => refFew_calls a b c W)
  have H3 := Lib.hid (fun (W : World) => refRight_calls a b c W)
  have H4 := Lib.hid (fun (W : World) => refTotal_calls a b c W)
  have e1 : (!rightF a b c || decide (totalF a b c ≤ 500)) = true := by simp [hr, ht]
  have e2 : (!rightF a b c || decide (totalF a b c ≤ 500)) = true := by simp [hr, ht]
  rw [e1] at H1
  rw [e2] at H2
  rw [hr] at H3
  rw [← hlen] at H4
  have HN : Hid _ := Lib.hid (fun (W : World) => (new_yes W 40 s (by omega) (by omega) (by omega) : Calls Tryd.prog 22 #[.int .i64 40, .int .i64 (s : Int)] W _))
  have HDA := Lib.hid (fun (W : World) (B g : Nat) (F : Nat → Prop) => st_data hs1 hs2 hr ht hlen W B g F A m)
  have HSE := Lib.hid (fun (W : World) (B g : Nat) (F : Nat → Prop) h1 h2 h3 h4 => st_seal hs1 hs2 hr ht hlen W B g F A m h1 h2 h3 h4 hin)
  have HOP := Lib.hid (fun (W : World) (B g : Nat) (F : Nat → Prop) hD => ops_calls W B g F (stD2 a b c l s) hD)
  have hrow : 0 < w.heap.size := World.block_lt_of_cell? w _ (hl 0 (by omega))
  have HC := Lib.hid hC
  have hrem : Int.tmod x 100 = x % 100 := Int.tmod_eq_emod_of_nonneg hx.1
  clear hl hC
  go_enter Tryd.func5, Tryd.ntmps5
  go_wp2_with fail
  have HX := Lib.hid (Bx.made (w := w) (a := a) (b := b) (c := c) (a' := a) (b' := b) (c' := c))
  generalize (w.alloc (geoC a b c)).alloc (geoC a b c) = w0 at *
  refine (HA.out w0 (HL.out.of_below HX.out.below)).mono ?_
  rintro e w1 ⟨rfl, hb1⟩
  have HX1 := Lib.hid (HX.out.step hb1)
  obtain ⟨⟨k0, k1, k2⟩, ⟨l0, l1, l2⟩⟩ := HX1.out.cells
  clear hb1
  go_wp2_with fail
  refine (H1.out w1).mono ?_
  rintro e w2 ⟨rfl, hb2⟩
  have HX2 := Lib.hid (HX1.out.step hb2)
  clear k0 k1 k2 l0 l1 l2 hb2
  obtain ⟨⟨k0, k1, k2⟩, ⟨l0, l1, l2⟩⟩ := HX2.out.cells
  go_wp2_with fail
  refine (H2.out w2).mono ?_
  rintro e w3 ⟨rfl, hb3⟩
  have HX3 := Lib.hid (HX2.out.step hb3)
  clear k0 k1 k2 l0 l1 l2 hb3
  obtain ⟨⟨k0, k1, k2⟩, ⟨l0, l1, l2⟩⟩ := HX3.out.cells
  go_wp2_with fail
  refine (H3.out w3).mono ?_
  rintro e w4 ⟨rfl, hb4⟩
  have HX4 := Lib.hid (HX3.out.step hb4)
  clear k0 k1 k2 l0 l1 l2 hb4
  obtain ⟨⟨k0, k1, k2⟩, ⟨l0, l1, l2⟩⟩ := HX4.out.cells
  go_wp2_with fail
  refine (H4.out w4).mono ?_
  rintro e w5 ⟨rfl, hb5⟩
  have HX5 := Lib.hid (HX4.out.step hb5)
  clear k0 k1 k2 l0 l1 l2 hb5
  go_wp2_with fail
  rw [← hs]
  refine (HN.out w5).mono ?_
  rintro e w6 ⟨g, rfl, hD6, hb6⟩
  have HX6 := Lib.hid (HX5.out.step hb6)
  have HD6 : Hid (IsDisk w6 w5.heap.size _ g (stD s)) := Lib.hid hD6
  have hle5 : w.heap.size + 2 ≤ w5.heap.size := blk_lt HX5.out.b1
  clear hD6 hb6
  obtain ⟨⟨k0, k1, k2⟩, ⟨l0, l1, l2⟩⟩ := HX6.out.cells
  go_wp2_with fail
  refine (HDA.out w6 w5.heap.size g _ (HL.out.of_below HX6.out.below) HD6.out (HD6.out.le6) (Kd.C_below HC.out HX6.out.below)).mono ?_
  rintro e w7 ⟨rfl, hD7, hF7⟩
  have HX7 := Lib.hid (HX6.out.fr hF7 (fun k hk => by have := (HD6.out.bound k hk).1; omega))
  have HD7 := Lib.hid hD7
  clear k0 k1 k2 l0 l1 l2 hD7 hF7
  obtain ⟨⟨k0, k1, k2⟩, ⟨l0, l1, l2⟩⟩ := HX7.out.cells
  go_wp2_with fail
  refine (HSE.out w7 w5.heap.size g _ (HL.out.of_below HX7.out.below) HD7.out (HD7.out.le6) (Kd.C_below HC.out HX7.out.below)).mono ?_
  rintro e w8 ⟨rfl, hD8, hF8⟩
  have HX8 := Lib.hid (HX7.out.fr hF8 (fun k hk => by have := (HD7.out.bound k hk).1; omega))
  have HD8 := Lib.hid hD8
  clear k0 k1 k2 l0 l1 l2 hD8 hF8
  go_wp2_with fail
  refine (HOP.out w8 w5.heap.size g _ HD8.out).mono ?_
  rintro e w9 ⟨rfl, hb9⟩
  have HX9 := Lib.hid (HX8.out.step hb9)
  have HD9 := Lib.hid (HD8.out.below hb9)
  clear hb9
  obtain ⟨⟨k0, k1, k2⟩, ⟨l0, l1, l2⟩⟩ := HX9.out.cells
  go_wp2_with fail
  have HRD := Lib.hid (fun (W : World) (B g : Nat) (F : Nat → Prop) h1 h2 h3 => st_good hs1 hs2 hr ht hlen W B g F h1 h2 h3 hin)
  have H5 := Lib.hid (fun (W : World) => refRight_calls a b c W)
  rw [hr] at H5
  have hg9 : w.heap.size + 2 ≤ g := by
    obtain ⟨_, _, _, _, _, _, _, _, _, _, h6, _⟩ := id HD9.out
    have := (HD9.out.bound g h6).1; omega
  refine (HRD.out w9 w5.heap.size g _ (HL.out.of_below HX9.out.below) HD9.out (by omega)).mono ?_
  rintro e w10 ⟨A9, c9, rfl, hF10⟩
  have HX10 := Lib.hid (HX9.out.fr hF10 (fun k hk => by rw [hk]; exact hg9))
  clear k0 k1 k2 l0 l1 l2 hF10
  obtain ⟨⟨k0, k1, k2⟩, ⟨l0, l1, l2⟩⟩ := HX10.out.cells
  have hlt0 := blk_lt HX10.out.b0
  have hlt1 := blk_lt HX10.out.b1
  go_wp2_with fail
  have hb11 : Below w10.heap.size w10 (w10.alloc (.cells #[.int .i64 2, .int .i64 0, .int .u64 5, .slice A9 l.length c9] 37)) := below_alloc (Below.refl _ _) _
  have hy11 := heap_alloc_new w10 (.cells #[.int .i64 2, .int .i64 0, .int .u64 5, .slice A9 l.length c9] 37)
  generalize w10.alloc (.cells #[.int .i64 2, .int .i64 0, .int .u64 5, .slice A9 l.length c9] 37) = w11 at *
  refine (H5.out w11).mono ?_
  rintro e w12 ⟨rfl, hb12⟩
  have HX12 := Lib.hid ((HX10.out.step hb11).step hb12)
  have hy12 := (hb12.block _ (blk_lt hy11)).trans hy11
  have y0 := (blk_cell hy12 0).trans rfl
  clear k0 k1 k2 l0 l1 l2 hb11 hb12 hlt0 hlt1 hy11 hy12
  obtain ⟨⟨k0, k1, k2⟩, ⟨l0, l1, l2⟩⟩ := HX12.out.cells
  have z0 := fun n : BT w12 => BT.cell y0 n
  have p0 := fun n : BT w12 => BT.cell k0 n
  have p1 := fun n : BT w12 => BT.cell k1 n
  have p2 := fun n : BT w12 => BT.cell k2 n
  have q0 := fun n : BT w12 => BT.cell l0 n
  have q1 := fun n : BT w12 => BT.cell l1 n
  have q2 := fun n : BT w12 => BT.cell l2 n
  clear HRD H1 H2 H3 H4 HDA HSE HC
  go_wp2_with fail
  refine wp_region_below (by kernel_rfl) (by kernel_rfl) ?_
  repeat (go_big_quiet_step (fail))
  refine wpQuiet_nil ?_
  intro W5 hW5
  obtain ⟨⟨w5, hb5⟩, rfl⟩ := hW5
  go_wp2_with fail
  go_ret
  exact ⟨rfl, below_via HX12.out.below hb5⟩

/-- SlotStranger, whatever it is given. -/
theorem str_calls (a b c a' b' c' x : Int) (l : List Int) (A : Option Addr) (m : Nat) (w : World) (hl : Laid w) (hx : 0 ≤ x ∧ x ≤ 255) (hC : KB.C w A l.length l) (hin : InB l) :
    Calls Tryd.prog 5 #[.agg #[.int .i64 a, .int .i64 b, .int .i64 c], .agg #[.int .i64 a', .int .i64 b', .int .i64 c'], .int .u8 x, .slice A l.length m] w fun e w' => e = .returned (.bool true) ∧ Below w.heap.size w w' := by
  by_cases h : (!rightF a b c || decide (totalF a b c ≤ 500)) = false ∨ (!rightF a' b' c' || decide (totalF a' b' c' ≤ 500)) = false ∨ rightF a b c = false ∨ (l.length : Int) ≠ totalF a b c
  · exact str_skip a b c a' b' c' x A l.length m w hl h
  · simp only [not_or] at h
    obtain ⟨h1, h2, h3, h4⟩ := h
    have hr : rightF a b c = true := by simpa using h3
    have hlen : (l.length : Int) = totalF a b c := by simpa using h4
    have ht : totalF a b c ≤ 500 := by rw [hr] at h1; simpa using h1
    obtain ⟨s, hs⟩ := Int.eq_ofNat_of_zero_le (show 0 ≤ 32 + x % 100 by omega)
    rcases hr' : rightF a' b' c' with _ | _
    · exact str_wrong a b c a' b' c' x l A m s w hl hr ht hlen hr' hx hs.symm hC hin
    · have ht' : totalF a' b' c' ≤ 500 := by rw [hr'] at h2; simpa using h2
      by_cases hne : a = a' ∧ b = b' ∧ c = c'
      · obtain ⟨rfl, rfl, rfl⟩ := hne
        exact str_same a b c x l A m s w hl hr ht hlen hx hs.symm hC hin
      · exact str_other a b c a' b' c' x l A m s w hl hr ht hlen hr' ht' hne hx hs.symm hC hin
end Go.Proofs.YtcemageindmbkaaDoor
/- What the rows' condition gives the walks: the table geo.rows lies as laid; and a world that meets it. -/
namespace Go.Proofs.YtcemageindmbkaaDoor
open Go.ChangeShapes Go.WideShapes Go.ChangeAt Go.RowKit

theorem own : ownKnob Tryd.prog.godebug = none := by kernel_rfl
theorem laidOut : laidOutB Tryd.prog = true := by kernel_rfl
theorem gRows : Tryd.prog.globalNamed "keepsake/geo.rows" = some 0 := by kernel_rfl
theorem tRows : (Tryd.prog.globals[0]?).map (·.type) = some 160 := by kernel_rfl
theorem cRows : Tryd.prog.cellsOf 160 = 44 := by kernel_rfl
theorem cRow : Tryd.prog.cellsOf 151 = 4 := by kernel_rfl
theorem cInt : Tryd.prog.cellsOf 3 = 1 := by kernel_rfl
abbrev laidL : List (String × DataW Unit) := [("keepsake/geo.rows", Rows.laid_keepsake_geo_rows)]

theorem datum {H : Type} : (Rows.laid_keepsake_geo_rows : DataW H) = .agg ((List.range 11).map fun i => Lib.tabData .i64 ((tab.drop (i * 4)).take 4)) := rfl

theorem laid_of {W : World} (h : laidMetH Tryd.prog laidL W) : Laid W := by
  rw [MakeChecks.laidMetH_plain _ _ _ (by kernel_rfl)] at h
  obtain ⟨ps, ⟨g', t', cs, fuel, p, q, hg', ht', hvar, hd, -, -⟩, -⟩ := h
  obtain rfl := Option.some.inj (gRows.symm.trans hg')
  obtain rfl := Option.some.inj (tRows.symm.trans ht')
  obtain ⟨xs, m, rfl, hx, hlen, hn, hel⟩ := DataW.trod_array Tryd.underlying160 hd
  rw [datum] at hx
  simp only [Prod.mk.injEq, DataW.agg.injEq] at hx
  rw [cRow] at hel
  intro j hj
  have hc := World.var?_cell hg' hvar j
  rw [hc]
  have hi : j / 4 < 11 := by omega
  have h1 := hel (j / 4) hi
  have h2 : (xs.map (·.1))[j / 4]? = some (Lib.tabData .i64 ((tab.drop (j / 4 * 4)).take 4)) := by rw [← hx.1]; simp [hi]
  rw [List.getElem?_map] at h2
  obtain ⟨y, hy, hy2⟩ := Option.map_eq_some_iff.1 h2
  rw [hy] at h1
  have h3 := Lib.cells_of_tab (p := y.2) Tryd.underlying151 Tryd.underlying3 cInt cRow (h1.trans (congrArg some (Prod.ext hy2 rfl)))
  have h4 : ((cs.toList.drop (j / 4 * 4)).take 4)[j % 4]? = cs.toList[j]? := by
    rw [List.getElem?_take, if_pos (by omega), List.getElem?_drop, show j / 4 * 4 + j % 4 = j by omega]
  have h5 : (((tab.drop (j / 4 * 4)).take 4).map fun z => Value.int .i64 z)[j % 4]? = some (.int .i64 (tab.getD j 0)) := by
    have : j < tab.length := hj
    rw [List.getElem?_map, List.getElem?_take, if_pos (by omega), List.getElem?_drop, show j / 4 * 4 + j % 4 = j by omega, List.getElem?_eq_getElem this, List.getD_eq_getElem?_getD, List.getElem?_eq_getElem this]
    rfl
  rw [h3, h5] at h4
  simpa using h4.symm

/-- The door's own heap meets the condition. -/
theorem door_met (os : Os) (args : Array Value) : laidMetH Tryd.prog laidL ((World.doorLaid Tryd.prog 25 os).forCall (fun _ _ => 0) ⟨#[], args, []⟩).memory :=
  laidMetH_of_parts3 (fuel := 8) (laidMet_of_run' 8 (by kernel_rfl) (by kernel_rfl)) (by kernel_rfl) (by kernel_rfl)
end Go.Proofs.YtcemageindmbkaaDoor
/- Arguments as rows read them: a slice of bytes, chips, a size. -/
namespace Go.Proofs.YtcemageindmbkaaDoor
set_option maxRecDepth 100000
open Go.ChangeShapes Go.WideShapes Go.ChangeAt Go.RowKit Go.Proofs.YtcemageindmbkaaDoorW.PrintWords

/-- A slice of bytes that came in. -/
theorem bytes_arg {H : Type} {enc : TypeId × Value → H} {W : World} {base : Nat} {held : Bool} {v : Value} {d : DataW H} {p : List MemPlace} {r : Reach} {b0 : Nat}
    (hv : Value.okWide Tryd.prog W r b0 27 v) (h : DataW.Trod enc Tryd.prog W base (fun _ => true) held 27 v d p) :
    ∃ A l c, v = .slice A (l : List Int).length c ∧ KB.C W A l.length l ∧ InB l ∧ l.length ≤ c ∧ (A = none → c = 0) := by
  obtain ⟨A, n, c, rfl⟩ := okWide_slice Tryd.underlying27 hv
  obtain ⟨fuel, hf⟩ := h
  rcases open_ints Tryd.underlying27 Tryd.underlying5 (by kernel_rfl) hf with ⟨hcs, _⟩ | ⟨x, l, cc, zs, hcs, _, hl, hm, hz, _, hcell, hwz⟩
  · simp [Value.cells] at hcs
    obtain ⟨rfl, rfl, rfl⟩ := hcs
    exact ⟨none, [], 0, rfl, ⟨rfl, by simp, fun h => absurd h (by simp)⟩, (fun x hx => by cases hx), Nat.le_refl _, fun _ => rfl⟩
  · simp [Value.cells] at hcs
    obtain ⟨rfl, rfl, rfl⟩ := hcs
    have hzl : zs.length = c := by simpa using hz
    have htl : (zs.take n).length = n := by rw [List.length_take]; omega
    refine ⟨some x, zs.take n, c, by rw [htl], ?_, fun y hy => ?_, by rw [htl]; exact hl, fun h => by cases h⟩
    · rw [htl]
      refine ⟨htl, by simp [maxLen] at hm; omega, fun _ => ⟨x, rfl, fun j q hj => ⟨[.int .u8 q], rfl, rfl, fun i u hu => ?_⟩⟩⟩
      have hj1 : j < n := by have := (List.getElem?_eq_some_iff.1 hj).1; omega
      cases i with
      | zero =>
        simp only [List.getElem?_cons_zero, Option.some.injEq] at hu
        subst hu
        have := hcell j (by omega)
        rw [List.getElem?_take, if_pos hj1] at hj
        rw [List.getD_eq_getElem?_getD, hj] at this
        simpa [KB, Kd.int, Kd.scalar] using this
      | succ i => simp at hu
    · have := hwz y (List.mem_of_mem_take hy)
      have e1 : IntKind.u8.min = 0 := rfl
      have e2 : IntKind.u8.max = 255 := rfl
      simp only [Lit.wf, e1, e2, Bool.and_eq_true, decide_eq_true_eq] at this
      exact this
/-- Chips that came in. -/
theorem geo_arg {H : Type} {enc : TypeId × Value → H} {W : World} {base : Nat} {sp : Nat → Bool} {held : Bool} {v : Value} {d : DataW H} {p : List MemPlace} {r : Reach} {b0 : Nat}
    (hv : Value.okWide Tryd.prog W r b0 23 v) (h : DataW.Trod enc Tryd.prog W base sp held 23 v d p) :
    ∃ a b c, v = .agg #[.int .i64 a, .int .i64 b, .int .i64 c] := by
  obtain ⟨x0, x1, x2, y0, y1, y2, n, rfl, -, -, g0, g1, g2⟩ := Joins.open_agg3 Tryd.underlying23 (by kernel_rfl) (by kernel_rfl) hv h
  obtain ⟨a, e1, -, -⟩ := DataW.trod_int Tryd.underlying3 g0
  obtain ⟨b, e2, -, -⟩ := DataW.trod_int Tryd.underlying3 g1
  obtain ⟨c, e3, -, -⟩ := DataW.trod_int Tryd.underlying3 g2
  simp only [List.cons.injEq, and_true] at e1 e2 e3
  exact ⟨a, b, c, by rw [e1, e2, e3]⟩
end Go.Proofs.YtcemageindmbkaaDoor
namespace Go.Proofs.YtcemageindmbkaaDoor
open Go.ChangeShapes Go.WideShapes Go.ChangeAt Go.RowKit

set_option maxRecDepth 100000 in
theorem stranger_lifted (os : Os) (started : os.Started) (H : Type) (enc : TypeId × Value → H) :
    ReturnsInHanded {} Tryd.checked os 5 .any (fun w args => (Rows.slotStrangerSpec.pre enc Tryd.prog Tryd.f5 [] false w args ∧ laidMetH Tryd.prog laidL w) ∧ sizedMet enc Tryd.prog Tryd.f5 (OpenSpec.ofChange Rows.slotStrangerSpec) false w args)
      (Rows.slotStrangerSpec.post enc Tryd.prog Tryd.f5 false true false false) := by
  refine returnsInHanded_of_change_and (C := Tryd.checked) (X := fun w _ => laidMetH Tryd.prog laidL w) (fun _ _ _ hh h => h.of_heap hh) own started (by kernel_rfl) Tryd.func5
    (ChangeSpec.witness_shaped (enc := enc) (C := Tryd.checked) (os := os) (X := fun w _ => laidMetH Tryd.prog laidL w) false (World.doorLaid Tryd.prog 25 os) #[.agg #[.int .i64 0, .int .i64 0, .int .i64 0], .agg #[.int .i64 0, .int .i64 0, .int .i64 0], .int .u8 0, .slice none 0 0] 8 rfl (World.shaped_of_RefB (by kernel_rfl) (by kernel_rfl)) (by kernel_rfl) (by kernel_rfl) (by kernel_rfl) (door_met os _)) ?_
  intro W base args ds gs before hval0 hW _ _ hL _
  have hval : ∀ (j : Nat) t v, Tryd.f5.params[j]? = some t → args[j]? = some v → Value.okWide Tryd.prog W .any base t v := hval0
  have hW' := hW
  obtain ⟨p, q, hA0, hV, rfl, hfz, hnd⟩ := hW
  have hA : DataW.TrodAll enc Tryd.prog W 0 (fun _ => true) true Tryd.f5.params.toList args.toList ds p := hA0
  rw [Tryd.params5] at hA hval
  obtain ⟨v0, vs0, d0, ds0, p0, q0, hargs, rfl, rfl, h0, r0⟩ := trodAll_cons hA
  obtain ⟨v1, vs1, d1, ds1, p1, q1, rfl, rfl, rfl, h1, r1⟩ := trodAll_cons r0
  obtain ⟨v2, vs2, d2, ds2, p2, q2, rfl, rfl, rfl, h2, r2⟩ := trodAll_cons r1
  obtain ⟨v3, vs3, d3, ds3, p3, q3, rfl, rfl, rfl, h3, r3⟩ := trodAll_cons r2
  obtain ⟨rfl, rfl, rfl⟩ := trodAll_nil r3
  obtain rfl : args = #[v0, v1, v2, v3] := by cases args; simp_all
  obtain ⟨rfl, rfl⟩ := trodVars_none hV
  obtain ⟨a, b, c, rfl⟩ := geo_arg (hval 0 23 v0 rfl rfl) h0
  obtain ⟨a', b', c', rfl⟩ := geo_arg (hval 1 23 v1 rfl rfl) h1
  obtain ⟨x, rfl, rfl, rfl, wx⟩ := open_int Tryd.underlying5 (hval 2 5 v2 rfl rfl) h2
  obtain ⟨A, l, m, rfl, hC, hin, -, -⟩ := bytes_arg (hval 3 27 v3 rfl rfl) h3
  have lt : ∀ (P : List MemPlace) t v d, DataW.Trod enc Tryd.prog W 0 (fun _ => true) true t v d P → ∀ x ∈ P, x.block < W.heap.size := fun P t v d k => by obtain ⟨m, hm⟩ := k; exact DataW.trod_lt m _ _ _ hm
  have hx : 0 ≤ x ∧ x ≤ 255 := by
    have e1 : IntKind.u8.min = 0 := rfl
    have e2 : IntKind.u8.max = 255 := rfl
    simpa only [Lit.wf, e1, e2, Bool.and_eq_true, decide_eq_true_eq] using wx
  clear hA0 hval0
  simp only [List.append_nil] at hW'
  refine (str_calls a b c a' b' c' x l A m W (laid_of hL) hx hC hin).mono fun e W' ⟨he, bel⟩ => ?_
  subst he
  exact ⟨_, rfl, _, _, _, [], _, [], hW', trodAll_mk1 (shut_bool Tryd.underlying4 _), (trodAll_cons_mk (Below.trod laidOut (by kernel_rfl) (of_decide_eq_true (by kernel_rfl)) h0 bel (lt _ _ _ _ h0)) (trodAll_cons_mk (Below.trod laidOut (by kernel_rfl) (of_decide_eq_true (by kernel_rfl)) h1 bel (lt _ _ _ _ h1)) (trodAll_cons_mk (shut_int Tryd.underlying5 wx) (trodAll_cons_mk (Below.trod laidOut (by kernel_rfl) (of_decide_eq_true (by kernel_rfl)) h3 bel (lt _ _ _ _ h3)) trodAll_mk0)))), rfl, bel.frame _, fun h => by cases h⟩

theorem stranger_row : Rows.SlotStrangerSaid :=
  OpenClaim.holds_of_wide 5 Tryd.f5 rfl rfl rfl rfl rfl rfl rfl ⟨rfl, rfl, rfl, rfl, rfl⟩ rfl rfl rfl rfl rfl (by kernel_rfl) Tryd.func5 (by kernel_rfl)
    (of_decide_eq_true (by kernel_rfl)) (by unfold Func.isWrapper; first | (rw [if_pos (by decide +kernel)]; kernel_rfl) | (rw [if_neg (by decide +kernel)]; exact ⟨rfl, rfl⟩))
    (fun os started H enc _ => stranger_lifted os started H enc)
theorem slotStranger_holds : Rows.SlotStrangerCardSaid :=
  Claim7.holds_tied_plain_at .later [] [.data] true (true, "4726cab8438cce3db2bb13aeedb02c700030f2d6115c4540c3c86b96834fbcc4") false
    stranger_row (fun _ h => by cases h) (by kernel_rfl) (fun _ h => by cases h) slotStranger_row_tie rfl ⟨rfl, rfl⟩ (by kernel_rfl) rfl
    (fun f fn hf hfn => by
      obtain rfl : f = 5 := Option.some.inj ((show Tryd.prog.funcNamed "keepsake/keepsakelaw06.SlotStranger" = some 5 by kernel_rfl).symm.trans hf) |>.symm
      obtain rfl : fn = Tryd.f5 := (Option.some.inj (Tryd.func5.symm.trans hfn)).symm
      exact ⟨by kernel_rfl, fun j t ht => by
        rw [Tryd.params5] at ht
        have hm : t ∈ [23, 23, 5, 27] := by simpa using Array.mem_of_getElem? ht
        have hall : ([23, 23, 5, 27].all fun u => !Tryd.prog.wantsStandIn u) = true := by kernel_rfl
        exact (show Tryd.prog.wantsStandIn t = false by simpa using List.all_eq_true.1 hall t hm)⟩)
    (by kernel_rfl)
#print axioms slotStranger_holds
end Go.Proofs.YtcemageindmbkaaDoor
