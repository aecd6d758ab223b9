/- Parts of the proof, in build order. -/
import Derived.Test.YtcemageindmbkaaDoorBytesAll4
import Derived.Deep.RegionLaw
import Derived.Test.YtcemageindmbkaaDoorRows
import Derived.ProofKit
import Derived.LaidMore
import Derived.OpenShut
import Derived.Stop.Joined
import Derived.Lib.LaidTab
import Derived.Lib.SmallJoins
import Derived.WalkKit
/- slot.Read, where the head is the slot's own and its sum fails: what it returns. -/
namespace Go.Proofs.YtcemageindmbkaaDoor
open Go.RowKit Go.Proofs.YtcemageindmbkaaDoorW.PrintWords
open PSlotBytes

set_option maxRecDepth 100000 in
set_option maxHeartbeats 1000000 in
theorem rd_sum (w : World) (B g : Nat) (F : Nat → Prop) (D : DiskS) (which a b c : Int) (s n m : Nat) (hl : Laid w) (hD : IsDisk w B F g D) (hcm : Calm D 100000) (hB0 : 0 < B) (h : atE D which a b c = 0) (hs : D.size = s) (q u : Int)
    (hlen0 : (sectR D (which * spanF D.size a b c)).length = s) (hin0 : InB (sectR D (which * spanF D.size a b c))) (hdv : decV (sectR D (which * spanF D.size a b c)) = .agg #[.int .i64 a, .int .i64 b, .int .i64 c, .int .i64 (m : Int), .int .u64 q, .int .u32 u]) (hde : decE (sectR D (which * spanF D.size a b c)) = 0)
    (hm : (m : Int) = totalF a b c) (hn : sectorsF (totalF a b c) s = n) (hsb : ∀ l ∈ sectsR D (which * spanF D.size a b c) n, InB l ∧ l.length = s) (hu : sumF ((sectsR D (which * spanF D.size a b c) n).flatten.take m) ≠ u) :
    Calls Tryd.prog 15 #[.pointer (some ⟨g, 0, none⟩), .int .i64 which, .agg #[.int .i64 a, .int .i64 b, .int .i64 c]] w fun e w' => e = .returned (.tuple #[.agg #[.int .i64 0, .int .i64 8, .int .u64 0, .slice none 0 0], .int .i64 0]) ∧ IsDisk w' B F g (nextN D (n + 1)) ∧ Fr w w' (fun k => k = g) := by
  rw [hs] at hsb hu
  have hmt := totalF_bd a b c
  have hnb := (sectorsF_bd (totalF a b c) (s : Int) hmt.1)
  have hsr := atE_ok h
  rw [hs] at hsr
  have hs2 : s ≤ 4096 := by have := hcm.ok.s2; rw [hs] at this; omega
  have hcov : m ≤ n * s := sectors_cover (by omega) hs2 (by rw [hm]; exact hn)
  have hns : n * s ≤ 16777216 := by have := sectors_room (n := m) (m := n) (by omega) hs2 (by rw [hm]; exact hn); omega
  clear hsr
  obtain ⟨h1, h2, h3, h4, h5⟩ := atE_ok h
  have hok := hcm.ok
  have HA := Lib.hid (fun (W : World) (hW : Below w.heap.size w W) => at_ok W B g F D which a b c (hl.of_below hW) (hD.below hW) hok h1 h2 h3 h4 h5)
  have hsp := spanF_bd D.size a b c
  have hfi : 0 ≤ which * spanF D.size a b c ∧ which * spanF D.size a b c ≤ spanF D.size a b c := by
    have h01 : which = 0 ∨ which = 1 := by omega
    rcases h01 with rfl | rfl
    · rw [Int.zero_mul]; omega
    · rw [Int.one_mul]; omega
  have hspe : spanF D.size a b c = 1 + sectorsF (totalF a b c) D.size := by unfold spanF; rw [if_pos ⟨h1, h4, hok.s2⟩]
  have hsn : 0 ≤ sectorsF (totalF a b c) D.size := (sectorsF_bd _ _ (totalF_bd a b c).1).1
  rw [hs] at HA hfi h4 hspe h5 hsp hsn
  rw [hs] at hlen0 hin0 hdv hde
  generalize hspg : spanF (s : Int) a b c = sp at *
  generalize hfd : which * sp = fd at *
  have hgood := read_good (D := D) (i := fd) hcm.planned (by omega) (by omega)
  have hrd := fun (W : World) p1 p2 q1 q2 hD => rd_calls W B g p1 p2 F D fd 0 q1 q2 hD hok (by omega)
  simp only [Int.add_zero, hgood.1, hgood.2] at hrd
  have HRD := Lib.hid hrd
  generalize hsec : sectR D fd = l0 at *
  have hdc := fun (W : World) bb o cc hl hC hc => decode_calls bb o cc l0 W hl hC hc hin0
  rw [hdv, hde] at hdc
  have HDC := Lib.hid hdc
  have sn : ∀ (m : Mode) (x : Addr) (w : World), (store x Value.nilFunc m).run Tryd.prog w = stored Tryd.prog w x Value.nilFunc m := fun m x w => run_store Tryd.prog w x _ m rfl
  have sf : ∀ (fn : Fn) (u v : Array Value) (m : Mode) (x : Addr) (w : World), (store x (Value.func fn u v) m).run Tryd.prog w = stored Tryd.prog w x (Value.func fn u v) m := fun fn u v m x w => run_store Tryd.prog w x _ m rfl
  have HD := Lib.hid hD
  have HL := Lib.hid hl
  have HCM := Lib.hid hcm
  have HSPE := Lib.hid hspe
  have HLEN0 := Lib.hid hlen0
  have HS32 : Hid (32 ≤ s) := Lib.hid (by omega)
  have hgl : g < w.heap.size := by
    obtain ⟨_, _, _, _, _, hh, _⟩ := hD
    exact blk_lt hh
  have hFg : F g := by obtain ⟨_, _, _, _, _, _, _, _, _, _, h6, _⟩ := hD; exact h6
  have HM := Lib.hid hm
  have HN := Lib.hid hn
  have HSB := Lib.hid hsb
  have HNB : Hid (n ≤ 90112) := Lib.hid (by omega)
  have HCOV := Lib.hid hcov
  have HNS := Lib.hid hns
  have HSC : Hid (fd + (n : Int) < D.sectors) := Lib.hid (by omega)
  clear hm hn hsb hmt hnb hcov hns
  clear hlen0 hl hD hok h h1 h2 h3 h4 h5 hcm hfd hspg hspe hs hgood hrd hsec hdc hdv hde
  go_enter Tryd.func15, Tryd.ntmps15
  go_wp2_with fail
  have HX := Lib.hid (Rd2.made w a b c)
  generalize (w.alloc (.cells #[.int .i64 a, .int .i64 b, .int .i64 c] 23)).alloc slC = wX at *
  refine (HA.out _ HX.out.below).mono ?_
  rintro e w1 ⟨p2, rfl, hb1, hp1, hp2, hle⟩
  have HP1 := Lib.hid hp1
  have HP2 := Lib.hid hp2
  have HX1 := Lib.hid (HX.out.step hb1)
  have hx1 : w.heap.size + 1 < wX.heap.size := blk_lt HX.out.b1
  clear hb1 hp1 hp2
  go_wp2_with fail
  generalize hwP : w1.alloc (plC wX.heap.size p2 (sp - 1) s) = wP
  have hPl : wP.heap[w1.heap.size]? = some (plC wX.heap.size p2 (sp - 1) s) := hwP ▸ heap_alloc_new w1 _
  have hBP : Below w1.heap.size w1 wP := hwP ▸ below_alloc (Below.refl _ _) _
  clear hwP
  have hq1 := (hBP.block _ (blk_lt HP1.out)).trans HP1.out
  have hq2 := (hBP.block _ (blk_lt HP2.out)).trans HP2.out
  have HXP := Lib.hid (HX1.out.step hBP)
  have hw1 : wX.heap.size < w1.heap.size := blk_lt HP1.out
  have HQ1 := Lib.hid hq1
  have HQ2 := Lib.hid hq2
  have HPL := Lib.hid hPl
  clear hBP hPl hq1 hq2
  refine (HRD.out wP _ _ HQ1.out HQ2.out (HD.out.below HXP.out.below)).mono ?_
  rintro e w2 ⟨v2, rfl, hR2, hI2, hF2⟩
  have hx2 : Rd3 w w2 g a b c := ⟨(Fr.of_below HXP.out.below _).trans hF2 (fun _ _ h => h), hF2.blk HXP.out.b0 (by omega), hF2.blk HXP.out.b1 (by omega)⟩
  have hpl2 := hF2.blk HPL.out (by omega)
  have hq1 := hF2.blk HQ1.out (by omega)
  have hq2 := hF2.blk HQ2.out (by omega)
  obtain ⟨A2, c2, rfl, hc2, hC2⟩ := Kd.R_reads hR2
  obtain ⟨bb, rfl⟩ := plain_row hR2 (by rw [HLEN0.out]; have := HS32.out; omega)
  have HX2 := Lib.hid hx2
  have HPL2 := Lib.hid hpl2
  have HQ12 := Lib.hid hq1
  have HQ22 := Lib.hid hq2
  have HI2 := Lib.hid hI2
  have HDEC := Lib.hid (HDC.out w2 bb 0 c2 ((HL.out.of_below HXP.out.below).of_kept hF2.kept (by have := (HD.out.bound g hFg).1; omega)) hC2 hc2)
  clear hF2 hx2 hpl2 hq1 hq2 hI2 hR2 hC2 hc2
  go_wp2_with fail
  refine HDEC.out.mono ?_
  rintro e w3 ⟨rfl, hb3⟩
  have HX3 := Lib.hid ((HX2.out.step hb3).step (below_alloc (Below.refl _ _) (.cells #[.int .i64 a, .int .i64 b, .int .i64 c, .int .i64 (m : Int), .int .u64 q, .int .u32 u] 93)))
  have hb3' := below_via hb3 (below_alloc (Below.refl w3.heap.size w3) (.cells #[.int .i64 a, .int .i64 b, .int .i64 c, .int .i64 (m : Int), .int .u64 q, .int .u32 u] 93))
  have HI3 := Lib.hid (HI2.out.below hb3')
  have HPL3 := Lib.hid ((hb3'.block _ (blk_lt HPL2.out)).trans HPL2.out)
  have HQ13 := Lib.hid ((hb3'.block _ (blk_lt HQ12.out)).trans HQ12.out)
  have HQ23 := Lib.hid ((hb3'.block _ (blk_lt HQ22.out)).trans HQ22.out)
  clear hb3 hb3'
  obtain ⟨⟨c0, c1, c2⟩, ⟨k0, k1, k2, k3⟩, f0, f1, f2, f3⟩ := HX3.out.cells
  have y0 := (blk_cell HPL3.out 0).trans rfl
  have y1 := (blk_cell HPL3.out 1).trans rfl
  have y2 := (blk_cell HPL3.out 2).trans rfl
  have y3 := (blk_cell HPL3.out 3).trans rfl
  go_wp2_with fail
  have e1 : sp - 1 = (n : Int) := by rw [HSPE.out, HN.out]; omega
  rw [e1]
  have hcn : Calm D.next (n + 1) := by
    have := (Calm.read (n := 99999) HCM.out)
    exact ⟨this.ok, this.planned, (by have := this.ops; have := HNB.out; omega), (by have := this.writes; have := HNB.out; omega)⟩
  have hsect : sectsR D.next fd n = sectsR D fd n := rfl
  have HW := Lib.hid (whole_calls _ B g wX.heap.size p2 F D.next fd s n m s HQ13.out HQ23.out HI3.out hcn (by omega) (by have := HSC.out; show fd + (n : Int) < D.sectors; omega) (by omega) (by omega) (by have := HNB.out; omega) (by have := HS32.out; omega) (by rw [hsect]; exact HSB.out) HNS.out HCOV.out)
  refine HW.out.mono ?_
  rintro e w4 ⟨A4, c4, rfl, hmc, hnil, hCN, hI4, hF4⟩
  have hlt3 : w.heap.size + 1 < w3.heap.size + 1 := by have := blk_lt HX3.out.b1; simpa using this
  have hx4 : Rd3 w w4 g a b c := ⟨HX3.out.fr.trans hF4 (fun _ _ h => h), hF4.blk HX3.out.b0 (by omega), hF4.blk HX3.out.b1 (by omega)⟩
  have hh4 := hF4.blk (heap_alloc_new w3 (.cells #[.int .i64 a, .int .i64 b, .int .i64 c, .int .i64 (m : Int), .int .u64 q, .int .u32 u] 93)) (show ¬ w3.heap.size = g by omega)
  have himg : ((sectsR D fd n).flatten.take m).length = m := by
    rw [List.length_take, flat_len (fun l hl => (HSB.out l hl).2)]
    have : (sectsR D fd n).length = n := by simp [sectsR]
    rw [this]; have := HCOV.out; omega
  have hiin : InB ((sectsR D fd n).flatten.take m) := fun x hx => flat_in (fun l hl => (HSB.out l hl).1) x (List.mem_of_mem_take hx)
  rw [hsect] at hCN
  generalize hIG : (sectsR D fd n).flatten.take m = img at *
  have HIG := Lib.hid hIG
  clear hIG
  have HSUM := Lib.hid (fun W (hW : Below w4.heap.size w4 W) => sum_n m A4 c4 img W himg (Kd.C_below hCN.1 hW) hiin (by rw [himg]; have := HCOV.out; have := HNS.out; omega))
  have HX4 := Lib.hid hx4
  have HH4 := Lib.hid hh4
  have HI4 := Lib.hid hI4
  have HCN := Lib.hid hCN
  have HX3s : Hid (w.heap.size ≤ w3.heap.size + 1) := Lib.hid (by omega)
  clear hF4 hx4 hh4 hI4 hCN himg hiin hsect hcn c0 c1 c2 k0 k1 k2 k3 f0 f1 f2 f3 y0 y1 y2 y3 e1
  have y5 := (blk_cell HH4.out 5).trans rfl
  have y4 := (blk_cell HH4.out 4).trans rfl
  have z5 := fun n : BT w4 => BT.cell y5 n
  go_wp2_with fail
  · skip
    refine wp_region_below (by kernel_rfl) (by kernel_rfl) ?_
    repeat (go_big_quiet_step (first | (go_at_call 51; exact Calls.below_of (HSUM.out _ (CT.ok _)))))
    refine wpQuiet_nil ?_
    intro W5 hW5
    obtain ⟨⟨w5, hb5⟩, rfl⟩ := hW5
    have HX5 := Lib.hid (HX4.out.step hb5)
    obtain ⟨-, ⟨k0, k1, k2, k3⟩, f0, f1, f2, f3⟩ := HX5.out.cells
    have y4' := pw_cell_below hb5 y4
    have HI5 := Lib.hid (HI4.out.below hb5)
    have HCN5 := Lib.hid (HCN.out.below hb5)
    clear hb5 z5 y4 y5
    go_wp2_with fail
    obtain ⟨W9, hW9, ⟨l0, l1, l2, l3⟩, hbel, hsz9, hrest⟩ := set4 (.int .i64 0) (.int .i64 8) (.int .u64 0) (.slice none 0 0) ⟨k0, k1, k2, k3⟩
    rw [← hW9]
    clear hW9 k0 k1 k2 k3 f0 f1 f2 f3
    refine bodyPost_ret (v := .tuple #[.agg #[.int .i64 0, .int .i64 8, .int .u64 0, .slice none 0 0], .int .i64 0]) (by simp [results, Tryd.results15, go_sem, l0, l1, l2, l3]) rfl ?_
    have hb9 := hbel (w.heap.size + 1) _ (Below.refl _ _) (Nat.le_refl _)
    refine ⟨rfl, ?_, rd_fin HX5.out.fr hb9⟩
    have := HI5.out.step hb9.size (fun q hq => hb9.block q (by have := (HD.out.bound q hq).2; omega))
    have e9 : nextN D.next n = nextN D (n + 1) := by simp only [nextN, DiskS.next, DiskS.mk.injEq, true_and, and_true]; omega
    rwa [e9] at this
end Go.Proofs.YtcemageindmbkaaDoor
/- slot.Read, whatever the sectors hold: what it returns. -/
namespace Go.Proofs.YtcemageindmbkaaDoor
open Go.RowKit Go.Proofs.YtcemageindmbkaaDoorW.PrintWords
open PSlotBytes

/-- A slot: its state, why, its number, its image. -/
structure SlotS where
  st : Int
  why : Int
  seq : Int
  img : List Int
def slotV (l0 : List Int) (a b c : Int) (body : List Int) : SlotS :=
  if decE l0 ≠ 0 then ⟨0, decE l0, 0, []⟩
  else if ¬ (l0.getD 5 0 = a ∧ l0.getD 6 0 = b ∧ l0.getD 7 0 = c) then ⟨1, 0, 0, []⟩
  else if sumF (body.take (totalF a b c).toNat) ≠ valF ((l0.take 24).drop 20) then ⟨0, 8, 0, []⟩
  else ⟨2, 0, valF ((l0.take 20).drop 12), body.take (totalF a b c).toNat⟩
theorem decE_head {l0 : List Int} (h : decE l0 = 0) : decV l0 = headV l0 ∧ rightF (l0.getD 5 0) (l0.getD 6 0) (l0.getD 7 0) = true ∧ valF ((l0.take 12).drop 8) = totalF (l0.getD 5 0) (l0.getD 6 0) (l0.getD 7 0) := by
  have hv : decV l0 = headV l0 := by unfold decV; rw [if_pos h]
  refine ⟨hv, ?_⟩
  unfold decE at h
  split at h
  · omega
  · split at h
    · omega
    · split at h
      · omega
      · split at h
        · omega
        · split at h
          · rename_i hh
            simp only [hrightF, Bool.and_eq_true, decide_eq_true_eq] at hh
            exact hh
          · omega
abbrev slotVal (S : SlotS) (A : Option Addr) (cc : Nat) : Value := .agg #[.int .i64 S.st, .int .i64 S.why, .int .u64 S.seq, .slice A S.img.length cc]

theorem sread_ok (w : World) (B g : Nat) (F : Nat → Prop) (D : DiskS) (which a b c : Int) (s n : Nat) (hl : Laid w) (hD : IsDisk w B F g D) (hcm : Calm D 100000) (hB0 : 0 < B) (h : atE D which a b c = 0) (hs : D.size = s)
    (hlen0 : (sectR D (which * spanF D.size a b c)).length = s) (hin0 : InB (sectR D (which * spanF D.size a b c))) (hn : sectorsF (totalF a b c) s = n) (hsb : ∀ l ∈ sectsR D (which * spanF D.size a b c) n, InB l ∧ l.length = s) :
    Calls Tryd.prog 15 #[.pointer (some ⟨g, 0, none⟩), .int .i64 which, .agg #[.int .i64 a, .int .i64 b, .int .i64 c]] w fun e w' => ∃ A cc k, e = .returned (.tuple #[slotVal (slotV (sectR D (which * spanF D.size a b c)) a b c (sectsR D (which * spanF D.size a b c) n).flatten) A cc, .int .i64 0]) ∧
      CN w' w.heap.size A (slotV (sectR D (which * spanF D.size a b c)) a b c (sectsR D (which * spanF D.size a b c) n).flatten).img ∧
      (slotV (sectR D (which * spanF D.size a b c)) a b c (sectsR D (which * spanF D.size a b c) n).flatten).img.length ≤ cc ∧ IsDisk w' B F g (nextN D k) ∧ Fr w w' (fun k => k = g) := by
  have hcov : (totalF a b c).toNat ≤ n * s := by
    have hsr := atE_ok h
    rw [hs] at hsr
    have hs2 : s ≤ 4096 := by have := hcm.ok.s2; rw [hs] at this; omega
    have hb := totalF_bd a b c
    exact sectors_cover (n := (totalF a b c).toNat) (by omega) hs2 (by rw [show (((totalF a b c).toNat : Nat) : Int) = totalF a b c by omega]; exact hn)
  have hfl : (sectsR D (which * spanF D.size a b c) n).flatten.length = n * s := by
    rw [flat_len (fun l hl => (hsb l hl).2)]
    simp [sectsR]
  by_cases h0 : decE (sectR D (which * spanF D.size a b c)) = 0
  · obtain ⟨hv, hr, ht⟩ := decE_head h0
    by_cases hg : (sectR D (which * spanF D.size a b c)).getD 5 0 = a ∧ (sectR D (which * spanF D.size a b c)).getD 6 0 = b ∧ (sectR D (which * spanF D.size a b c)).getD 7 0 = c
    · obtain ⟨g5, g6, g7⟩ := hg
      rw [g5, g6, g7] at ht
      have hb := totalF_bd a b c
      obtain ⟨m, hm⟩ := Int.eq_ofNat_of_zero_le hb.1
      have hmn : (totalF a b c).toNat = m := by omega
      have hv2 : decV (sectR D (which * spanF D.size a b c)) = .agg #[.int .i64 a, .int .i64 b, .int .i64 c, .int .i64 (m : Int), .int .u64 (valF (((sectR D (which * spanF D.size a b c)).take 20).drop 12)), .int .u32 (valF (((sectR D (which * spanF D.size a b c)).take 24).drop 20))] := by
        rw [hv]; unfold headV; rw [g5, g6, g7, ht, hm]
      by_cases hu : sumF ((sectsR D (which * spanF D.size a b c) n).flatten.take m) = valF (((sectR D (which * spanF D.size a b c)).take 24).drop 20)
      · have e : slotV (sectR D (which * spanF D.size a b c)) a b c (sectsR D (which * spanF D.size a b c) n).flatten = ⟨2, 0, valF (((sectR D (which * spanF D.size a b c)).take 20).drop 12), (sectsR D (which * spanF D.size a b c) n).flatten.take m⟩ := by
          unfold slotV; rw [if_neg (by simp [h0]), if_neg (fun hh => hh ⟨g5, g6, g7⟩), hmn, if_neg (by simp [hu])]
        rw [e]
        have hil : ((sectsR D (which * spanF D.size a b c) n).flatten.take m).length = m := by rw [List.length_take, hfl]; omega
        refine (rd_good w B g F D which a b c s n m hl hD hcm hB0 h hs _ _ hlen0 hin0 hv2 h0 hm.symm hn hsb hu).mono ?_
        rintro e w' ⟨A, cc, rfl, hCN, hcc, -, hI, hF⟩
        exact ⟨A, cc, n + 1, by simp only [slotVal, hil], hCN, by simp only [hil]; exact hcc, hI, hF⟩
      · have e : slotV (sectR D (which * spanF D.size a b c)) a b c (sectsR D (which * spanF D.size a b c) n).flatten = ⟨0, 8, 0, []⟩ := by
          unfold slotV; rw [if_neg (by simp [h0]), if_neg (fun hh => hh ⟨g5, g6, g7⟩), hmn, if_pos (by simpa using hu)]
        rw [e]
        refine (rd_sum w B g F D which a b c s n m hl hD hcm hB0 h hs _ _ hlen0 hin0 hv2 h0 hm.symm hn hsb hu).mono ?_
        rintro e w' ⟨rfl, hI, hF⟩
        exact ⟨none, 0, n + 1, rfl, ⟨Kd.C_nil _ _, fun _ h _ => by cases h⟩, Nat.le_refl _, hI, hF⟩
    · have e : slotV (sectR D (which * spanF D.size a b c)) a b c (sectsR D (which * spanF D.size a b c) n).flatten = ⟨1, 0, 0, []⟩ := by
        unfold slotV; rw [if_neg (by simp [h0]), if_pos hg]
      rw [e]
      have key : Calls Tryd.prog 15 #[.pointer (some ⟨g, 0, none⟩), .int .i64 which, .agg #[.int .i64 a, .int .i64 b, .int .i64 c]] w fun e w' => e = .returned (.tuple #[.agg #[.int .i64 1, .int .i64 0, .int .u64 0, .slice none 0 0], .int .i64 0]) ∧ IsDisk w' B F g D.next ∧ Fr w w' (fun k => k = g) := by
        unfold headV at hv
        by_cases e1 : (sectR D (which * spanF D.size a b c)).getD 5 0 = a
        · rw [e1] at hv
          by_cases e2 : (sectR D (which * spanF D.size a b c)).getD 6 0 = b
          · rw [e2] at hv
            exact rd_al3 w B g F D which a b c s hl hD hcm hB0 h hs _ _ _ _ hlen0 hin0 hv h0 (fun e => hg ⟨e1, e2, e⟩)
          · exact rd_al2 w B g F D which a b c s hl hD hcm hB0 h hs _ _ _ _ _ hlen0 hin0 hv h0 e2
        · exact rd_al1 w B g F D which a b c s hl hD hcm hB0 h hs _ _ _ _ _ _ hlen0 hin0 hv h0 e1
      refine key.mono ?_
      rintro e w' ⟨rfl, hI, hF⟩
      exact ⟨none, 0, 1, rfl, ⟨Kd.C_nil _ _, fun _ h _ => by cases h⟩, Nat.le_refl _, hI, hF⟩
  · have e : slotV (sectR D (which * spanF D.size a b c)) a b c (sectsR D (which * spanF D.size a b c) n).flatten = ⟨0, decE (sectR D (which * spanF D.size a b c)), 0, []⟩ := by
      unfold slotV; rw [if_pos h0]
    rw [e]
    have hv : decV (sectR D (which * spanF D.size a b c)) = .agg #[.int .i64 0, .int .i64 0, .int .i64 0, .int .i64 0, .int .u64 0, .int .u32 0] := by unfold decV; rw [if_neg h0]; rfl
    refine (rd_bad w B g F D which a b c s hl hD hcm hB0 h hs 0 0 0 0 0 0 _ hlen0 hin0 hv rfl h0).mono ?_
    rintro e w' ⟨rfl, hI, hF⟩
    exact ⟨none, 0, 1, rfl, ⟨Kd.C_nil _ _, fun _ h _ => by cases h⟩, Nat.le_refl _, hI, hF⟩
end Go.Proofs.YtcemageindmbkaaDoor
/- The reference's slot.Read (keepsakeref06.Read): what it returns. -/
namespace Go.Proofs.YtcemageindmbkaaDoor
open Go.RowKit Go.Proofs.YtcemageindmbkaaDoorW.PrintWords
open PSlotBytes

set_option maxRecDepth 100000 in
set_option maxHeartbeats 2000000 in
theorem rrd_err (w : World) (B N g : Nat) (s ops : Int) (L : List (List Int)) (D : DiskS) (which a b c : Int) (h : RefR w B N g s L ops) (hs : D.size = s) (hs32 : 32 ≤ s) (hL : (L.length : Int) = D.sectors) (he : atE D which a b c ≠ 0) :
    Calls Tryd.prog 16 #[.pointer (some ⟨g, 0, none⟩), .int .i64 which, .agg #[.int .i64 a, .int .i64 b, .int .i64 c]] w fun e w' => e = .returned (.tuple #[zeroSl, .int .i64 (atE D which a b c)]) ∧ Below w.heap.size w w' := by
  have HC := Lib.hid (fun (W : World) (hW : Below w.heap.size w W) => rcan_calls W B N g s ops L D which a b c (h.below hW) hs hs32 hL)
  clear h hs hL hs32
  generalize atE D which a b c = E at *
  go_enter Tryd.func16, Tryd.ntmps16
  go_wp2_with fail
  have HX := Lib.hid (Rd2.made w a b c)
  generalize (w.alloc (.cells #[.int .i64 a, .int .i64 b, .int .i64 c] 23)).alloc slC = wX at *
  obtain ⟨⟨c0, c1, c2⟩, -⟩ := HX.out.cells
  go_wp2_with fail
  refine (HC.out _ HX.out.below).mono ?_
  rintro e w1 ⟨rfl, hb1⟩
  have H1 := Lib.hid (HX.out.step hb1)
  clear c0 c1 c2 hb1
  obtain ⟨-, ⟨k0, k1, k2, k3⟩, f0, f1, f2, f3⟩ := H1.out.cells
  go_wp2_with fail
  obtain ⟨W9, hW9, ⟨l0, l1, l2, l3⟩, hbel, hsz9, hrest⟩ := set4 (.int .i64 0) (.int .i64 0) (.int .u64 0) (.slice none 0 0) ⟨k0, k1, k2, k3⟩
  rw [← hW9]
  clear hW9 k0 k1 k2 k3 f0 f1 f2 f3
  refine bodyPost_ret (v := .tuple #[zeroSl, .int .i64 E]) (by simp [results, Tryd.results16, go_sem, l0, l1, l2, l3]) rfl ?_
  exact ⟨rfl, hbel _ _ H1.out.below (by omega)⟩

/-- The image's sectors. -/
def rbody (L : List (List Int)) (fd n : Nat) : List (List Int) := (List.range n).map fun k => L.getD (fd + 1 + k) []
theorem rbody_len {L : List (List Int)} {s fd n : Nat} (h : ∀ l ∈ L, l.length = s) (hn : fd + n < L.length) : (rbody L fd n).flatten.length = n * s := by
  rw [flat_len (s := s)]
  · simp [rbody]
  · intro l hl
    unfold rbody at hl
    obtain ⟨k, hk, rfl⟩ := List.mem_map.1 hl
    have hk' : k < n := List.mem_range.1 hk
    have hlt : fd + 1 + k < L.length := by omega
    rw [List.getD_eq_getElem?_getD, List.getElem?_eq_getElem hlt]
    exact h _ (List.getElem_mem hlt)
theorem rbody_in {L : List (List Int)} {fd n : Nat} (h : ∀ l ∈ L, InB l) (hn : fd + n < L.length) : ∀ l ∈ rbody L fd n, InB l := fun l hl => by
  unfold rbody at hl
  obtain ⟨k, hk, rfl⟩ := List.mem_map.1 hl
  have hk' : k < n := List.mem_range.1 hk
  have hlt : fd + 1 + k < L.length := by omega
  rw [List.getD_eq_getElem?_getD, List.getElem?_eq_getElem hlt]
  exact h _ (List.getElem_mem hlt)
theorem rbody_room {L : List (List Int)} {s fd k n : Nat} {X : List Int} (h : ∀ l ∈ L, l.length = s) (hn : fd + n < L.length) (hk : k < n) (hX : X.length = s) : (rbody L fd k).flatten.length + X.length ≤ n * s := by
  rw [rbody_len h (by omega), hX]
  have := Nat.mul_le_mul_right s (show k + 1 ≤ n from hk)
  rw [Nat.add_mul] at this
  omega
theorem bytes_ok {a b : Nat} (h1 : a ≤ b) (h2 : b ≤ 16777216) : a * 1 ≤ 140737488355328 := by omega
theorem rrd_facts {fd k n m : Nat} {ops : Int} (h : fd + n < m) (hk : k < n) (hf : fd ≤ 90113) (hn : n ≤ 90112) (h0 : 0 ≤ ops) (h1 : ops ≤ 1000000000) :
    IntKind.i64.wrap ((fd : Int) + (1 + (k : Int))) = (fd : Int) + (1 + (k : Int)) ∧ (fd : Int) + (1 + (k : Int)) = ((fd + 1 + k : Nat) : Int) ∧ fd + 1 + k < m ∧ 0 ≤ ops + 1 + (k : Int) ∧ ops + 1 + (k : Int) ≤ 1000000000000 := by
  refine ⟨?_, ?_, ?_, ?_, ?_⟩
  · exact IntWalk.i64_in _ (by omega)
  · omega
  · omega
  · omega
  · omega
set_option maxRecDepth 100000 in
set_option maxHeartbeats 4000000 in
theorem rrd_ok (w : World) (B N g : Nat) (ops : Int) (L : List (List Int)) (D : DiskS) (which a b c : Int) (s n fd : Nat) (h : RefR w B N g s L ops) (hs : D.size = s) (hs32 : 32 ≤ s) (hs2 : s ≤ 4096) (hL : (L.length : Int) = D.sectors) (he : atE D which a b c = 0)
    (hN : N ≤ w.heap.size) (ho0 : 0 ≤ ops) (ho1 : ops ≤ 1000000000) (hlb : ∀ l ∈ L, InB l ∧ l.length = s) (hfd : (fd : Int) = which * (1 + (n : Int))) (hn : sectorsF (totalF a b c) s = n) (hnl : fd + n < L.length) (hn9 : n ≤ 90112) :
    Calls Tryd.prog 16 #[.pointer (some ⟨g, 0, none⟩), .int .i64 which, .agg #[.int .i64 a, .int .i64 b, .int .i64 c]] w fun e w' => ∃ A cc k, e = .returned (.tuple #[slotVal (slotV (L.getD fd []) a b c (rbody L fd n).flatten) A cc, .int .i64 0]) ∧
      KB.C w' A (slotV (L.getD fd []) a b c (rbody L fd n).flatten).img.length (slotV (L.getD fd []) a b c (rbody L fd n).flatten).img ∧ (slotV (L.getD fd []) a b c (rbody L fd n).flatten).img.length ≤ cc ∧ RefR w' B N g s L k ∧ Fr w w' (fun k => k = g) := by
  obtain ⟨h1, h2, h3, h4, h5⟩ := atE_ok he
  have HC := Lib.hid (fun (W : World) (hW : Below w.heap.size w W) => rcan_calls W B N g s ops L D which a b c (h.below hW) hs (by omega) hL)
  rw [he] at HC
  have hspan : spanF (s : Int) a b c = 1 + (n : Int) := by unfold spanF; rw [if_pos ⟨h1, by omega, by omega⟩, hn]
  have HSP := Lib.hid (fun W => refSpan_calls (s : Int) a b c W)
  rw [hspan] at HSP
  have HR := Lib.hid h
  have HLB := Lib.hid hlb
  have hn' := hn
  clear hn
  have hfdb : fd ≤ 90113 := by
    have h01 : which = 0 ∨ which = 1 := by omega
    rcases h01 with rfl | rfl
    · rw [Int.zero_mul] at hfd; omega
    · rw [Int.one_mul] at hfd; omega
  have hw2 : IntKind.i64.wrap (which * (1 + (n : Int))) = (fd : Int) := by rw [← hfd]; exact IntWalk.i64_in _ (by omega)
  have hgl : g < w.heap.size := by obtain ⟨_, _, _, _, _, _, _, _, _, _, h6, _⟩ := h.cells; exact h6
  have HFD := Lib.hid hfd
  have hfl : fd < L.length := by omega
  have hl0 := hlb _ (List.getElem_mem hfl)
  have e0 : L.getD fd [] = L[fd] := by rw [List.getD_eq_getElem?_getD, List.getElem?_eq_getElem hfl]; rfl
  have HRR := Lib.hid (fun (W : World) (hR : RefR W B N g s L ops) => rread_calls W B N g fd s ops L hR ho0 (by omega) hfl (fun l hl => by rw [(hlb l hl).2]; omega))
  rw [e0]
  generalize hL0 : L[fd] = l0 at *
  have hlen0 : l0.length = s := hl0.2
  have HIN0 := Lib.hid hl0.1
  have HLEN0 := Lib.hid hlen0
  clear h hs hL he h2 h3 h4 h5 hlb hspan hfd e0 hL0 hl0 hlen0
  go_enter Tryd.func16, Tryd.ntmps16
  go_wp2_with fail
  have HX := Lib.hid (Rd2.made w a b c)
  generalize (w.alloc (.cells #[.int .i64 a, .int .i64 b, .int .i64 c] 23)).alloc slC = wX at *
  obtain ⟨⟨c0, c1, c2⟩, -⟩ := HX.out.cells
  go_wp2_with fail
  refine (HC.out _ HX.out.below).mono ?_
  rintro e w1 ⟨rfl, hb1⟩
  have H1 := Lib.hid (HX.out.step hb1)
  clear c0 c1 c2 hb1
  obtain ⟨⟨c0, c1, c2⟩, -⟩ := H1.out.cells
  obtain ⟨_, _, _, _, r0, -⟩ := (HR.out.below H1.out.below).cells
  go_wp2_with fail
  have m0 := fun n : BT w1 => BT.cell c0 n
  have m1 := fun n : BT w1 => BT.cell c1 n
  have m2 := fun n : BT w1 => BT.cell c2 n
  have m3 := fun n : BT w1 => BT.cell r0 n
  refine wp_region_below (by kernel_rfl) (by kernel_rfl) ?_
  repeat (go_big_quiet_step (first | (go_at_call 10; exact Calls.below_of (HSP.out _))))
  refine wpQuiet_nil ?_
  intro W5 hW5
  obtain ⟨⟨w5, hb5⟩, rfl⟩ := hW5
  have H5 := Lib.hid (H1.out.step hb5)
  clear c0 c1 c2 r0 m0 m1 m2 m3 hb5 hw2
  go_wp2_with fail
  refine (HRR.out W5 (HR.out.below H5.out.below)).mono ?_
  rintro e w6 ⟨v6, rfl, hR6, hI6, hF6⟩
  have H6 : Hid (Rd3 w w6 g a b c) := Lib.hid ⟨(Fr.of_below H5.out.below _).trans hF6 (fun _ _ h => h), hF6.blk H5.out.b0 (by omega), hF6.blk H5.out.b1 (by omega)⟩
  have HI6 := Lib.hid hI6
  obtain ⟨bb, c6, rfl, hle6, -, -⟩ := row_blk hR6 (by rw [HLEN0.out]; omega)
  obtain ⟨A', c', hv', -, hC6⟩ := Kd.R_reads hR6
  obtain ⟨rfl, rfl⟩ : some ⟨bb, 0, none⟩ = A' ∧ c6 = c' := by injection hv' with e1 e2 e3; exact ⟨e1, e3⟩
  have hdc := rdec_calls bb 0 c6 l0 w6 hC6 hle6 HIN0.out (by rw [HLEN0.out]; omega)
  rw [HLEN0.out] at hdc hle6
  have HDC := Lib.hid hdc
  clear hR6 hI6 hF6 hC6 hdc hv'
  rw [HLEN0.out]
  by_cases h0 : decE l0 = 0
  · obtain ⟨hv, hr, ht⟩ := decE_head h0
    rw [hv, h0] at HDC
    have HH : Hid (headV l0 = .agg #[.int .i64 (l0.getD 5 0), .int .i64 (l0.getD 6 0), .int .i64 (l0.getD 7 0), .int .i64 (valF ((l0.take 12).drop 8)), .int .u64 (valF ((l0.take 20).drop 12)), .int .u32 (valF ((l0.take 24).drop 20))]) := Lib.hid rfl
    have HSV : Hid (slotV l0 a b c (rbody L fd n).flatten = if ¬ (l0.getD 5 0 = a ∧ l0.getD 6 0 = b ∧ l0.getD 7 0 = c) then ⟨1, 0, 0, []⟩
      else if sumF ((rbody L fd n).flatten.take (totalF a b c).toNat) ≠ valF ((l0.take 24).drop 20) then ⟨0, 8, 0, []⟩ else ⟨2, 0, valF ((l0.take 20).drop 12), (rbody L fd n).flatten.take (totalF a b c).toNat⟩) := Lib.hid (by unfold slotV; rw [if_neg (by simp [h0])])
    rw [HH.out] at HDC
    have hu4 : 0 ≤ valF ((l0.take 24).drop 20) ∧ valF ((l0.take 24).drop 20) < 4294967296 := by
      have := valF_bd (win_in HIN0.out 20 24)
      rw [win_len (by rw [HLEN0.out]; omega)] at this
      exact this
    generalize l0.getD 5 0 = x5 at *
    generalize l0.getD 6 0 = x6 at *
    generalize l0.getD 7 0 = x7 at *
    generalize valF ((l0.take 12).drop 8) = hn at *
    generalize valF ((l0.take 20).drop 12) = q at *
    generalize valF ((l0.take 24).drop 20) = u at *
    clear hv h0 HH hr
    by_cases hg : x5 = a ∧ x6 = b ∧ x7 = c
    · obtain ⟨rfl, rfl, rfl⟩ := hg
      have HS : Hid (slotV l0 x5 x6 x7 (rbody L fd n).flatten = if sumF ((rbody L fd n).flatten.take (totalF x5 x6 x7).toNat) ≠ u then ⟨0, 8, 0, []⟩ else ⟨2, 0, q, (rbody L fd n).flatten.take (totalF x5 x6 x7).toNat⟩) := Lib.hid (by rw [HSV.out, if_neg (fun hh => hh ⟨rfl, rfl, rfl⟩)])
      have htb := totalF_bd x5 x6 x7
      obtain ⟨m, hm⟩ := Int.eq_ofNat_of_zero_le htb.1
      have hcov : m ≤ n * s := sectors_cover (by omega) hs2 (by rw [← hm]; exact hn')
      have HNS : Hid (n * s ≤ 16777216) := Lib.hid (by have := sectors_room (n := m) (m := n) (by omega) hs2 (by rw [← hm]; exact hn'); omega)
      have HT : Hid ((totalF x5 x6 x7).toNat = m) := Lib.hid (by omega)
      have hhn : hn = (m : Int) := by rw [ht, hm]
      have HCOV := Lib.hid hcov
      subst hhn
      clear HSV hcov ht hm htb
      go_wp2_with fail
      refine HDC.out.mono ?_
      rintro e w7 ⟨rfl, hb7⟩
      have H7 := Lib.hid ((H6.out.step hb7).step (below_alloc (Below.refl _ _) (.cells #[.int .i64 x5, .int .i64 x6, .int .i64 x7, .int .i64 (m : Int), .int .u64 q, .int .u32 u] 93)))
      have HI7 := Lib.hid ((HI6.out.below hb7).below (below_alloc (Below.refl _ _) (.cells #[.int .i64 x5, .int .i64 x6, .int .i64 x7, .int .i64 (m : Int), .int .u64 q, .int .u32 u] 93)))
      have HD7 := Lib.hid (heap_alloc_new w7 (.cells #[.int .i64 x5, .int .i64 x6, .int .i64 x7, .int .i64 (m : Int), .int .u64 q, .int .u32 u] 93))
      clear hb7
      have hh7 := blk_lt HD7.out
      obtain ⟨⟨c0, c1, c2⟩, -, -⟩ := H7.out.cells
      have y0 := (blk_cell HD7.out 0).trans rfl
      have y1 := (blk_cell HD7.out 1).trans rfl
      have y2 := (blk_cell HD7.out 2).trans rfl
      go_wp2_with fail
      generalize hw8 : w7.alloc (.cells #[.int .i64 x5, .int .i64 x6, .int .i64 x7, .int .i64 (m : Int), .int .u64 q, .int .u32 u] 93) = w8 at *
      generalize w7.heap.size = hb at *
      clear c0 c1 c2 y0 y1 y2 hw8
      have h8w : w.heap.size + 1 < w8.heap.size := blk_lt H7.out.b1
      have hbg : hb ≠ g := by
        intro e
        have h1 := HD7.out
        obtain ⟨_, _, h2, -⟩ := id HI7.out
        rw [e, h2] at h1
        cases h1
      go_loopw [14, 15] (fun v i wr => ∃ (k : Nat), k ≤ n ∧ i = .int .i64 (1 + (k : Int)) ∧ Hid (RB wr w8.heap.size (fun p => w8.heap.size ≤ p) v ((rbody L fd k).flatten)) ∧ Hid (RefR wr B N g s L (ops + 1 + k)) ∧ Hid (Fr w8 wr (fun p => p = g))) (fun _ i _ => n + 1 - (intOf i).toNat)
      case atStart => exact ⟨0, by omega, rfl, Lib.hid (Kd.R_nil _ _ _ _ _), Lib.hid (by simpa using HI7.out), Lib.hid (Fr.refl _ _)⟩
      case round =>
        obtain ⟨k, hk, rfl, HV, HI, HF⟩ := hrel
        have HR3 : Hid (Rd3 w wr g x5 x6 x7) := Lib.hid ⟨H7.out.fr.trans HF.out (fun _ _ h => h), HF.out.blk H7.out.b0 (by omega), HF.out.blk H7.out.b1 (by omega)⟩
        have HHD := Lib.hid (HF.out.blk HD7.out hbg)
        obtain ⟨⟨c0, c1, c2⟩, -, -⟩ := HR3.out.cells
        obtain ⟨_, _, _, _, r0, -⟩ := HI.out.cells
        have m0 := fun n : BT wr => BT.cell c0 n
        have m1 := fun n : BT wr => BT.cell c1 n
        have m2 := fun n : BT wr => BT.cell c2 n
        have m3 := fun n : BT wr => BT.cell r0 n
        go_wp2_with fail
        refine wp_region_below (by kernel_rfl) (by kernel_rfl) ?_
        repeat (go_big_quiet_step (first | (go_at_call 10; exact Calls.below_of (HSP.out _))))
        refine wpQuiet_nil ?_
        intro W5 hW5
        obtain ⟨⟨w5, hb5⟩, rfl⟩ := hW5
        have HR3' := Lib.hid (HR3.out.step hb5)
        have HHD' := Lib.hid ((hb5.block _ (blk_lt HHD.out)).trans HHD.out)
        have HI' := Lib.hid (HI.out.below hb5)
        have HV' := Lib.hid (Kd.R_below HV.out hb5)
        have HF' := Lib.hid (HF.out.thenB hb5)
        clear c0 c1 c2 r0 m0 m1 m2 m3 hb5 HR3 HHD HI HV HF
        by_cases hlt : k < n
        · obtain ⟨hwa, hwe, hki, ho2, ho3⟩ := rrd_facts (fd := fd) (k := k) (n := n) (m := L.length) (ops := ops) hnl hlt hfdb hn9 ho0 ho1
          have HRR2 := Lib.hid (rread_calls W5 B N g (fd + 1 + k) s (ops + 1 + k) L HI'.out ho2 ho3 hki (fun l hl => Nat.le_trans (Nat.le_of_eq (HLB.out l hl).2) hs2))
          have HWE := Lib.hid hwe
          clear hwe
          have hXb := HLB.out _ (List.getElem_mem hki)
          have HXX : Hid (rbody L fd (k + 1) = rbody L fd k ++ [L[fd + 1 + k]]) := Lib.hid (by
            unfold rbody; rw [List.range_succ, List.map_append]
            simp [List.getD_eq_getElem?_getD, List.getElem?_eq_getElem hki])
          generalize L[fd + 1 + k] = X at *
          have HXL := Lib.hid hXb.2
          clear hXb
          go_wp2_with fail
          rw [HWE.out]
          refine HRR2.out.mono ?_
          rintro e w6 ⟨v6, rfl, hR6', hI6', hF6'⟩
          obtain ⟨A6, c6', rfl, hle6', hC6'⟩ := Kd.R_reads hR6'
          have HC6 := Lib.hid hC6'
          have HI6' := Lib.hid hI6'
          have HF6 := Lib.hid (HF'.out.trans hF6' (fun _ _ h => h))
          have HV6 := Lib.hid (Kd.R_step HV'.out (fun p hp hp2 => hF6'.block p hp2 (fun e => by have : w8.heap.size ≤ p := hp; omega)))
          have HLN : Hid ((rbody L fd k).flatten.length + X.length ≤ n * s) := Lib.hid (rbody_room (fun l hl => (HLB.out l hl).2) (by omega) hlt HXL.out)
          clear hR6' hC6' hI6' hF6' hwa
          go_wp2_with ((with_reducible refine gate_dst (N := 82) rfl ?_); refine Kd.R_append_rows KB (Rr := fun x cs => cs = [Value.int .u8 x]) (w0 := w6) w8.heap.size rfl _ _ 27 5 (.int .u8 0) 1 rfl Tryd.underlying27 infoB rfl (by decide) (by decide) _ ((rbody L fd k).flatten) X A6 X.length c6' (fun p => w8.heap.size ≤ p) (fun _ => False) rfl rfl HV6.out HC6.out (fun _ _ h => h) (fun _ h => h.elim) (fun p hp => Nat.le_trans HF6.out.size hp) (Below.mono (Below.refl _ _) HF6.out.size) HF6.out.size (bytes_ok HLN.out HNS.out) ?_; intro v7 w9 HO9 HB9 HG9 _)
          have r1 : Hid (RB w9 w8.heap.size (fun p => w8.heap.size ≤ p) v7 ((rbody L fd (k + 1)).flatten)) := Lib.hid (by rw [HXX.out, List.flatten_append]; simpa using HO9)
          have r2 : Hid (RefR w9 B N g s L (ops + 1 + ((k + 1 : Nat) : Int))) := Lib.hid (by
            have := HI6'.out.step (W' := w9) HB9.size (fun p _ hp => HB9.block p (by omega))
            rw [show ops + 1 + ((k + 1 : Nat) : Int) = ops + 1 + k + 1 by omega]; exact this)
          have r3 : Hid (Fr w8 w9 (fun p => p = g)) := Lib.hid (HF6.out.trans (S2 := fun p => w8.heap.size ≤ p) ⟨HB9.os, HB9.tape, HB9.output, HB9.size, fun p _ hp => HB9.block p (by omega)⟩ (fun p h1 h2 => absurd h2 (by omega)))
          clear HO9 HB9 HG9
          go_roundw
          case rel => exact ⟨k + 1, hlt, by go_num, r1, r2, r3⟩
          case measure => simp [intOf]; omega
        · have hkn : k = n := by omega
          subst hkn
          obtain ⟨A8, c8, rfl, hle8, hC8⟩ := Kd.R_reads HV'.out
          have hbl : (rbody L fd k).flatten.length = k * s := rbody_len (fun l hl => (HLB.out l hl).2) hnl
          have hm8 : m ≤ (rbody L fd k).flatten.length := by rw [hbl]; exact HCOV.out
          have hin8 : InB ((rbody L fd k).flatten.take m) := fun x hx => flat_in (fun l hl => rbody_in (fun l hl => (HLB.out l hl).1) hnl l hl) x (List.mem_of_mem_take hx)
          have htl : ((rbody L fd k).flatten.take m).length = m := by rw [List.length_take]; exact Nat.min_eq_left hm8
          have hCm : KB.C W5 A8 m ((rbody L fd k).flatten.take m) := by
            have := Kd.C_take hC8 hm8
            rwa [htl] at this
          obtain ⟨inf, i1, i2⟩ := infoI5
          have hcut := fun (W : World) => cut_to (P := Tryd.prog) 27 5 .i64 Tryd.underlying27 i1 A8 ((rbody L fd k).flatten.length) c8 (m : Int) (by omega) (by omega) hle8 W
          simp only [Int.toNat_natCast] at hcut
          have hm1 : m ≤ 100000000 := Nat.le_trans HCOV.out (Nat.le_trans HNS.out (by decide))
          have HSU := Lib.hid (fun (W : World) (hW : Below W5.heap.size W5 W) => by have := refSum_calls A8 c8 ((rbody L fd k).flatten.take m) W (by rw [htl]; exact Kd.C_below hCm hW) hin8 (by rw [htl]; exact hm1); rwa [htl, refSum_eq hin8] at this)
          have HCM := Lib.hid hCm
          have HTL := Lib.hid htl
          have HLE : Hid (m ≤ c8) := Lib.hid (Nat.le_trans hm8 hle8)
          rw [HT.out] at HS
          generalize hIM : (rbody L fd k).flatten.take m = im at *
          have y1 := (blk_cell HHD'.out 3).trans rfl
          have y2 := (blk_cell HHD'.out 4).trans rfl
          have y3 := (blk_cell HHD'.out 5).trans rfl
          have z3 := fun n : BT W5 => BT.cell y3 n
          obtain ⟨-, ⟨k0, k1, k2, k3⟩, f0, f1, f2, f3⟩ := HR3'.out.cells
          have HIM := Lib.hid hIM
          have HM8 := Lib.hid hm8
          clear hbl hm8 hin8 htl hCm hC8 hIM hm1
          generalize hFB : (rbody L fd k).flatten = fb at *
          generalize hBL : fb.length = bl at *
          have HBL := Lib.hid hBL
          have HFB := Lib.hid hFB
          clear hBL hFB
          generalize hsu : sumF im = su at *
          by_cases hcmp : su = u
          · rw [if_neg (by simp [hcmp])] at HS
            subst hcmp
            go_wp2_with fail
            refine wp_region_below (by kernel_rfl) (by kernel_rfl) ?_
            repeat (go_big_quiet_step (first | (go_at_call 55; exact Calls.below_of (HSU.out _ (CT.ok _)))))
            refine wpQuiet_nil ?_
            intro W9 hW9
            obtain ⟨⟨w9, hb9'⟩, rfl⟩ := hW9
            have HR9 := Lib.hid (HR3'.out.step hb9')
            have HI9 := Lib.hid (HI'.out.below hb9')
            have HV9 := Lib.hid (Kd.R_below HV'.out hb9')
            have y2' := pw_cell_below hb9' y2
            clear k0 k1 k2 k3 f0 f1 f2 f3 y1 y2 y3 z3 hb9'
            obtain ⟨-, ⟨k0, k1, k2, k3⟩, f0, f1, f2, f3⟩ := HR9.out.cells
            go_wp2_with fail
            obtain ⟨Wz, hWz, ⟨l0', l1', l2', l3'⟩, hbel, hsz9, hrest⟩ := set4 (.int .i64 2) (.int .i64 0) (.int .u64 q) (.slice A8 m c8) ⟨k0, k1, k2, k3⟩
            rw [← hWz]
            clear hWz k0 k1 k2 k3 f0 f1 f2 f3
            rw [HFB.out, HS.out]
            have hbz := hbel (w.heap.size + 1) _ (Below.refl _ _) (Nat.le_refl _)
            have hVz : RB Wz w8.heap.size (fun p => w8.heap.size ≤ p) (.slice A8 bl c8) fb := Kd.R_step HV9.out (fun p hp _ => hrest p (by have : w8.heap.size ≤ p := hp; omega))
            have hCz : KB.C Wz A8 im.length im := by
              obtain ⟨A', c', hv', -, hC'⟩ := Kd.R_reads hVz
              obtain ⟨rfl, rfl⟩ : A8 = A' ∧ c8 = c' := by injection hv' with e1 e2 e3; exact ⟨e1, e3⟩
              have := Kd.C_take hC' (by rw [HBL.out]; exact HM8.out)
              rwa [HIM.out] at this
            refine bodyPost_ret (v := .tuple #[.agg #[.int .i64 2, .int .i64 0, .int .u64 q, .slice A8 m c8], .int .i64 0]) (by simp [results, Tryd.results16, go_sem, l0', l1', l2', l3']) rfl ?_
            exact ⟨A8, c8, ops + 1 + k, by simp only [slotVal, HTL.out], hCz, by simp only [HTL.out]; exact HLE.out, HI9.out.step hbz.size (fun p _ hp => hbz.block p (by omega)), rd_fin HR9.out.fr hbz⟩
          · rw [if_pos hcmp] at HS
            go_wp2_with fail
            refine wp_region_below (by kernel_rfl) (by kernel_rfl) ?_
            repeat (go_big_quiet_step (first | (go_at_call 55; exact Calls.below_of (HSU.out _ (CT.ok _)))))
            refine wpQuiet_nil ?_
            intro W9 hW9
            obtain ⟨⟨w9, hb9'⟩, rfl⟩ := hW9
            have HR9 := Lib.hid (HR3'.out.step hb9')
            have HI9 := Lib.hid (HI'.out.below hb9')
            have HV9 := Lib.hid (Kd.R_below HV'.out hb9')
            have y2' := pw_cell_below hb9' y2
            clear k0 k1 k2 k3 f0 f1 f2 f3 y1 y2 y3 z3 hb9'
            obtain ⟨-, ⟨k0, k1, k2, k3⟩, f0, f1, f2, f3⟩ := HR9.out.cells
            go_wp2_with fail
            obtain ⟨Wz, hWz, ⟨l0', l1', l2', l3'⟩, hbel, hsz9, hrest⟩ := set4 (.int .i64 0) (.int .i64 8) (.int .u64 0) (.slice none 0 0) ⟨k0, k1, k2, k3⟩
            rw [← hWz]
            clear hWz k0 k1 k2 k3 f0 f1 f2 f3
            rw [HFB.out, HS.out]
            have hbz := hbel (w.heap.size + 1) _ (Below.refl _ _) (Nat.le_refl _)
            refine bodyPost_ret (v := .tuple #[.agg #[.int .i64 0, .int .i64 8, .int .u64 0, .slice none 0 0], .int .i64 0]) (by simp [results, Tryd.results16, go_sem, l0', l1', l2', l3']) rfl ?_
            exact ⟨none, 0, ops + 1 + k, rfl, Kd.C_nil _ _, Nat.le_refl _, HI9.out.step hbz.size (fun p _ hp => hbz.block p (by omega)), rd_fin HR9.out.fr hbz⟩
    · have hS : slotV l0 a b c (rbody L fd n).flatten = ⟨1, 0, 0, []⟩ := by rw [HSV.out, if_pos hg]
      have HS := Lib.hid hS
      have hcase : (x5 ≠ a) ∨ (x5 = a ∧ x6 ≠ b) ∨ (x5 = a ∧ x6 = b ∧ x7 ≠ c) := by omega
      clear hS hg HSV ht hu4
      go_wp2_with fail
      refine HDC.out.mono ?_
      rintro e w7 ⟨rfl, hb7⟩
      have H7 := Lib.hid ((H6.out.step hb7).step (below_alloc (Below.refl _ _) (.cells #[.int .i64 x5, .int .i64 x6, .int .i64 x7, .int .i64 hn, .int .u64 q, .int .u32 u] 93)))
      have HI7 := Lib.hid ((HI6.out.below hb7).below (below_alloc (Below.refl _ _) (.cells #[.int .i64 x5, .int .i64 x6, .int .i64 x7, .int .i64 hn, .int .u64 q, .int .u32 u] 93)))
      clear hb7
      obtain ⟨⟨c0, c1, c2⟩, ⟨k0, k1, k2, k3⟩, f0, f1, f2, f3⟩ := H7.out.cells
      rcases hcase with hh | ⟨rfl, hh⟩ | ⟨rfl, rfl, hh⟩
      all_goals
        go_wp2_with fail
        obtain ⟨W9, hW9, ⟨l0', l1', l2', l3'⟩, hbel, hsz9, hrest⟩ := set4 (.int .i64 1) (.int .i64 0) (.int .u64 0) (.slice none 0 0) ⟨k0, k1, k2, k3⟩
        rw [← hW9]
        clear hW9 k0 k1 k2 k3 f0 f1 f2 f3
        rw [HS.out]
        have hb9 := hbel (w.heap.size + 1) _ (Below.refl _ _) (Nat.le_refl _)
        refine bodyPost_ret (v := .tuple #[.agg #[.int .i64 1, .int .i64 0, .int .u64 0, .slice none 0 0], .int .i64 0]) (by simp [results, Tryd.results16, go_sem, l0', l1', l2', l3']) rfl ?_
        exact ⟨none, 0, ops + 1, rfl, Kd.C_nil _ _, Nat.le_refl _, HI7.out.step hb9.size (fun k _ hk => hb9.block k (by omega)), rd_fin H7.out.fr hb9⟩
  · have hv : decV l0 = .agg #[.int .i64 0, .int .i64 0, .int .i64 0, .int .i64 0, .int .u64 0, .int .u32 0] := by unfold decV; rw [if_neg h0]; rfl
    rw [hv] at HDC
    have hS : slotV l0 a b c (rbody L fd n).flatten = ⟨0, decE l0, 0, []⟩ := by unfold slotV; rw [if_pos h0]
    have HS := Lib.hid hS
    clear hv hS
    generalize decE l0 = E at *
    go_wp2_with fail
    refine HDC.out.mono ?_
    rintro e w7 ⟨rfl, hb7⟩
    have H7 := Lib.hid ((H6.out.step hb7).step (below_alloc (Below.refl _ _) zC))
    have HI7 := Lib.hid ((HI6.out.below hb7).below (below_alloc (Below.refl _ _) zC))
    clear hb7
    obtain ⟨-, ⟨k0, k1, k2, k3⟩, f0, f1, f2, f3⟩ := H7.out.cells
    go_wp2_with fail
    obtain ⟨W9, hW9, ⟨l0', l1', l2', l3'⟩, hbel, hsz9, hrest⟩ := set4 (.int .i64 0) (.int .i64 E) (.int .u64 0) (.slice none 0 0) ⟨k0, k1, k2, k3⟩
    rw [← hW9]
    clear hW9 k0 k1 k2 k3 f0 f1 f2 f3
    rw [HS.out]
    have hb9 := hbel (w.heap.size + 1) _ (Below.refl _ _) (Nat.le_refl _)
    refine bodyPost_ret (v := .tuple #[.agg #[.int .i64 0, .int .i64 E, .int .u64 0, .slice none 0 0], .int .i64 0]) (by simp [results, Tryd.results16, go_sem, l0', l1', l2', l3']) rfl ?_
    exact ⟨none, 0, ops + 1, rfl, Kd.C_nil _ _, Nat.le_refl _, HI7.out.step hb9.size (fun k _ hk => hb9.block k (by omega)), rd_fin H7.out.fr hb9⟩
end Go.Proofs.YtcemageindmbkaaDoor
/- The chapter's example: it is as it must be. -/
namespace Go.Proofs.YtcemageindmbkaaDoor
open Go.RowKit Go.Proofs.YtcemageindmbkaaDoorW.PrintWords
open PSlotBytes

/-- The operation that makes bytes 0. -/
theorem smOp_make {ops : Array Oper} {i : Nat} {o : Oper} {z : Act} {w : World} {K : Act → World → Prop} (d : Option Tmp) (m : Nat) (hm : m ≤ 16777216) (ho : ops[i]? = some o) (hd : o.dst = d) (hg : Region.wanted o (yielded ops z.tmps) = true)
    (hr : ∀ r W, (Instr.makeSlice 27 (.int .i64 (m : Int)) (.int .i64 (m : Int))).run Tryd.prog w = .ok r W → (execOp z.eval o).run Tryd.prog w = .ok (.value r) W)
    (h : ∀ A W, RB W w.heap.size (fun k => w.heap.size ≤ k) (.slice A m m) (List.replicate m 0) → A ≠ none → Abv w W → K (z.put d (.slice A m m)) W) : smOp Tryd.prog ops i K z w := by
  subst hd
  unfold smOp
  simp only [ho, hg, if_true]
  unfold smooth
  rw [hr _ _ (print_make 27 5 .u8 1 Tryd.underlying27 infoB (by decide) m (by omega) w)]
  have h1 := own_made w w.heap.size 5 .u8 m (Nat.le_refl _) (by omega)
  exact ⟨below_alloc (Below.refl _ _) _, h _ _ (RB_of_own (l := List.replicate m 0) (by rw [List.length_replicate]; exact h1)) (by simp) (below_alloc (Below.refl _ _) _)⟩

/-- The example's box of chips, and its disk. -/
structure Aw (w W : World) (g : Nat) (F : Nat → Prop) (D : DiskS) : Prop where
  below : Below w.heap.size w W
  box : W.heap[w.heap.size]? = some (.cells #[.int .i64 0, .int .i64 0, .int .i64 1] 23)
  disk : IsDisk W (w.heap.size + 1) F g D
section
variable {w W W' : World} {g : Nat} {F F' : Nat → Prop} {D D' : DiskS}
theorem Aw.step (h : Aw w W g F D) (hb : Below W.heap.size W W') : Aw w W' g F D := ⟨below_via h.below hb, (hb.block _ (blk_lt h.box)).trans h.box, h.disk.below hb⟩
theorem Aw.turn (h : Aw w W g F D) (hd : IsDisk W' (w.heap.size + 1) F' g D') (hf : Fr W W' F) : Aw w W' g F' D' :=
  ⟨h.below.trans (hf.below h.below.size (fun k hk => by have := (h.disk.bound k hk).1; omega)), hf.blk h.box (fun hk => by have := (h.disk.bound _ hk).1; omega), hd⟩
theorem Aw.cells (h : Aw w W g F D) : W.cell? ⟨w.heap.size, 0, none⟩ = some (.int .i64 0) ∧ W.cell? ⟨w.heap.size, 1, none⟩ = some (.int .i64 0) ∧ W.cell? ⟨w.heap.size, 2, none⟩ = some (.int .i64 1) :=
  ⟨(blk_cell h.box 0).trans rfl, (blk_cell h.box 1).trans rfl, (blk_cell h.box 2).trans rfl⟩
end

/-- The example's disk, and what it is behind Data, and Seal. -/
def aw0 : DiskS := freshD 32 (List.replicate (6 * 32) 0)
def aw1 : DiskS := dataS aw0 (1 * spanF aw0.size 0 0 1) (pieces (padTo (List.replicate 64 0) (2 * 32)) 32 2) 2
def aw2 : DiskS := writeS aw1 (1 * spanF aw0.size 0 0 1) (padTo (encF 0 0 1 (List.replicate 64 (0 : Int)).length 9 (sumF (List.replicate 64 0))) 32)
theorem aw_at : atE aw0 1 0 0 1 = 0 := by decide +kernel
set_option maxRecDepth 100000 in
theorem aw_calm : Calm aw0 300000 := ⟨⟨by decide, by decide, by decide, by decide, by decide, by decide, by decide, fun k l h => by cases h⟩, rfl, by decide, by decide⟩
set_option maxRecDepth 100000 in
theorem aw_sealed : Sealed aw0 1 0 0 1 9 32 2 (List.replicate 64 0) := sealed_of aw_calm rfl aw_at (by decide +kernel) (by decide +kernel)
theorem aw_in : InB (List.replicate 64 (0 : Int)) := fun x hx => by have := List.eq_of_mem_replicate hx; omega
theorem aw_total : totalF 0 0 1 = 64 := by decide +kernel
theorem aw_span : spanF 32 0 0 1 = 3 := by decide +kernel

theorem aw_data (W : World) (B g : Nat) (F : Nat → Prop) (A : Option Addr) (hl : Laid W) (hD : IsDisk W B F g aw0) (hB : B ≤ W.heap.size) (hR : RB W B (fun k => B ≤ k) (.slice A 64 64) (List.replicate 64 0)) :
    Calls Tryd.prog 23 #[.pointer (some ⟨g, 0, none⟩), .int .i64 1, .agg #[.int .i64 0, .int .i64 0, .int .i64 1], .slice A 64 64] W fun e w' => e = .returned (.int .i64 0) ∧ IsDisk w' B (fun k => F k ∨ (W.heap.size ≤ k ∧ k < w'.heap.size)) g aw1 ∧ Fr W w' F := by
  obtain ⟨A', c', hv, hle, hC⟩ := Kd.R_reads hR
  obtain ⟨rfl, rfl⟩ : A = A' ∧ 64 = c' := by injection hv with e1 e2 e3; exact ⟨e1, e3⟩
  refine (data_ok W B g F aw0 1 0 0 1 32 A 64 (List.replicate 64 0) hl hD hB aw_at rfl ⟨aw_calm.ok, aw_calm.planned, by decide, by decide⟩ hC (by decide +kernel)).mono ?_
  rintro e w' ⟨n, rfl, hn, h1, h2⟩
  obtain rfl : n = 2 := by
    have e : sectorsF (List.replicate 64 (0 : Int)).length ((32 : Nat) : Int) = 2 := by decide +kernel
    rw [e] at hn; omega
  exact ⟨rfl, h1, h2⟩
theorem aw_seal (W : World) (B g : Nat) (F : Nat → Prop) (A : Option Addr) (hl : Laid W) (hD : IsDisk W B F g aw1) (hB : B ≤ W.heap.size) (hR : RB W B (fun k => B ≤ k) (.slice A 64 64) (List.replicate 64 0)) :
    Calls Tryd.prog 24 #[.pointer (some ⟨g, 0, none⟩), .int .i64 1, .agg #[.int .i64 0, .int .i64 0, .int .i64 1], .int .u64 9, .slice A 64 64] W fun e w' => e = .returned (.int .i64 0) ∧ IsDisk w' B (fun k => F k ∨ (W.heap.size ≤ k ∧ k < w'.heap.size)) g aw2 ∧ Fr W w' F := by
  obtain ⟨A', c', hv, hle, hC⟩ := Kd.R_reads hR
  obtain ⟨rfl, rfl⟩ : A = A' ∧ 64 = c' := by injection hv with e1 e2 e3; exact ⟨e1, e3⟩
  have S := aw_sealed
  have hsz : aw1.size = aw0.size := S.size1
  have h0 : atE aw1 1 0 0 1 = 0 := (S.at1 1 0 0 1).trans aw_at
  refine (seal_ok W B g F aw1 1 0 0 1 9 32 A 64 (List.replicate 64 0) hl hD S.calm1.ok hB h0 S.size1 hC aw_in (by decide +kernel)).mono ?_
  rintro e w' ⟨rfl, h1, h2⟩
  rw [hsz] at h1 ⊢
  exact ⟨congrArg _ (congrArg _ S.err), h1, h2⟩
theorem aw_read (W : World) (B g : Nat) (F : Nat → Prop) (hl : Laid W) (hD : IsDisk W B F g aw2) (hB0 : 0 < B) :
    Calls Tryd.prog 15 #[.pointer (some ⟨g, 0, none⟩), .int .i64 1, .agg #[.int .i64 0, .int .i64 0, .int .i64 1]] W fun e w' => ∃ A c, e = .returned (.tuple #[.agg #[.int .i64 2, .int .i64 0, .int .u64 9, .slice A 64 c], .int .i64 0]) ∧ Fr W w' (fun k => k = g) := by
  have S := aw_sealed
  have hsz : aw2.size = aw0.size := S.size2
  have h0 : atE aw2 1 0 0 1 = 0 := (S.at2 1 0 0 1).trans aw_at
  have hb := body_of (l := List.replicate 64 (0 : Int)) (s := 32) (n := 2) (by decide) aw_in
  have hh : sectR aw2 (1 * spanF aw2.size 0 0 1) = padTo (encF 0 0 1 (List.replicate 64 (0 : Int)).length 9 (sumF (List.replicate 64 0))) 32 := by rw [hsz]; exact S.head
  have hbd : sectsR aw2 (1 * spanF aw2.size 0 0 1) 2 = pieces (padTo (List.replicate 64 0) (2 * 32)) 32 2 := by rw [hsz]; exact S.body
  have hd := dec_enc 0 0 1 (List.replicate 64 (0 : Int)).length 9 (sumF (List.replicate 64 0)) 32 (by decide) (by decide +kernel) ⟨by decide, by decide⟩ (sumF_bd _) (by decide)
  rw [← hh] at hd
  refine (rd_good W B g F aw2 1 0 0 1 32 2 64 hl hD S.calm2 hB0 h0 S.size2 9 (sumF (List.replicate 64 0)) ?_ ?_ hd.2 hd.1 (by decide +kernel) (by decide +kernel) ?_ ?_).mono ?_
  · rw [hh]; exact pad_len _ _ (by rw [enc_long]; decide)
  · rw [hh]; intro x hx
    unfold padTo encF at hx
    rcases List.mem_append.1 hx with hx | hx
    · rcases List.mem_append.1 hx with hx | hx
      · exact enc24_in _ _ _ _ _ _ x hx
      · exact layF_in _ _ x hx
    · have := List.eq_of_mem_replicate hx; omega
  · rw [hbd]; exact hb.1
  · rw [hbd]; exact congrArg sumF hb.2
  · rintro e w' ⟨A, c, rfl, -, -, -, -, hf⟩
    exact ⟨_, _, rfl, hf⟩

set_option maxRecDepth 100000 in
set_option maxHeartbeats 2000000 in
theorem awake_calls (w : World) (hl : Laid w) :
    Calls Tryd.prog 8 #[] w fun e w' => e = .returned (.bool true) ∧ Below w.heap.size w w' := by
  have HN : Hid _ := Lib.hid (fun (W : World) => (new_yes W 6 32 (by omega) (by omega) (by omega) : Calls Tryd.prog 22 #[.int .i64 6, .int .i64 32] W _))
  have HL := Lib.hid hl
  have hrow : 0 < w.heap.size := World.block_lt_of_cell? w _ (hl 0 (by omega))
  have HSP : Hid _ := Lib.hid (fun (W : World) (hl : Laid W) => span_calls 32 0 0 1 W hl)
  have HRO : Hid _ := Lib.hid (fun (W : World) (hl : Laid W) => room_calls 32 0 0 1 W hl)
  rw [aw_span] at HSP HRO
  clear hl
  go_enter Tryd.func8, Tryd.ntmps8
  go_wp2_with fail
  refine (HN.out _).mono ?_
  rintro e w1 ⟨g, rfl, hD, hb1⟩
  have HA : Hid (Aw w w1 g _ aw0) := Lib.hid ⟨below_via (below_alloc (Below.refl _ _) _) hb1, (hb1.block _ (blk_lt (heap_alloc_new w _))).trans (heap_alloc_new w _), by rw [World.size_alloc] at hD; exact hD⟩
  clear hD hb1
  obtain ⟨k0, k1, k2⟩ := HA.out.cells
  go_wp2_with fail
  refine wp_region_float 3 63 rfl (by kernel_rfl) (by kernel_rfl) ?z (fun wa hwa => ?_) (fun w7 hw7 => ?_)
  case refine_1 =>
    simp only [List.take_succ_cons, List.take_zero, Nat.reduceSub]
    have r0 := fun n : BT wa => BT.cell (pw_cell_below hwa k0) n
    have r1 := fun n : BT wa => BT.cell (pw_cell_below hwa k1) n
    have r2 := fun n : BT wa => BT.cell (pw_cell_below hwa k2) n
    repeat (go_big_quiet_step (fail))
    refine wpQuiet_nil ?_
    exact Eq.refl _
  refine smOp_make (some 21) 64 (by omega) rfl rfl rfl (fun r W h => by have h' : (Instr.makeSlice 27 (Value.int IntKind.i64 64) (Value.int IntKind.i64 64)).run Tryd.prog w7 = .ok r W := h; simp only [go_sem, execOp]; simp [h']) ?_
  intro A8 W8 hR8 hnA hb8
  intro w3 hw3
  have HA3 := Lib.hid (HA.out.step (below_via (below_via hw7 hb8) hw3))
  have hwg : w.heap.size + 1 ≤ w7.heap.size := Nat.le_trans (blk_lt HA.out.box) (show Below _ _ _ from hw7).size
  have HR3 := Lib.hid (Kd.R_mono (Kd.R_lower (Kd.R_below hR8 hw3) hwg) (ok' := fun k => w.heap.size + 1 ≤ k) (fun k hk => Nat.le_trans hwg hk))
  clear k0 k1 k2 hR8 hw7 hb8 hw3 hnA hwg
  simp only [List.drop_succ_cons, List.drop_zero, Act.put]
  go_wp2_with fail
  refine (aw_data w3 (w.heap.size + 1) g _ A8 (HL.out.of_below HA3.out.below) HA3.out.disk (blk_lt HA3.out.box) HR3.out).mono ?_
  rintro e w4 ⟨rfl, hD4, hF4⟩
  have HA4 := Lib.hid (HA3.out.turn hD4 hF4)
  obtain ⟨k0, k1, k2⟩ := HA4.out.cells
  clear hD4 hF4 HR3 HA HA3
  go_wp2_with fail
  refine wp_region_float 3 63 rfl (by kernel_rfl) (by kernel_rfl) ?z2 (fun wa hwa => ?_) (fun w7 hw7 => ?_)
  case refine_1 =>
    simp only [List.take_succ_cons, List.take_zero, Nat.reduceSub]
    have r0 := fun n : BT wa => BT.cell (pw_cell_below hwa k0) n
    have r1 := fun n : BT wa => BT.cell (pw_cell_below hwa k1) n
    have r2 := fun n : BT wa => BT.cell (pw_cell_below hwa k2) n
    repeat (go_big_quiet_step (fail))
    refine wpQuiet_nil ?_
    exact Eq.refl _
  refine smOp_make (some 25) 64 (by omega) rfl rfl rfl (fun r W h => by have h' : (Instr.makeSlice 27 (Value.int IntKind.i64 64) (Value.int IntKind.i64 64)).run Tryd.prog w7 = .ok r W := h; simp only [go_sem, execOp]; simp [h']) ?_
  intro A9 W9 hR9 hnA hb9
  intro w5 hw5
  have HA5 := Lib.hid (HA4.out.step (below_via (below_via hw7 hb9) hw5))
  have hwg : w.heap.size + 1 ≤ w7.heap.size := Nat.le_trans (blk_lt HA4.out.box) (show Below _ _ _ from hw7).size
  have HR5 := Lib.hid (Kd.R_mono (Kd.R_lower (Kd.R_below hR9 hw5) hwg) (ok' := fun k => w.heap.size + 1 ≤ k) (fun k hk => Nat.le_trans hwg hk))
  clear k0 k1 k2 hR9 hw7 hb9 hw5 hnA hwg
  simp only [List.drop_succ_cons, List.drop_zero, Act.put]
  go_wp2_with fail
  refine (aw_seal w5 (w.heap.size + 1) g _ A9 (HL.out.of_below HA5.out.below) HA5.out.disk (blk_lt HA5.out.box) HR5.out).mono ?_
  rintro e w6 ⟨rfl, hD6, hF6⟩
  have HA6 := Lib.hid (HA5.out.turn hD6 hF6)
  obtain ⟨k0, k1, k2⟩ := HA6.out.cells
  clear hD6 hF6 HR5 HA5 HA4
  go_wp2_with fail
  refine (aw_read w6 (w.heap.size + 1) g _ (HL.out.of_below HA6.out.below) HA6.out.disk (by omega)).mono ?_
  rintro e w7 ⟨A7, c7, rfl, hF7⟩
  have hg7 : g ≠ w.heap.size := fun e => by
    obtain ⟨_, _, _, _, _, _, _, _, _, _, h6, _⟩ := HA6.out.disk
    have := (HA6.out.disk.bound g h6).1; omega
  have hb7 : Below w.heap.size w w7 := HA6.out.below.trans (hF7.below HA6.out.below.size (fun k hk => by
    obtain ⟨_, _, _, _, _, _, _, _, _, _, h6, _⟩ := HA6.out.disk
    have := (HA6.out.disk.bound g h6).1; omega))
  have hx7 := hF7.blk HA6.out.box (by omega)
  have HX7 := Lib.hid hx7
  have k0 := (blk_cell hx7 0).trans rfl
  have k1 := (blk_cell hx7 1).trans rfl
  have k2 := (blk_cell hx7 2).trans rfl
  have HB7 := Lib.hid hb7
  have HL7 := Lib.hid (HL.out.of_below hb7)
  have hlt7 := blk_lt hx7
  clear hF7 hb7 hx7 HA6 hg7
  go_wp2_with fail
  have hb8 : Below w7.heap.size w7 (w7.alloc (.cells #[.int .i64 2, .int .i64 0, .int .u64 9, .slice A7 64 c7] 37)) := below_alloc (Below.refl _ _) _
  have hbw := below_via HB7.out hb8
  have hx8 := (hb8.block _ (blk_lt HX7.out)).trans HX7.out
  have hy8 := heap_alloc_new w7 (.cells #[.int .i64 2, .int .i64 0, .int .u64 9, .slice A7 64 c7] 37)
  generalize (w7.alloc (.cells #[.int .i64 2, .int .i64 0, .int .u64 9, .slice A7 64 c7] 37)) = w8 at *
  refine (HSP.out _ (HL.out.of_below hbw)).mono ?_
  rintro e w9 ⟨rfl, hb9⟩
  have HB9 := Lib.hid (below_via hbw hb9)
  have hx9 := (hb9.block _ (blk_lt hx8)).trans hx8
  have k0 := (blk_cell hx9 0).trans rfl
  have k1 := (blk_cell hx9 1).trans rfl
  have k2 := (blk_cell hx9 2).trans rfl
  clear hx8 hy8 hb9 hbw hb8 hx9
  go_wp2_with fail
  refine (HRO.out _ (HL.out.of_below HB9.out)).mono ?_
  rintro e w10 ⟨rfl, hb10⟩
  have HB10 := Lib.hid (below_via HB9.out hb10)
  clear hb10 HB9
  go_wp2_with fail
  go_ret
  exact ⟨rfl, HB10.out⟩
end Go.Proofs.YtcemageindmbkaaDoor
/- disk.Bytes; what is the same is told to be; both disks' sectors are the same pieces. -/
namespace Go.Proofs.YtcemageindmbkaaDoor
open Go.RowKit Go.Proofs.YtcemageindmbkaaDoorW.PrintWords
open PSlotBytes

theorem row_nil {w : World} {B : Nat} {ok : Nat → Prop} {A : Option Addr} {n c : Nat} {l : List Int} (h : RB w B ok (.slice A n c) l) : A = none → c = 0 := by
  rintro rfl
  obtain ⟨inner, ho⟩ := Kd.R_own h
  rcases ho.2 with ⟨he, _⟩ | ⟨g, cap, cur, he, _⟩
  · injection he
  · injection he with h1; cases h1
set_option maxRecDepth 100000 in
theorem bytes_calls (w : World) (B g : Nat) (F : Nat → Prop) (D : DiskS) (h : IsDisk w B F g D) (hl : D.lasting.length ≤ 16777216) :
    Calls Tryd.prog 19 #[.pointer (some ⟨g, 0, none⟩)] w fun e w' => ∃ A cc, e = .returned (.slice A D.lasting.length cc) ∧ KB.C w' A D.lasting.length D.lasting ∧ D.lasting.length ≤ cc ∧ Below w.heap.size w w' := by
  obtain ⟨A, c, cb, pb, ces, g1, g2, -⟩ := h
  have c1 : w.cell? ⟨g, 1, none⟩ = some (.slice A D.lasting.length c) := (blk_cell g1 1).trans rfl
  have hnil := row_nil g2
  obtain ⟨A', c', hv, -, hC⟩ := Kd.R_reads g2
  obtain ⟨rfl, rfl⟩ : A = A' ∧ c = c' := by injection hv with e1 e2 e3; exact ⟨e1, e3⟩
  have HK := Lib.hid (clone_calls A c D.lasting w hC (by omega) hnil)
  clear g1 g2 hC hnil hv
  go_enter Tryd.func19, Tryd.ntmps19
  go_wp2_with fail
  refine HK.out.mono ?_
  rintro e w1 ⟨v, rfl, hR, hb⟩
  obtain ⟨A1, cc, rfl, hle, hC1⟩ := Kd.R_reads hR
  go_wp2_with fail
  go_ret
  exact ⟨A1, cc, rfl, hC1, hle, hb⟩

theorem same_l0 (l : List Int) : ∀ (d k i : Nat), l.length - i = d → i ≤ l.length → d < k → l.length ≤ 100000000 → keepsakeref01_Same.l0 k l l (i : Int) = some true
  | 0, k, i, h, hi, hk, _ => by
    obtain ⟨k, rfl⟩ : ∃ m, k = m + 1 := ⟨k - 1, by omega⟩
    simp only [keepsakeref01_Same.l0]
    rw [if_neg (by omega)]
  | d + 1, k, i, h, hi, hk, hl => by
    obtain ⟨k, rfl⟩ : ∃ m, k = m + 1 := ⟨k - 1, by omega⟩
    simp only [keepsakeref01_Same.l0]
    have e : wrap64 ((i : Int) + 1) = ((i + 1 : Nat) : Int) := by unfold wrap64; omega
    rw [if_pos (by omega), if_pos (by omega), if_pos (by omega), if_pos trivial, e, same_l0 l d k (i + 1) (by omega) (by omega) (by omega) hl]
theorem same_f (l : List Int) (hl : l.length ≤ 100000000) : keepsakeref01_Same.f (l.length + 1) l l = some true := by
  unfold keepsakeref01_Same.f
  rw [if_pos rfl]
  exact same_l0 l l.length (l.length + 1) 0 (by omega) (by omega) (by omega) hl
theorem same_calls (A0 : Option Addr) (c0 : Nat) (A1 : Option Addr) (c1 : Nat) (l : List Int) (w : World) (h0 : KB.C w A0 l.length l) (hc0 : l.length ≤ c0) (h1 : KB.C w A1 l.length l) (hc1 : l.length ≤ c1) (hl : l.length ≤ 100000000) :
    Calls Tryd.prog 18 #[.slice A0 l.length c0, .slice A1 l.length c1] w fun e w' => e = .returned (.bool true) ∧ Below w.heap.size w w' :=
  (keepsakeref01_Same.calls (l.length + 1) A0 c0 l A1 c1 l true w h0 hc0 h1 hc1 (same_f l hl)).mono fun _ _ ⟨h1, h2⟩ => ⟨h1, h2.below⟩
theorem same6_calls (S : SlotS) (A0 : Option Addr) (c0 : Nat) (A1 : Option Addr) (c1 : Nat) (w : World) (h0 : KB.C w A0 S.img.length S.img) (hc0 : S.img.length ≤ c0) (h1 : KB.C w A1 S.img.length S.img) (hc1 : S.img.length ≤ c1) (hl : S.img.length ≤ 100000000) :
    Calls Tryd.prog 17 #[slotVal S A0 c0, slotVal S A1 c1] w fun e w' => e = .returned (.bool true) ∧ Below w.heap.size w w' :=
  keepsakeref06_Same.calls (S.img.length + 1) S.st S.why S.seq A0 c0 S.img S.st S.why S.seq A1 c1 S.img true w h0 hc0 h1 hc1 (by
    unfold keepsakeref06_Same.f
    rw [if_pos rfl, if_pos rfl, if_pos rfl, same_f _ hl]; rfl)

section
variable (l : List Int) (s N : Nat)
theorem piece_sector (i : Nat) (hi : i < N) : sectR (freshD (s : Int) l) (i : Int) = (pieces l s N).getD i [] := by
  have e : sectR (freshD (s : Int) l) (i : Int) = (freshD (s : Int) l).sector (i : Int) := rfl
  rw [e]
  unfold DiskS.sector freshD
  simp only
  rw [pieces_getD hi]
  have e1 : (((i : Int) + 1) * (s : Int)).toNat = (i + 1) * s := by rw [show ((i : Int) + 1) * (s : Int) = (((i + 1) * s : Nat) : Int) by simp]; omega
  have e2 : ((i : Int) * (s : Int)).toNat = i * s := by rw [← Int.natCast_mul]; omega
  rw [e1, e2]
theorem fresh_sectors (hs : 1 ≤ s) (hm : l.length = N * s) : (freshD (s : Int) l).sectors = N := by
  show ((l.length : Nat) : Int) / (s : Int) = N
  rw [hm, Int.natCast_mul]
  exact Int.mul_ediv_cancel _ (by omega)
theorem pieces_len : (pieces l s N).length = N := by simp [pieces]
theorem pieces_in (hm : l.length = N * s) (hin : InB l) : ∀ x ∈ pieces l s N, InB x ∧ x.length = s := fun x hx => by
  unfold pieces at hx
  obtain ⟨k, hk, rfl⟩ := List.mem_map.1 hx
  have hk' : k < N := List.mem_range.1 hk
  exact ⟨fun y hy => hin y (List.mem_of_mem_take (List.mem_of_mem_drop hy)), piece_len (by rw [hm]; exact Nat.mul_le_mul_right _ (by omega))⟩
theorem body_same (fd n : Nat) (hn : fd + n < N) : sectsR (freshD (s : Int) l) (fd : Int) n = rbody (pieces l s N) fd n := by
  unfold sectsR rbody
  refine List.map_congr_left fun k hk => ?_
  have hk' : k < n := List.mem_range.1 hk
  have e : (fd : Int) + (1 + (k : Int)) = ((fd + 1 + k : Nat) : Int) := by omega
  rw [e, piece_sector l s N _ (by omega)]
theorem fresh_calm (hs : 1 ≤ s) (hs2 : s ≤ 4096) (hl : l.length ≤ 16777216) : Calm (freshD (s : Int) l) 100000 := by
  refine ⟨⟨?_, ?_, hl, ?_, ?_, ?_, ?_, fun k l h => by cases h⟩, rfl, ?_, ?_⟩
  · show 1 ≤ (s : Int); omega
  · show (s : Int) ≤ 4096; omega
  · show (0 : Int) ≤ 0; omega
  · show (0 : Int) ≤ _; omega
  · show (0 : Int) ≤ 0; omega
  · show (0 : Int) ≤ _; omega
  · show (0 : Int) + _ ≤ _; omega
  · show (0 : Int) + _ ≤ _; omega
end
end Go.Proofs.YtcemageindmbkaaDoor
/- Both reads of a slot of any bytes: what they return is one. -/
namespace Go.Proofs.YtcemageindmbkaaDoor
open Go.RowKit Go.Proofs.YtcemageindmbkaaDoorW.PrintWords
open PSlotBytes

section
variable (cl : List Int) (s N : Nat) (which a b c : Int)
def bytE : Int := atE (freshD (s : Int) cl) which a b c
def bytN : Nat := (sectorsF (totalF a b c) (s : Int)).toNat
def bytF : Nat := (which * (1 + (bytN s a b c : Int))).toNat
def bytS : SlotS := if bytE cl s which a b c ≠ 0 then ⟨0, 0, 0, []⟩ else slotV ((pieces cl s N).getD (bytF s which a b c) []) a b c (rbody (pieces cl s N) (bytF s which a b c) (bytN s a b c)).flatten
end
structure BytOk (cl : List Int) (s N : Nat) (which a b c : Int) : Prop where
  fd : ((bytF s which a b c : Nat) : Int) = which * (1 + (bytN s a b c : Int))
  span : spanF (s : Int) a b c = 1 + (bytN s a b c : Int)
  n : sectorsF (totalF a b c) (s : Int) = (bytN s a b c : Int)
  room : bytF s which a b c + bytN s a b c < N
  n9 : bytN s a b c ≤ 90112
theorem byt_ok {cl : List Int} {s N : Nat} {which a b c : Int} (hs : 32 ≤ s) (hs2 : s ≤ 4096) (hm : cl.length = N * s) (h : atE (freshD (s : Int) cl) which a b c = 0) : BytOk cl s N which a b c := by
  obtain ⟨h1, h2, h3, h4, h5⟩ := atE_ok h
  have htb := totalF_bd a b c
  have hsb := sectorsF_bd (totalF a b c) (s : Int) htb.1
  have hn : sectorsF (totalF a b c) (s : Int) = (bytN s a b c : Int) := by unfold bytN; omega
  have hsz : (freshD (s : Int) cl).size = s := rfl
  have hsp : spanF (s : Int) a b c = 1 + (bytN s a b c : Int) := by unfold spanF; rw [if_pos ⟨h1, by omega, by omega⟩, hn]
  rw [hsz, fresh_sectors cl s N (by omega) hm, hsp] at h5
  have h01 : which = 0 ∨ which = 1 := by omega
  have hfd : ((bytF s which a b c : Nat) : Int) = which * (1 + (bytN s a b c : Int)) := by
    unfold bytF
    rcases h01 with rfl | rfl
    · rw [Int.zero_mul]; rfl
    · rw [Int.one_mul]; omega
  refine ⟨hfd, hsp, hn, ?_, by omega⟩
  rcases h01 with rfl | rfl
  · rw [Int.zero_mul] at hfd; omega
  · rw [Int.one_mul] at hfd; omega
theorem slotV_len (l0 : List Int) (a b c : Int) (body : List Int) : (slotV l0 a b c body).img.length ≤ 90112 := by
  have := totalF_bd a b c
  unfold slotV
  split
  · simp
  · split
    · simp
    · split
      · simp
      · simp only [List.length_take]; omega
theorem bytS_len (cl : List Int) (s N : Nat) (which a b c : Int) : (bytS cl s N which a b c).img.length ≤ 100000000 := by
  unfold bytS
  split
  · simp
  · exact Nat.le_trans (slotV_len _ _ _ _ _) (by decide)

theorem byt_read (w : World) (B g : Nat) (F : Nat → Prop) (cl : List Int) (s N : Nat) (which a b c : Int) (hl : Laid w) (hD : IsDisk w B F g (freshD (s : Int) cl)) (hB0 : 0 < B) (hs : 32 ≤ s) (hs2 : s ≤ 4096) (hm : cl.length = N * s) (hin : InB cl) (hlen : cl.length ≤ 16777216) :
    Calls Tryd.prog 15 #[.pointer (some ⟨g, 0, none⟩), .int .i64 which, .agg #[.int .i64 a, .int .i64 b, .int .i64 c]] w fun e w' => ∃ A cc k, e = .returned (.tuple #[slotVal (bytS cl s N which a b c) A cc, .int .i64 (bytE cl s which a b c)]) ∧
      CN w' w.heap.size A (bytS cl s N which a b c).img ∧ (bytS cl s N which a b c).img.length ≤ cc ∧ IsDisk w' B F g (nextN (freshD (s : Int) cl) k) ∧ Fr w w' (fun k => k = g) := by
  have hcm := fresh_calm cl s (by omega) hs2 hlen
  have e0 : nextN (freshD (s : Int) cl) 0 = freshD (s : Int) cl := by simp [nextN, freshD]
  by_cases h : atE (freshD (s : Int) cl) which a b c = 0
  · have hk := byt_ok hs hs2 hm h
    have eS : bytS cl s N which a b c = slotV ((pieces cl s N).getD (bytF s which a b c) []) a b c (rbody (pieces cl s N) (bytF s which a b c) (bytN s a b c)).flatten := by unfold bytS; rw [if_neg (by unfold bytE; simp [h])]
    have eE : bytE cl s which a b c = 0 := h
    rw [eS, eE]
    have hsz : (freshD (s : Int) cl).size = s := rfl
    have efd : which * spanF (freshD (s : Int) cl).size a b c = ((bytF s which a b c : Nat) : Int) := by rw [hsz, hk.span, hk.fd]
    have hroom := hk.room
    have el0 : sectR (freshD (s : Int) cl) (which * spanF (freshD (s : Int) cl).size a b c) = (pieces cl s N).getD (bytF s which a b c) [] := by rw [efd, piece_sector cl s N _ (by omega)]
    have ebd : sectsR (freshD (s : Int) cl) (which * spanF (freshD (s : Int) cl).size a b c) (bytN s a b c) = rbody (pieces cl s N) (bytF s which a b c) (bytN s a b c) := by rw [efd]; exact body_same cl s N _ _ hroom
    have hpin := pieces_in cl s N hm hin
    have hfl : bytF s which a b c < (pieces cl s N).length := by rw [pieces_len]; omega
    have hl0 : (pieces cl s N).getD (bytF s which a b c) [] = (pieces cl s N)[bytF s which a b c] := by rw [List.getD_eq_getElem?_getD, List.getElem?_eq_getElem hfl]; rfl
    have hb0 := hpin _ (List.getElem_mem hfl)
    rw [← hl0] at hb0
    have := sread_ok w B g F (freshD (s : Int) cl) which a b c s (bytN s a b c) hl hD hcm hB0 h rfl (by rw [el0]; exact hb0.2) (by rw [el0]; exact hb0.1) hk.n (by
      rw [ebd]
      intro l hl
      unfold rbody at hl
      obtain ⟨k, hk2, rfl⟩ := List.mem_map.1 hl
      have hk' : k < bytN s a b c := List.mem_range.1 hk2
      have hlt : bytF s which a b c + 1 + k < (pieces cl s N).length := by rw [pieces_len]; omega
      rw [List.getD_eq_getElem?_getD, List.getElem?_eq_getElem hlt]
      exact hpin _ (List.getElem_mem hlt))
    rw [el0, ebd] at this
    exact this
  · have eS : bytS cl s N which a b c = ⟨0, 0, 0, []⟩ := by unfold bytS; rw [if_pos (by unfold bytE; exact h)]
    rw [eS]
    refine (rd_err w B g F (freshD (s : Int) cl) which a b c hl hD hcm.ok h).mono ?_
    rintro e w' ⟨rfl, hb⟩
    exact ⟨none, 0, 0, rfl, ⟨Kd.C_nil _ _, fun _ h _ => by cases h⟩, Nat.le_refl _, by rw [e0]; exact hD.below hb, Fr.of_below hb _⟩
theorem byt_rread (w : World) (B M g : Nat) (cl : List Int) (s N : Nat) (which a b c : Int) (h : RefR w B M g s (pieces cl s N) 0) (hM : M ≤ w.heap.size) (hs : 32 ≤ s) (hs2 : s ≤ 4096) (hm : cl.length = N * s) (hin : InB cl) :
    Calls Tryd.prog 16 #[.pointer (some ⟨g, 0, none⟩), .int .i64 which, .agg #[.int .i64 a, .int .i64 b, .int .i64 c]] w fun e w' => ∃ A cc, e = .returned (.tuple #[slotVal (bytS cl s N which a b c) A cc, .int .i64 (bytE cl s which a b c)]) ∧
      KB.C w' A (bytS cl s N which a b c).img.length (bytS cl s N which a b c).img ∧ (bytS cl s N which a b c).img.length ≤ cc ∧ Fr w w' (fun k => k = g) := by
  have hL : ((pieces cl s N).length : Int) = (freshD (s : Int) cl).sectors := by rw [pieces_len, fresh_sectors cl s N (by omega) hm]
  by_cases he : atE (freshD (s : Int) cl) which a b c = 0
  · have hk := byt_ok hs hs2 hm he
    have eS : bytS cl s N which a b c = slotV ((pieces cl s N).getD (bytF s which a b c) []) a b c (rbody (pieces cl s N) (bytF s which a b c) (bytN s a b c)).flatten := by unfold bytS; rw [if_neg (by unfold bytE; simp [he])]
    have eE : bytE cl s which a b c = 0 := he
    rw [eS, eE]
    refine (rrd_ok w B M g 0 (pieces cl s N) (freshD (s : Int) cl) which a b c s (bytN s a b c) (bytF s which a b c) h rfl hs hs2 hL he hM (by omega) (by omega) (pieces_in cl s N hm hin) hk.fd hk.n (by rw [pieces_len]; exact hk.room) hk.n9).mono ?_
    rintro e w' ⟨A, cc, k, rfl, h1, h2, -, h4⟩
    exact ⟨A, cc, rfl, h1, h2, h4⟩
  · have eS : bytS cl s N which a b c = ⟨0, 0, 0, []⟩ := by unfold bytS; rw [if_pos (by unfold bytE; exact he)]
    rw [eS]
    refine (rrd_err w B M g s 0 (pieces cl s N) (freshD (s : Int) cl) which a b c h rfl (by omega) hL he).mono ?_
    rintro e w' ⟨rfl, hb⟩
    exact ⟨none, 0, rfl, Kd.C_nil _ _, Nat.le_refl _, Fr.of_below hb _⟩
end Go.Proofs.YtcemageindmbkaaDoor
/- SlotStranger: the disk of forty sectors, and what its slots are. -/
namespace Go.Proofs.YtcemageindmbkaaDoor
open Go.RowKit Go.Proofs.YtcemageindmbkaaDoorW.PrintWords
open PSlotBytes

section
variable (a b c : Int) (l : List Int) (s : Nat)
def stD : DiskS := freshD s (List.replicate (40 * s) 0)
def stN : Nat := (sectorsF l.length s).toNat
def stD1 : DiskS := dataS (stD s) (0 * spanF (stD s).size a b c) (pieces (padTo l (stN l s * s)) s (stN l s)) (stN l s)
def stD2 : DiskS := writeS (stD1 a b c l s) (0 * spanF (stD s).size a b c) (padTo (encF a b c l.length 5 (sumF l)) s)
theorem st_sectors (hs : 32 ≤ s) : (stD s).sectors = 40 := by
  show (((List.replicate (40 * s) (0 : Int)).length : Nat) : Int) / (s : Int) = 40
  rw [List.length_replicate, Int.natCast_mul]
  exact Int.mul_ediv_cancel _ (by omega)
theorem st_at {a' b' c' which : Int} (hs : 32 ≤ s) (hs2 : s ≤ 131) (hr : rightF a' b' c' = true) (ht : totalF a' b' c' ≤ 500) (h0 : 0 ≤ which) (h1 : which < 2) : atE (stD s) which a' b' c' = 0 := by
  have htb := totalF_bd a' b' c'
  have hsz : (stD s).size = s := rfl
  unfold atE
  rw [if_neg (by simp [hr]), hsz, if_neg (by omega), st_sectors s hs, if_neg]
  unfold spanF
  rw [if_pos ⟨hr, by omega, by omega⟩]
  unfold sectorsF
  split
  · omega
  · have : (totalF a' b' c' - 1) / (s : Int) ≤ 15 := by
      have h3 : (totalF a' b' c' - 1) / (s : Int) < 16 := Int.ediv_lt_of_lt_mul (by omega) (by omega)
      omega
    omega
theorem st_at9 {a' b' c' which : Int} (hr : rightF a' b' c' = false) (D : DiskS) : atE D which a' b' c' = 9 := by
  unfold atE; rw [if_pos hr]
theorem st_calm (hs : 32 ≤ s) (hs2 : s ≤ 131) : Calm (stD s) 300000 := by
  refine ⟨⟨?_, ?_, ?_, ?_, ?_, ?_, ?_, fun k l h => by cases h⟩, rfl, ?_, ?_⟩
  · show 1 ≤ (s : Int); omega
  · show (s : Int) ≤ 4096; omega
  · show (List.replicate (40 * s) (0 : Int)).length ≤ _; rw [List.length_replicate]; omega
  · show (0 : Int) ≤ 0; omega
  · show (0 : Int) ≤ _; omega
  · show (0 : Int) ≤ 0; omega
  · show (0 : Int) ≤ _; omega
  · show (0 : Int) + _ ≤ _; omega
  · show (0 : Int) + _ ≤ _; omega
theorem stN_eq : sectorsF l.length s = (stN l s : Int) := by
  have := (sectorsF_bd (l.length : Int) (s : Int) (by omega)).1
  unfold stN; omega
end
section
variable {a b c : Int} {l : List Int} {s : Nat} (hs : 32 ≤ s) (hs2 : s ≤ 131) (hr : rightF a b c = true) (ht : totalF a b c ≤ 500) (hlen : (l.length : Int) = totalF a b c)
include hs hs2 hr ht hlen
theorem st_sealed : Sealed (stD s) 0 a b c 5 s (stN l s) l := sealed_of (st_calm s hs hs2) rfl (st_at s hs hs2 hr ht (by omega) (by omega)) hlen (stN_eq l s)
theorem st_data (W : World) (B g : Nat) (F : Nat → Prop) (A : Option Addr) (m : Nat) (hl : Laid W) (hD : IsDisk W B F g (stD s)) (hB : B ≤ W.heap.size) (hC : KB.C W A l.length l) :
    Calls Tryd.prog 23 #[.pointer (some ⟨g, 0, none⟩), .int .i64 0, .agg #[.int .i64 a, .int .i64 b, .int .i64 c], .slice A l.length m] W fun e w' => e = .returned (.int .i64 0) ∧ IsDisk w' B (fun k => F k ∨ (W.heap.size ≤ k ∧ k < w'.heap.size)) g (stD1 a b c l s) ∧ Fr W w' F := by
  have hcm := st_calm s hs hs2
  refine (data_ok W B g F (stD s) 0 a b c s A m l hl hD hB (st_at s hs hs2 hr ht (by omega) (by omega)) rfl ⟨hcm.ok, hcm.planned, by have := hcm.ops; omega, by have := hcm.writes; omega⟩ hC hlen).mono ?_
  rintro e w' ⟨n, rfl, hn, h1, h2⟩
  obtain rfl : n = stN l s := by rw [stN_eq l s] at hn; omega
  exact ⟨rfl, h1, h2⟩
theorem st_seal (W : World) (B g : Nat) (F : Nat → Prop) (A : Option Addr) (m : Nat) (hl : Laid W) (hD : IsDisk W B F g (stD1 a b c l s)) (hB : B ≤ W.heap.size) (hC : KB.C W A l.length l) (hin : InB l) :
    Calls Tryd.prog 24 #[.pointer (some ⟨g, 0, none⟩), .int .i64 0, .agg #[.int .i64 a, .int .i64 b, .int .i64 c], .int .u64 5, .slice A l.length m] W fun e w' => e = .returned (.int .i64 0) ∧ IsDisk w' B (fun k => F k ∨ (W.heap.size ≤ k ∧ k < w'.heap.size)) g (stD2 a b c l s) ∧ Fr W w' F := by
  have S := st_sealed hs hs2 hr ht hlen
  have hsz : (stD1 a b c l s).size = (stD s).size := S.size1
  have h0 : atE (stD1 a b c l s) 0 a b c = 0 := (S.at1 0 a b c).trans (st_at s hs hs2 hr ht (by omega) (by omega))
  refine (seal_ok W B g F (stD1 a b c l s) 0 a b c 5 s A m l hl hD S.calm1.ok hB h0 S.size1 hC hin hlen).mono ?_
  rintro e w' ⟨rfl, h1, h2⟩
  rw [hsz] at h1 ⊢
  exact ⟨congrArg _ (congrArg _ S.err), h1, h2⟩
theorem st_head (a' b' c' : Int) : sectR (stD2 a b c l s) (0 * spanF (stD2 a b c l s).size a' b' c') = padTo (encF a b c l.length 5 (sumF l)) s ∧ (padTo (encF a b c l.length 5 (sumF l)) s).length = s ∧ InB (padTo (encF a b c l.length 5 (sumF l)) s) ∧
    decE (padTo (encF a b c l.length 5 (sumF l)) s) = 0 ∧ decV (padTo (encF a b c l.length 5 (sumF l)) s) = .agg #[.int .i64 a, .int .i64 b, .int .i64 c, .int .i64 l.length, .int .u64 5, .int .u32 (sumF l)] := by
  have S := st_sealed hs hs2 hr ht hlen
  have hd := dec_enc a b c l.length 5 (sumF l) s hr hlen ⟨by decide, by decide⟩ (sumF_bd _) (by omega)
  refine ⟨?_, pad_len _ _ (by rw [enc_long]; omega), ?_, hd.1, hd.2⟩
  · rw [Int.zero_mul]; have := S.head; rw [Int.zero_mul] at this
    unfold stD2 stD1; rw [Int.zero_mul]; exact this
  · intro x hx
    unfold padTo encF at hx
    rcases List.mem_append.1 hx with hx | hx
    · rcases List.mem_append.1 hx with hx | hx
      · exact enc24_in _ _ _ _ _ _ x hx
      · exact layF_in _ _ x hx
    · have := List.eq_of_mem_replicate hx; omega
/-- Read, of other chips. -/
theorem st_alien (W : World) (B g : Nat) (F : Nat → Prop) (a' b' c' : Int) (hl : Laid W) (hD : IsDisk W B F g (stD2 a b c l s)) (hB0 : 0 < B) (hr' : rightF a' b' c' = true) (ht' : totalF a' b' c' ≤ 500) (hne : ¬ (a = a' ∧ b = b' ∧ c = c')) :
    Calls Tryd.prog 15 #[.pointer (some ⟨g, 0, none⟩), .int .i64 0, .agg #[.int .i64 a', .int .i64 b', .int .i64 c']] W fun e w' => e = .returned (.tuple #[.agg #[.int .i64 1, .int .i64 0, .int .u64 0, .slice none 0 0], .int .i64 0]) ∧ IsDisk w' B F g (stD2 a b c l s).next ∧ Fr W w' (fun k => k = g) := by
  have S := st_sealed hs hs2 hr ht hlen
  obtain ⟨h1, h2, h3, h4, h5⟩ := st_head hs hs2 hr ht hlen a' b' c'
  have h0 : atE (stD2 a b c l s) 0 a' b' c' = 0 := (S.at2 0 a' b' c').trans (st_at s hs hs2 hr' ht' (by omega) (by omega))
  rw [← h1] at h2 h3 h4 h5
  by_cases e1 : a = a'
  · subst e1
    by_cases e2 : b = b'
    · subst e2
      exact rd_al3 W B g F _ 0 a b c' s hl hD S.calm2 hB0 h0 S.size2 c l.length 5 (sumF l) h2 h3 h5 h4 (fun e => hne ⟨rfl, rfl, e⟩)
    · exact rd_al2 W B g F _ 0 a b' c' s hl hD S.calm2 hB0 h0 S.size2 b c l.length 5 (sumF l) h2 h3 h5 h4 e2
  · exact rd_al1 W B g F _ 0 a' b' c' s hl hD S.calm2 hB0 h0 S.size2 a b c l.length 5 (sumF l) h2 h3 h5 h4 e1
/-- Read, of its own. -/
theorem st_good (W : World) (B g : Nat) (F : Nat → Prop) (hl : Laid W) (hD : IsDisk W B F g (stD2 a b c l s)) (hB0 : 0 < B) (hin : InB l) :
    Calls Tryd.prog 15 #[.pointer (some ⟨g, 0, none⟩), .int .i64 0, .agg #[.int .i64 a, .int .i64 b, .int .i64 c]] W fun e w' => ∃ A cc, e = .returned (.tuple #[.agg #[.int .i64 2, .int .i64 0, .int .u64 5, .slice A l.length cc], .int .i64 0]) ∧ Fr W w' (fun k => k = g) := by
  have S := st_sealed hs hs2 hr ht hlen
  obtain ⟨h1, h2, h3, h4, h5⟩ := st_head hs hs2 hr ht hlen a b c
  have hat := st_at s hs hs2 hr ht (which := 0) (by omega) (by omega)
  have h0 : atE (stD2 a b c l s) 0 a b c = 0 := (S.at2 0 a b c).trans hat
  rw [← h1] at h2 h3 h4 h5
  have hcov : l.length ≤ stN l s * s := sectors_cover (by omega) (by omega) (stN_eq l s)
  have hbody : sectsR (stD2 a b c l s) (0 * spanF (stD2 a b c l s).size a b c) (stN l s) = pieces (padTo l (stN l s * s)) s (stN l s) := by
    have hsz : (stD2 a b c l s).size = (stD s).size := S.size2
    rw [hsz]; exact S.body
  have hb := body_of hcov hin
  refine (rd_good W B g F _ 0 a b c s (stN l s) l.length hl hD S.calm2 hB0 h0 S.size2 5 (sumF l) h2 h3 h5 h4 hlen (by rw [← hlen]; exact stN_eq l s) ?_ ?_).mono ?_
  · rw [hbody]; exact hb.1
  · rw [hbody]; exact congrArg sumF hb.2
  · rintro e w' ⟨A, cc, rfl, -, -, -, -, hf⟩
    exact ⟨_, _, rfl, hf⟩
end
end Go.Proofs.YtcemageindmbkaaDoor
/- SlotStranger: what it returns. -/
namespace Go.Proofs.YtcemageindmbkaaDoor
open Go.RowKit Go.Proofs.YtcemageindmbkaaDoorW.PrintWords
open PSlotBytes

/-- The boxes of both kinds of chips. -/
abbrev geoC (a b c : Int) : Obj := .cells #[.int .i64 a, .int .i64 b, .int .i64 c] 23
structure Bx (w W : World) (a b c a' b' c' : Int) : Prop where
  below : Below w.heap.size w W
  b0 : W.heap[w.heap.size]? = some (geoC a b c)
  b1 : W.heap[w.heap.size + 1]? = some (geoC a' b' c')
section
variable {w W W' : World} {a b c a' b' c' : Int}
theorem Bx.made : Bx w ((w.alloc (geoC a b c)).alloc (geoC a' b' c')) a b c a' b' c' :=
  ⟨below_alloc (below_alloc (Below.refl _ _) _) _, blk_alloc (heap_alloc_new w _) _, by simpa using heap_alloc_new (w.alloc (geoC a b c)) (geoC a' b' c')⟩
theorem Bx.step (h : Bx w W a b c a' b' c') (hb : Below W.heap.size W W') : Bx w W' a b c a' b' c' := ⟨below_via h.below hb, (hb.block _ (blk_lt h.b0)).trans h.b0, (hb.block _ (blk_lt h.b1)).trans h.b1⟩
theorem Bx.fr {S : Nat → Prop} (h : Bx w W a b c a' b' c') (hf : Fr W W' S) (hs : ∀ k, S k → w.heap.size + 2 ≤ k) : Bx w W' a b c a' b' c' :=
  ⟨h.below.trans (hf.below h.below.size (fun k hk => by have := hs k hk; omega)), hf.blk h.b0 (fun hk => by have := hs _ hk; omega), hf.blk h.b1 (fun hk => by have := hs _ hk; omega)⟩
theorem Bx.cells (h : Bx w W a b c a' b' c') : (W.cell? ⟨w.heap.size, 0, none⟩ = some (.int .i64 a) ∧ W.cell? ⟨w.heap.size, 1, none⟩ = some (.int .i64 b) ∧ W.cell? ⟨w.heap.size, 2, none⟩ = some (.int .i64 c)) ∧
    (W.cell? ⟨w.heap.size + 1, 0, none⟩ = some (.int .i64 a') ∧ W.cell? ⟨w.heap.size + 1, 1, none⟩ = some (.int .i64 b') ∧ W.cell? ⟨w.heap.size + 1, 2, none⟩ = some (.int .i64 c')) :=
  ⟨⟨(blk_cell h.b0 0).trans rfl, (blk_cell h.b0 1).trans rfl, (blk_cell h.b0 2).trans rfl⟩, ⟨(blk_cell h.b1 0).trans rfl, (blk_cell h.b1 1).trans rfl, (blk_cell h.b1 2).trans rfl⟩⟩
end

set_option maxRecDepth 100000 in
set_option maxHeartbeats 2000000 in
/-- Where nothing is asked. -/
theorem str_skip (a b c a' b' c' x : Int) (A : Option Addr) (n m : Nat) (w : World) (hl : Laid w)
    (h : (!rightF a b c || decide (totalF a b c ≤ 500)) = false ∨ (!rightF a' b' c' || decide (totalF a' b' c' ≤ 500)) = false ∨ rightF a b c = false ∨ (n : Int) ≠ totalF a b c) :
    Calls Tryd.prog 5 #[.agg #[.int .i64 a, .int .i64 b, .int .i64 c], .agg #[.int .i64 a', .int .i64 b', .int .i64 c'], .int .u8 x, .slice A n m] w fun e w' => e = .returned (.bool true) ∧ Below w.heap.size w w' := by
  have HL := Lib.hid hl
  have HA := Lib.hid (fun (W : World) (hl : Laid W) => awake_calls W hl)
  have H1 := Lib.hid (fun (W : World) => refFew_calls a b c W)
  have H2 := Lib.hid (fun (W : World) => refFew_calls a' b' c' W)
  have H3 := Lib.hid (fun (W : World) => refRight_calls a b c W)
  have H4 := Lib.hid (fun (W : World) => refTotal_calls a b c W)
  generalize (!rightF a b c || decide (totalF a b c ≤ 500)) = o1 at *
  generalize (!rightF a' b' c' || decide (totalF a' b' c' ≤ 500)) = o2 at *
  generalize rightF a b c = o3 at *
  generalize totalF a b c = t at *
  clear hl
  have fin : ∀ (g1 : o1 = false ∨ (o1 = true ∧ o2 = false) ∨ (o1 = true ∧ o2 = true ∧ o3 = false) ∨ (o1 = true ∧ o2 = true ∧ o3 = true ∧ ((n : Int) != t) = true)), Calls Tryd.prog 5 #[.agg #[.int .i64 a, .int .i64 b, .int .i64 c], .agg #[.int .i64 a', .int .i64 b', .int .i64 c'], .int .u8 x, .slice A n m] w fun e w' => e = .returned (.bool true) ∧ Below w.heap.size w w' := by
    clear h
    rintro (rfl | ⟨rfl, rfl⟩ | ⟨rfl, rfl, rfl⟩ | ⟨rfl, rfl, rfl, hne⟩)
    all_goals
      go_enter Tryd.func5, Tryd.ntmps5
      go_wp2_with fail
      have HX := Lib.hid (Bx.made (w := w) (a := a) (b := b) (c := c) (a' := a') (b' := b') (c' := c'))
      generalize (w.alloc (geoC a b c)).alloc (geoC a' b' c') = w0 at *
      refine (HA.out w0 (HL.out.of_below HX.out.below)).mono ?_
      rintro e w1 ⟨rfl, hb1⟩
      have HX1 := Lib.hid (HX.out.step hb1)
      obtain ⟨⟨k0, k1, k2⟩, ⟨l0, l1, l2⟩⟩ := HX1.out.cells
      clear hb1
      go_wp2_with fail
      refine (H1.out w1).mono ?_
      rintro e w2 ⟨rfl, hb2⟩
      have HX2 := Lib.hid (HX1.out.step hb2)
      clear k0 k1 k2 l0 l1 l2 hb2
      obtain ⟨⟨k0, k1, k2⟩, ⟨l0, l1, l2⟩⟩ := HX2.out.cells
      go_wp2_with fail
      refine (H2.out w2).mono ?_
      rintro e w3 ⟨rfl, hb3⟩
      have HX3 := Lib.hid (HX2.out.step hb3)
      clear k0 k1 k2 l0 l1 l2 hb3
      obtain ⟨⟨k0, k1, k2⟩, ⟨l0, l1, l2⟩⟩ := HX3.out.cells
      go_wp2_with fail
      refine (H3.out w3).mono ?_
      rintro e w4 ⟨rfl, hb4⟩
      have HX4 := Lib.hid (HX3.out.step hb4)
      clear k0 k1 k2 l0 l1 l2 hb4
      obtain ⟨⟨k0, k1, k2⟩, ⟨l0, l1, l2⟩⟩ := HX4.out.cells
      go_wp2_with fail
      first
        | (go_ret; exact ⟨rfl, HX4.out.below⟩)
        | (refine (H4.out w4).mono ?_
           rintro e w5 ⟨rfl, hb5⟩
           have HX5 := Lib.hid (HX4.out.step hb5)
           clear k0 k1 k2 l0 l1 l2 hb5
           go_wp2_with fail
           go_ret
           exact ⟨rfl, HX5.out.below⟩)
  apply fin
  have e4 : (n : Int) ≠ t → ((n : Int) != t) = true := fun h => by rw [bne_iff_ne]; exact h
  cases o1 <;> cases o2 <;> cases o3 <;> simp_all
end Go.Proofs.YtcemageindmbkaaDoor
/- SlotBytes: what it returns. -/
namespace Go.Proofs.YtcemageindmbkaaDoor
open Go.RowKit Go.Proofs.YtcemageindmbkaaDoorW.PrintWords
open PSlotBytes

set_option maxRecDepth 100000 in
set_option maxHeartbeats 4000000 in
/-- Where nothing is asked. -/
theorem byt_skip (l : List Int) (A : Option Addr) (m : Nat) (x which a b c : Int) (w : World) (hl : Laid w) (hx : 0 ≤ x ∧ x ≤ 255) (h : 2000 < l.length ∨ (!rightF a b c || decide (totalF a b c ≤ 500)) = false) :
    Calls Tryd.prog 4 #[.slice A l.length m, .int .u8 x, .int .i64 which, .agg #[.int .i64 a, .int .i64 b, .int .i64 c]] w fun e w' => e = .returned (.bool true) ∧ Below w.heap.size w w' := by
  have HL := Lib.hid hl
  have HA := Lib.hid (fun (W : World) (hl : Laid W) => awake_calls W hl)
  have H1 := Lib.hid (fun (W : World) => refFew_calls a b c W)
  have hrem : Int.tmod x 100 = x % 100 := Int.tmod_eq_emod_of_nonneg hx.1
  generalize (!rightF a b c || decide (totalF a b c ≤ 500)) = o1 at *
  clear hl
  have hc : (2000 : Int) < (l.length : Int) ∨ (¬ (2000 : Int) < (l.length : Int) ∧ o1 = false) := by
    by_cases hh : (2000 : Int) < (l.length : Int)
    · exact .inl hh
    · exact .inr ⟨hh, h.resolve_left (by omega)⟩
  clear h
  rcases hc with hc | ⟨hc, rfl⟩
  all_goals
    go_enter Tryd.func4, Tryd.ntmps4
    go_wp2_with fail
    have hb0 : Below w.heap.size w (w.alloc (geoC a b c)) := (below_alloc (Below.refl _ _) _)
    have hx0 := heap_alloc_new w (geoC a b c)
    generalize w.alloc (geoC a b c) = w0 at *
    refine (HA.out w0 (HL.out.of_below hb0)).mono ?_
    rintro e w1 ⟨rfl, hb1⟩
    have hx1 := (hb1.block _ (blk_lt hx0)).trans hx0
    have HB1 := Lib.hid (below_via hb0 hb1)
    have k0 := (blk_cell hx1 0).trans rfl
    have k1 := (blk_cell hx1 1).trans rfl
    have k2 := (blk_cell hx1 2).trans rfl
    clear hb0 hb1 hx0 hx1
    go_wp2_with fail
    refine (H1.out w1).mono ?_
    rintro e w2 ⟨rfl, hb2⟩
    have HB2 := Lib.hid (below_via HB1.out hb2)
    clear k0 k1 k2 hb2
    go_wp2_with fail
    go_ret
    exact ⟨rfl, HB2.out⟩

theorem pad_facts {l : List Int} {p s : Nat} (hin : InB l) (h : (l.length + p) % s = 0) (hlen : l.length ≤ 2000) (hp : p < s) (hs1 : 32 ≤ s) (hs2 : s ≤ 131) :
    ∃ N, (l ++ List.replicate p (0 : Int)).length = N * s ∧ N ≤ 4096 ∧ InB (l ++ List.replicate p (0 : Int)) ∧ (l ++ List.replicate p (0 : Int)).length ≤ 2131 ∧ ((l ++ List.replicate p (0 : Int)).length : Int) % (s : Int) = 0 ∧ ((l ++ List.replicate p (0 : Int)).length : Int) / (s : Int) ≤ 4096 := by
  have e : (l ++ List.replicate p (0 : Int)).length = l.length + p := by simp
  obtain ⟨N, hN⟩ := Nat.dvd_of_mod_eq_zero h
  have hN' : l.length + p = N * s := by rw [hN, Nat.mul_comm]
  have hle : N ≤ 4096 := by
    rcases Nat.lt_or_ge 4096 N with h | h
    · have := Nat.mul_le_mul (Nat.le_of_lt h) hs1
      omega
    · exact h
  rw [e]
  refine ⟨N, hN', hle, fun x hx => ?_, by omega, by rw [← Int.natCast_emod, h]; rfl, ?_⟩
  · rcases List.mem_append.1 hx with h | h
    · exact hin x h
    · have := (List.mem_replicate.1 h).2
      subst this
      exact ⟨by decide, by decide⟩
  · rw [hN', Int.natCast_mul, Int.mul_ediv_cancel _ (by omega)]
    omega

theorem byt_gd {w : World} {B g : Nat} {F : Nat → Prop} {D : DiskS} (h : IsDisk w B F g D) : F g ∧ g < w.heap.size := by
  obtain ⟨A, c, cb, pb, ces, h1, h2, h3, h4, h5, h6, h7, h8, h9, h10⟩ := h
  exact ⟨h6, (h10 _ h6).2⟩
set_option maxRecDepth 100000 in
set_option maxHeartbeats 4000000 in
/-- Where it asks. -/
theorem byt_ask (l : List Int) (A : Option Addr) (m : Nat) (x which a b c : Int) (s : Nat) (w : World) (hl : Laid w) (hx : 0 ≤ x ∧ x ≤ 255) (hs : (s : Int) = 32 + x % 100) (hlen : l.length ≤ 2000) (hfew : (!rightF a b c || decide (totalF a b c ≤ 500)) = true)
    (hC : KB.C w A l.length l) (hin : InB l) :
    Calls Tryd.prog 4 #[.slice A l.length m, .int .u8 x, .int .i64 which, .agg #[.int .i64 a, .int .i64 b, .int .i64 c]] w fun e w' => e = .returned (.bool true) ∧ Below w.heap.size w w' := by
  have hs1 : 32 ≤ s := by omega
  have hs2 : s ≤ 131 := by omega
  have HL := Lib.hid hl
  have HA := Lib.hid (fun (W : World) (hl : Laid W) => awake_calls W hl)
  have H1 := Lib.hid (fun (W : World) => refFew_calls a b c W)
  rw [hfew] at H1
  have hrem : Int.tmod x 100 = x % 100 := Int.tmod_eq_emod_of_nonneg hx.1
  have HC := Lib.hid hC
  have HIN := Lib.hid hin
  have hrow : 0 < w.heap.size := World.block_lt_of_cell? w _ (hl 0 (by omega))
  have hc : ¬ (2000 : Int) < (l.length : Int) := by omega
  clear hl hC hin hfew
  go_enter Tryd.func4, Tryd.ntmps4
  go_wp2_with fail
  have hb0 : Below w.heap.size w (w.alloc (geoC a b c)) := (below_alloc (Below.refl _ _) _)
  have hx0 := heap_alloc_new w (geoC a b c)
  generalize w.alloc (geoC a b c) = w0 at *
  refine (HA.out w0 (HL.out.of_below hb0)).mono ?_
  rintro e w1 ⟨rfl, hb1⟩
  have hx1 := (hb1.block _ (blk_lt hx0)).trans hx0
  have HB1 := Lib.hid (below_via hb0 hb1)
  have k0 := (blk_cell hx1 0).trans rfl
  have k1 := (blk_cell hx1 1).trans rfl
  have k2 := (blk_cell hx1 2).trans rfl
  have HX1 := Lib.hid hx1
  clear hb0 hb1 hx0 hx1
  go_wp2_with fail
  refine (H1.out w1).mono ?_
  rintro e w2 ⟨rfl, hb2⟩
  have HB2 := Lib.hid (below_via HB1.out hb2)
  have HX2 := Lib.hid ((hb2.block _ (blk_lt HX1.out)).trans HX1.out)
  clear k0 k1 k2 hb2
  go_wp2_with fail
  have e1 : Int.tmod (l.length : Int) (s : Int) = ((l.length % s : Nat) : Int) := by rw [Int.tmod_eq_emod_of_nonneg (by omega)]; simp
  have hrs : l.length % s < s := Nat.mod_lt _ (by omega)
  have e3 : Int.tmod ((s : Int) - ((l.length % s : Nat) : Int)) (s : Int) = (((s - l.length % s) % s : Nat) : Int) := by
    rw [show (s : Int) - ((l.length % s : Nat) : Int) = ((s - l.length % s : Nat) : Int) by omega, Int.tmod_eq_emod_of_nonneg (by omega)]; simp
  have hps : (s - l.length % s) % s < s := Nat.mod_lt _ (by omega)
  have hdv : (l.length + (s - l.length % s) % s) % s = 0 := by
    have h1 := Nat.mod_add_mod l.length s ((s - l.length % s) % s)
    rw [← h1, Nat.add_mod_mod, Nat.add_sub_cancel' (Nat.le_of_lt hrs), Nat.mod_self]
  have HDV := Lib.hid hdv
  generalize hrr : l.length % s = r at *
  generalize hpp : (s - r) % s = p at *
  have hse : ((s : Int) == 0) = false := by rw [beq_eq_false_iff_ne]; omega
  have hsn : ¬ (s : Int) = 0 := by omega
  have hsz : ¬ s = 0 := by omega
  have hww : IntKind.i64.wrap ((s : Int) - (r : Int)) = (s : Int) - (r : Int) := IntWalk.i64_in _ (by omega)
  clear hdv hrr hpp
  rw [← hs]
  clear hs hx hrem
  have hle2 : Below w2.heap.size w2 (w2.alloc (.cells #[] 5)) := below_alloc (Below.refl _ _) _
  obtain ⟨cc0, hA0⟩ : ∃ cc0, cc0 = m := ⟨m, rfl⟩
  go_region_law
    (first | (refine Kd.R_append_rows_step KB (Rr := fun x cs => cs = [Value.int .u8 x]) (w0 := w2) w2.heap.size rfl _ _ 27 5 (.int .u8 0) 1 rfl Tryd.underlying27 infoB rfl (by decide) (by decide) _ [] l A l.length m (fun k => w2.heap.size ≤ k) (fun _ => False) rfl rfl (Kd.R_drew (own_empty w2)) (Kd.C_drew (Kd.C_below HC.out (below_via HB2.out hle2))) (fun _ _ h => h) (fun _ h => h.elim) (fun k hk => by simp at hk; omega) (below_drew hle2) (by simp) (by simp; omega) ?_; intro v1 w3 HO1 HB3 HG1 hat1; replace HO1 : RB w3 w2.heap.size (fun k => w2.heap.size ≤ k) v1 l := HO1) | (refine Kd.R_append_zeros_step KB (w0 := w2) w2.heap.size rfl _ _ 27 3 5 (.int .u8 0) 1 rfl Tryd.underlying27 Tryd.underlying3 infoB rfl (by decide) (by decide) v1 l 0 (p : Int) (fun k => w2.heap.size ≤ k) rfl rfl rfl (fun k hk => Nat.le_trans HB3.size hk) HO1 (by omega) HB3 HB3.size (by simp; omega) ?_; intro v2 w4 HO2 HB4 HG2 hat2))
  have HO2' : RB w4 w2.heap.size (fun k => w2.heap.size ≤ k) v2 (l ++ List.replicate p 0) := by simpa using HO2
  have hbw := below_via HB2.out HB4
  obtain ⟨N, hN, hN2, hin, hcl, hm1, hm2⟩ := pad_facts HIN.out HDV.out hlen hps hs1 hs2
  clear HO2 HG2 hat2 hle2 HO1 HB3 HG1 hat1
  generalize l ++ List.replicate p (0 : Int) = cl at *
  obtain ⟨A2, c2, rfl, hle, hC2⟩ := Kd.R_reads HO2'
  have hnil := row_nil HO2'
  have HOP := Lib.hid (open_yes w4 s A2 c2 cl hC2 hnil (by omega) (by omega) hm1 hm2 (by omega))
  have HC2 := Lib.hid hC2
  have HN := Lib.hid hN
  have HNI := Lib.hid hin
  have HL4 := Lib.hid (HL.out.of_below hbw)
  have HBW := Lib.hid hbw
  have hrow4 := Nat.lt_of_lt_of_le hrow HBW.out.size
  have hb4x := HB4
  clear HO2' hbw hin hm1 hm2 hnil hC2 hN HB2 HB4 HC HIN HDV HA H1 HL
  clear hww e3 e1 hps hrs hse hsz
  have HX4 := Lib.hid ((hb4x.block _ (blk_lt HX2.out)).trans HX2.out)
  have hwl := blk_lt HX4.out
  clear hb4x
  go_wp2_with fail
  refine HOP.out.mono ?_
  rintro e w5 ⟨gd, rfl, hI, hb5⟩
  have HI5 := Lib.hid hI
  have hgd := byt_gd hI
  have HOR := Lib.hid (ropen_calls w5 s N A2 c2 cl (Kd.C_below HC2.out hb5) hle (by omega) (by omega) HN.out hN2)
  have HB5 := Lib.hid hb5
  have hs45 := hb5.size
  clear hb5 hI HOP
  go_wp2_with fail
  refine HOR.out.mono ?_
  rintro e w6 ⟨vL, vC, rfl, hU, hb6⟩
  have HR6 := Lib.hid (RefR.of_open hU)
  have HI6 := Lib.hid (HI5.out.below hb6)
  have HB6 := Lib.hid (below_via HB5.out hb6)
  have hs56 := hb6.size
  have hr6 := HR6.out.bd
  have hx6 := (HB6.out.block _ hwl).trans HX4.out
  have HRD := Lib.hid (byt_read w6 w4.heap.size gd _ cl s N which a b c (HL4.out.of_below HB6.out) HI6.out (by omega) hs1 (by omega) HN.out HNI.out (by omega))
  have k0 := (blk_cell hx6 0).trans rfl
  have k1 := (blk_cell hx6 1).trans rfl
  have k2 := (blk_cell hx6 2).trans rfl
  clear hb6 hU hx6 HOR HI5 HB5
  go_wp2_with fail
  refine HRD.out.mono ?_
  rintro e w7 ⟨Ax, cx, kx, rfl, hCX, hcx, hI7, hF7⟩
  have HCX := Lib.hid hCX
  have HI7 := Lib.hid hI7
  have HB7 := Lib.hid (Fr.from HB6.out hF7 (by omega) (fun k hk => by omega))
  have HR7 := Lib.hid (HR6.out.step hF7.size (fun k h1 h2 => hF7.block k h2 (by omega)))
  have hs67 := hF7.size
  have hx7 := (HB7.out.block _ hwl).trans HX4.out
  have z0 : ∀ o, (w7.alloc o).cell? ⟨w.heap.size, 0, none⟩ = some (.int .i64 a) := fun o => pw_cell_below (below_alloc (Below.refl _ _) o) ((blk_cell hx7 0).trans rfl)
  have z1 : ∀ o, (w7.alloc o).cell? ⟨w.heap.size, 1, none⟩ = some (.int .i64 b) := fun o => pw_cell_below (below_alloc (Below.refl _ _) o) ((blk_cell hx7 1).trans rfl)
  have z2 : ∀ o, (w7.alloc o).cell? ⟨w.heap.size, 2, none⟩ = some (.int .i64 c) := fun o => pw_cell_below (below_alloc (Below.refl _ _) o) ((blk_cell hx7 2).trans rfl)
  clear hx7 hCX hI7 hF7 HRD HR6 HI6 k0 k1 k2
  have HBL := Lib.hid (bytS_len cl s N which a b c)
  generalize hSS : bytS cl s N which a b c = SS at *
  generalize hEE : bytE cl s which a b c = EE at *
  have HSS := Lib.hid hSS
  have HEE := Lib.hid hEE
  clear hSS hEE
  go_wp2_with fail
  have hb8 : Below w7.heap.size w7 (w7.alloc (.cells #[.int .i64 SS.st, .int .i64 SS.why, .int .u64 SS.seq, .slice Ax SS.img.length cx] 37)) := below_alloc (Below.refl _ _) _
  have hx8 := heap_alloc_new w7 (.cells #[.int .i64 SS.st, .int .i64 SS.why, .int .u64 SS.seq, .slice Ax SS.img.length cx] 37)
  generalize w7.alloc (.cells #[.int .i64 SS.st, .int .i64 SS.why, .int .u64 SS.seq, .slice Ax SS.img.length cx] 37) = w8 at *
  have HB8 := Lib.hid (below_via HB7.out hb8)
  have HR8 := Lib.hid (HR7.out.below hb8)
  have HI8 := Lib.hid (HI7.out.below hb8)
  have HCX8 := Lib.hid (HCX.out.below hb8)
  have HX8 := Lib.hid hx8
  have hw78 := blk_lt hx8
  have HRR := Lib.hid (byt_rread w8 w5.heap.size w6.heap.size w5.heap.size cl s N which a b c HR8.out (Nat.le_trans hs67 hb8.size) hs1 (by omega) HN.out HNI.out)
  rw [HSS.out, HEE.out] at HRR
  clear hb8 hx8 z0 z1 z2 HR7 HI7 HCX HB7
  refine HRR.out.mono ?_
  rintro e w9 ⟨Ay, cy, rfl, hCY, hcy, hF9⟩
  have HB9 := Lib.hid (Fr.from HB8.out hF9 (by have := HB8.out.size; omega) (fun k hk => by omega))
  have HCY := Lib.hid hCY
  have HI9 := Lib.hid (HI8.out.fr hF9 (fun k h1 h2 => by omega))
  have hCX9 := HCX8.out.step hF9.size (fun k h1 h2 => hF9.block k h2 (by omega))
  have HCX9 := Lib.hid hCX9.1
  have HX9 := Lib.hid (hF9.blk HX8.out (by omega))
  have hs79 := hF9.size
  clear hCY hF9 hCX9 HRR HR8 HI8 HCX8 HX8
  have z0 : ∀ o, (w9.alloc o).cell? ⟨w7.heap.size, 0, none⟩ = some (.int .i64 SS.st) := fun o => pw_cell_below (below_alloc (Below.refl _ _) o) ((blk_cell HX9.out 0).trans rfl)
  have z1 : ∀ o, (w9.alloc o).cell? ⟨w7.heap.size, 1, none⟩ = some (.int .i64 SS.why) := fun o => pw_cell_below (below_alloc (Below.refl _ _) o) ((blk_cell HX9.out 1).trans rfl)
  have z2 : ∀ o, (w9.alloc o).cell? ⟨w7.heap.size, 2, none⟩ = some (.int .u64 SS.seq) := fun o => pw_cell_below (below_alloc (Below.refl _ _) o) ((blk_cell HX9.out 2).trans rfl)
  have z3 : ∀ o, (w9.alloc o).cell? ⟨w7.heap.size, 3, none⟩ = some (.slice Ax SS.img.length cx) := fun o => pw_cell_below (below_alloc (Below.refl _ _) o) ((blk_cell HX9.out 3).trans rfl)
  go_wp2_with fail
  have hb10 : Below w9.heap.size w9 (w9.alloc (.cells #[.int .i64 SS.st, .int .i64 SS.why, .int .u64 SS.seq, .slice Ay SS.img.length cy] 37)) := below_alloc (Below.refl _ _) _
  generalize w9.alloc (.cells #[.int .i64 SS.st, .int .i64 SS.why, .int .u64 SS.seq, .slice Ay SS.img.length cy] 37) = w10 at *
  have HB10 := Lib.hid (below_via HB9.out hb10)
  have HI10 := Lib.hid (HI9.out.below hb10)
  have HSM := Lib.hid (same6_calls SS Ax cx Ay cy w10 (Kd.C_below HCX9.out hb10) hcx (Kd.C_below HCY.out hb10) hcy HBL.out)
  clear hb10 z0 z1 z2 z3 HI9 HCX9 HCY HB9 HX9
  refine HSM.out.mono ?_
  rintro e w11 ⟨rfl, hb11⟩
  have HB11 := Lib.hid (below_via HB10.out hb11)
  have HBY := Lib.hid (bytes_calls w11 _ gd _ _ (HI10.out.below hb11) (by show cl.length ≤ _; omega))
  clear hb11 HSM HI10 HB10
  go_wp2_with fail
  refine HBY.out.mono ?_
  rintro e w12 ⟨A3, c3, rfl, hC3, hle3, hb12⟩
  have hC3' : KB.C w12 A3 cl.length cl := hC3
  have hle3' : cl.length ≤ c3 := hle3
  have HB12 := Lib.hid (below_via HB11.out hb12)
  have HSS2 := Lib.hid (same_calls A3 c3 A2 c2 cl w12 hC3' hle3' (Kd.C_below HC2.out HB12.out) hle (by omega))
  have e9 : (nextN (freshD (s : Int) cl) kx).lasting.length = cl.length := rfl
  rw [e9]
  clear hC3 hC3' hle3 hb12 HBY e9
  go_wp2_with fail
  refine HSS2.out.mono ?_
  rintro e w13 ⟨rfl, hb13⟩
  go_wp2_with fail
  go_ret
  exact ⟨rfl, below_via HBW.out (below_via HB12.out hb13)⟩

theorem byt_calls (l : List Int) (A : Option Addr) (m : Nat) (x which a b c : Int) (w : World) (hl : Laid w) (hx : 0 ≤ x ∧ x ≤ 255) (hC : KB.C w A l.length l) (hin : InB l) :
    Calls Tryd.prog 4 #[.slice A l.length m, .int .u8 x, .int .i64 which, .agg #[.int .i64 a, .int .i64 b, .int .i64 c]] w fun e w' => e = .returned (.bool true) ∧ Below w.heap.size w w' := by
  by_cases h1 : 2000 < l.length
  · exact byt_skip l A m x which a b c w hl hx (.inl h1)
  · cases h2 : (!rightF a b c || decide (totalF a b c ≤ 500)) with
    | false => exact byt_skip l A m x which a b c w hl hx (.inr h2)
    | true => exact byt_ask l A m x which a b c (32 + x % 100).toNat w hl hx (by omega) (by omega) h2 hC hin
end Go.Proofs.YtcemageindmbkaaDoor
/- What the rows' condition gives the walks: the table geo.rows lies as laid; and a world that meets it. -/
namespace Go.Proofs.YtcemageindmbkaaDoor
open Go.ChangeShapes Go.WideShapes Go.ChangeAt Go.RowKit

theorem own : ownKnob Tryd.prog.godebug = none := by kernel_rfl
theorem laidOut : laidOutB Tryd.prog = true := by kernel_rfl
theorem gRows : Tryd.prog.globalNamed "keepsake/geo.rows" = some 0 := by kernel_rfl
theorem tRows : (Tryd.prog.globals[0]?).map (·.type) = some 160 := by kernel_rfl
theorem cRows : Tryd.prog.cellsOf 160 = 44 := by kernel_rfl
theorem cRow : Tryd.prog.cellsOf 151 = 4 := by kernel_rfl
theorem cInt : Tryd.prog.cellsOf 3 = 1 := by kernel_rfl
abbrev laidL : List (String × DataW Unit) := [("keepsake/geo.rows", Rows.laid_keepsake_geo_rows)]

theorem datum {H : Type} : (Rows.laid_keepsake_geo_rows : DataW H) = .agg ((List.range 11).map fun i => Lib.tabData .i64 ((tab.drop (i * 4)).take 4)) := rfl

theorem laid_of {W : World} (h : laidMetH Tryd.prog laidL W) : Laid W := by
  rw [MakeChecks.laidMetH_plain _ _ _ (by kernel_rfl)] at h
  obtain ⟨ps, ⟨g', t', cs, fuel, p, q, hg', ht', hvar, hd, -, -⟩, -⟩ := h
  obtain rfl := Option.some.inj (gRows.symm.trans hg')
  obtain rfl := Option.some.inj (tRows.symm.trans ht')
  obtain ⟨xs, m, rfl, hx, hlen, hn, hel⟩ := DataW.trod_array Tryd.underlying160 hd
  rw [datum] at hx
  simp only [Prod.mk.injEq, DataW.agg.injEq] at hx
  rw [cRow] at hel
  intro j hj
  have hc := World.var?_cell hg' hvar j
  rw [hc]
  have hi : j / 4 < 11 := by omega
  have h1 := hel (j / 4) hi
  have h2 : (xs.map (·.1))[j / 4]? = some (Lib.tabData .i64 ((tab.drop (j / 4 * 4)).take 4)) := by rw [← hx.1]; simp [hi]
  rw [List.getElem?_map] at h2
  obtain ⟨y, hy, hy2⟩ := Option.map_eq_some_iff.1 h2
  rw [hy] at h1
  have h3 := Lib.cells_of_tab (p := y.2) Tryd.underlying151 Tryd.underlying3 cInt cRow (h1.trans (congrArg some (Prod.ext hy2 rfl)))
  have h4 : ((cs.toList.drop (j / 4 * 4)).take 4)[j % 4]? = cs.toList[j]? := by
    rw [List.getElem?_take, if_pos (by omega), List.getElem?_drop, show j / 4 * 4 + j % 4 = j by omega]
  have h5 : (((tab.drop (j / 4 * 4)).take 4).map fun z => Value.int .i64 z)[j % 4]? = some (.int .i64 (tab.getD j 0)) := by
    have : j < tab.length := hj
    rw [List.getElem?_map, List.getElem?_take, if_pos (by omega), List.getElem?_drop, show j / 4 * 4 + j % 4 = j by omega, List.getElem?_eq_getElem this, List.getD_eq_getElem?_getD, List.getElem?_eq_getElem this]
    rfl
  rw [h3, h5] at h4
  simpa using h4.symm

/-- The door's own heap meets the condition. -/
theorem door_met (os : Os) (args : Array Value) : laidMetH Tryd.prog laidL ((World.doorLaid Tryd.prog 25 os).forCall (fun _ _ => 0) ⟨#[], args, []⟩).memory :=
  laidMetH_of_parts3 (fuel := 8) (laidMet_of_run' 8 (by kernel_rfl) (by kernel_rfl)) (by kernel_rfl) (by kernel_rfl)
end Go.Proofs.YtcemageindmbkaaDoor
/- Arguments as rows read them: a slice of bytes, chips, a size. -/
namespace Go.Proofs.YtcemageindmbkaaDoor
set_option maxRecDepth 100000
open Go.ChangeShapes Go.WideShapes Go.ChangeAt Go.RowKit Go.Proofs.YtcemageindmbkaaDoorW.PrintWords

/-- A slice of bytes that came in. -/
theorem bytes_arg {H : Type} {enc : TypeId × Value → H} {W : World} {base : Nat} {held : Bool} {v : Value} {d : DataW H} {p : List MemPlace} {r : Reach} {b0 : Nat}
    (hv : Value.okWide Tryd.prog W r b0 27 v) (h : DataW.Trod enc Tryd.prog W base (fun _ => true) held 27 v d p) :
    ∃ A l c, v = .slice A (l : List Int).length c ∧ KB.C W A l.length l ∧ InB l ∧ l.length ≤ c ∧ (A = none → c = 0) := by
  obtain ⟨A, n, c, rfl⟩ := okWide_slice Tryd.underlying27 hv
  obtain ⟨fuel, hf⟩ := h
  rcases open_ints Tryd.underlying27 Tryd.underlying5 (by kernel_rfl) hf with ⟨hcs, _⟩ | ⟨x, l, cc, zs, hcs, _, hl, hm, hz, _, hcell, hwz⟩
  · simp [Value.cells] at hcs
    obtain ⟨rfl, rfl, rfl⟩ := hcs
    exact ⟨none, [], 0, rfl, ⟨rfl, by simp, fun h => absurd h (by simp)⟩, (fun x hx => by cases hx), Nat.le_refl _, fun _ => rfl⟩
  · simp [Value.cells] at hcs
    obtain ⟨rfl, rfl, rfl⟩ := hcs
    have hzl : zs.length = c := by simpa using hz
    have htl : (zs.take n).length = n := by rw [List.length_take]; omega
    refine ⟨some x, zs.take n, c, by rw [htl], ?_, fun y hy => ?_, by rw [htl]; exact hl, fun h => by cases h⟩
    · rw [htl]
      refine ⟨htl, by simp [maxLen] at hm; omega, fun _ => ⟨x, rfl, fun j q hj => ⟨[.int .u8 q], rfl, rfl, fun i u hu => ?_⟩⟩⟩
      have hj1 : j < n := by have := (List.getElem?_eq_some_iff.1 hj).1; omega
      cases i with
      | zero =>
        simp only [List.getElem?_cons_zero, Option.some.injEq] at hu
        subst hu
        have := hcell j (by omega)
        rw [List.getElem?_take, if_pos hj1] at hj
        rw [List.getD_eq_getElem?_getD, hj] at this
        simpa [KB, Kd.int, Kd.scalar] using this
      | succ i => simp at hu
    · have := hwz y (List.mem_of_mem_take hy)
      have e1 : IntKind.u8.min = 0 := rfl
      have e2 : IntKind.u8.max = 255 := rfl
      simp only [Lit.wf, e1, e2, Bool.and_eq_true, decide_eq_true_eq] at this
      exact this
/-- Chips that came in. -/
theorem geo_arg {H : Type} {enc : TypeId × Value → H} {W : World} {base : Nat} {sp : Nat → Bool} {held : Bool} {v : Value} {d : DataW H} {p : List MemPlace} {r : Reach} {b0 : Nat}
    (hv : Value.okWide Tryd.prog W r b0 23 v) (h : DataW.Trod enc Tryd.prog W base sp held 23 v d p) :
    ∃ a b c, v = .agg #[.int .i64 a, .int .i64 b, .int .i64 c] := by
  obtain ⟨x0, x1, x2, y0, y1, y2, n, rfl, -, -, g0, g1, g2⟩ := Joins.open_agg3 Tryd.underlying23 (by kernel_rfl) (by kernel_rfl) hv h
  obtain ⟨a, e1, -, -⟩ := DataW.trod_int Tryd.underlying3 g0
  obtain ⟨b, e2, -, -⟩ := DataW.trod_int Tryd.underlying3 g1
  obtain ⟨c, e3, -, -⟩ := DataW.trod_int Tryd.underlying3 g2
  simp only [List.cons.injEq, and_true] at e1 e2 e3
  exact ⟨a, b, c, by rw [e1, e2, e3]⟩
end Go.Proofs.YtcemageindmbkaaDoor
