/- Parts of the proof, in build order. -/
import Derived.Test.YtcemageindmbkaaDoorBytesAll3
import Derived.Laws.Closers25b
import Derived.Laws.BitsAllLaws
import Derived.StillTailTactics
import Derived.Deep.RegionLaw
/- slot.Read, where the head is the slot's own: what it returns. -/
namespace Go.Proofs.YtcemageindmbkaaDoor
open Go.RowKit Go.Proofs.YtcemageindmbkaaDoorW.PrintWords
open PSlotBytes

theorem sectors_room {n s m : Nat} (hs1 : 1 ≤ s) (hs2 : s ≤ 4096) (h : sectorsF (n : Int) (s : Int) = (m : Int)) : m * s ≤ n + s := by
  unfold sectorsF at h
  split at h
  · have : m = 0 := by omega
    subst this; omega
  · rename_i h1
    have e1 : ((n : Int) - 1) / (s : Int) = (((n - 1) / s : Nat) : Int) := by
      rw [show ((n : Int) - 1) = ((n - 1 : Nat) : Int) by omega]; simp
    rw [e1] at h
    have hm : m = (n - 1) / s + 1 := by omega
    subst hm
    have h2 := Nat.div_mul_le_self (n - 1) s
    rw [Nat.add_mul]; omega
theorem flat_len {L : List (List Int)} {s : Nat} (h : ∀ l ∈ L, l.length = s) : L.flatten.length = L.length * s := by
  induction L with
  | nil => simp
  | cons x L ih => rw [List.flatten_cons, List.length_append, ih (fun l hl => h l (List.mem_cons_of_mem _ hl)), h x (List.mem_cons_self ..), List.length_cons, Nat.add_mul]; omega
theorem flat_in {L : List (List Int)} (h : ∀ l ∈ L, InB l) : InB L.flatten := fun x hx => by
  obtain ⟨l, hl, hx⟩ := List.mem_flatten.1 hx
  exact h l hl x hx
set_option maxRecDepth 100000 in
set_option maxHeartbeats 1000000 in
theorem rd_good (w : World) (B g : Nat) (F : Nat → Prop) (D : DiskS) (which a b c : Int) (s n m : Nat) (hl : Laid w) (hD : IsDisk w B F g D) (hcm : Calm D 100000) (hB0 : 0 < B) (h : atE D which a b c = 0) (hs : D.size = s) (q u : Int)
    (hlen0 : (sectR D (which * spanF D.size a b c)).length = s) (hin0 : InB (sectR D (which * spanF D.size a b c))) (hdv : decV (sectR D (which * spanF D.size a b c)) = .agg #[.int .i64 a, .int .i64 b, .int .i64 c, .int .i64 (m : Int), .int .u64 q, .int .u32 u]) (hde : decE (sectR D (which * spanF D.size a b c)) = 0)
    (hm : (m : Int) = totalF a b c) (hn : sectorsF (totalF a b c) s = n) (hsb : ∀ l ∈ sectsR D (which * spanF D.size a b c) n, InB l ∧ l.length = s) (hu : sumF ((sectsR D (which * spanF D.size a b c) n).flatten.take m) = u) :
    Calls Tryd.prog 15 #[.pointer (some ⟨g, 0, none⟩), .int .i64 which, .agg #[.int .i64 a, .int .i64 b, .int .i64 c]] w fun e w' => ∃ A cc, e = .returned (.tuple #[.agg #[.int .i64 2, .int .i64 0, .int .u64 q, .slice A m cc], .int .i64 0]) ∧ CN w' w.heap.size A ((sectsR D (which * spanF D.size a b c) n).flatten.take m) ∧ m ≤ cc ∧ (A = none → cc = 0) ∧ IsDisk w' B F g (nextN D (n + 1)) ∧ Fr w w' (fun k => k = g) := by
  rw [hs] at hsb hu ⊢
  have hmt := totalF_bd a b c
  have hnb := (sectorsF_bd (totalF a b c) (s : Int) hmt.1)
  have hsr := atE_ok h
  rw [hs] at hsr
  have hs2 : s ≤ 4096 := by have := hcm.ok.s2; rw [hs] at this; omega
  have hcov : m ≤ n * s := sectors_cover (by omega) hs2 (by rw [hm]; exact hn)
  have hns : n * s ≤ 16777216 := by have := sectors_room (n := m) (m := n) (by omega) hs2 (by rw [hm]; exact hn); omega
  clear hsr
  obtain ⟨h1, h2, h3, h4, h5⟩ := atE_ok h
  have hok := hcm.ok
  have HA := Lib.hid (fun (W : World) (hW : Below w.heap.size w W) => at_ok W B g F D which a b c (hl.of_below hW) (hD.below hW) hok h1 h2 h3 h4 h5)
  have hsp := spanF_bd D.size a b c
  have hfi : 0 ≤ which * spanF D.size a b c ∧ which * spanF D.size a b c ≤ spanF D.size a b c := by
    have h01 : which = 0 ∨ which = 1 := by omega
    rcases h01 with rfl | rfl
    · rw [Int.zero_mul]; omega
    · rw [Int.one_mul]; omega
  have hspe : spanF D.size a b c = 1 + sectorsF (totalF a b c) D.size := by unfold spanF; rw [if_pos ⟨h1, h4, hok.s2⟩]
  have hsn : 0 ≤ sectorsF (totalF a b c) D.size := (sectorsF_bd _ _ (totalF_bd a b c).1).1
  rw [hs] at HA hfi h4 hspe h5 hsp hsn
  rw [hs] at hlen0 hin0 hdv hde
  generalize hspg : spanF (s : Int) a b c = sp at *
  generalize hfd : which * sp = fd at *
  have hgood := read_good (D := D) (i := fd) hcm.planned (by omega) (by omega)
  have hrd := fun (W : World) p1 p2 q1 q2 hD => rd_calls W B g p1 p2 F D fd 0 q1 q2 hD hok (by omega)
  simp only [Int.add_zero, hgood.1, hgood.2] at hrd
  have HRD := Lib.hid hrd
  generalize hsec : sectR D fd = l0 at *
  have hdc := fun (W : World) bb o cc hl hC hc => decode_calls bb o cc l0 W hl hC hc hin0
  rw [hdv, hde] at hdc
  have HDC := Lib.hid hdc
  have sn : ∀ (m : Mode) (x : Addr) (w : World), (store x Value.nilFunc m).run Tryd.prog w = stored Tryd.prog w x Value.nilFunc m := fun m x w => run_store Tryd.prog w x _ m rfl
  have sf : ∀ (fn : Fn) (u v : Array Value) (m : Mode) (x : Addr) (w : World), (store x (Value.func fn u v) m).run Tryd.prog w = stored Tryd.prog w x (Value.func fn u v) m := fun fn u v m x w => run_store Tryd.prog w x _ m rfl
  have HD := Lib.hid hD
  have HL := Lib.hid hl
  have HCM := Lib.hid hcm
  have HSPE := Lib.hid hspe
  have HLEN0 := Lib.hid hlen0
  have HS32 : Hid (32 ≤ s) := Lib.hid (by omega)
  have hgl : g < w.heap.size := by
    obtain ⟨_, _, _, _, _, hh, _⟩ := hD
    exact blk_lt hh
  have hFg : F g := by obtain ⟨_, _, _, _, _, _, _, _, _, _, h6, _⟩ := hD; exact h6
  have HM := Lib.hid hm
  have HN := Lib.hid hn
  have HSB := Lib.hid hsb
  have HNB : Hid (n ≤ 90112) := Lib.hid (by omega)
  have HCOV := Lib.hid hcov
  have HNS := Lib.hid hns
  have HSC : Hid (fd + (n : Int) < D.sectors) := Lib.hid (by omega)
  clear hm hn hsb hmt hnb hcov hns
  clear hlen0 hl hD hok h h1 h2 h3 h4 h5 hcm hfd hspg hspe hs hgood hrd hsec hdc hdv hde
  go_enter Tryd.func15, Tryd.ntmps15
  go_wp2_with fail
  have HX := Lib.hid (Rd2.made w a b c)
  generalize (w.alloc (.cells #[.int .i64 a, .int .i64 b, .int .i64 c] 23)).alloc slC = wX at *
  refine (HA.out _ HX.out.below).mono ?_
  rintro e w1 ⟨p2, rfl, hb1, hp1, hp2, hle⟩
  have HP1 := Lib.hid hp1
  have HP2 := Lib.hid hp2
  have HX1 := Lib.hid (HX.out.step hb1)
  have hx1 : w.heap.size + 1 < wX.heap.size := blk_lt HX.out.b1
  clear hb1 hp1 hp2
  go_wp2_with fail
  generalize hwP : w1.alloc (plC wX.heap.size p2 (sp - 1) s) = wP
  have hPl : wP.heap[w1.heap.size]? = some (plC wX.heap.size p2 (sp - 1) s) := hwP ▸ heap_alloc_new w1 _
  have hBP : Below w1.heap.size w1 wP := hwP ▸ below_alloc (Below.refl _ _) _
  clear hwP
  have hq1 := (hBP.block _ (blk_lt HP1.out)).trans HP1.out
  have hq2 := (hBP.block _ (blk_lt HP2.out)).trans HP2.out
  have HXP := Lib.hid (HX1.out.step hBP)
  have hw1 : wX.heap.size < w1.heap.size := blk_lt HP1.out
  have HQ1 := Lib.hid hq1
  have HQ2 := Lib.hid hq2
  have HPL := Lib.hid hPl
  clear hBP hPl hq1 hq2
  refine (HRD.out wP _ _ HQ1.out HQ2.out (HD.out.below HXP.out.below)).mono ?_
  rintro e w2 ⟨v2, rfl, hR2, hI2, hF2⟩
  have hx2 : Rd3 w w2 g a b c := ⟨(Fr.of_below HXP.out.below _).trans hF2 (fun _ _ h => h), hF2.blk HXP.out.b0 (by omega), hF2.blk HXP.out.b1 (by omega)⟩
  have hpl2 := hF2.blk HPL.out (by omega)
  have hq1 := hF2.blk HQ1.out (by omega)
  have hq2 := hF2.blk HQ2.out (by omega)
  obtain ⟨A2, c2, rfl, hc2, hC2⟩ := Kd.R_reads hR2
  obtain ⟨bb, rfl⟩ := plain_row hR2 (by rw [HLEN0.out]; have := HS32.out; omega)
  have HX2 := Lib.hid hx2
  have HPL2 := Lib.hid hpl2
  have HQ12 := Lib.hid hq1
  have HQ22 := Lib.hid hq2
  have HI2 := Lib.hid hI2
  have HDEC := Lib.hid (HDC.out w2 bb 0 c2 ((HL.out.of_below HXP.out.below).of_kept hF2.kept (by have := (HD.out.bound g hFg).1; omega)) hC2 hc2)
  clear hF2 hx2 hpl2 hq1 hq2 hI2 hR2 hC2 hc2
  go_wp2_with fail
  refine HDEC.out.mono ?_
  rintro e w3 ⟨rfl, hb3⟩
  have HX3 := Lib.hid ((HX2.out.step hb3).step (below_alloc (Below.refl _ _) (.cells #[.int .i64 a, .int .i64 b, .int .i64 c, .int .i64 (m : Int), .int .u64 q, .int .u32 u] 93)))
  have hb3' := below_via hb3 (below_alloc (Below.refl w3.heap.size w3) (.cells #[.int .i64 a, .int .i64 b, .int .i64 c, .int .i64 (m : Int), .int .u64 q, .int .u32 u] 93))
  have HI3 := Lib.hid (HI2.out.below hb3')
  have HPL3 := Lib.hid ((hb3'.block _ (blk_lt HPL2.out)).trans HPL2.out)
  have HQ13 := Lib.hid ((hb3'.block _ (blk_lt HQ12.out)).trans HQ12.out)
  have HQ23 := Lib.hid ((hb3'.block _ (blk_lt HQ22.out)).trans HQ22.out)
  clear hb3 hb3'
  obtain ⟨⟨c0, c1, c2⟩, ⟨k0, k1, k2, k3⟩, f0, f1, f2, f3⟩ := HX3.out.cells
  have y0 := (blk_cell HPL3.out 0).trans rfl
  have y1 := (blk_cell HPL3.out 1).trans rfl
  have y2 := (blk_cell HPL3.out 2).trans rfl
  have y3 := (blk_cell HPL3.out 3).trans rfl
  go_wp2_with fail
  have e1 : sp - 1 = (n : Int) := by rw [HSPE.out, HN.out]; omega
  rw [e1]
  have hcn : Calm D.next (n + 1) := by
    have := (Calm.read (n := 99999) HCM.out)
    exact ⟨this.ok, this.planned, (by have := this.ops; have := HNB.out; omega), (by have := this.writes; have := HNB.out; omega)⟩
  have hsect : sectsR D.next fd n = sectsR D fd n := rfl
  have HW := Lib.hid (whole_calls _ B g wX.heap.size p2 F D.next fd s n m s HQ13.out HQ23.out HI3.out hcn (by omega) (by have := HSC.out; show fd + (n : Int) < D.sectors; omega) (by omega) (by omega) (by have := HNB.out; omega) (by have := HS32.out; omega) (by rw [hsect]; exact HSB.out) HNS.out HCOV.out)
  refine HW.out.mono ?_
  rintro e w4 ⟨A4, c4, rfl, hmc, hnil, hCN, hI4, hF4⟩
  have hlt3 : w.heap.size + 1 < w3.heap.size + 1 := by have := blk_lt HX3.out.b1; simpa using this
  have hx4 : Rd3 w w4 g a b c := ⟨HX3.out.fr.trans hF4 (fun _ _ h => h), hF4.blk HX3.out.b0 (by omega), hF4.blk HX3.out.b1 (by omega)⟩
  have hh4 := hF4.blk (heap_alloc_new w3 (.cells #[.int .i64 a, .int .i64 b, .int .i64 c, .int .i64 (m : Int), .int .u64 q, .int .u32 u] 93)) (show ¬ w3.heap.size = g by omega)
  have himg : ((sectsR D fd n).flatten.take m).length = m := by
    rw [List.length_take, flat_len (fun l hl => (HSB.out l hl).2)]
    have : (sectsR D fd n).length = n := by simp [sectsR]
    rw [this]; have := HCOV.out; omega
  have hiin : InB ((sectsR D fd n).flatten.take m) := fun x hx => flat_in (fun l hl => (HSB.out l hl).1) x (List.mem_of_mem_take hx)
  rw [hsect] at hCN
  generalize hIG : (sectsR D fd n).flatten.take m = img at *
  have HIG := Lib.hid hIG
  clear hIG
  have HSUM := Lib.hid (fun W (hW : Below w4.heap.size w4 W) => sum_n m A4 c4 img W himg (Kd.C_below hCN.1 hW) hiin (by rw [himg]; have := HCOV.out; have := HNS.out; omega))
  have HX4 := Lib.hid hx4
  have HH4 := Lib.hid hh4
  have HI4 := Lib.hid hI4
  have HCN := Lib.hid hCN
  have HX3s : Hid (w.heap.size ≤ w3.heap.size + 1) := Lib.hid (by omega)
  clear hF4 hx4 hh4 hI4 hCN himg hiin hsect hcn c0 c1 c2 k0 k1 k2 k3 f0 f1 f2 f3 y0 y1 y2 y3 e1
  have y5 := (blk_cell HH4.out 5).trans rfl
  have y4 := (blk_cell HH4.out 4).trans rfl
  have z5 := fun n : BT w4 => BT.cell y5 n
  go_wp2_with fail
  · skip
    refine wp_region_below (by kernel_rfl) (by kernel_rfl) ?_
    repeat (go_big_quiet_step (first | (go_at_call 51; exact Calls.below_of (HSUM.out _ (CT.ok _)))))
    refine wpQuiet_nil ?_
    intro W5 hW5
    obtain ⟨⟨w5, hb5⟩, rfl⟩ := hW5
    have HX5 := Lib.hid (HX4.out.step hb5)
    obtain ⟨-, ⟨k0, k1, k2, k3⟩, f0, f1, f2, f3⟩ := HX5.out.cells
    have y4' := pw_cell_below hb5 y4
    have HI5 := Lib.hid (HI4.out.below hb5)
    have HCN5 := Lib.hid (HCN.out.below hb5)
    clear hb5 z5 y4 y5
    go_wp2_with fail
    obtain ⟨W9, hW9, ⟨l0, l1, l2, l3⟩, hbel, hsz9, hrest⟩ := set4 (.int .i64 2) (.int .i64 0) (.int .u64 q) (.slice A4 m c4) ⟨k0, k1, k2, k3⟩
    rw [← hW9]
    clear hW9 k0 k1 k2 k3 f0 f1 f2 f3
    refine bodyPost_ret (v := .tuple #[.agg #[.int .i64 2, .int .i64 0, .int .u64 q, .slice A4 m c4], .int .i64 0]) (by simp [results, Tryd.results15, go_sem, l0, l1, l2, l3]) rfl ?_
    have hb9 := hbel (w.heap.size + 1) _ (Below.refl _ _) (Nat.le_refl _)
    rw [HIG.out]
    refine ⟨A4, c4, rfl, (HCN5.out.step (by rw [hsz9]; exact Nat.le_refl _) (fun q hq hq2 => hrest q (by simp only [World.size_alloc] at hq; omega))).lower (by simp only [World.size_alloc]; omega), hmc, hnil, ?_, rd_fin HX5.out.fr hb9⟩
    have := HI5.out.step hb9.size (fun q hq => hb9.block q (by have := (HD.out.bound q hq).2; omega))
    have e9 : nextN D.next n = nextN D (n + 1) := by simp only [nextN, DiskS.next, DiskS.mk.injEq, true_and, and_true]; omega
    rwa [e9] at this
end Go.Proofs.YtcemageindmbkaaDoor
/- disk.Open, New: what they return. -/
namespace Go.Proofs.YtcemageindmbkaaDoor
open Go.RowKit Go.Proofs.YtcemageindmbkaaDoorW.PrintWords
open PSlotBytes

/-- A disk that has just been opened. -/
def freshD (s : Int) (l : List Int) : DiskS := ⟨s, l, [], [], 0, 0⟩

theorem fresh_disk (w w1 : World) (s : Int) (l : List Int) (A1 : Option Addr) (c1 : Nat) (hR : RB w1 w.heap.size (fun k => w.heap.size ≤ k) (.slice A1 l.length c1) l) (hb : Below w.heap.size w w1) :
    let W := ((w1.alloc (.map #[] 0)).alloc (.map #[] 0)).alloc (.cells #[.int .i64 s, .slice A1 l.length c1, .map (some w1.heap.size), .map (some (w1.heap.size + 1)), .int .i64 0, .int .i64 0] 80)
    IsDisk W w.heap.size (fun k => w.heap.size ≤ k ∧ k < W.heap.size) (w1.heap.size + 1 + 1) (freshD s l) := by
  intro W
  have hsz : W.heap.size = w1.heap.size + 3 := by simp [W]
  have hs := hb.size
  have hbW : Below w1.heap.size w1 W := below_alloc (below_alloc (below_alloc (Below.refl _ _) _) _) _
  have m1 : MapAt W w1.heap.size [] := ((MapAt.made w1).below (below_alloc (Below.refl _ _) _)).below (below_alloc (Below.refl _ _) _)
  have m2 : MapAt W (w1.heap.size + 1) [] := by
    have := (MapAt.made (w1.alloc (.map #[] 0))).below (below_alloc (Below.refl _ _) (.cells #[.int .i64 s, .slice A1 l.length c1, .map (some w1.heap.size), .map (some (w1.heap.size + 1)), .int .i64 0, .int .i64 0] 80))
    simpa [W] using this
  have hR' := Kd.R_below hR hbW
  refine ⟨A1, c1, w1.heap.size, w1.heap.size + 1, [], enc_blk2 w1 _ _ _, Kd.R_mono (Kd.R_bound hR') (fun k hk => ⟨hk.1, hk.2.2.1⟩), m1, trivial, m2, ⟨by omega, by omega⟩, ⟨by omega, by omega⟩, ⟨by omega, by omega⟩, by omega, fun k hk => hk⟩

set_option maxRecDepth 100000 in
theorem open_yes (w : World) (s : Nat) (A : Option Addr) (c : Nat) (l : List Int) (hC : KB.C w A l.length l) (hnil : A = none → c = 0) (hs1 : 1 ≤ s) (hs2 : s ≤ 4096) (hm : (l.length : Int) % (s : Int) = 0) (hq : (l.length : Int) / (s : Int) ≤ 4096) (hl : l.length ≤ 16777216) :
    Calls Tryd.prog 13 #[.int .i64 (s : Int), .slice A l.length c] w fun e w' => ∃ g, e = .returned (.tuple #[.pointer (some ⟨g, 0, none⟩), .int .i64 0]) ∧ IsDisk w' w.heap.size (fun k => w.heap.size ≤ k ∧ k < w'.heap.size) g (freshD s l) ∧ Below w.heap.size w w' := by
  have HK := Lib.hid (fun (W : World) (hW : Below w.heap.size w W) => clone_calls A c l W (Kd.C_below hC hW) (by omega) hnil)
  have hr : Int.tmod (l.length : Int) (s : Int) = 0 := by rw [Int.tmod_eq_emod_of_nonneg (by omega)]; exact hm
  have hd : Int.tdiv (l.length : Int) (s : Int) ≤ 4096 := by rw [Int.tdiv_eq_ediv_of_nonneg (by omega)]; exact hq
  have hq0 : 0 ≤ (l.length : Int) / (s : Int) := Int.ediv_nonneg (by omega) (by omega)
  have hwq : wrap64 ((l.length : Int) / (s : Int)) = (l.length : Int) / (s : Int) := by
    generalize (l.length : Int) / (s : Int) = z at *
    unfold wrap64; omega
  clear hC hnil
  have hmk : ∀ (t : TypeId) (W : World), (Instr.makeMap t none).run Tryd.prog W = .ok (.map (some W.heap.size)) (W.alloc (.map #[] 0)) := fun _ _ => rfl
  go_enter Tryd.func13, Tryd.ntmps13
  go_wp2_with fail
  refine (HK.out w (Below.refl _ _)).mono ?_
  rintro e w1 ⟨v, rfl, hR, hb⟩
  obtain ⟨A1, c1, rfl, -, -⟩ := Kd.R_reads hR
  have HR := Lib.hid hR
  have HB := Lib.hid hb
  clear hR hb
  go_wp2_with fail
  go_ret2
  exact ⟨_, rfl, fresh_disk w w1 s l A1 c1 HR.out HB.out, below_alloc (below_alloc (below_alloc HB.out _) _) _⟩
end Go.Proofs.YtcemageindmbkaaDoor
/- disk.New, Ops, Writes: what they return. -/
namespace Go.Proofs.YtcemageindmbkaaDoor
open Go.RowKit Go.Proofs.YtcemageindmbkaaDoorW.PrintWords
open PSlotBytes

theorem CRep.lower {w : World} {B B' : Nat} {ok : Nat → Prop} (hb : B' ≤ B) : ∀ {ces : List (Int × Value)} {cs : List (Int × List Int)}, CRep w B ok ces cs → CRep w B' ok ces cs
  | [], [], h => h
  | _ :: _, _ :: _, h => ⟨h.1, Kd.R_lower h.2.1 hb, h.2.2.lower hb⟩
theorem IsDisk.lower {w : World} {B B' g : Nat} {F F' : Nat → Prop} {D : DiskS} (h : IsDisk w B F g D) (hb : B' ≤ B) (h1 : ∀ k, F k → F' k) (h2 : ∀ k, F' k → B' ≤ k ∧ k < w.heap.size) : IsDisk w B' F' g D := by
  obtain ⟨A, c, cb, pb, ces, a1, a2, a3, a4, a5, a6, a7, a8, a9, _⟩ := h
  exact ⟨A, c, cb, pb, ces, a1, Kd.R_mono (Kd.R_lower a2 hb) h1, a3, (a4.lower hb).mono (fun k hk => ⟨h1 k hk.1, hk.2⟩), a5, h1 _ a6, h1 _ a7, h1 _ a8, a9, h2⟩

set_option maxRecDepth 100000 in
theorem new_yes (w : World) (n s : Nat) (hn : n ≤ 4096) (hs1 : 1 ≤ s) (hs2 : s ≤ 4096) :
    Calls Tryd.prog 22 #[.int .i64 (n : Int), .int .i64 (s : Int)] w fun e w' => ∃ g, e = .returned (.tuple #[.pointer (some ⟨g, 0, none⟩), .int .i64 0]) ∧ IsDisk w' w.heap.size (fun k => w.heap.size ≤ k ∧ k < w'.heap.size) g (freshD s (List.replicate (n * s) 0)) ∧ Below w.heap.size w w' := by
  have hms : n * s ≤ 16777216 := by have := Nat.mul_le_mul hn hs2; omega
  have e1 : wrap64 ((n : Int) * (s : Int)) = (n : Int) * (s : Int) := by rw [← Int.natCast_mul]; unfold wrap64; omega
  have e0 : ((n : Int) * (s : Int)).toNat = n * s := by rw [← Int.natCast_mul]; omega
  have hp : 0 ≤ (n : Int) * (s : Int) := by rw [← Int.natCast_mul]; omega
  have hmod : ((n * s : Nat) : Int) % (s : Int) = 0 := by rw [Int.natCast_mul]; exact Int.mul_emod_left _ _
  have hdiv : ((n * s : Nat) : Int) / (s : Int) ≤ 4096 := by rw [Int.natCast_mul, Int.mul_ediv_cancel _ (by omega)]; omega
  have HM := Lib.hid hmod
  have HDV := Lib.hid hdiv
  have H0 := Lib.hid e0
  clear hmod hdiv e0
  go_enter Tryd.func22, Tryd.ntmps22
  go_wp2_with ((with_reducible refine gate_dst (N := 24) rfl ?_); refine Kd.R_make KB (w0 := w) w.heap.size 5 rfl (N := 24) rfl 27 _ _ rfl ((n : Int) * (s : Int)) rfl rfl Tryd.underlying27 (.int .u8 0) 1 infoB rfl (by decide) (by decide) 0 (ok := fun k => w.heap.size ≤ k) (okp := fun _ => False) rfl (fun _ h => h.elim) (Nat.le_refl _) hp (by rw [H0.out]; omega) (Below.refl _ _) (Nat.le_refl _) ?_; intro v5 w5 HO5 HB5 _ hne5)
  rw [H0.out] at HO5
  obtain ⟨A5, c5, rfl, -, hC5⟩ := Kd.R_reads HO5
  have hnil : A5 = none → c5 = 0 := by
    obtain ⟨bb, hh, -⟩ := hne5
    rintro rfl
    simp [Value.ownBlock] at hh
  have hrl : (List.replicate (n * s) (0 : Int)).length = n * s := List.length_replicate
  have HO := Lib.hid (open_yes w5 s A5 c5 (List.replicate (n * s) 0) hC5 hnil hs1 hs2 (by rw [hrl]; exact HM.out) (by rw [hrl]; exact HDV.out) (by rw [hrl]; exact hms))
  have HB := Lib.hid HB5
  rw [hrl] at HO
  clear HO5 HB5 hne5 hC5 hnil
  rw [hrl]
  go_wp2_with fail
  refine HO.out.mono ?_
  rintro e w6 ⟨g, rfl, hD, hb⟩
  have HD := Lib.hid hD
  have HB6 := Lib.hid hb
  clear hD hb
  go_wp2_with fail
  go_ret2
  exact ⟨g, rfl, HD.out.lower HB.out.size (fun k hk => ⟨Nat.le_trans HB.out.size hk.1, hk.2⟩) (fun k hk => hk), below_via HB.out HB6.out⟩

theorem ops_calls (w : World) (B g : Nat) (F : Nat → Prop) (D : DiskS) (h : IsDisk w B F g D) :
    Calls Tryd.prog 26 #[.pointer (some ⟨g, 0, none⟩)] w fun e w' => e = .returned (.int .i64 D.ops) ∧ Below w.heap.size w w' := by
  obtain ⟨A, c, cb, pb, -, -, -, -, c4, c5⟩ := h.cells
  clear h
  go_enter Tryd.func26, Tryd.ntmps26
  go_wp2_with fail
  exact bodyPost_ret (v := .int .i64 D.ops) (by simp [results, Tryd.results26, go_sem]) rfl ⟨rfl, Below.refl _ _⟩
theorem writes_calls (w : World) (B g : Nat) (F : Nat → Prop) (D : DiskS) (h : IsDisk w B F g D) :
    Calls Tryd.prog 25 #[.pointer (some ⟨g, 0, none⟩)] w fun e w' => e = .returned (.int .i64 D.writes) ∧ Below w.heap.size w w' := by
  obtain ⟨A, c, cb, pb, -, -, -, -, c4, c5⟩ := h.cells
  clear h
  go_enter Tryd.func25, Tryd.ntmps25
  go_wp2_with fail
  exact bodyPost_ret (v := .int .i64 D.writes) (by simp [results, Tryd.results25, go_sem]) rfl ⟨rfl, Below.refl _ _⟩
end Go.Proofs.YtcemageindmbkaaDoor
/- A slot that was laid and sealed reads as it was: in plain Lean. -/
namespace Go.Proofs.YtcemageindmbkaaDoor
open Go.RowKit Go.Proofs.YtcemageindmbkaaDoorW.PrintWords
open PSlotBytes

theorem sumF_bd (l : List Int) : 0 ≤ sumF l ∧ sumF l < 4294967296 := by
  have h1 := bits_lo_u32 .xor IntKind.u32.max (crcAll (notF 0) l)
  have h2 := bits_hi_u32 .xor IntKind.u32.max (crcAll (notF 0) l)
  unfold sumF notF
  unfold notF at h1 h2
  omega
theorem val_lay4 (n : Int) (h0 : 0 ≤ n) (h1 : n < 4294967296) : valF (layF 4 n) = n := by
  simp only [layF, valF]; omega
theorem val_lay8 (n : Int) (h0 : 0 ≤ n) (h1 : n < 18446744073709551616) : valF (layF 8 n) = n := by
  simp only [layF, valF]; omega
section
variable (a b c n q u : Int) (s : Nat)
theorem enc_long : (encF a b c n q u).length = 28 := by simp [encF, enc24_length, layF_length]
theorem enc_eq : padTo (encF a b c n q u) s = enc24 a b c n q u ++ (layF 4 (sumF (enc24 a b c n q u)) ++ List.replicate (s - (encF a b c n q u).length) 0) := by
  unfold padTo encF; rw [List.append_assoc]
theorem enc_take24 : (padTo (encF a b c n q u) s).take 24 = enc24 a b c n q u := by
  rw [enc_eq, List.take_left' (enc24_length ..)]
theorem enc_sumbytes : ((padTo (encF a b c n q u) s).take 28).drop 24 = layF 4 (sumF (enc24 a b c n q u)) := by
  have h1 : (padTo (encF a b c n q u) s).take 28 = encF a b c n q u := by unfold padTo; rw [List.take_left' (enc_long ..)]
  rw [h1]; unfold encF; rw [List.drop_left' (enc24_length ..)]
theorem enc24_eq : enc24 a b c n q u = enc8 a b c ++ (layF 4 (n % 4294967296) ++ (layF 8 q ++ layF 4 u)) := by
  unfold enc24; simp only [List.append_assoc]
theorem enc_t (k : Nat) (hk : k ≤ 24) : (padTo (encF a b c n q u) s).take k = (enc24 a b c n q u).take k := by
  rw [← enc_take24 a b c n q u s, List.take_take, Nat.min_eq_left hk]
theorem enc_len : ((padTo (encF a b c n q u) s).take 12).drop 8 = layF 4 (n % 4294967296) := by
  rw [enc_t _ _ _ _ _ _ _ _ (by omega), enc24_eq, ← List.append_assoc, List.take_left' (by simp [enc8, layF_length]), List.drop_left' (by simp [enc8])]
theorem enc_seq : ((padTo (encF a b c n q u) s).take 20).drop 12 = layF 8 q := by
  rw [enc_t _ _ _ _ _ _ _ _ (by omega), enc24_eq, ← List.append_assoc, ← List.append_assoc, List.take_left' (by simp [enc8, layF_length]), List.drop_left' (by simp [enc8, layF_length])]
theorem enc_sum : ((padTo (encF a b c n q u) s).take 24).drop 20 = layF 4 u := by
  rw [enc_take24, enc24_eq, ← List.append_assoc, ← List.append_assoc, List.drop_left' (by simp [enc8, layF_length])]
theorem enc_get (i : Nat) (hi : i < 8) : (padTo (encF a b c n q u) s).getD i 0 = (enc8 a b c).getD i 0 := by
  rw [enc_eq, enc24_eq]
  simp only [List.getD_eq_getElem?_getD]
  rw [List.append_assoc, List.getElem?_append_left (by simpa [enc8] using hi)]
theorem enc_t4 : (padTo (encF a b c n q u) s).take 4 = [75, 69, 69, 80] := by
  rw [enc_t _ _ _ _ _ _ _ _ (by omega), enc24_eq]; simp [enc8]
theorem pad_len (l : List Int) (h : l.length ≤ s) : (padTo l s).length = s := by unfold padTo; simp; omega
end

/-- A head that was laid is told as it was. -/
theorem dec_enc (a b c n q u : Int) (s : Nat) (hr : rightF a b c = true) (hn : n = totalF a b c) (hq : 0 ≤ q ∧ q < 18446744073709551616) (hu : 0 ≤ u ∧ u < 4294967296) (hs : 28 ≤ s) :
    decE (padTo (encF a b c n q u) s) = 0 ∧ decV (padTo (encF a b c n q u) s) = .agg #[.int .i64 a, .int .i64 b, .int .i64 c, .int .i64 n, .int .u64 q, .int .u32 u] := by
  have htb := totalF_bd a b c
  have hrr : 0 ≤ a ∧ a ≤ 10 ∧ 0 ≤ b ∧ b ≤ 64 ∧ 0 ≤ c ∧ c ≤ 128 := by simpa [rightF] using hr
  have e5 : (padTo (encF a b c n q u) s).getD 5 0 = a := by rw [enc_get _ _ _ _ _ _ _ _ (by omega)]; show a % 256 = a; omega
  have e6 : (padTo (encF a b c n q u) s).getD 6 0 = b := by rw [enc_get _ _ _ _ _ _ _ _ (by omega)]; show b % 256 = b; omega
  have e7 : (padTo (encF a b c n q u) s).getD 7 0 = c := by rw [enc_get _ _ _ _ _ _ _ _ (by omega)]; show c % 256 = c; omega
  have e4 : (padTo (encF a b c n q u) s).getD 4 0 = 1 := by rw [enc_get _ _ _ _ _ _ _ _ (by omega)]; rfl
  have el : valF (((padTo (encF a b c n q u) s).take 12).drop 8) = n := by rw [enc_len, val_lay4 _ (by omega) (by omega)]; omega
  have eq : valF (((padTo (encF a b c n q u) s).take 20).drop 12) = q := by rw [enc_seq, val_lay8 _ hq.1 hq.2]
  have eu : valF (((padTo (encF a b c n q u) s).take 24).drop 20) = u := by rw [enc_sum, val_lay4 _ hu.1 hu.2]
  have es : valF (((padTo (encF a b c n q u) s).take 28).drop 24) = sumF (enc24 a b c n q u) := by rw [enc_sumbytes, val_lay4 _ (sumF_bd _).1 (sumF_bd _).2]
  have e0 : decE (padTo (encF a b c n q u) s) = 0 := by
    unfold decE
    rw [if_neg (by rw [pad_len _ _ (by rw [enc_long]; omega)]; omega), if_neg (by rw [enc_t4]; simp), if_neg (by rw [e4]; simp), if_neg (by rw [es, enc_take24]; simp), e5, e6, e7, el, if_pos (by simp [hrightF, hr, hn])]
  exact ⟨e0, by unfold decV headV; rw [if_pos e0, e5, e6, e7, el, eq, eu]⟩

theorem pieces_flat (L : List Int) (s : Nat) : ∀ n : Nat, (pieces L s n).flatten = L.take (n * s)
  | 0 => by simp [pieces]
  | n + 1 => by
    have ih := pieces_flat L s n
    unfold pieces at ih ⊢
    rw [List.range_succ, List.map_append, List.flatten_append, ih]
    simp only [List.map_cons, List.map_nil, List.flatten_cons, List.flatten_nil, List.append_nil]
    have hle : n * s ≤ (n + 1) * s := Nat.mul_le_mul_right _ (by omega)
    have e : L.take (n * s) = (L.take ((n + 1) * s)).take (n * s) := by rw [List.take_take, Nat.min_eq_left hle]
    rw [e, List.take_append_drop]

theorem data_cached {D : DiskS} {first : Int} {ps : List (List Int)} (hf : 0 ≤ first) : ∀ (n : Nat), Calm D n → (∀ k, k < n → ((ps.getD k []).length : Int) = D.size) → first + n < D.sectors →
    (∀ k, k < n → getI (first + (1 + (k : Int))) (dataS D first ps n).cached = some (ps.getD k [])) ∧ (∀ i, i ≤ first → getI i (dataS D first ps n).cached = getI i D.cached) ∧ (dataS D first ps n).lasting = D.lasting ∧ (dataS D first ps n).ops = D.ops + n ∧ (dataS D first ps n).writes = D.writes + n
  | 0, _, _, _ => ⟨fun k hk => absurd hk (by omega), fun _ _ => rfl, rfl, by simp [dataS], by simp [dataS]⟩
  | n + 1, h, hp, hr => by
    have hcn : Calm D n := ⟨h.ok, h.planned, by have := h.ops; omega, by have := h.writes; omega⟩
    obtain ⟨i1, i2, i3, i4, i5⟩ := data_cached hf n hcn (fun k hk => hp k (by omega)) (by omega)
    obtain ⟨h1, h2, h3⟩ := Calm.data (m := 1) hf n h (fun k hk => hp k (by omega)) (by omega)
    obtain ⟨-, e⟩ := write_good (i := first + (1 + (n : Int))) (b := ps.getD n []) h1.planned (by omega) (by rw [h2]; omega) (by rw [h3]; exact hp n (by omega))
    have e' : dataS D first ps (n + 1) = { (dataS D first ps n).next with cached := putI (first + (1 + (n : Int))) (ps.getD n []) (dataS D first ps n).cached, writes := (dataS D first ps n).writes + 1 } := e
    rw [e']
    refine ⟨fun k hk => ?_, fun i hi => ?_, i3, ?_, ?_⟩
    · show getI _ (putI _ _ _) = _
      rw [getI_putI]
      by_cases hkn : k = n
      · subst hkn; rw [if_pos rfl]
      · rw [if_neg (by omega), i1 k (by omega)]
    · show getI _ (putI _ _ _) = _
      rw [getI_putI, if_neg (by omega), i2 i hi]
    · show (dataS D first ps n).ops + 1 = _
      rw [i4]; omega
    · show (dataS D first ps n).writes + 1 = _
      rw [i5]; omega

/-- What a slot holds that was laid and sealed. -/
structure Sealed (D : DiskS) (which a b c q : Int) (s n : Nat) (l : List Int) : Prop where
  calm1 : Calm (dataS D (which * spanF D.size a b c) (pieces (padTo l (n * s)) s n) n) 100001
  size1 : (dataS D (which * spanF D.size a b c) (pieces (padTo l (n * s)) s n) n).size = s
  at1 : ∀ w' a' b' c', atE (dataS D (which * spanF D.size a b c) (pieces (padTo l (n * s)) s n) n) w' a' b' c' = atE D w' a' b' c'
  err : writeErr (dataS D (which * spanF D.size a b c) (pieces (padTo l (n * s)) s n) n) (which * spanF D.size a b c) s = 0
  calm2 : Calm (writeS (dataS D (which * spanF D.size a b c) (pieces (padTo l (n * s)) s n) n) (which * spanF D.size a b c) (padTo (encF a b c l.length q (sumF l)) s)) 100000
  size2 : (writeS (dataS D (which * spanF D.size a b c) (pieces (padTo l (n * s)) s n) n) (which * spanF D.size a b c) (padTo (encF a b c l.length q (sumF l)) s)).size = s
  at2 : ∀ w' a' b' c', atE (writeS (dataS D (which * spanF D.size a b c) (pieces (padTo l (n * s)) s n) n) (which * spanF D.size a b c) (padTo (encF a b c l.length q (sumF l)) s)) w' a' b' c' = atE D w' a' b' c'
  head : sectR (writeS (dataS D (which * spanF D.size a b c) (pieces (padTo l (n * s)) s n) n) (which * spanF D.size a b c) (padTo (encF a b c l.length q (sumF l)) s)) (which * spanF D.size a b c) = padTo (encF a b c l.length q (sumF l)) s
  body : sectsR (writeS (dataS D (which * spanF D.size a b c) (pieces (padTo l (n * s)) s n) n) (which * spanF D.size a b c) (padTo (encF a b c l.length q (sumF l)) s)) (which * spanF D.size a b c) n = pieces (padTo l (n * s)) s n
  ops2 : (writeS (dataS D (which * spanF D.size a b c) (pieces (padTo l (n * s)) s n) n) (which * spanF D.size a b c) (padTo (encF a b c l.length q (sumF l)) s)).ops = D.ops + n + 1
  writes2 : (writeS (dataS D (which * spanF D.size a b c) (pieces (padTo l (n * s)) s n) n) (which * spanF D.size a b c) (padTo (encF a b c l.length q (sumF l)) s)).writes = D.writes + n + 1

theorem atE_same {D D' : DiskS} (h1 : D'.size = D.size) (h2 : D'.sectors = D.sectors) (w a b c : Int) : atE D' w a b c = atE D w a b c := by
  unfold atE; rw [h1, h2]

theorem sealed_of {D : DiskS} {which a b c q : Int} {s n : Nat} {l : List Int} (hcm : Calm D 300000) (hs : D.size = s) (h : atE D which a b c = 0) (hlen : (l.length : Int) = totalF a b c) (hn : sectorsF l.length s = n) : Sealed D which a b c q s n l := by
  obtain ⟨h1, h2, h3, h4, h5⟩ := atE_ok h
  have hok := hcm.ok
  have hsp := spanF_bd D.size a b c
  have hs2 := hok.s2
  have hspe : spanF D.size a b c = 1 + (n : Int) := by unfold spanF; rw [if_pos ⟨h1, h4, hok.s2⟩, ← hlen, hs, hn]
  have hfi : 0 ≤ which * spanF D.size a b c ∧ which * spanF D.size a b c + n < D.sectors := by
    have h01 : which = 0 ∨ which = 1 := by omega
    rcases h01 with rfl | rfl
    · rw [Int.zero_mul]; omega
    · rw [Int.one_mul]; omega
  rw [hs] at h4 hs2
  have hcov : l.length ≤ n * s := sectors_cover (by omega) (by omega) hn
  have hnb : n ≤ 90112 := by
    have := sectorsF_bd (totalF a b c) (s : Int) (totalF_bd a b c).1
    have := totalF_bd a b c
    rw [← hlen, hn] at *
    omega
  generalize hfd : which * spanF D.size a b c = fd at *
  have hpl : (padTo l (n * s)).length = n * s := pad_len _ _ hcov
  have hps : ∀ k, k < n → (((pieces (padTo l (n * s)) s n).getD k []).length : Int) = D.size := fun k hk => by
    rw [pieces_getD hk, piece_len (by rw [hpl]; exact Nat.mul_le_mul_right _ (by omega)), hs]
  have hcm2 : Calm D (n + 200001) := ⟨hcm.ok, hcm.planned, by have := hcm.ops; omega, by have := hcm.writes; omega⟩
  have hcm3 : Calm D n := ⟨hcm.ok, hcm.planned, by have := hcm.ops; omega, by have := hcm.writes; omega⟩
  obtain ⟨c1, c2, c3⟩ := Calm.data (first := fd) (ps := pieces (padTo l (n * s)) s n) hfi.1 n hcm2 hps hfi.2
  obtain ⟨g1, g2, g3, g4, g5⟩ := data_cached (first := fd) (ps := pieces (padTo l (n * s)) s n) hfi.1 n hcm3 hps hfi.2
  generalize hD1 : dataS D fd (pieces (padTo l (n * s)) s n) n = D1 at *
  have hel : (padTo (encF a b c l.length q (sumF l)) s).length = s := pad_len _ _ (by rw [enc_long]; omega)
  have hsz : (((padTo (encF a b c l.length q (sumF l)) s).length : Nat) : Int) = D1.size := by rw [hel, c3, hs]
  obtain ⟨w1, w2⟩ := write_good (i := fd) (b := padTo (encF a b c l.length q (sumF l)) s) c1.planned hfi.1 (by rw [c2]; omega) hsz
  obtain ⟨q1, q2, q3⟩ := Calm.write (n := 200000) (i := fd) (b := padTo (encF a b c l.length q (sumF l)) s) c1 hfi.1 (by rw [c2]; omega) hsz
  rw [hel] at w1
  have low : ∀ {D : DiskS} {n m : Nat}, m ≤ n → Calm D n → Calm D m := fun hm h => ⟨h.ok, h.planned, by have := h.ops; omega, by have := h.writes; omega⟩
  have cch : (writeS D1 fd (padTo (encF a b c l.length q (sumF l)) s)).cached = putI fd (padTo (encF a b c l.length q (sumF l)) s) D1.cached := by rw [w2]
  constructor
  · rw [hfd, hD1]; exact low (by omega) c1
  · rw [hfd, hD1, c3, hs]
  · intro w' a' b' c'; rw [hfd, hD1]; exact atE_same c3 c2 _ _ _ _
  · rw [hfd, hD1]; exact w1
  · rw [hfd, hD1]; exact low (by omega) q1
  · rw [hfd, hD1, q3, c3, hs]
  · intro w' a' b' c'; rw [hfd, hD1]; exact atE_same (q3.trans c3) (q2.trans c2) _ _ _ _
  · rw [hfd, hD1]; unfold sectR; rw [cch, getI_putI, if_pos rfl]; rfl
  · rw [hfd, hD1]
    unfold sectsR
    conv => rhs; unfold pieces
    refine List.map_congr_left fun k hk => ?_
    have hk' : k < n := List.mem_range.1 hk
    unfold sectR
    rw [cch, getI_putI, if_neg (by omega), g1 k hk', pieces_getD hk']
    rfl
  · rw [hfd, hD1, w2]; show D1.ops + 1 = _; omega
  · rw [hfd, hD1, w2]; show D1.writes + 1 = _; omega
/-- What is read of it. -/
theorem body_of {l : List Int} {s n : Nat} (hcov : l.length ≤ n * s) (hin : InB l) : (∀ x ∈ pieces (padTo l (n * s)) s n, InB x ∧ x.length = s) ∧ ((pieces (padTo l (n * s)) s n).flatten.take l.length) = l := by
  have hpl : (padTo l (n * s)).length = n * s := pad_len _ _ hcov
  have hpi : InB (padTo l (n * s)) := fun x hx => by
    unfold padTo at hx
    rcases List.mem_append.1 hx with hx | hx
    · exact hin x hx
    · have := List.eq_of_mem_replicate hx; omega
  refine ⟨fun x hx => ?_, ?_⟩
  · unfold pieces at hx
    obtain ⟨k, hk, rfl⟩ := List.mem_map.1 hx
    have hk' : k < n := List.mem_range.1 hk
    refine ⟨fun y hy => hpi y (List.mem_of_mem_take (List.mem_of_mem_drop hy)), piece_len (by rw [hpl]; exact Nat.mul_le_mul_right _ (by omega))⟩
  · rw [pieces_flat, List.take_of_length_le (l := padTo l (n * s)) (by omega)]
    unfold padTo; rw [List.take_left' rfl]
end Go.Proofs.YtcemageindmbkaaDoor
/- The document's check sum and the program's are one: in plain Lean. -/
namespace Go.Proofs.YtcemageindmbkaaDoor
open Go.RowKit Go.Proofs.YtcemageindmbkaaDoorW.PrintWords

/-- The number of bits, the lowest first. -/
def wN : List Bool → Nat
  | [] => 0
  | b :: l => b.toNat + 2 * wN l
theorem wvF_wN : ∀ l : List Bool, wvF l = (wN l : Int)
  | [] => rfl
  | b :: l => by
    simp only [wvF, wN, wvF_wN l]
    cases b <;> simp
theorem testBit_wN : ∀ (l : List Bool) (i : Nat), (wN l).testBit i = l.getD i false
  | [], i => by simp [wN]
  | b :: l, 0 => by
    simp only [wN, Nat.testBit_zero, List.getD_cons_zero]
    cases b <;> simp <;> omega
  | b :: l, i + 1 => by
    rw [Nat.testBit_succ, List.getD_cons_succ, ← testBit_wN l i]
    congr 1
    simp only [wN]
    cases b <;> simp <;> omega
/-- One step of the division, on numbers. -/
def tB (v : Nat) : Nat := (v / 2) ^^^ (if v % 2 = 1 then 3988292384 else 0)
def tBn : Nat → Nat → Nat
  | 0, v => v
  | k + 1, v => tB (tBn k v)
theorem tB_xor (a y : Nat) : tB (a ^^^ (2 * y)) = tB a ^^^ y := by
  unfold tB
  have h1 : (a ^^^ 2 * y) / 2 = a / 2 ^^^ y := by
    apply Nat.eq_of_testBit_eq; intro i
    rw [← Nat.testBit_succ, Nat.testBit_xor, Nat.testBit_xor, Nat.testBit_succ, Nat.testBit_succ]
    congr 2; omega
  have h2 : (a ^^^ 2 * y) % 2 = a % 2 := by
    have e : ∀ x : Nat, decide (x % 2 = 1) = x.testBit 0 := fun x => by rw [Nat.testBit_zero]
    have h3 : (a ^^^ 2 * y).testBit 0 = a.testBit 0 := by
      rw [Nat.testBit_xor]
      have : (2 * y).testBit 0 = false := by rw [Nat.testBit_zero]; simp
      rw [this, Bool.xor_false]
    rw [← e, ← e] at h3
    have h4 := decide_eq_decide.1 h3
    omega
  rw [h1, h2, Nat.xor_assoc, Nat.xor_comm y, ← Nat.xor_assoc]
theorem tBn_xor : ∀ (k a y : Nat), tBn k (a ^^^ (2 ^ k * y)) = tBn k a ^^^ y
  | 0, a, y => by simp [tBn]
  | k + 1, a, y => by
    rw [tBn, tBn, show 2 ^ (k + 1) * y = 2 ^ k * (2 * y) by rw [Nat.pow_succ, Nat.mul_assoc], tBn_xor k a (2 * y), tB_xor]
theorem tBn_add : ∀ (j k v : Nat), tBn (j + k) v = tBn j (tBn k v)
  | 0, k, v => by rw [Nat.zero_add]; rfl
  | j + 1, k, v => by rw [show j + 1 + k = (j + k) + 1 by omega, tBn, tBn_add j k v]; rfl
/-- The message as a number. -/
def mN : List Nat → Nat
  | [] => 0
  | x :: l => x + 256 * mN l
theorem add_xor (x y : Nat) (hx : x < 256) : x + 256 * y = x ^^^ (2 ^ 8 * y) := by
  apply Nat.eq_of_testBit_eq; intro i
  rw [Nat.testBit_xor]
  rcases Nat.lt_or_ge i 8 with h | h
  · have h1 : (2 ^ 8 * y).testBit i = false := by rw [Nat.testBit_two_pow_mul]; simp; omega
    rw [h1, Bool.xor_false, show x + 256 * y = 2 ^ 8 * y + x by omega]
    rw [Nat.testBit_two_pow_mul_add y (by omega), if_pos h]
  · have h1 : x.testBit i = false := Nat.testBit_lt_two_pow (Nat.lt_of_lt_of_le hx (show 256 ≤ 2 ^ i from Nat.pow_le_pow_right (n := 2) (by omega) h))
    rw [h1, Bool.false_xor, show x + 256 * y = 2 ^ 8 * y + x by omega]
    rw [Nat.testBit_two_pow_mul_add y (by omega), if_neg (by omega), Nat.testBit_two_pow_mul]
    simp [h]
def cN (s x : Nat) : Nat := tBn 8 (s ^^^ x)
theorem fold_eq : ∀ (l : List Nat) (s : Nat), (∀ x ∈ l, x < 256) → tBn (8 * l.length) (s ^^^ mN l) = l.foldl cN s
  | [], s, _ => by simp [mN, tBn]
  | x :: l, s, h => by
    have hx := h x (List.mem_cons_self ..)
    rw [List.length_cons, show 8 * (l.length + 1) = 8 * l.length + 8 by omega, tBn_add, mN, add_xor _ _ hx, ← Nat.xor_assoc, tBn_xor, List.foldl_cons]
    exact fold_eq l (cN s x) (fun y hy => h y (List.mem_cons_of_mem _ hy))

/-- What flips turn at a place. -/
def par (m i : Nat) : List Nat → Bool
  | [] => false
  | d :: ds => (i + d == m) ^^ par m i ds
theorem par_append (m i : Nat) : ∀ a b : List Nat, par m i (a ++ b) = (par m i a ^^ par m i b)
  | [], b => by simp [par]
  | d :: a, b => by simp [par, par_append m i a b]
theorem flipAt_get (l : List Bool) (j m : Nat) (hj : j < l.length) : (flipAt l j).getD m false = (l.getD m false ^^ (j == m)) := by
  unfold flipAt
  rw [List.getD_eq_getElem?_getD, List.getElem?_set]
  by_cases h : j = m
  · subst h
    rw [if_pos rfl, if_pos hj, List.getD_eq_getElem?_getD]
    simp
  · have hf : (j == m) = false := by simp [h]
    rw [if_neg h, ← List.getD_eq_getElem?_getD, hf, Bool.xor_false]
theorem flips_get (l : List Bool) (i m : Nat) (hi : i + 32 < l.length) : ∀ k, k ≤ 15 → (flips l i k).getD m false = (l.getD m false ^^ par m i (dvL.take k))
  | 0, _ => by simp [flips, par]
  | k + 1, hk => by
    have hd := dvL_le k
    rw [flips_succ l i k (by omega), flipAt_get _ _ _ (by rw [flips_len]; omega), flips_get l i m hi k (by omega)]
    have h : dvL.take (k + 1) = dvL.take k ++ [dvL.getD k 0] := by
      rw [List.take_add_one, List.getD_eq_getElem?_getD, List.getElem?_eq_getElem (show k < dvL.length from hk)]; rfl
    rw [h, par_append]
    simp [par]
theorem par_all (i j : Nat) : par (i + 1 + j) i dvL = (3988292384 : Nat).testBit j := by
  have e : ∀ d, (i + d == i + 1 + j) = (d == j + 1) := fun d => by
    rw [Bool.eq_iff_iff]; simp; omega
  simp only [dvL, par, e]
  rcases Nat.lt_or_ge j 32 with h | h
  · have : ∀ j, j < 32 → (((0 : Nat) == j + 1) ^^ ((6 == j + 1) ^^ ((9 == j + 1) ^^ ((10 == j + 1) ^^ ((16 == j + 1) ^^ ((20 == j + 1) ^^ ((21 == j + 1) ^^ ((22 == j + 1) ^^ ((24 == j + 1) ^^ ((25 == j + 1) ^^ ((27 == j + 1) ^^ ((28 == j + 1) ^^ ((30 == j + 1) ^^ ((31 == j + 1) ^^ ((32 == j + 1) ^^ false))))))))))))))) = (3988292384 : Nat).testBit j := by decide +kernel
    exact this j h
  · have h1 : (3988292384 : Nat).testBit j = false := Nat.testBit_lt_two_pow (Nat.lt_of_lt_of_le (show 3988292384 < 2 ^ 32 by decide) (Nat.pow_le_pow_right (by omega) h))
    rw [h1]
    have hz : ∀ d, d ≤ 32 → (d == j + 1) = false := fun d hd => by simp; omega
    simp [hz]
theorem wN_step (l : List Bool) (i : Nat) (hi : i + 32 < l.length) : wN ((stepL l i).drop (i + 1)) = tB (wN (l.drop i)) := by
  have hpar : wN (l.drop i) % 2 = 1 ↔ l.getD i false = true := by
    have := testBit_wN (l.drop i) 0
    rw [Nat.testBit_zero] at this
    rw [show l.getD i false = (l.drop i).getD 0 false by simp [List.getD_eq_getElem?_getD], ← this]
    simp
  have hdrop : ∀ (L : List Bool) (a j : Nat), (L.drop a).getD j false = L.getD (a + j) false := fun L a j => by simp [List.getD_eq_getElem?_getD]
  apply Nat.eq_of_testBit_eq; intro j
  rw [testBit_wN, hdrop]
  unfold tB
  rw [Nat.testBit_xor, ← Nat.testBit_succ, testBit_wN, hdrop]
  unfold stepL
  by_cases hb : l.getD i false = true
  · rw [if_pos hb, if_pos (hpar.2 hb), flips_get l i _ hi 15 (by omega), show dvL.take 15 = dvL from rfl, par_all, show i + (j + 1) = i + 1 + j by omega]
  · rw [if_neg hb, if_neg (fun h => hb (hpar.1 h)), show i + (j + 1) = i + 1 + j by omega]
    simp
theorem wN_left (l : List Bool) : ∀ k, k + 31 < l.length → wN ((leftN k l).drop k) = tBn k (wN l)
  | 0, _ => by simp [leftN, tBn]
  | k + 1, h => by rw [leftN, wN_step _ _ (by rw [leftN_len]; omega), wN_left l k (by omega), tBn]
theorem wN_not (l : List Bool) (hl : 32 ≤ l.length) : wN (notN l 32) = wN l ^^^ 4294967295 := by
  apply Nat.eq_of_testBit_eq; intro j
  rw [Nat.testBit_xor, testBit_wN, testBit_wN, show (4294967295 : Nat) = 2 ^ 32 - 1 by decide, Nat.testBit_two_pow_sub_one]
  unfold notN
  rw [List.getD_eq_getElem?_getD, List.getD_eq_getElem?_getD]
  rcases Nat.lt_or_ge j 32 with h | h
  · rw [List.getElem?_append_left (by simp; omega), List.getElem?_map, List.getElem?_take, if_pos h, List.getElem?_eq_getElem (by omega)]
    simp [h]
  · rw [List.getElem?_append_right (by simp; omega)]
    have e : 32 + (j - min 32 l.length) = j := by omega
    simp only [List.getElem?_drop, List.length_map, List.length_take, e]
    have : ¬ j < 32 := by omega
    simp [this]
theorem wN_map_not (l : List Bool) (hl : l.length = 32) : wN (l.map (!·)) = wN l ^^^ 4294967295 := by
  have h := wN_not l (by omega)
  unfold notN at h
  rw [List.take_of_length_le (by omega), List.drop_eq_nil_of_le (by omega), List.append_nil] at h
  exact h
theorem wN_append_zeros : ∀ (l : List Bool) (n : Nat), wN (l ++ List.replicate n false) = wN l
  | [], 0 => rfl
  | [], n + 1 => by
    have := wN_append_zeros [] n
    simp only [List.nil_append] at this
    simp [List.replicate_succ, wN, this]
  | b :: l, n => by simp only [List.cons_append, wN, wN_append_zeros l n]
theorem wN_append (a b : List Bool) : wN (a ++ b) = wN a + 2 ^ a.length * wN b := by
  induction a with
  | nil => simp [wN]
  | cons x a ih => simp only [List.cons_append, wN, ih, List.length_cons, Nat.pow_succ]; rw [Nat.mul_add, Nat.mul_assoc, ← Nat.mul_assoc 2 (2 ^ a.length), Nat.mul_comm 2 (2 ^ a.length), Nat.mul_assoc]; omega
theorem wN_bits8 (x : Nat) (hx : x < 256) : wN (bits8 (x : Int)) = x := by
  have : ∀ x : Nat, x < 256 → wN (bits8 (x : Int)) = x := by decide +kernel
  exact this x hx
theorem wN_bits : ∀ l : List Nat, (∀ x ∈ l, x < 256) → wN (bitsF (l.map fun (n : Nat) => (n : Int))) = mN l
  | [], _ => rfl
  | x :: l, h => by
    have ih := wN_bits l (fun y hy => h y (List.mem_cons_of_mem _ hy))
    have hx := h x (List.mem_cons_self ..)
    unfold bitsF at ih ⊢
    rw [List.map_cons, List.flatMap_cons, wN_append, bits8_len, wN_bits8 x hx, ih, mN]
theorem refSum_nat (l : List Nat) (h : ∀ x ∈ l, x < 256) : refSum (l.map fun (n : Nat) => (n : Int)) = ((l.foldl cN 4294967295 ^^^ 4294967295 : Nat) : Int) := by
  have hlen : (bitsF (l.map fun (n : Nat) => (n : Int))).length = 8 * l.length := by rw [bitsF_len, List.length_map]
  have hxl : (bitsF (l.map fun (n : Nat) => (n : Int)) ++ List.replicate 32 false).length = 8 * l.length + 32 := by rw [List.length_append, hlen, List.length_replicate]
  unfold refSum refBits
  rw [wvF_wN, wN_map_not _ (by rw [List.length_drop, leftN_len, notN_len, hxl, hlen]; omega), hlen, wN_left _ _ (by rw [notN_len, hxl]; omega), wN_not _ (by rw [hxl]; omega), wN_append_zeros, wN_bits l h,
    Nat.xor_comm (mN l), fold_eq l _ h]

theorem tB_lt {a : Nat} (h : a < 4294967296) : tB a < 4294967296 := by
  unfold tB
  exact Nat.xor_lt_two_pow (n := 32) (by omega) (by split <;> decide)
theorem tBn_lt {a : Nat} (h : a < 4294967296) : ∀ k, tBn k a < 4294967296
  | 0 => h
  | k + 1 => tB_lt (tBn_lt h k)
theorem times_nat {a : Nat} (h : a < 4294967296) : timesF (a : Int) = (tB a : Int) := by
  unfold timesF tB
  have h1 : Go.bits .and .u32 (a : Int) 1 = ((a % 2 : Nat) : Int) := by
    have := u32_and_nat a 1 h (by decide)
    rw [show ((1 : Nat) : Int) = 1 from rfl] at this
    rw [this, Nat.and_one_is_mod]
  rw [h1]
  have h2 : ((a : Int) / 2) = ((a / 2 : Nat) : Int) := by omega
  rcases Nat.mod_two_eq_zero_or_one a with h0 | h0
  · rw [h0, if_neg (by omega)]
    have h3 : Go.bits .and .u32 3988292384 ((-((0 : Nat) : Int)) % 4294967296) = ((0 : Nat) : Int) := by decide +kernel
    rw [h3, h2, u32_xor_nat _ _ (by omega) (by omega)]
  · rw [h0, if_pos rfl]
    have h3 : Go.bits .and .u32 3988292384 ((-((1 : Nat) : Int)) % 4294967296) = ((3988292384 : Nat) : Int) := by decide +kernel
    rw [h3, h2, u32_xor_nat _ _ (by omega) (by omega)]
theorem timesN_nat {a : Nat} (h : a < 4294967296) : ∀ k, timesN k (a : Int) = (tBn k a : Int)
  | 0 => rfl
  | k + 1 => by rw [timesN, timesN_nat h k, times_nat (tBn_lt h k), tBn]
theorem cN_lt {s x : Nat} (hs : s < 4294967296) (hx : x < 256) : cN s x < 4294967296 := tBn_lt (Nat.xor_lt_two_pow (n := 32) hs (by omega)) 8
theorem crc_nat : ∀ (l : List Nat) (s : Nat), s < 4294967296 → (∀ x ∈ l, x < 256) → crcAll (s : Int) (l.map fun (n : Nat) => (n : Int)) = ((l.foldl cN s : Nat) : Int) ∧ l.foldl cN s < 4294967296
  | [], s, hs, _ => ⟨rfl, hs⟩
  | x :: l, s, hs, h => by
    have hx := h x (List.mem_cons_self ..)
    have e : crcByte (s : Int) (x : Int) = (cN s x : Int) := by
      unfold crcByte cN
      rw [u32_xor_nat _ _ hs (by omega), timesN_nat (Nat.xor_lt_two_pow (n := 32) hs (by omega))]
    have ih := crc_nat l (cN s x) (cN_lt hs hx) (fun y hy => h y (List.mem_cons_of_mem _ hy))
    unfold crcAll at ih ⊢
    rw [List.map_cons, List.foldl_cons, e, List.foldl_cons]
    exact ih
theorem sumF_nat (l : List Nat) (h : ∀ x ∈ l, x < 256) : sumF (l.map fun (n : Nat) => (n : Int)) = ((l.foldl cN 4294967295 ^^^ 4294967295 : Nat) : Int) := by
  have e0 : notF 0 = ((4294967295 : Nat) : Int) := by decide +kernel
  obtain ⟨h1, h2⟩ := crc_nat l 4294967295 (by decide) h
  unfold sumF
  rw [e0, h1]
  unfold notF
  have e1 : IntKind.u32.max = ((4294967295 : Nat) : Int) := rfl
  rw [e1, u32_xor_nat _ _ (by decide) h2, Nat.xor_comm]
/-- The document's check sum is the program's. -/
theorem refSum_eq {l : List Int} (h : InB l) : refSum l = sumF l := by
  have e : l = (l.map Int.toNat).map fun (n : Nat) => (n : Int) := by
    rw [List.map_map]
    conv => lhs; rw [← List.map_id l]
    refine List.map_congr_left fun x hx => ?_
    have := h x hx
    simp only [id, Function.comp]; omega
  have hb : ∀ x ∈ l.map Int.toNat, x < 256 := fun x hx => by
    obtain ⟨y, hy, rfl⟩ := List.mem_map.1 hx
    have := h y hy; omega
  rw [e, refSum_nat _ hb, sumF_nat _ hb]
end Go.Proofs.YtcemageindmbkaaDoor
/- The references' Right, Total, Sectors, Span, Few: what they return is what the program's return. -/
namespace Go.Proofs.YtcemageindmbkaaDoor
open Go.RowKit Go.Proofs.YtcemageindmbkaaDoorW.PrintWords
open PSlotBytes

theorem refRight_eq (a b c : Int) : keepsakeref03_Right.f a b c = some (rightF a b c) := by
  unfold keepsakeref03_Right.f rightF
  by_cases h1 : 0 ≤ a <;> by_cases h2 : a ≤ 10 <;> by_cases h3 : 0 ≤ b <;> by_cases h4 : b ≤ 64 <;> by_cases h5 : 0 ≤ c <;> by_cases h6 : c ≤ 128 <;> simp [h1, h2, h3, h4, h5, h6]
theorem refEeprom_eq (a : Int) : keepsakeref03_Eeprom.f a = some (powF a 0) := by
  unfold keepsakeref03_Eeprom.f keepsakeref03_at.f
  by_cases h : 1 ≤ a ∧ a ≤ 10
  · have hh : ∀ n : Nat, n < 10 → ((if ((n : Int) + 1) < 1 then (some 0) else (if ((n : Int) + 1) > 10 then (some 0) else (if 0 ≤ (wrap64 (((n : Int) + 1) - 1)) then (if (wrap64 (((n : Int) + 1) - 1)) < (([128, 256, 512, 1024, 2048, 4096, 8192, 16384, 32768, 65536] : List Int).length : Int) then (some (rd ([128, 256, 512, 1024, 2048, 4096, 8192, 16384, 32768, 65536] : List Int) (wrap64 (((n : Int) + 1) - 1)))) else (none)) else (none)))).bind fun t143 => (some t143)) = some (powF ((n : Int) + 1) 0) := by decide +kernel
    obtain ⟨n, hn⟩ := Int.eq_ofNat_of_zero_le (show 0 ≤ a - 1 by omega)
    obtain rfl : a = (n : Int) + 1 := by omega
    exact hh n (by omega)
  · have : powF a 0 = 0 := by unfold powF; rw [if_neg h]
    rw [this]
    by_cases h1 : a < 1
    · rw [if_pos h1]; rfl
    · rw [if_neg h1, if_pos (by omega)]; rfl
theorem refTotal_eq (a b c : Int) : keepsakeref03_Total.f a b c = some (totalF a b c) := by
  unfold keepsakeref03_Total.f
  rw [refRight_eq]
  unfold totalF
  have h1 := powF_bd a
  have h2 := flashF_bd b
  have h3 := sramF_bd c
  rcases hr : rightF a b c with _ | _
  · rfl
  · have hr' : 0 ≤ a ∧ a ≤ 10 ∧ 0 ≤ b ∧ b ≤ 64 ∧ 0 ≤ c ∧ c ≤ 128 := by simpa [rightF] using hr
    have e1 : keepsakeref03_Flash.f b = some (flashF b) := by
      unfold keepsakeref03_Flash.f flashF; rw [if_neg (by omega), if_neg (by omega), if_pos (by omega)]; unfold wrap64; congr 1; omega
    have e2 : keepsakeref03_Sram.f c = some (sramF c) := by
      unfold keepsakeref03_Sram.f sramF; rw [if_neg (by omega), if_neg (by omega), if_pos (by omega)]; unfold wrap64; congr 1; omega
    simp only [Option.bind_some, if_true, refEeprom_eq, e1, e2]
    unfold wrap64; congr 1; omega
theorem refFew_eq (a b c : Int) : keepsakeref06_Few.f a b c = some (!rightF a b c || decide (totalF a b c ≤ 500)) := by
  unfold keepsakeref06_Few.f
  rw [refRight_eq, refTotal_eq]
  rcases hr : rightF a b c with _ | _ <;> simp
theorem refSectors_eq (many size : Int) (h0 : 0 ≤ many) (h1 : many ≤ 1000000000) : keepsakeref05_Sectors.f 1 many size = some (sectorsF many size) := by
  unfold keepsakeref05_Sectors.f sectorsF
  rw [keepsakeref05_Sectors.j0, keepsakeref05_Sectors.j0]
  by_cases hs : size < 1
  · rw [if_pos hs, if_pos (Or.inr (Or.inl hs))]; rfl
  · by_cases hs2 : size > 4096
    · rw [if_neg hs, if_pos hs2, if_pos (Or.inr (Or.inr hs2))]; rfl
    · rw [if_neg hs, if_neg hs2]
      by_cases hm : many < 1
      · rw [if_pos (show decide (many < 1) = true by simpa using hm), if_pos (Or.inl hm)]
      · rw [if_neg (show ¬ decide (many < 1) = true by simpa using hm), if_neg (show ¬ size = 0 by omega), if_neg (show ¬ (many < 1 ∨ size < 1 ∨ 4096 < size) by omega)]
        obtain ⟨m, rfl⟩ := Int.eq_ofNat_of_zero_le h0
        obtain ⟨s, rfl⟩ := Int.eq_ofNat_of_zero_le (show 0 ≤ size by omega)
        rw [Int.tmod_eq_emod_of_nonneg (by omega), Int.tdiv_eq_ediv_of_nonneg (by omega)]
        have hd : (m : Int) / (s : Int) = ((m / s : Nat) : Int) := by simp
        have hmo : (m : Int) % (s : Int) = ((m % s : Nat) : Int) := by simp
        have hd2 : ((m : Int) - 1) / (s : Int) = (((m - 1) / s : Nat) : Int) := by
          rw [show ((m : Int) - 1) = ((m - 1 : Nat) : Int) by omega]; simp
        rw [hd, hmo, hd2]
        have hle : m / s ≤ m := Nat.div_le_self _ _
        have hs0 : 0 < s := by omega
        have hkey : (m - 1) / s + 1 = m / s + (if m % s > 0 then 1 else 0) := by
          have e := Nat.div_add_mod m s
          have hlt := Nat.mod_lt m hs0
          by_cases hz : m % s = 0
          · rw [if_neg (by omega)]
            have hq : 1 ≤ m / s := by
              rcases Nat.eq_zero_or_pos (m / s) with h | h
              · rw [h] at e; simp at e; omega
              · exact h
            have : (m - 1) / s = m / s - 1 := by
              rw [Nat.div_eq_iff hs0]
              obtain ⟨q, hq2⟩ : ∃ q, m / s = q + 1 := ⟨m / s - 1, by omega⟩
              rw [hq2] at e ⊢
              rw [Nat.mul_add] at e
              have e3 : q * s = s * q := Nat.mul_comm _ _
              have e4 : (q + 1 - 1) * s = s * q := by rw [Nat.add_sub_cancel, e3]
              rw [e4]
              omega
            omega
          · rw [if_pos (by omega)]
            have : (m - 1) / s = m / s := by
              rw [Nat.div_eq_iff hs0]
              have e3 : m / s * s = s * (m / s) := Nat.mul_comm _ _
              rw [e3]; omega
            omega
        generalize m / s = q1 at *
        generalize (m - 1) / s = q2 at *
        by_cases hz : m % s > 0
        · rw [if_pos (show ((m % s : Nat) : Int) > 0 by omega)]; unfold wrap64; rw [if_pos hz] at hkey; refine congrArg some ?_; omega
        · rw [if_neg (show ¬ ((m % s : Nat) : Int) > 0 by omega)]; unfold wrap64; rw [if_neg hz] at hkey; refine congrArg some ?_; omega
theorem refSpan_eq (s a b c : Int) : keepsakeref06_Span.f 2 s a b c = some (spanF s a b c) := by
  have ht := totalF_bd a b c
  have hb := sectorsF_bd (totalF a b c) s (by omega)
  unfold keepsakeref06_Span.f spanF
  rw [keepsakeref06_Span.j0, keepsakeref06_Span.j0]
  rw [refRight_eq, refTotal_eq]
  simp only [Option.bind_some]
  rw [refSectors_eq _ _ (by omega) (by omega)]
  rcases hr : rightF a b c with _ | _
  · rw [if_neg (by simp), if_pos trivial, if_neg (by simp)]
  · rw [if_pos rfl]
    by_cases h1 : s < 32
    · rw [if_pos h1, if_pos trivial, if_neg (by omega)]
    · rw [if_neg h1]
      by_cases h2 : s > 4096
      · rw [if_pos (by simpa using h2), if_neg (by omega)]
      · rw [if_neg (by simpa using h2), if_pos (by exact ⟨rfl, by omega, by omega⟩)]
        simp only [Option.bind_some]
        unfold wrap64; congr 1; omega

set_option maxRecDepth 100000 in
theorem refRight_calls (a b c : Int) (w : World) : Calls Tryd.prog 20 #[.agg #[.int .i64 a, .int .i64 b, .int .i64 c]] w fun e w' => e = .returned (.bool (rightF a b c)) ∧ Below w.heap.size w w' := keepsakeref03_Right.calls a b c _ w (refRight_eq a b c)
set_option maxRecDepth 100000 in
theorem refTotal_calls (a b c : Int) (w : World) : Calls Tryd.prog 21 #[.agg #[.int .i64 a, .int .i64 b, .int .i64 c]] w fun e w' => e = .returned (.int .i64 (totalF a b c)) ∧ Below w.heap.size w w' := keepsakeref03_Total.calls a b c _ w (refTotal_eq a b c)
set_option maxRecDepth 100000 in
theorem refFew_calls (a b c : Int) (w : World) : Calls Tryd.prog 12 #[.agg #[.int .i64 a, .int .i64 b, .int .i64 c]] w fun e w' => e = .returned (.bool (!rightF a b c || decide (totalF a b c ≤ 500))) ∧ Below w.heap.size w w' := keepsakeref06_Few.calls a b c _ w (refFew_eq a b c)
set_option maxRecDepth 100000 in
theorem refSpan_calls (s a b c : Int) (w : World) : Calls Tryd.prog 10 #[.int .i64 s, .agg #[.int .i64 a, .int .i64 b, .int .i64 c]] w fun e w' => e = .returned (.int .i64 (spanF s a b c)) ∧ Below w.heap.size w w' := keepsakeref06_Span.calls 2 s a b c _ w (refSpan_eq s a b c)
end Go.Proofs.YtcemageindmbkaaDoor
/- The reference's Number, can, Decode (keepsakeref04): what they return. -/
namespace Go.Proofs.YtcemageindmbkaaDoor
open Go.RowKit Go.Proofs.YtcemageindmbkaaDoorW.PrintWords
open PSlotBytes

theorem val_round {l : List Int} (hb : InB l) (hl : l.length ≤ 8) {j : Nat} (hj : j < l.length) : 0 ≤ valF (l.drop (j + 1)) ∧ 256 * valF (l.drop (j + 1)) + 255 ≤ 18446744073709551615 ∧ 0 ≤ l[j] ∧ l[j] ≤ 255 := by
  have hin : InB (l.drop (j + 1)) := fun x hx => hb x (List.mem_of_mem_drop hx)
  obtain ⟨v0, v1⟩ := valF_bd hin
  have hp := pow8 (m := (l.drop (j + 1)).length) (by rw [List.length_drop]; omega)
  have hx := hb l[j] (List.getElem_mem _)
  generalize (256 : Int) ^ (l.drop (j + 1)).length = p at *
  omega
set_option maxRecDepth 100000 in
set_option maxHeartbeats 2000000 in
theorem num_n (n : Nat) (A : Option Addr) (c : Nat) (l : List Int) (w : World) (hn : l.length = n) (hC : KB.C w A l.length l) (hb : InB l) (hl : n ≤ 8) :
    Calls Tryd.prog 98 #[.slice A n c] w fun e w' => e = .returned (.int .u64 (valF l)) ∧ Below w.heap.size w w' := by
  have HC := Lib.hid hC
  have HB := Lib.hid hb
  have HN := Lib.hid hn
  clear hC hb hn
  have e1 : wrap64 ((n : Int) - 1) = (n : Int) - 1 := by unfold wrap64; omega
  go_enter Tryd.func98, Tryd.ntmps98
  go_wp2_with fail
  go_loopw [3, 4] (fun v i wr => ∃ j : Nat, j ≤ n ∧ i = .int .i64 ((j : Int) - 1) ∧ v = .int .u64 (valF (l.drop j)) ∧ wr = w) (fun _ i _ => ((match i with | .int _ z => z | _ => 0) + 1).toNat)
  case atStart => exact ⟨n, Nat.le_refl _, rfl, by rw [List.drop_eq_nil_of_le (by rw [HN.out]; exact Nat.le_refl _)]; rfl, rfl⟩
  case round =>
    obtain ⟨j, hj, rfl, rfl, rfl⟩ := hrel
    cases j with
    | zero =>
      go_wp2_with fail
      go_ret
      exact ⟨rfl, Below.refl _ _⟩
    | succ j =>
      have hj2 : j < l.length := by rw [HN.out]; omega
      obtain ⟨ad, rfl, hc⟩ := byteAt HC.out hj2
      have hv := valF_drop hj2
      have hr := val_round HB.out (by rw [HN.out]; exact hl) hj2
      have e0 : ((j + 1 : Nat) : Int) - 1 = (j : Int) := by omega
      have HE := Lib.hid hv
      generalize l[j] = b at *
      generalize valF (l.drop (j + 1)) = v at *
      have m1 : (256 * v) % 18446744073709551616 = 256 * v := by omega
      have m2 : b % 18446744073709551616 = b := by omega
      have m3 : (256 * v + b) % 18446744073709551616 = 256 * v + b := by omega
      have hp1 : (j : Int) < (n : Int) := by omega
      have hp2 : (0 : Int) ≤ (j : Int) := by omega
      have HR := Lib.hid hr
      have e2 : wrap64 ((j : Int) - 1) = (j : Int) - 1 := by unfold wrap64; omega
      clear hv hr
      rw [e0]
      go_wp2_with fail
      go_roundw
      case rel => exact ⟨j, by omega, rfl, by rw [HE.out, Int.add_comm], trivial⟩
      case measure => simp
set_option maxRecDepth 100000 in
set_option maxHeartbeats 2000000 in
theorem refCan_calls (a b c n q u : Int) (w : World) :
    Calls Tryd.prog 99 #[.agg #[.int .i64 a, .int .i64 b, .int .i64 c, .int .i64 n, .int .u64 q, .int .u32 u]] w fun e w' => e = .returned (.bool (hrightF a b c n)) ∧ Below w.heap.size w w' := by
  have HRC := Lib.hid (refRight_calls a b c)
  have HTC := Lib.hid (refTotal_calls a b c)
  have H : Hid (hrightF a b c n = (rightF a b c && (n == totalF a b c))) := Lib.hid rfl
  generalize rightF a b c = r at HRC H
  generalize totalF a b c = t at HTC H
  cases r
  all_goals
    go_enter Tryd.func99, Tryd.ntmps99
    go_wp2_with fail
    generalize hB : w.alloc (.cells #[.int .i64 a, .int .i64 b, .int .i64 c, .int .i64 n, .int .u64 q, .int .u32 u] 93) = wB
    have hb0 : wB.heap[w.heap.size]? = some (.cells #[.int .i64 a, .int .i64 b, .int .i64 c, .int .i64 n, .int .u64 q, .int .u32 u] 93) := by rw [← hB]; exact heap_alloc_new w _
    have hbB : Below w.heap.size w wB := by rw [← hB]; exact (below_alloc (Below.refl _ _) _)
    clear hB
    refine (HRC.out wB).mono ?_
    rintro e w1 ⟨rfl, hb1⟩
    have hb2 := (hb1.block _ (blk_lt hb0)).trans hb0
    have HB := Lib.hid (below_via hbB hb1)
    have k0 := (blk_cell hb2 0).trans rfl
    have k1 := (blk_cell hb2 1).trans rfl
    have k2 := (blk_cell hb2 2).trans rfl
    have k3 := (blk_cell hb2 3).trans rfl
    have c0 := fun n : BT w1 => BT.cell k0 n
    have c1 := fun n : BT w1 => BT.cell k1 n
    have c2 := fun n : BT w1 => BT.cell k2 n
    have c3 := fun n : BT w1 => BT.cell k3 n
    clear hbB hb1 hb2 hb0
    go_wp2_with fail
    refine wp_region_below (by kernel_rfl) (by kernel_rfl) ?_
    repeat (go_big_quiet_step (first | (go_at_call 21; exact Calls.below_of (HTC.out _))))
    refine wpQuiet_nil ?_
    intro W5 hW5
    obtain ⟨⟨w5, hb5⟩, rfl⟩ := hW5
    go_wp2
    go_ret
    exact ⟨by rw [H.out]; rfl, below_via HB.out hb5⟩
end Go.Proofs.YtcemageindmbkaaDoor
/- The reference's Decode (keepsakeref04): it returns what the program's does. -/
namespace Go.Proofs.YtcemageindmbkaaDoor
open Go.RowKit Go.Proofs.YtcemageindmbkaaDoorW.PrintWords
open PSlotBytes

theorem take4_iff {l : List Int} (h : 28 ≤ l.length) : l.take 4 = [75, 69, 69, 80] ↔ (l.getD 0 0 = 75 ∧ l.getD 1 0 = 69 ∧ l.getD 2 0 = 69 ∧ l.getD 3 0 = 80) := by
  match l, h with
  | a :: b :: c :: d :: r, _ => simp
theorem byte_getD {l : List Int} (h : InB l) (i : Nat) : 0 ≤ l.getD i 0 ∧ l.getD i 0 ≤ 255 := by
  rcases Nat.lt_or_ge i l.length with hi | hi
  · rw [List.getD_eq_getElem?_getD, List.getElem?_eq_getElem hi]; exact h _ (List.getElem_mem hi)
  · rw [List.getD_eq_getElem?_getD, List.getElem?_eq_none hi]; simp
theorem magic_ways {v0 v1 v2 v3 : Int} (h : ¬ (v0 = 75 ∧ v1 = 69 ∧ v2 = 69 ∧ v3 = 80)) : v0 ≠ 75 ∨ (v0 = 75 ∧ v1 ≠ 69) ∨ (v0 = 75 ∧ v1 = 69 ∧ v2 ≠ 69) ∨ (v0 = 75 ∧ v1 = 69 ∧ v2 = 69 ∧ v3 ≠ 80) := by omega
set_option maxRecDepth 100000 in
set_option maxHeartbeats 2000000 in
theorem rdec_magic (b o c : Nat) (l : List Int) (w : World) (hC : KB.C w (some ⟨b, o, none⟩) l.length l) (h : 28 ≤ l.length) (hm : l.take 4 ≠ [75, 69, 69, 80]) :
    Calls Tryd.prog 54 #[.slice (some ⟨b, o, none⟩) l.length c] w fun e w' => e = .returned (.tuple #[zeroH, .int .i64 6]) ∧ Below w.heap.size w w' := by
  have hC1 := Kd.C_below hC (below_alloc (Below.refl _ _) zC)
  have b0 := byteP hC1 (k := 0) (by omega)
  have b1 := byteP hC1 (k := 1) (by omega)
  have b2 := byteP hC1 (k := 2) (by omega)
  have b3 := byteP hC1 (k := 3) (by omega)
  have hw := magic_ways (fun h2 => hm ((take4_iff h).2 h2))
  generalize l.getD 0 0 = v0 at *
  generalize l.getD 1 0 = v1 at *
  generalize l.getD 2 0 = v2 at *
  generalize l.getD 3 0 = v3 at *
  have h28 : (28 : Int) ≤ (l.length : Int) := by omega
  rw [Nat.add_zero] at b0
  clear hC hC1 hm h
  rcases hw with hw | ⟨rfl, hw⟩ | ⟨rfl, rfl, hw⟩ | ⟨rfl, rfl, rfl, hw⟩
  all_goals
    go_enter Tryd.func54, Tryd.ntmps54
    go_wp2_with fail
    exact bodyPost_ret (v := .tuple #[zeroH, .int .i64 6]) (by simp [results, Tryd.results54, go_sem, zeroH]) rfl ⟨rfl, (below_alloc (Below.refl _ _) _)⟩
set_option maxRecDepth 100000 in
set_option maxHeartbeats 2000000 in
theorem rdec_version (b o c : Nat) (l : List Int) (w : World) (hC : KB.C w (some ⟨b, o, none⟩) l.length l) (h : 28 ≤ l.length) (hm : l.take 4 = [75, 69, 69, 80]) (hv : l.getD 4 0 ≠ 1) :
    Calls Tryd.prog 54 #[.slice (some ⟨b, o, none⟩) l.length c] w fun e w' => e = .returned (.tuple #[zeroH, .int .i64 7]) ∧ Below w.heap.size w w' := by
  have hC1 := Kd.C_below hC (below_alloc (Below.refl _ _) zC)
  have b0 := byteP hC1 (k := 0) (by omega)
  have b1 := byteP hC1 (k := 1) (by omega)
  have b2 := byteP hC1 (k := 2) (by omega)
  have b3 := byteP hC1 (k := 3) (by omega)
  have b4 := byteP hC1 (k := 4) (by omega)
  obtain ⟨e0, e1, e2, e3⟩ := (take4_iff h).1 hm
  rw [e0] at b0
  rw [e1] at b1
  rw [e2] at b2
  rw [e3] at b3
  generalize l.getD 4 0 = v4 at *
  have h28 : (28 : Int) ≤ (l.length : Int) := by omega
  rw [Nat.add_zero] at b0
  clear hC hC1 hm h e0 e1 e2 e3
  go_enter Tryd.func54, Tryd.ntmps54
  go_wp2_with fail
  exact bodyPost_ret (v := .tuple #[zeroH, .int .i64 7]) (by simp [results, Tryd.results54, go_sem, zeroH]) rfl ⟨rfl, (below_alloc (Below.refl _ _) _)⟩

set_option maxRecDepth 100000 in
set_option maxHeartbeats 4000000 in
/-- Behind magic and version. -/
theorem rdec_rest (b o c : Nat) (l : List Int) (w : World) (hC : KB.C w (some ⟨b, o, none⟩) l.length l) (hc : l.length ≤ c) (hb : InB l) (h : 28 ≤ l.length) (hm : l.take 4 = [75, 69, 69, 80]) (hv : l.getD 4 0 = 1) :
    Calls Tryd.prog 54 #[.slice (some ⟨b, o, none⟩) l.length c] w fun e w' => e = .returned (.tuple #[decV l, .int .i64 (decE l)]) ∧ Below w.heap.size w w' := by
  have hC1 := Kd.C_below hC (below_alloc (Below.refl _ _) zC)
  have b0 := byteP hC1 (k := 0) (by omega)
  have b1 := byteP hC1 (k := 1) (by omega)
  have b2 := byteP hC1 (k := 2) (by omega)
  have b3 := byteP hC1 (k := 3) (by omega)
  have b4 := byteP hC1 (k := 4) (by omega)
  obtain ⟨e0, e1, e2, e3⟩ := (take4_iff h).1 hm
  rw [e0] at b0
  rw [e1] at b1
  rw [e2] at b2
  rw [e3] at b3
  rw [hv] at b4
  rw [Nat.add_zero] at b0
  have h28 : (28 : Int) ≤ (l.length : Int) := by omega
  have hsl1 := fun W => win_run b o l.length c 24 28 (by decide) (by omega) W
  obtain ⟨inf, i1, i2⟩ := infoI5
  have hsl2 : ∀ W : World, (Instr.slice 27 (.slice (some ⟨b, o, none⟩) l.length c) none (some (.int .i64 24)) none).run Tryd.prog W = .ok (.slice (some ⟨b, o, none⟩) 24 c) W := fun W => cut_to 27 5 .i64 Tryd.underlying27 i1 (some ⟨b, o, none⟩) l.length c 24 (by omega) (by omega) hc W
  have hbelow1 : Below w.heap.size w (w.alloc zC) := (below_alloc (Below.refl _ _) _)
  have HS := Lib.hid (fun (W : World) (hW : Below (w.alloc zC).heap.size (w.alloc zC) W) => num_n 4 (some ⟨b, o + 24, none⟩) (c - 24) (win l 24 28) W (win_len (by omega)) (win_C (Kd.C_below hC1 hW) (by decide) (by omega)) (win_in hb _ _) (by decide))
  have HT := Lib.hid (fun (W : World) (hW : Below (w.alloc zC).heap.size (w.alloc zC) W) => by
    have h24 : (l.take 24).length = 24 := by rw [List.length_take]; omega
    have hi24 : InB (l.take 24) := fun x hx => hb x (List.mem_of_mem_take hx)
    have := refSum_calls (some ⟨b, o, none⟩) c (l.take 24) W (show KB.C W _ (l.take 24).length (l.take 24) from Kd.C_take (Kd.C_below hC1 hW) (by omega)) hi24 (by rw [h24]; decide)
    rwa [h24, refSum_eq hi24] at this)
  have HDE : Hid (decE l = if sumF (l.take 24) ≠ valF (win l 24 28) then 8 else if hrightF (l.getD 5 0) (l.getD 6 0) (l.getD 7 0) (valF (win l 8 12)) = true then 0 else 9) := Lib.hid (by
    unfold decE; rw [if_neg (by omega), if_neg (by simpa using hm), if_neg (by simpa using hv)])
  have HDV : Hid (decV l = if decE l = 0 then headV l else zeroH) := Lib.hid rfl
  have hsu := sumF_bd (l.take 24)
  generalize sumF (l.take 24) = su at *
  have hvn : 0 ≤ valF (win l 24 28) ∧ valF (win l 24 28) < 4294967296 := by
    have := valF_bd (win_in hb 24 28)
    rw [win_len (by omega)] at this
    exact this
  generalize hvv : valF (win l 24 28) = vn at *
  have HVV := Lib.hid hvv
  have m1 : su % 18446744073709551616 = su := by omega
  have HC := Lib.hid hC
  have HIN := Lib.hid hb
  clear hC hC1 hm hv hb hvv e0 e1 e2 e3
  go_enter Tryd.func54, Tryd.ntmps54
  go_wp2_with fail
  have HBW := Lib.hid hbelow1
  have hz0 := heap_alloc_new w zC
  have HZ0 := Lib.hid hz0
  clear hbelow1 hz0 b0 b1 b2 b3 b4
  generalize w.alloc zC = wZ at *
  refine wp_region_below (by kernel_rfl) (by kernel_rfl) ?_
  repeat (go_big_quiet_step (first | (go_at_call 98; exact Calls.below_of (HS.out _ (CT.ok _))) | (go_at_call 55; exact Calls.below_of (HT.out _ (CT.ok _)))))
  refine wpQuiet_nil ?_
  intro W5 hW5
  obtain ⟨⟨w5, hb5⟩, rfl⟩ := hW5
  have HZ5 := Lib.hid ((hb5.block _ (blk_lt HZ0.out)).trans HZ0.out)
  have HB5 := Lib.hid (below_via HBW.out hb5)
  clear hb5
  by_cases hsum : su = vn
  · subst hsum
    go_wp2_with fail
    have h8 : Below W5.heap.size W5 (W5.alloc zC) := below_alloc (Below.refl _ _) _
    have HH := Lib.hid (heap_alloc_new W5 zC)
    have HZ6 := Lib.hid ((h8.block _ (blk_lt HZ5.out)).trans HZ5.out)
    have HB6 := Lib.hid (below_via HB5.out h8)
    have hC6 := Kd.C_below HC.out HB6.out
    have b5 := byteP hC6 (k := 5) (by omega)
    have b6 := byteP hC6 (k := 6) (by omega)
    have b7 := byteP hC6 (k := 7) (by omega)
    have g0 := (blk_cell HH.out 0).trans rfl
    have g1 := (blk_cell HH.out 1).trans rfl
    have g2 := (blk_cell HH.out 2).trans rfl
    have f0 := blk_frozen HH.out 0
    have f1 := blk_frozen HH.out 1
    have f2 := blk_frozen HH.out 2
    have hgl : w.heap.size ≤ W5.heap.size := HB5.out.size
    have hgz : w.heap.size < W5.heap.size := blk_lt HZ5.out
    have hx5 := byte_getD HIN.out 5
    have hx6 := byte_getD HIN.out 6
    have hx7 := byte_getD HIN.out 7
    generalize hq5 : l.getD 5 0 = x5 at *
    generalize hq6 : l.getD 6 0 = x6 at *
    generalize hq7 : l.getD 7 0 = x7 at *
    have v5 : wrap64 x5 = x5 := by unfold wrap64; omega
    have v6 : wrap64 x6 = x6 := by unfold wrap64; omega
    have v7 : wrap64 x7 = x7 := by unfold wrap64; omega
    have HQ : Hid (l.getD 5 0 = x5 ∧ l.getD 6 0 = x6 ∧ l.getD 7 0 = x7) := Lib.hid ⟨hq5, hq6, hq7⟩
    generalize w5z : W5.alloc zC = wH at *
    generalize W5.heap.size = gh at *
    clear h8 hC6 hx5 hx6 hx7 hq5 hq6 hq7 w5z
    have hp5 : (5 : Int) < (l.length : Int) := by omega
    have hp6 : (6 : Int) < (l.length : Int) := by omega
    have hp7 : (7 : Int) < (l.length : Int) := by omega
    go_still_tail 14, (by kernel_rfl)
    change wpList _ _ _ _ _ wH.drew
    have hn1 := fun W => win_run b o l.length c 8 12 (by decide) (by omega) W
    have hn2 := fun W => win_run b o l.length c 12 20 (by decide) (by omega) W
    have hn3 := fun W => win_run b o l.length c 20 24 (by decide) (by omega) W
    go_wp2_with fail
    have hH3 : ((((wH.setCell ⟨gh, 0, none⟩ (.int .i64 x5)).setCell ⟨gh, 1, none⟩ (.int .i64 x6)).setCell ⟨gh, 2, none⟩ (.int .i64 x7)).drew).heap[gh]? = some (.cells #[.int .i64 x5, .int .i64 x6, .int .i64 x7, .int .i64 0, .int .u64 0, .int .u32 0] 93) := blk_set (blk_set (blk_set HH.out 0 (.int .i64 x5)) 1 (.int .i64 x6)) 2 (.int .i64 x7)
    have hB3 : Below w.heap.size w ((((wH.setCell ⟨gh, 0, none⟩ (.int .i64 x5)).setCell ⟨gh, 1, none⟩ (.int .i64 x6)).setCell ⟨gh, 2, none⟩ (.int .i64 x7)).drew) := below_drew (((HB6.out.setCell (p := ⟨gh, 0, none⟩) hgl _).setCell (p := ⟨gh, 1, none⟩) hgl _).setCell (p := ⟨gh, 2, none⟩) hgl _)
    have hZ3 : ((((wH.setCell ⟨gh, 0, none⟩ (.int .i64 x5)).setCell ⟨gh, 1, none⟩ (.int .i64 x6)).setCell ⟨gh, 2, none⟩ (.int .i64 x7)).drew).heap[w.heap.size]? = some zC := blk_far (blk_far (blk_far HZ6.out (p := ⟨gh, 0, none⟩) (by simp; omega) _) (p := ⟨gh, 1, none⟩) (by simp; omega) _) (p := ⟨gh, 2, none⟩) (by simp; omega) _
    generalize (((wH.setCell ⟨gh, 0, none⟩ (.int .i64 x5)).setCell ⟨gh, 1, none⟩ (.int .i64 x6)).setCell ⟨gh, 2, none⟩ (.int .i64 x7)).drew = wA at *
    clear g0 g1 g2 f0 f1 f2 v5 v6 v7 b5 b6 b7
    refine (num_n 4 (some ⟨b, o + 8, none⟩) (c - 8) (win l 8 12) wA (win_len (by omega)) (win_C (Kd.C_below HC.out hB3) (by decide) (by omega)) (win_in HIN.out _ _) (by decide)).mono ?_
    rintro e wB ⟨rfl, hbB⟩
    have HB7 := Lib.hid (below_via hB3 hbB)
    have HH7 := Lib.hid ((hbB.block _ (blk_lt hH3)).trans hH3)
    have HZ7 := Lib.hid ((hbB.block _ (blk_lt hZ3)).trans hZ3)
    clear hB3 hH3 hZ3 hbB
    have hnn : 0 ≤ valF (win l 8 12) ∧ valF (win l 8 12) < 4294967296 := by
      have := valF_bd (win_in HIN.out 8 12)
      rw [win_len (by omega)] at this
      exact this
    have HNN : Hid (valF (win l 8 12) = valF ((l.take 12).drop 8)) := Lib.hid rfl
    generalize hnq : valF (win l 8 12) = n at *
    have v8 : wrap64 n = n := by unfold wrap64; omega
    have g3 := (blk_cell HH7.out 3).trans rfl
    have f3 := blk_frozen HH7.out 3
    have HNQ := Lib.hid hnq
    clear hnq
    go_wp2_with fail
    have hH4 : (wB.setCell ⟨gh, 3, none⟩ (.int .i64 n)).heap[gh]? = some (.cells #[.int .i64 x5, .int .i64 x6, .int .i64 x7, .int .i64 n, .int .u64 0, .int .u32 0] 93) := blk_set HH7.out 3 (.int .i64 n)
    have hB4 : Below w.heap.size w (wB.setCell ⟨gh, 3, none⟩ (.int .i64 n)) := HB7.out.setCell (p := ⟨gh, 3, none⟩) hgl _
    have hZ4 : (wB.setCell ⟨gh, 3, none⟩ (.int .i64 n)).heap[w.heap.size]? = some zC := blk_far HZ7.out (p := ⟨gh, 3, none⟩) (by simp; omega) _
    generalize wB.setCell ⟨gh, 3, none⟩ (.int .i64 n) = wC at *
    clear g3 f3 v8
    refine (num_n 8 (some ⟨b, o + 12, none⟩) (c - 12) (win l 12 20) wC (win_len (by omega)) (win_C (Kd.C_below HC.out hB4) (by decide) (by omega)) (win_in HIN.out _ _) (by decide)).mono ?_
    rintro e wD ⟨rfl, hbD⟩
    have HB8 := Lib.hid (below_via hB4 hbD)
    have HH8 := Lib.hid ((hbD.block _ (blk_lt hH4)).trans hH4)
    have HZ8 := Lib.hid ((hbD.block _ (blk_lt hZ4)).trans hZ4)
    clear hB4 hH4 hZ4 hbD
    generalize hqq : valF (win l 12 20) = q at *
    have g4 := (blk_cell HH8.out 4).trans rfl
    have f4 := blk_frozen HH8.out 4
    have HQQ := Lib.hid hqq
    clear hqq
    go_wp2_with fail
    have hH5 : (wD.setCell ⟨gh, 4, none⟩ (.int .u64 q)).heap[gh]? = some (.cells #[.int .i64 x5, .int .i64 x6, .int .i64 x7, .int .i64 n, .int .u64 q, .int .u32 0] 93) := blk_set HH8.out 4 (.int .u64 q)
    have hB5 : Below w.heap.size w (wD.setCell ⟨gh, 4, none⟩ (.int .u64 q)) := HB8.out.setCell (p := ⟨gh, 4, none⟩) hgl _
    have hZ5 : (wD.setCell ⟨gh, 4, none⟩ (.int .u64 q)).heap[w.heap.size]? = some zC := blk_far HZ8.out (p := ⟨gh, 4, none⟩) (by simp; omega) _
    generalize wD.setCell ⟨gh, 4, none⟩ (.int .u64 q) = wE at *
    clear g4 f4
    refine (num_n 4 (some ⟨b, o + 20, none⟩) (c - 20) (win l 20 24) wE (win_len (by omega)) (win_C (Kd.C_below HC.out hB5) (by decide) (by omega)) (win_in HIN.out _ _) (by decide)).mono ?_
    rintro e wF ⟨rfl, hbF⟩
    have HB9 := Lib.hid (below_via hB5 hbF)
    have HH9 := Lib.hid ((hbF.block _ (blk_lt hH5)).trans hH5)
    have HZ9 := Lib.hid ((hbF.block _ (blk_lt hZ5)).trans hZ5)
    clear hB5 hH5 hZ5 hbF
    have huu : 0 ≤ valF (win l 20 24) ∧ valF (win l 20 24) < 4294967296 := by
      have := valF_bd (win_in HIN.out 20 24)
      rw [win_len (by omega)] at this
      exact this
    generalize huq : valF (win l 20 24) = u at *
    have v9 : u % 4294967296 = u := by omega
    have g5 := (blk_cell HH9.out 5).trans rfl
    have f5 := blk_frozen HH9.out 5
    have HUQ := Lib.hid huq
    have y0 := (blk_cell HH9.out 0).trans rfl
    have y1 := (blk_cell HH9.out 1).trans rfl
    have y2 := (blk_cell HH9.out 2).trans rfl
    have y3 := (blk_cell HH9.out 3).trans rfl
    have y4 := (blk_cell HH9.out 4).trans rfl
    clear huq
    go_wp2_with fail
    have hH6 : (wF.setCell ⟨gh, 5, none⟩ (.int .u32 u)).heap[gh]? = some (.cells #[.int .i64 x5, .int .i64 x6, .int .i64 x7, .int .i64 n, .int .u64 q, .int .u32 u] 93) := blk_set HH9.out 5 (.int .u32 u)
    have hB6 : Below w.heap.size w (wF.setCell ⟨gh, 5, none⟩ (.int .u32 u)) := HB9.out.setCell (p := ⟨gh, 5, none⟩) hgl _
    have hZ6 : (wF.setCell ⟨gh, 5, none⟩ (.int .u32 u)).heap[w.heap.size]? = some zC := blk_far HZ9.out (p := ⟨gh, 5, none⟩) (by simp; omega) _
    generalize wF.setCell ⟨gh, 5, none⟩ (.int .u32 u) = wG at *
    clear g5 f5 v9 y0 y1 y2 y3 y4
    refine (refCan_calls x5 x6 x7 n q u wG).mono ?_
    rintro e wI ⟨rfl, hbI⟩
    have HBI := Lib.hid (below_via hB6 hbI)
    have HHI := Lib.hid ((hbI.block _ (blk_lt hH6)).trans hH6)
    have HZI := Lib.hid ((hbI.block _ (blk_lt hZ6)).trans hZ6)
    clear hB6 hH6 hZ6 hbI
    have k0 := (blk_cell HZI.out 0).trans rfl
    have k1 := (blk_cell HZI.out 1).trans rfl
    have k2 := (blk_cell HZI.out 2).trans rfl
    have k3 := (blk_cell HZI.out 3).trans rfl
    have k4 := (blk_cell HZI.out 4).trans rfl
    have k5 := (blk_cell HZI.out 5).trans rfl
    have f0 := blk_frozen HZI.out 0
    have f1 := blk_frozen HZI.out 1
    have f2 := blk_frozen HZI.out 2
    have f3 := blk_frozen HZI.out 3
    have f4 := blk_frozen HZI.out 4
    have f5 := blk_frozen HZI.out 5
    have y0 := (blk_cell HHI.out 0).trans rfl
    have y1 := (blk_cell HHI.out 1).trans rfl
    have y2 := (blk_cell HHI.out 2).trans rfl
    have y3 := (blk_cell HHI.out 3).trans rfl
    have y4 := (blk_cell HHI.out 4).trans rfl
    have y5 := (blk_cell HHI.out 5).trans rfl
    have hE : decE l = if hrightF x5 x6 x7 n = true then 0 else 9 := by
      rw [HDE.out, if_neg (by simp)]
    have hV : headV l = .agg #[.int .i64 x5, .int .i64 x6, .int .i64 x7, .int .i64 n, .int .u64 q, .int .u32 u] := by
      have a1 : valF ((l.take 12).drop 8) = n := HNQ.out
      have a2 : valF ((l.take 20).drop 12) = q := HQQ.out
      have a3 : valF ((l.take 24).drop 20) = u := HUQ.out
      unfold headV
      rw [HQ.out.1, HQ.out.2.1, HQ.out.2.2, a1, a2, a3]
    have HE := Lib.hid hE
    have HV := Lib.hid hV
    clear hE hV
    rcases hcan : hrightF x5 x6 x7 n with _ | _
    · have e1 : decE l = 9 := by rw [HE.out, hcan]; rfl
      have e2 : decV l = zeroH := by rw [HDV.out, e1]; rfl
      have HE1 := Lib.hid e1
      have HE2 := Lib.hid e2
      clear e1 e2 hcan
      go_wp2_with fail
      rw [HE1.out, HE2.out]
      obtain ⟨W9, hW9, l0, l1, l2, l3, l4, l5, hbel⟩ := set6 (.int .i64 0) (.int .i64 0) (.int .i64 0) (.int .i64 0) (.int .u64 0) (.int .u32 0) ⟨k0, k1, k2, k3, k4, k5⟩
      rw [← hW9]
      have hb9 := hbel _ _ HBI.out (Nat.le_refl _)
      clear hW9 hbel k0 k1 k2 k3 k4 k5 f0 f1 f2 f3 f4 f5 y0 y1 y2 y3 y4 y5
      exact bodyPost_ret (v := .tuple #[zeroH, .int .i64 9]) (by simp [results, Tryd.results54, go_sem, zeroH, l0, l1, l2, l3, l4, l5]) rfl ⟨rfl, hb9⟩
    · have e1 : decE l = 0 := by rw [HE.out, hcan]; rfl
      have e2 : decV l = headV l := by rw [HDV.out, e1]; rfl
      have HE1 := Lib.hid e1
      have HE2 := Lib.hid e2
      clear e1 e2 hcan
      go_wp2_with fail
      rw [HE1.out, HE2.out, HV.out]
      obtain ⟨W9, hW9, l0, l1, l2, l3, l4, l5, hbel⟩ := set6 (.int .i64 x5) (.int .i64 x6) (.int .i64 x7) (.int .i64 n) (.int .u64 q) (.int .u32 u) ⟨k0, k1, k2, k3, k4, k5⟩
      rw [← hW9]
      have hb9 := hbel _ _ HBI.out (Nat.le_refl _)
      clear hW9 hbel k0 k1 k2 k3 k4 k5 f0 f1 f2 f3 f4 f5 y0 y1 y2 y3 y4 y5
      exact bodyPost_ret (v := .tuple #[.agg #[.int .i64 x5, .int .i64 x6, .int .i64 x7, .int .i64 n, .int .u64 q, .int .u32 u], .int .i64 0]) (by simp [results, Tryd.results54, go_sem, l0, l1, l2, l3, l4, l5]) rfl ⟨rfl, hb9⟩
  · have hne : ((vn : Int) == su) = false := by rw [beq_eq_false_iff_ne]; omega
    have k0 := (blk_cell HZ5.out 0).trans rfl
    have k1 := (blk_cell HZ5.out 1).trans rfl
    have k2 := (blk_cell HZ5.out 2).trans rfl
    have k3 := (blk_cell HZ5.out 3).trans rfl
    have k4 := (blk_cell HZ5.out 4).trans rfl
    have k5 := (blk_cell HZ5.out 5).trans rfl
    have f0 := blk_frozen HZ5.out 0
    have f1 := blk_frozen HZ5.out 1
    have f2 := blk_frozen HZ5.out 2
    have f3 := blk_frozen HZ5.out 3
    have f4 := blk_frozen HZ5.out 4
    have f5 := blk_frozen HZ5.out 5
    go_wp2_with fail
    obtain ⟨W9, hW9, l0, l1, l2, l3, l4, l5, hbel⟩ := set6 (.int .i64 0) (.int .i64 0) (.int .i64 0) (.int .i64 0) (.int .u64 0) (.int .u32 0) ⟨k0, k1, k2, k3, k4, k5⟩
    rw [← hW9]
    have hb9 := hbel _ _ HB5.out (Nat.le_refl _)
    clear hW9 hbel k0 k1 k2 k3 k4 k5 f0 f1 f2 f3 f4 f5
    have e1 : decE l = 8 := by rw [HDE.out, if_pos hsum]
    have e2 : decV l = zeroH := by rw [HDV.out, e1]; rfl
    rw [e1, e2]
    exact bodyPost_ret (v := .tuple #[zeroH, .int .i64 8]) (by simp [results, Tryd.results54, go_sem, zeroH, l0, l1, l2, l3, l4, l5]) rfl ⟨rfl, hb9⟩

theorem rdec_calls (b o c : Nat) (l : List Int) (w : World) (hC : KB.C w (some ⟨b, o, none⟩) l.length l) (hc : l.length ≤ c) (hb : InB l) (h : 28 ≤ l.length) :
    Calls Tryd.prog 54 #[.slice (some ⟨b, o, none⟩) l.length c] w fun e w' => e = .returned (.tuple #[decV l, .int .i64 (decE l)]) ∧ Below w.heap.size w w' := by
  by_cases h2 : l.take 4 = [75, 69, 69, 80]
  · by_cases h3 : l.getD 4 0 = 1
    · exact rdec_rest b o c l w hC hc hb h h2 h3
    · have e1 : decE l = 7 := by unfold decE; rw [if_neg (by omega), if_neg (fun e => e h2), if_pos h3]
      have e2 : decV l = zeroH := by unfold decV; rw [e1]; rfl
      rw [e1, e2]; exact rdec_version b o c l w hC h h2 h3
  · have e1 : decE l = 6 := by unfold decE; rw [if_neg (by omega), if_pos h2]
    have e2 : decV l = zeroH := by unfold decV; rw [e1]; rfl
    rw [e1, e2]; exact rdec_magic b o c l w hC h h2
end Go.Proofs.YtcemageindmbkaaDoor
/- The reference's disk (keepsakeref02): Open. -/
namespace Go.Proofs.YtcemageindmbkaaDoor
open Go.RowKit Go.Proofs.YtcemageindmbkaaDoorW.PrintWords
open PSlotBytes

/-- A place without bytes. -/
abbrev NL : Kd Unit := Kd.scalar (fun _ => .slice none 0 0) (fun _ => rfl)
abbrev refCells (s : Int) (vL vC : Value) (ops : Int) : Array Value := #[.int .i64 s, vL, vC, .slice none 0 0, .int .i64 ops, .int .i64 0]
/-- While it is opened: the struct at g, the rows of lasting bytes, and of none cached, apart from each other. -/
structure RefU (W : World) (B g : Nat) (s : Int) (L : List (List Int)) (vL vC : Value) : Prop where
  str : W.heap[g]? = some (.cells (refCells s vL vC 0) 83 (0, 0))
  last : KBs.R 27 W B (fun k => B ≤ k ∧ some k ≠ vC.ownBlock) vL L
  cach : NL.R 27 W B (fun k => B ≤ k ∧ some k ≠ vL.ownBlock) vC (List.replicate L.length ())
  gb : B ≤ g
theorem RefU.neL {W : World} {B g : Nat} {s : Int} {L : List (List Int)} {vL vC : Value} (h : RefU W B g s L vL vC) : vL.ownBlock ≠ some g := fun e => by
  obtain ⟨inner, ho⟩ := Kd.R_own h.last
  obtain ⟨cells, hc⟩ := own_typed ho g e
  rw [h.str] at hc
  cases hc
theorem RefU.neC {W : World} {B g : Nat} {s : Int} {L : List (List Int)} {vL vC : Value} (h : RefU W B g s L vL vC) : vC.ownBlock ≠ some g := fun e => by
  obtain ⟨inner, ho⟩ := Kd.R_own h.cach
  obtain ⟨cells, hc⟩ := own_typed ho g e
  rw [h.str] at hc
  cases hc

/-- Between both appends. -/
structure RefM (W : World) (B g : Nat) (s : Int) (L : List (List Int)) (n : Nat) (vL vC : Value) : Prop where
  str : W.heap[g]? = some (.cells (refCells s vL vC 0) 83 (0, 0))
  last : KBs.R 27 W B (fun k => B ≤ k ∧ some k ≠ vC.ownBlock) vL L
  cach : NL.R 27 W B (fun k => B ≤ k ∧ some k ≠ vL.ownBlock) vC (List.replicate n ())
  gb : B ≤ g
theorem ne_own {w : World} {B g e : Nat} {ok : Nat → Prop} {α : Type} {d : Kd α} {xs : List α} {v : Value} {cs : Array Value} {t : Nat} (hR : d.R e w B ok v xs) (hs : w.heap[g]? = some (.cells cs t (0, 0))) (ht : e ≠ t) : v.ownBlock ≠ some g := fun he => by
  obtain ⟨inner, ho⟩ := Kd.R_own hR
  obtain ⟨cells, hc⟩ := own_typed ho g he
  rw [hs] at hc
  injection hc with hc
  injection hc with _ hc
  exact ht hc.symm
theorem RefU.midL {wr w1 w2 : World} {B g : Nat} {s : Int} {L : List (List Int)} {pc : List Int} {vL vC v2 : Value} (h : RefU wr B g s L vL vC) (HB1 : Below wr.heap.size wr w1) (HO2 : KBs.R 27 w2 B (fun q => B ≤ q ∧ some q ≠ vC.ownBlock) v2 (L ++ [pc])) (HG2 : w1.grownBy w2 vL.ownBlock)
    (hat2 : v2.ownBlock = vL.ownBlock ∨ ∃ b, v2.ownBlock = some b ∧ w1.heap.size ≤ b) : RefM (w2.setCell ⟨g, 1, none⟩ v2) B g s (L ++ [pc]) L.length v2 vC := by
  have hg : g < w1.heap.size := Nat.lt_of_lt_of_le (blk_lt h.str) HB1.size
  have hs2 : w2.heap[g]? = some (.cells (refCells s vL vC 0) 83 (0, 0)) := (HG2.block g hg (Ne.symm h.neL)).trans ((HB1.block g (blk_lt h.str)).trans h.str)
  have hne : ∀ k, k ≠ g → (w2.setCell ⟨g, 1, none⟩ v2).heap[k]? = w2.heap[k]? := fun k hk => Below.heap_setCell w2 _ _ k hk
  refine ⟨blk_set hs2 1 v2, ?_, ?_, h.gb⟩
  · exact Kd.R_mono (Kd.R_step (Kd.R_types HO2 hs2 (by decide)) (fun k hk _ => hne k hk.2)) (fun k hk => hk.1)
  · have hc1 := Kd.R_bound (Kd.R_below h.cach HB1)
    have hc0 := Kd.R_bound h.cach
    have hlow : NL.R 27 w2 B (fun k => (B ≤ k ∧ some k ≠ vL.ownBlock) ∧ k < wr.heap.size) vC (List.replicate L.length ()) :=
      Kd.R_step (w := wr) (Kd.R_mono hc0 (fun k hk => ⟨hk.1, hk.2.2.1⟩)) (fun k hk hlt => (HG2.block k (Nat.lt_of_lt_of_le hlt HB1.size) hk.1.2).trans (HB1.block k hlt))
    have hlow2 : NL.R 27 w2 B (fun k => (B ≤ k ∧ some k ≠ v2.ownBlock)) vC (List.replicate L.length ()) := Kd.R_mono hlow (fun k hk => ⟨hk.1.1, fun e => by
      rcases hat2 with hat | ⟨b, hb, hb2⟩
      · exact hk.1.2 (by rw [← hat]; exact e)
      · rw [hb] at e
        have : k = b := by injection e
        have := hk.2
        have := HB1.size
        omega⟩)
    exact Kd.R_mono (Kd.R_step (Kd.R_types hlow2 hs2 (by decide)) (fun k hk _ => hne k hk.2)) (fun k hk => hk.1)
theorem RefM.midC {W w1 w2 : World} {B g n : Nat} {s : Int} {L : List (List Int)} {vL vC v2 : Value} (h : RefM W B g s L n vL vC) (HB1 : Below W.heap.size W w1) (HO2 : NL.R 27 w2 B (fun q => B ≤ q ∧ some q ≠ vL.ownBlock) v2 (List.replicate n () ++ [()])) (HG2 : w1.grownBy w2 vC.ownBlock)
    (hat2 : v2.ownBlock = vC.ownBlock ∨ ∃ b, v2.ownBlock = some b ∧ w1.heap.size ≤ b) (hL : L.length = n + 1) : RefU (w2.setCell ⟨g, 2, none⟩ v2) B g s L vL v2 := by
  have hg : g < w1.heap.size := Nat.lt_of_lt_of_le (blk_lt h.str) HB1.size
  have hs2 : w2.heap[g]? = some (.cells (refCells s vL vC 0) 83 (0, 0)) := (HG2.block g hg (Ne.symm (ne_own h.cach h.str (by decide)))).trans ((HB1.block g (blk_lt h.str)).trans h.str)
  have hne : ∀ k, k ≠ g → (w2.setCell ⟨g, 2, none⟩ v2).heap[k]? = w2.heap[k]? := fun k hk => Below.heap_setCell w2 _ _ k hk
  refine ⟨blk_set hs2 2 v2, ?_, ?_, h.gb⟩
  · have hc0 := Kd.R_bound h.last
    have hlow : KBs.R 27 w2 B (fun k => (B ≤ k ∧ some k ≠ vC.ownBlock) ∧ k < W.heap.size) vL L :=
      Kd.R_step (w := W) (Kd.R_mono hc0 (fun k hk => ⟨hk.1, hk.2.2.1⟩)) (fun k hk hlt => (HG2.block k (Nat.lt_of_lt_of_le hlt HB1.size) hk.1.2).trans (HB1.block k hlt))
    have hlow2 : KBs.R 27 w2 B (fun k => (B ≤ k ∧ some k ≠ v2.ownBlock)) vL L := Kd.R_mono hlow (fun k hk => ⟨hk.1.1, fun e => by
      rcases hat2 with hat | ⟨b, hb, hb2⟩
      · exact hk.1.2 (by rw [← hat]; exact e)
      · rw [hb] at e
        have : k = b := by injection e
        have := hk.2
        have := HB1.size
        omega⟩)
    exact Kd.R_mono (Kd.R_step (Kd.R_types hlow2 hs2 (by decide)) (fun k hk _ => hne k hk.2)) (fun k hk => hk.1)
  · rw [hL, List.replicate_succ']
    exact Kd.R_mono (Kd.R_step (Kd.R_types HO2 hs2 (by decide)) (fun k hk _ => hne k hk.2)) (fun k hk => hk.1)

/-- A piece of bytes. -/
theorem piece_at {w : World} {A : Option Addr} {c lo s : Nat} {l : List Int} (hC : KB.C w A l.length l) (hle : l.length ≤ c) (hlo : lo + s ≤ l.length) (hs : 1 ≤ s) :
    ∃ ad, A = some ad ∧ KB.C w (some (ad.add lo)) ((l.take (lo + s)).drop lo).length ((l.take (lo + s)).drop lo) ∧ ((l.take (lo + s)).drop lo).length = s ∧
      ∀ W, (Instr.slice 27 (.slice A l.length c) (some (.int .i64 (lo : Int))) (some (.int .i64 ((lo : Int) + (s : Int)))) none).run Tryd.prog W = .ok (.slice (some (ad.add lo)) s (c - lo)) W := by
  have hl63 : l.length ≤ 9223372036854775807 := hC.2.1
  obtain ⟨inf, i1, i2⟩ := infoI5
  have hcut := cut_mid (P := Tryd.prog) 27 5 .i64 .i64 Tryd.underlying27 i1 1 i2 A l.length c (lo : Int) ((lo : Int) + (s : Int)) (by omega) (by omega) (by omega) hle
  have hmid := Kd.C_mid (lo := lo) (hi := lo + s) hC (by omega) (by omega) hle
  rw [if_neg (by omega)] at hmid
  obtain ⟨ad, rfl, -⟩ := hC.2.2 (by omega)
  refine ⟨ad, rfl, by simpa only [Option.map_some, KB, Kd.int, Kd.scalar, Nat.mul_one] using hmid, by simp; omega, fun W => ?_⟩
  rw [hcut W, if_neg (by omega)]
  have q1 : ((lo : Int) + (s : Int)).toNat - (lo : Int).toNat = s := by omega
  have q2 : (lo : Int).toNat = lo := by omega
  rw [q1, q2]; simp
set_option maxRecDepth 100000 in
set_option maxHeartbeats 4000000 in
theorem ropen_calls (w : World) (s n : Nat) (A : Option Addr) (c : Nat) (l : List Int) (hC : KB.C w A l.length l) (hle : l.length ≤ c) (hs1 : 1 ≤ s) (hs2 : s ≤ 4096) (hm : l.length = n * s) (hn : n ≤ 4096) :
    Calls Tryd.prog 14 #[.int .i64 (s : Int), .slice A l.length c] w fun e w' => ∃ vL vC, e = .returned (.pointer (some ⟨w.heap.size, 0, none⟩)) ∧ RefU w' w.heap.size w.heap.size s (pieces l s n) vL vC ∧ Below w.heap.size w w' := by
  have HC := Lib.hid hC
  have HM := Lib.hid hm
  have hl : l.length ≤ 16777216 := by rw [hm]; have := Nat.mul_le_mul hn hs2; omega
  have hr : Int.tmod (l.length : Int) (s : Int) = 0 := by rw [Int.tmod_eq_emod_of_nonneg (by omega), hm, Int.natCast_mul]; exact Int.mul_emod_left _ _
  have hd : Int.tdiv (l.length : Int) (s : Int) = (n : Int) := by rw [Int.tdiv_eq_ediv_of_nonneg (by omega), hm, Int.natCast_mul]; exact Int.mul_ediv_cancel _ (by omega)
  have hwq : wrap64 (n : Int) = (n : Int) := by unfold wrap64; omega
  clear hC hm
  go_enter Tryd.func14, Tryd.ntmps14
  go_wp2_with fail
  have hstr := heap_alloc_new w (.cells (refCells (s : Int) (.slice none 0 0) (.slice none 0 0) 0) 83)
  go_loopw [6] (fun i wr => ∃ k : Nat, k ≤ n ∧ i = .int .i64 ((k * s : Nat) : Int) ∧ (∃ vL vC, Hid (RefU wr w.heap.size w.heap.size s (pieces l s k) vL vC)) ∧ Hid (Below w.heap.size w wr)) (fun i _ => l.length + 1 - (intOf i).toNat)
  case atStart => exact ⟨0, by omega, by simp, ⟨.slice none 0 0, .slice none 0 0, Lib.hid ⟨hstr, by simpa [pieces] using Kd.R_nil _ _ _ _ _, by simpa [pieces] using Kd.R_nil _ _ _ _ _, Nat.le_refl _⟩⟩, Lib.hid (below_alloc (Below.refl _ _) _)⟩
  case round =>
    obtain ⟨k, hk, rfl, ⟨vL, vC, HU⟩, HB⟩ := hrel
    clear hstr hr hd hwq
    have hw : w.heap.size < wr.heap.size := blk_lt HU.out.str
    by_cases hlt : k < n
    · have hks : k * s + s ≤ n * s := by have := Nat.mul_le_mul_right s (show k + 1 ≤ n by omega); rw [Nat.add_mul] at this; omega
      have hlo : k * s + s ≤ l.length := by rw [HM.out]; exact hks
      clear hks
      have HLO : Hid (pieces l s (k + 1) = pieces l s k ++ [(l.take (k * s + s)).drop (k * s)]) := Lib.hid (by
        unfold pieces; rw [List.range_succ, List.map_append]; simp [Nat.add_mul])
      have HPL : Hid ((pieces l s k).length = k) := Lib.hid (by simp [pieces])
      have hvl := fun b (e : vL.ownBlock = some b) => Kd.R_lt HU.out.last b e
      have hvc := fun b (e : vC.ownBlock = some b) => Kd.R_lt HU.out.cach b e
      have HVL := Lib.hid hvl
      have HVC := Lib.hid hvc
      have HNL := Lib.hid HU.out.neL
      clear hvl hvc
      have HKS : Hid (k * s + s = (k + 1) * s) := Lib.hid (by rw [Nat.add_mul]; omega)
      generalize k * s = lo at *
      obtain ⟨ad, rfl, hmid, hpce, hcut2⟩ := piece_at HC.out hle hlo hs1
      rw [hpce] at hmid
      have HMID := Lib.hid hmid
      have HPCE := Lib.hid hpce
      generalize (l.take (lo + s)).drop lo = pc at *
      have hadd : wrap64 ((lo : Int) + (s : Int)) = (lo : Int) + (s : Int) := by unfold wrap64; omega
      have hadd2 : IntKind.i64.wrap ((lo : Int) + (s : Int)) = (lo : Int) + (s : Int) := IntWalk.i64_in _ (by omega)
      have hltI : (lo : Int) < (l.length : Int) := by omega
      have c1 := (blk_cell HU.out.str 1).trans rfl
      have f1 := blk_frozen HU.out.str 1
      clear hmid hpce
      go_wp2_with fail
      go_region_law
        (first | (refine Kd.R_append_rows_step KB (Rr := fun x cs => cs = [Value.int .u8 x]) (w0 := wr) wr.heap.size rfl _ _ 27 5 (.int .u8 0) 1 rfl Tryd.underlying27 infoB rfl (by decide) (by decide) _ [] pc (some (ad.add lo)) s (c - lo) (fun k => wr.heap.size ≤ k) (fun _ => False) rfl rfl (Kd.R_drew (own_empty wr)) (Kd.C_drew (Kd.C_below HMID.out (below_via HB.out (below_alloc (Below.refl _ _) _)))) (fun _ _ h => h) (fun _ h => h.elim) (fun k hk => by simp at hk; omega) (below_drew (below_alloc (Below.refl _ _) _)) (by simp) (by simp; omega) ?_; intro v1 w1 HO1 HB1 HG1 hat1; replace HO1 : RB w1 wr.heap.size (fun k => wr.heap.size ≤ k) v1 pc := HO1; obtain ⟨A1, cc1, rfl, -, -⟩ := Kd.R_reads HO1; have cz1 := pw_cell_below HB1 c1; have cy1 : ∀ o, (w1.alloc o).cell? ⟨w.heap.size, 1, none⟩ = some vL := fun o => pw_cell_below (below_alloc (Below.refl _ _) o) cz1) | (refine Kd.R_append_step KBs (w0 := w) w.heap.size rfl _ _ 81 27 (.slice none 0 0) 24 rfl Tryd.underlying81 infoS rfl (by decide) (by decide) vL (pieces l s k) pc [.slice A1 pc.length cc1] (fun q => w.heap.size ≤ q ∧ some q ≠ vC.ownBlock) (fun q => wr.heap.size ≤ q) rfl rfl ⟨_, rfl, Kd.R_lower HO1 (Nat.le_of_lt hw)⟩ (fun q hq => ⟨⟨Nat.le_trans (Nat.le_of_lt hw) hq, fun e => absurd (HVC.out q e.symm) (Nat.not_lt.2 hq)⟩, fun e => absurd (HVL.out q e.symm) (Nat.not_lt.2 hq)⟩) (fun q hq => ⟨Nat.le_trans (Nat.le_of_lt hw) (Nat.le_trans HB1.size hq), fun e => absurd (HVC.out q e.symm) (Nat.not_lt.2 (Nat.le_trans HB1.size hq))⟩) (Kd.R_below HU.out.last HB1) (below_via HB.out HB1) (Nat.le_trans (Nat.le_of_lt hw) HB1.size) (by rw [HPL.out]; omega) ?_; intro v2 w2 HO2 HB2 HG2 hat2; obtain ⟨A2, cc2, rfl, -, -⟩ := Kd.R_reads HO2; have cz2 := (HG2.cell_far ⟨w.heap.size, 1, none⟩ (Nat.lt_of_lt_of_le hw HB1.size) (Ne.symm HNL.out)).trans (pw_cell_below HB1 c1); have fz2 := ((HG2.frozen_far ⟨w.heap.size, 1, none⟩ (Nat.lt_of_lt_of_le hw HB1.size) (Ne.symm HNL.out)).trans ((bcell HB1).2 _ 1 hw)).trans f1))
      all_goals
        have HM0 := HU.out.midL HB1 HO2 HG2 hat2
        have HBM := Lib.hid (HB2.setCell (p := ⟨w.heap.size, 1, none⟩) (Nat.le_refl _) (.slice A2 ((pieces l s k).length + 1) cc2))
        simp only [List.length_append, List.length_cons, List.length_nil, Nat.zero_add] at HM0
        generalize w2.setCell ⟨w.heap.size, 1, none⟩ (.slice A2 ((pieces l s k).length + 1) cc2) = WM at *
        generalize Value.slice A2 ((pieces l s k).length + 1) cc2 = vM at *
        have HM1 := Lib.hid HM0
        have c2 := (blk_cell HM1.out.str 2).trans rfl
        have f2 := blk_frozen HM1.out.str 2
        have hwM : w.heap.size < WM.heap.size := blk_lt HM1.out.str
        have cy2 : ∀ o, (WM.alloc o).cell? ⟨w.heap.size, 2, none⟩ = some vC := fun o => pw_cell_below (below_alloc (Below.refl _ _) o) c2
        have HNC := Lib.hid (ne_own HM1.out.cach HM1.out.str (by decide))
        have HVM := Lib.hid (fun b (e : vM.ownBlock = some b) => Kd.R_lt HM1.out.last b e)
        clear HM0 HO1 HB1 HG1 hat1 HO2 HB2 HG2 hat2 cz1 cy1 cz2 fz2 c1 f1
        go_wp2_with ((with_reducible refine gate_dst (N := 58) rfl ?_); refine Kd.R_append NL (w0 := w) w.heap.size rfl _ _ 81 27 (.slice none 0 0) 24 rfl Tryd.underlying81 infoS rfl (by decide) (by decide) vC (List.replicate (pieces l s k).length ()) () [.slice none 0 0] (fun q => w.heap.size ≤ q ∧ some q ≠ vM.ownBlock) (fun _ => False) rfl rfl rfl (fun q hq => hq.elim) (fun q hq => ⟨Nat.le_trans (Nat.le_of_lt hwM) hq, fun e => absurd (HVM.out q e.symm) (Nat.not_lt.2 hq)⟩) HM1.out.cach HBM.out (Nat.le_of_lt hwM) (by rw [List.length_replicate, HPL.out]; omega) ?_; intro v3 w3 HO3 HB3 HG3 hat3; have cz3 := (HG3.cell_far ⟨w.heap.size, 2, none⟩ hwM (Ne.symm HNC.out)).trans c2; have fz3 := (HG3.frozen_far ⟨w.heap.size, 2, none⟩ hwM (Ne.symm HNC.out)).trans f2; have HU3 := Lib.hid (HM1.out.midC (Below.refl _ _) HO3 HG3 hat3 (by simp)); have HB3' := Lib.hid (HB3.setCell (p := ⟨w.heap.size, 2, none⟩) (Nat.le_refl _) v3); obtain ⟨A3, cc3, rfl, -, -⟩ := Kd.R_reads HO3; clear HO3 HB3 HG3 hat3)
        simp only [List.length_append, List.length_replicate, List.length_cons, List.length_nil, Nat.zero_add] at HU3 HB3'
        go_roundw
        case rel => exact ⟨k + 1, hlt, by rw [← HKS.out]; simp, ⟨_, _, by rw [HLO.out]; exact HU3⟩, HB3'⟩
        case measure => simp [intOf]; omega
    · have hkn : k = n := by omega
      subst hkn
      have hge : ¬ ((k * s : Nat) : Int) < (l.length : Int) := by rw [HM.out]; omega
      go_wp2_with fail
      go_ret
      exact ⟨rfl, ⟨vL, vC, HU.out⟩, HB.out⟩
end Go.Proofs.YtcemageindmbkaaDoor
/- The reference's disk (keepsakeref02) that was opened and is read: fails, Read; and what a slot can (keepsakeref06.can). -/
namespace Go.Proofs.YtcemageindmbkaaDoor
open Go.RowKit Go.Proofs.YtcemageindmbkaaDoorW.PrintWords
open PSlotBytes

/-- A reference's disk at g, with nothing cached, and nothing planned; it lies in the blocks from B to N. -/
def RefR (W : World) (B N g : Nat) (s : Int) (L : List (List Int)) (ops : Int) : Prop :=
  ∃ vL vC, W.heap[g]? = some (.cells (refCells s vL vC ops) 83 (0, 0)) ∧ KBs.R 27 W B (fun k => B ≤ k ∧ k < N ∧ k ≠ g) vL L ∧ NL.R 27 W B (fun k => B ≤ k ∧ k < N ∧ k ≠ g) vC (List.replicate L.length ()) ∧ B ≤ g ∧ g < N ∧ N ≤ W.heap.size
section
variable {W W' : World} {B N g : Nat} {s : Int} {L : List (List Int)} {ops : Int}
theorem RefR.of_open {vL vC : Value} (h : RefU W B g s L vL vC) : RefR W B W.heap.size g s L 0 := by
  refine ⟨vL, vC, h.str, Kd.R_mono (Kd.R_bound (Kd.R_types h.last h.str (by decide))) (fun k hk => ⟨hk.1.1.1, hk.2.2.1, hk.1.2⟩), Kd.R_mono (Kd.R_bound (Kd.R_types h.cach h.str (by decide))) (fun k hk => ⟨hk.1.1.1, hk.2.2.1, hk.1.2⟩), h.gb, blk_lt h.str, Nat.le_refl _⟩
theorem RefR.step (h : RefR W B N g s L ops) (hs : W.heap.size ≤ W'.heap.size) (hm : ∀ k, B ≤ k → k < N → W'.heap[k]? = W.heap[k]?) : RefR W' B N g s L ops := by
  obtain ⟨vL, vC, h1, h2, h3, h4, h5, h6⟩ := h
  exact ⟨vL, vC, (hm g h4 h5).trans h1, Kd.R_step h2 (fun k hk _ => hm k hk.1 hk.2.1), Kd.R_step h3 (fun k hk _ => hm k hk.1 hk.2.1), h4, h5, Nat.le_trans h6 hs⟩
theorem RefR.below (h : RefR W B N g s L ops) (hb : Below W.heap.size W W') : RefR W' B N g s L ops := by
  obtain ⟨vL, vC, h1, h2, h3, h4, h5, h6⟩ := id h
  exact h.step hb.size (fun k _ hk => hb.block k (Nat.lt_of_lt_of_le hk h6))
theorem RefR.bd (h : RefR W B N g s L ops) : g < N ∧ N ≤ W.heap.size ∧ B ≤ g := by obtain ⟨vL, vC, h1, h2, h3, h4, h5, h6⟩ := h; exact ⟨h5, h6, h4⟩
theorem RefR.setOps (h : RefR W B N g s L ops) (n : Int) : RefR (W.setCell ⟨g, 4, none⟩ (.int .i64 n)) B N g s L n := by
  obtain ⟨vL, vC, h1, h2, h3, h4, h5, h6⟩ := h
  have hne : ∀ k, k ≠ g → (W.setCell ⟨g, 4, none⟩ (.int .i64 n)).heap[k]? = W.heap[k]? := fun k hk => Below.heap_setCell W _ _ k hk
  exact ⟨vL, vC, blk_set h1 4 _, Kd.R_step h2 (fun k hk _ => hne k hk.2.2), Kd.R_step h3 (fun k hk _ => hne k hk.2.2), h4, h5, by simpa using h6⟩
theorem RefR.cells (h : RefR W B N g s L ops) : ∃ A c A2 c2, W.cell? ⟨g, 0, none⟩ = some (.int .i64 s) ∧ W.cell? ⟨g, 1, none⟩ = some (.slice A L.length c) ∧ W.cell? ⟨g, 2, none⟩ = some (.slice A2 L.length c2) ∧ W.cell? ⟨g, 3, none⟩ = some (.slice none 0 0) ∧ W.cell? ⟨g, 4, none⟩ = some (.int .i64 ops) ∧
    W.frozen? ⟨g, 4, none⟩ = false ∧ g < W.heap.size ∧ KBs.C W A L.length L ∧ NL.C W A2 L.length (List.replicate L.length ()) := by
  obtain ⟨vL, vC, h1, h2, h3, h4, -, -⟩ := h
  obtain ⟨A, c, rfl, -, hC⟩ := Kd.R_reads h2
  obtain ⟨A2, c2, rfl, -, hC2⟩ := Kd.R_reads h3
  rw [List.length_replicate] at hC2
  refine ⟨A, c, A2, c2, (blk_cell h1 0).trans rfl, (blk_cell h1 1).trans rfl, (blk_cell h1 2).trans (by simp [refCells]), (blk_cell h1 3).trans rfl, (blk_cell h1 4).trans rfl, blk_frozen h1 4, blk_lt h1, hC, hC2⟩
end

set_option maxRecDepth 100000 in
set_option maxHeartbeats 2000000 in
theorem rfails_calls (w : World) (B N g : Nat) (s ops : Int) (L : List (List Int)) (h : RefR w B N g s L ops) (h0 : 0 ≤ ops) (h1 : ops ≤ 1000000000000) :
    Calls Tryd.prog 97 #[.pointer (some ⟨g, 0, none⟩)] w fun e w' => e = .returned (.bool false) ∧ RefR w' B N g s L (ops + 1) ∧ Fr w w' (fun k => k = g) := by
  have H := Lib.hid (h.setOps (ops + 1))
  obtain ⟨A, c, A2, c2, k0, k1, k2, k3, k4, f4, hg, -, -⟩ := h.cells
  have hw : wrap64 (ops + 1) = ops + 1 := by unfold wrap64; omega
  have HF : Hid (Fr w (w.setCell ⟨g, 4, none⟩ (.int .i64 (ops + 1))) (fun k => k = g)) := Lib.hid (Fr.setCell (S := fun k => k = g) (Fr.refl _ _) (p := ⟨g, 4, none⟩) (fun _ => rfl) _)
  clear h
  go_enter Tryd.func97, Tryd.ntmps97
  go_wp2_with fail
  generalize w.setCell ⟨g, 4, none⟩ (.int .i64 (ops + 1)) = wS at *
  clear k0 k1 k2 k3 k4 f4
  go_loopw [3] (fun i wr => i = .int .i64 0 ∧ wr = wS) (fun _ _ => 0)
  case atStart => exact ⟨rfl, rfl⟩
  case round =>
    obtain ⟨rfl, rfl⟩ := hrel
    obtain ⟨A, c, A2, c2, k0, k1, k2, k3, k4, f4, hg, -, -⟩ := H.out.cells
    go_wp2_with fail
    go_ret
    exact ⟨rfl, H.out, HF.out⟩

theorem infoRow {w : World} {A : Option Addr} {L : List (List Int)} (h : KBs.C w A L.length L) {i : Nat} (hi : i < L.length) : ∃ ad A1 c1, A = some ad ∧ w.cell? (ad.add i) = some (.slice A1 L[i].length c1) ∧ L[i].length ≤ c1 ∧ KB.C w A1 L[i].length L[i] := rowAt h hi
theorem nilAt {w : World} {A : Option Addr} {n : Nat} (h : NL.C w A n (List.replicate n ())) {i : Nat} (hi : i < n) : ∃ ad, A = some ad ∧ w.cell? (ad.add i) = some (.slice none 0 0) := by
  obtain ⟨ad, e, hc⟩ := h.2.2 (by omega)
  obtain ⟨cs, _, hK, hcell⟩ := hc i () (by simp [hi])
  have hK' : cs = [.slice none 0 0] := hK
  refine ⟨ad, e, ?_⟩
  have := hcell 0 (.slice none 0 0) (by rw [hK']; rfl)
  simpa [NL, Kd.scalar] using this

set_option maxRecDepth 100000 in
set_option maxHeartbeats 2000000 in
/-- Read, of a sector that is there. -/
theorem rread_calls (w : World) (B N g i : Nat) (s ops : Int) (L : List (List Int)) (h : RefR w B N g s L ops) (h0 : 0 ≤ ops) (h1 : ops ≤ 1000000000000) (hi : i < L.length) (hsz : ∀ l ∈ L, l.length ≤ 4096) :
    Calls Tryd.prog 53 #[.pointer (some ⟨g, 0, none⟩), .int .i64 (i : Int)] w fun e w' => ∃ v, e = .returned (.tuple #[v, .int .i64 0]) ∧ RB w' w.heap.size (fun k => w.heap.size ≤ k) v L[i] ∧ RefR w' B N g s L (ops + 1) ∧ Fr w w' (fun k => k = g) := by
  have HFA := Lib.hid (rfails_calls w B N g s ops L h h0 h1)
  have hl := hsz _ (List.getElem_mem hi)
  clear h hsz
  go_enter Tryd.func53, Tryd.ntmps53
  go_wp2_with fail
  refine HFA.out.mono ?_
  rintro e w1 ⟨rfl, hR, hF⟩
  have HR := Lib.hid hR
  have HF := Lib.hid hF
  clear hR hF
  obtain ⟨A, c, A2, c2, k0, k1, k2, k3, k4, f4, hg, hL, hN⟩ := HR.out.cells
  obtain ⟨ad, A1, c1, rfl, hc, hle, hC⟩ := infoRow hL hi
  obtain ⟨ad2, rfl, hc2⟩ := nilAt hN hi
  have HC := Lib.hid hC
  have hiI : (i : Int) < (L.length : Int) := by omega
  have hi0 : (0 : Int) ≤ (i : Int) := by omega
  generalize hX : L[i] = X at *
  have HXX := Lib.hid hX
  clear hL hN hC k0 k3 k4 f4 hX
  have hne := fun w => run_neq_slice_nil (P := Tryd.prog) w 27 5 none 0 0 Tryd.underlying27
  have hb1 : Below w1.heap.size w1 (w1.alloc (.cells #[] 5)) := below_alloc (Below.refl _ _) _
  have hc' := pw_cell_below hb1 hc
  go_wp2_with ((with_reducible refine gate_dst (N := 46) rfl ?_); refine Kd.R_append_rows KB (Rr := fun x cs => cs = [Value.int .u8 x]) (w0 := w1) w1.heap.size rfl _ _ 27 5 (.int .u8 0) 1 rfl Tryd.underlying27 infoB rfl (by decide) (by decide) _ [] X A1 X.length c1 (fun k => w1.heap.size ≤ k) (fun _ => False) rfl rfl (own_empty w1) (Kd.C_below HC.out hb1) (fun _ _ h => h) (fun _ h => h.elim) (fun k hk => by simp at hk; omega) hb1 (by simp) (by simp; omega) ?_; intro v2 w2 HO2 HB2 HG2 _)
  have HO3 : RB w2 w1.heap.size (fun k => w1.heap.size ≤ k) v2 X := HO2
  go_ret2
  exact ⟨v2, rfl, by rw [HXX.out]; exact Kd.R_mono (Kd.R_lower HO3 HF.out.size) (fun k hk => Nat.le_trans HF.out.size hk), HR.out.below HB2, HF.out.thenB HB2⟩

set_option maxRecDepth 100000 in
set_option maxHeartbeats 2000000 in
/-- can, of a disk whose sectors have 32 bytes or more. -/
theorem rcan_calls (w : World) (B N g : Nat) (s ops : Int) (L : List (List Int)) (D : DiskS) (which a b c : Int) (h : RefR w B N g s L ops) (hs : D.size = s) (hs32 : 32 ≤ s) (hL : (L.length : Int) = D.sectors) :
    Calls Tryd.prog 52 #[.pointer (some ⟨g, 0, none⟩), .int .i64 which, .agg #[.int .i64 a, .int .i64 b, .int .i64 c]] w fun e w' => e = .returned (.int .i64 (atE D which a b c)) ∧ Below w.heap.size w w' := by
  have HR := Lib.hid h
  have HRC := Lib.hid (fun W => refRight_calls a b c W)
  have HSP := Lib.hid (fun W => refSpan_calls s a b c W)
  have HE : Hid (atE D which a b c = if rightF a b c = false then 9 else if which < 0 ∨ 2 ≤ which ∨ s < 32 then 1 else if (L.length : Int) < 2 * spanF s a b c then 4 else 0) := Lib.hid (by unfold atE; rw [hs, hL])
  have hsp := spanF_bd s a b c
  generalize rightF a b c = r at *
  generalize spanF s a b c = sp at *
  have hw : wrap64 (2 * sp) = 2 * sp := by unfold wrap64; omega
  clear h hs hL
  cases r
  · go_enter Tryd.func52, Tryd.ntmps52
    go_wp2_with fail
    refine (HRC.out _).mono ?_
    rintro e w1 ⟨rfl, hb1⟩
    go_wp2_with fail
    go_ret
    exact ⟨by rw [HE.out]; rfl, below_via (below_alloc (Below.refl _ _) _) hb1⟩
  · by_cases h01 : which = 0 ∨ which = 1
    · have hor : (L.length : Int) < 2 * sp ∨ ¬ (L.length : Int) < 2 * sp := Classical.em _
      rcases h01 with rfl | rfl
      all_goals
        rcases hor with hlt | hlt
      all_goals
        go_enter Tryd.func52, Tryd.ntmps52
        go_wp2_with fail
        have hbx := heap_alloc_new w (.cells #[.int .i64 a, .int .i64 b, .int .i64 c] 23)
        have hb0 : Below w.heap.size w (w.alloc (.cells #[.int .i64 a, .int .i64 b, .int .i64 c] 23)) := (below_alloc (Below.refl _ _) _)
        generalize w.alloc (.cells #[.int .i64 a, .int .i64 b, .int .i64 c] 23) = w0 at *
        refine (HRC.out w0).mono ?_
        rintro e w1 ⟨rfl, hb1⟩
        have hb2 := below_via hb0 hb1
        obtain ⟨A, cc, A2, c2, k0, k1, -⟩ := (HR.out.below hb2).cells
        have hx1 := (hb1.block _ (blk_lt hbx)).trans hbx
        have j0 := (blk_cell hx1 0).trans rfl
        have j1 := (blk_cell hx1 1).trans rfl
        have j2 := (blk_cell hx1 2).trans rfl
        have HB2 := Lib.hid hb2
        clear hb0 hb1 hb2 hbx hx1
        go_wp2_with fail
        have n0 := fun n : BT w1 => BT.cell k0 n
        have n1 := fun n : BT w1 => BT.cell k1 n
        have m0 := fun n : BT w1 => BT.cell j0 n
        have m1 := fun n : BT w1 => BT.cell j1 n
        have m2 := fun n : BT w1 => BT.cell j2 n
        refine wp_region_below (by kernel_rfl) (by kernel_rfl) ?_
        repeat (go_big_quiet_step (first | (go_at_call 10; exact Calls.below_of (HSP.out _))))
        refine wpQuiet_nil ?_
        intro W5 hW5
        obtain ⟨⟨w5, hb5⟩, rfl⟩ := hW5
        have HB5 := Lib.hid (below_via HB2.out hb5)
        clear k0 k1 j0 j1 j2 n0 n1 m0 m1 m2
        go_wp2_with fail
        go_ret
        refine ⟨?_, HB5.out⟩
        first
          | (rw [HE.out, if_neg (by simp), if_neg (by omega), if_pos hlt]; rfl)
          | (rw [HE.out, if_neg (by simp), if_neg (by omega), if_neg (by omega)]; rfl)
    · have hn0 : ¬ which = 0 := fun e => h01 (.inl e)
      have hn1 : ¬ which = 1 := fun e => h01 (.inr e)
      go_enter Tryd.func52, Tryd.ntmps52
      go_wp2_with fail
      have hb0 : Below w.heap.size w (w.alloc (.cells #[.int .i64 a, .int .i64 b, .int .i64 c] 23)) := (below_alloc (Below.refl _ _) _)
      generalize w.alloc (.cells #[.int .i64 a, .int .i64 b, .int .i64 c] 23) = w0 at *
      refine (HRC.out w0).mono ?_
      rintro e w1 ⟨rfl, hb1⟩
      have HB2 := Lib.hid (below_via hb0 hb1)
      obtain ⟨A, cc, A2, c2, k0, k1, -⟩ := (HR.out.below HB2.out).cells
      clear hb0 hb1
      go_wp2_with fail
      go_ret
      exact ⟨by rw [HE.out, if_neg (by simp), if_pos (by omega)]; rfl, HB2.out⟩
end Go.Proofs.YtcemageindmbkaaDoor
