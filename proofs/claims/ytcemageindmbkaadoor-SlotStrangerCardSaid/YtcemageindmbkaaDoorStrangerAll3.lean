/- Parts of the proof, in build order. -/
import Derived.Test.YtcemageindmbkaaDoorStrangerAll2
import Derived.RangeFuncBox
import Derived.Laws.Closers25b
/- Seal: what it returns. -/
namespace Go.Proofs.YtcemageindmbkaaDoor
open Go.RowKit Go.Proofs.YtcemageindmbkaaDoorW.PrintWords
open PSlotBytes

/-- A place's cells. -/
abbrev plC (p1 p2 : Nat) (many size : Int) : Obj :=
  .cells #[.int .i64 many, .int .i64 size, .func (.func 88) #[] #[.pointer (some ⟨p1, 0, none⟩), .pointer (some ⟨p2, 0, none⟩)], .func (.func 90) #[] #[.pointer (some ⟨p1, 0, none⟩), .pointer (some ⟨p2, 0, none⟩)]] 87
set_option maxRecDepth 100000 in
theorem seal_err (w : World) (B g : Nat) (F : Nat → Prop) (D : DiskS) (which a b c q : Int) (sl : Value) (hl : Laid w) (hD : IsDisk w B F g D) (hok : DiskOk D) (h : atE D which a b c ≠ 0) :
    Calls Tryd.prog 24 #[.pointer (some ⟨g, 0, none⟩), .int .i64 which, .agg #[.int .i64 a, .int .i64 b, .int .i64 c], .int .u64 q, sl] w fun e w' => e = .returned (.int .i64 (atE D which a b c)) ∧ Below w.heap.size w w' := by
  have HA := Lib.hid (fun (W : World) (hW : Below w.heap.size w W) => at_err W B g F D which a b c (hl.of_below hW) (hD.below hW) hok h)
  have sn : ∀ (m : Mode) (x : Addr) (w : World), (store x Value.nilFunc m).run Tryd.prog w = stored Tryd.prog w x Value.nilFunc m := fun m x w => run_store Tryd.prog w x _ m rfl
  clear hl hD hok
  generalize atE D which a b c = E at *
  go_enter Tryd.func24, Tryd.ntmps24
  go_wp2_with fail
  refine (HA.out _ (below_alloc (Below.refl _ _) _)).mono ?_
  rintro e w1 ⟨rfl, hb1⟩
  have HB1 := Lib.hid (below_via (w0 := w) (below_alloc (Below.refl _ _) _) hb1)
  clear hb1
  go_wp2_with fail
  exact bodyPost_ret (v := .int .i64 E) (by simp [results, Tryd.results24, go_sem]) rfl ⟨rfl, below_alloc HB1.out _⟩

set_option maxRecDepth 100000 in
set_option maxHeartbeats 2000000 in
theorem seal_ok (w : World) (B g : Nat) (F : Nat → Prop) (D : DiskS) (which a b c q : Int) (s : Nat) (A : Option Addr) (m : Nat) (l : List Int) (hl : Laid w) (hD : IsDisk w B F g D) (hok : DiskOk D) (hB : B ≤ w.heap.size) (h : atE D which a b c = 0) (hs : D.size = s)
    (hC : KB.C w A l.length l) (hin : InB l) (hlen : (l.length : Int) = totalF a b c) :
    Calls Tryd.prog 24 #[.pointer (some ⟨g, 0, none⟩), .int .i64 which, .agg #[.int .i64 a, .int .i64 b, .int .i64 c], .int .u64 q, .slice A l.length m] w fun e w' => e = .returned (.int .i64 (writeErr D (which * spanF D.size a b c) s)) ∧ IsDisk w' B (fun k => F k ∨ (w.heap.size ≤ k ∧ k < w'.heap.size)) g (writeS D (which * spanF D.size a b c) (padTo (encF a b c l.length q (sumF l)) s)) ∧ Fr w w' F := by
  obtain ⟨h1, h2, h3, h4, h5⟩ := atE_ok h
  have HA := Lib.hid (fun (W : World) (hW : Below w.heap.size w W) => at_ok W B g F D which a b c (hl.of_below hW) (hD.below hW) hok h1 h2 h3 h4 h5)
  have hsp := spanF_bd D.size a b c
  have hfi : 0 ≤ which * spanF D.size a b c ∧ which * spanF D.size a b c ≤ 1000000000 := by
    have h01 : which = 0 ∨ which = 1 := by omega
    rcases h01 with rfl | rfl
    · rw [Int.zero_mul]; omega
    · rw [Int.one_mul]; omega
  have hs2 := hok.s2
  rw [hs] at HA hs2 hfi h4
  rw [hs]
  generalize hsp : spanF (s : Int) a b c = sp at *
  generalize hfd : which * sp = fd at *
  have HF := Lib.hid (fun (w' : World) p1 p2 many A m l h1 h2 hD hB hC hl => first_calls w' B g p1 p2 F D fd many s A m l h1 h2 hD hok hB hC hl (by omega) hfi)
  have htb := totalF_bd a b c
  have HT := Lib.hid (fun (W : World) (hW : Below w.heap.size w W) => hlen ▸ total_calls a b c W (hl.of_below hW))
  have HS := Lib.hid (fun (W : World) (hW : Below w.heap.size w W) => sum_calls A m l W (Kd.C_below hC hW) hin (by omega))
  rw [hlen]
  have hE := fun (W : World) (hW : Below w.heap.size w W) => enc_calls a b c (totalF a b c) q (sumF l) W (hl.of_below hW) (by simp [hrightF, h1])
  have hel : (encF a b c (totalF a b c) q (sumF l)).length = 28 := by simp [encF, enc24_length, layF_length]
  generalize encF a b c (totalF a b c) q (sumF l) = en at *
  generalize sumF l = su at *
  have HE := Lib.hid hE
  have sn : ∀ (m : Mode) (x : Addr) (w : World), (store x Value.nilFunc m).run Tryd.prog w = stored Tryd.prog w x Value.nilFunc m := fun m x w => run_store Tryd.prog w x _ m rfl
  have sf : ∀ (fn : Fn) (u v : Array Value) (m : Mode) (x : Addr) (w : World), (store x (Value.func fn u v) m).run Tryd.prog w = stored Tryd.prog w x (Value.func fn u v) m := fun fn u v m x w => run_store Tryd.prog w x _ m rfl
  have HD := Lib.hid hD
  clear hl hD hok h h1 h2 h3 h5 hs2 hfi hfd hsp hE hC hin htb
  go_enter Tryd.func24, Tryd.ntmps24
  go_wp2_with fail
  have e0 : (w.alloc (.cells #[.int .i64 a, .int .i64 b, .int .i64 c] 23)).heap[w.heap.size]? = _ := heap_alloc_new w _
  refine (HA.out _ (below_alloc (Below.refl _ _) _)).mono ?_
  rintro e w1 ⟨p2, rfl, hb1, hp1, hp2, hle⟩
  have hk1 := (hb1.block _ (blk_lt e0)).trans e0
  have HK1 := Lib.hid hk1
  have k0 := (blk_cell hk1 0).trans rfl
  have k1 := (blk_cell hk1 1).trans rfl
  have k2 := (blk_cell hk1 2).trans rfl
  have hlt := blk_lt hk1
  have HB1 := Lib.hid (below_via (w0 := w) (below_alloc (Below.refl _ _) _) hb1)
  have HP1 := Lib.hid hp1
  have HP2 := Lib.hid hp2
  clear hb1 hp1 hp2 hk1 e0
  go_wp2_with fail
  simp only [World.size_alloc] at HP1
  generalize hwP : w1.alloc (plC (w.heap.size + 1) p2 (sp - 1) s) = wP
  have hPl : wP.heap[w1.heap.size]? = some (plC (w.heap.size + 1) p2 (sp - 1) s) := hwP ▸ heap_alloc_new w1 _
  have hBP : Below w1.heap.size w1 wP := hwP ▸ below_alloc (Below.refl _ _) _
  clear hwP
  refine (HT.out _ (below_via HB1.out hBP)).mono ?_
  rintro e w2 ⟨rfl, hb2⟩
  have hB2 := below_via (below_via HB1.out hBP) hb2
  have hq1 := (hb2.block _ (blk_lt ((hBP.block _ (blk_lt HP1.out)).trans HP1.out))).trans ((hBP.block _ (blk_lt HP1.out)).trans HP1.out)
  have hq2 := (hb2.block _ (blk_lt ((hBP.block _ (blk_lt HP2.out)).trans HP2.out))).trans ((hBP.block _ (blk_lt HP2.out)).trans HP2.out)
  have hk2 := (hb2.block _ (blk_lt ((hBP.block _ (blk_lt HK1.out)).trans HK1.out))).trans ((hBP.block _ (blk_lt HK1.out)).trans HK1.out)
  have hpl := (hb2.block _ (blk_lt hPl)).trans hPl
  have HQ1 := Lib.hid hq1
  have HQ2 := Lib.hid hq2
  have HPL := Lib.hid hpl
  have HB2 := Lib.hid hB2
  clear k0 k1 k2 hlt hb2 hq1 hq2 hpl hPl hBP HP1 HP2 HK1 HB1
  have k0 := (blk_cell hk2 0).trans rfl
  have k1 := (blk_cell hk2 1).trans rfl
  have k2 := (blk_cell hk2 2).trans rfl
  clear hk2 hB2
  go_wp2_with fail
  refine wp_region_float2 8 48 rfl (by kernel_rfl) (by kernel_rfl) ?z (fun wa hwa => ?_) (fun w7 hw7 => ?_)
  case refine_1 =>
    simp only [List.take_succ_cons, List.take_zero, Nat.reduceSub]
    have HB7 := Lib.hid (below_via HB2.out hwa)
    have r0 := fun n : BT wa => BT.cell (pw_cell_below hwa k0) n
    have r1 := fun n : BT wa => BT.cell (pw_cell_below hwa k1) n
    have r2 := fun n : BT wa => BT.cell (pw_cell_below hwa k2) n
    repeat (go_big_quiet_step ((go_at_call 51; exact Calls.below_of (HS.out _ (below_via HB7.out (CT.ok _))))))
    refine wpQuiet_nil ?_
    exact Eq.refl _
  refine smOp_call (some 39) 59 _ rfl rfl rfl (by simp [go_sem]; rfl) ?_
  refine (HE.out _ (below_via HB2.out hw7)).mono ?_
  rintro e w8 ⟨v8, rfl, hR8, hb8⟩
  refine ⟨_, rfl, hb8, fun w3 hw3 => ?_⟩
  simp only [List.drop_succ_cons, List.drop_zero, Act.put, List.setIfInBounds_toArray, List.set_cons_succ, List.set_cons_zero]
  repeat (go_big_quiet_step (fail))
  refine wpQuiet_nil ?_
  rintro w9 ⟨⟨_, hw9⟩, rfl⟩
  have hb9 := below_via (below_via hw7 hb8) (below_via hw3 hw9)
  have HR9 := Lib.hid (Kd.R_below (Kd.R_below hR8 hw3) hw9)
  have HB9 := Lib.hid (below_via HB2.out hb9)
  have HQ1' := Lib.hid ((hb9.block _ (blk_lt HQ1.out)).trans HQ1.out)
  have HQ2' := Lib.hid ((hb9.block _ (blk_lt HQ2.out)).trans HQ2.out)
  have hpl := (hb9.block _ (blk_lt HPL.out)).trans HPL.out
  have j0 := (blk_cell hpl 0).trans rfl
  have j1 := (blk_cell hpl 1).trans rfl
  have j2 := (blk_cell hpl 2).trans rfl
  have j3 := (blk_cell hpl 3).trans rfl
  clear k0 k1 k2 hw7 hb8 hw3 hw9 hb9 hR8 hpl
  go_wp2_with fail
  obtain ⟨A8, c8, rfl, -, hC8⟩ := Kd.R_reads HR9.out
  have HC8 := Lib.hid hC8
  clear hC8
  refine (HF.out w9 _ p2 _ A8 c8 en HQ1'.out HQ2'.out (HD.out.below HB9.out) (Nat.le_trans hB HB9.out.size) HC8.out (by omega)).mono ?_
  rintro e w10 ⟨rfl, hD10, hf10⟩
  have HD10 := Lib.hid hD10
  have HF10 := Lib.hid ((Fr.of_below HB9.out F).trans hf10 (fun _ _ h => h))
  clear hD10 hf10
  go_wp2_with fail
  refine bodyPost_ret (v := .int .i64 (writeErr D fd s)) (by simp [results, Tryd.results24, go_sem]) rfl ⟨rfl, ?_, HF10.out⟩
  refine HD10.out.mono (fun k hk => hk.elim .inl (fun h => .inr ⟨Nat.le_trans HB9.out.size h.1, h.2⟩)) (fun k hk => hk.elim (fun h => ⟨(HD.out.bound k h).1, Nat.lt_of_lt_of_le (HD.out.bound k h).2 HF10.out.size⟩) (fun h => ⟨Nat.le_trans hB h.1, h.2⟩))
end Go.Proofs.YtcemageindmbkaaDoor
/- Data: what it returns. -/
namespace Go.Proofs.YtcemageindmbkaaDoor
open Go.RowKit Go.Proofs.YtcemageindmbkaaDoorW.PrintWords
open PSlotBytes

/-- A disk on which pieces are written, one sector each. -/
def dataS (D : DiskS) (first : Int) (ps : List (List Int)) : Nat → DiskS
  | 0 => D
  | k + 1 => writeS (dataS D first ps k) (first + (1 + (k : Int))) (ps.getD k [])

theorem getI_putI {α : Type} (k i : Int) (v : α) : ∀ es : List (Int × α), getI k (putI i v es) = if k = i then some v else getI k es
  | [] => rfl
  | p :: es => by
    simp only [putI]
    by_cases h1 : i = p.1
    · rw [if_pos h1]
      simp only [getI]
      by_cases h : k = i
      · rw [if_pos h, if_pos h]
      · rw [if_neg h, if_neg h, if_neg (by omega)]
    · rw [if_neg h1]
      simp only [getI]
      by_cases hk : k = p.1
      · rw [if_pos hk, if_pos hk, if_neg (by omega)]
      · rw [if_neg hk, if_neg hk, getI_putI k i v es]
theorem write_good {D : DiskS} {i : Int} {b : List Int} (hp : D.planned = []) (h0 : 0 ≤ i) (h1 : i < D.sectors) (hn : (b.length : Int) = D.size) :
    writeErr D i b.length = 0 ∧ writeS D i b = { D.next with cached := putI i b D.cached, writes := D.writes + 1 } := by
  have e : writeErr D i b.length = 0 := by
    unfold writeErr failsB
    rw [hp, if_neg (by simp), if_neg (by omega), if_neg (by omega), if_neg (by simp [hn])]
  exact ⟨e, by unfold writeS; rw [if_pos e]⟩
/-- A disk that has room for what is done with it. -/
structure Calm (D : DiskS) (n : Nat) : Prop where
  ok : DiskOk D
  planned : D.planned = []
  ops : D.ops + n ≤ 1000000000000
  writes : D.writes + n ≤ 1000000000000
theorem Calm.write {D : DiskS} {n : Nat} {i : Int} {b : List Int} (h : Calm D (n + 1)) (h0 : 0 ≤ i) (h1 : i < D.sectors) (hn : (b.length : Int) = D.size) : Calm (writeS D i b) n ∧ (writeS D i b).sectors = D.sectors ∧ (writeS D i b).size = D.size := by
  obtain ⟨-, e⟩ := write_good h.planned h0 h1 hn
  rw [e]
  have h2 := h.ok.s2
  have := h.ops
  have := h.writes
  have := h.ok.ops0
  have := h.ok.wr0
  refine ⟨⟨⟨h.ok.s1, h.ok.s2, h.ok.len, ?_, ?_, ?_, ?_, fun k l hk => ?_⟩, h.planned, ?_, ?_⟩, rfl, rfl⟩
  · show 0 ≤ D.ops + 1; omega
  · show D.ops + 1 ≤ _; omega
  · show 0 ≤ D.writes + 1; omega
  · show D.writes + 1 ≤ _; omega
  · have hk' : getI k (putI i b D.cached) = some l := hk
    rw [getI_putI] at hk'
    split at hk'
    · cases hk'; omega
    · exact h.ok.cach k l hk'
  · show D.ops + 1 + n ≤ _; omega
  · show D.writes + 1 + n ≤ _; omega
theorem Calm.read {D : DiskS} {n : Nat} (h : Calm D (n + 1)) : Calm D.next n := by
  have := h.ops
  have := h.writes
  have := h.ok.ops0
  exact ⟨⟨h.ok.s1, h.ok.s2, h.ok.len, (by show 0 ≤ D.ops + 1; omega), (by show D.ops + 1 ≤ _; omega), h.ok.wr0, h.ok.wr1, h.ok.cach⟩, h.planned, (by show D.ops + 1 + n ≤ _; omega), (by show D.writes + n ≤ _; omega)⟩
theorem Calm.data {D : DiskS} {first : Int} {ps : List (List Int)} {m : Nat} (hf : 0 ≤ first) : ∀ (n : Nat), Calm D (n + m) → (∀ k, k < n → ((ps.getD k []).length : Int) = D.size) → first + n < D.sectors →
    Calm (dataS D first ps n) m ∧ (dataS D first ps n).sectors = D.sectors ∧ (dataS D first ps n).size = D.size
  | 0, h, _, _ => ⟨(by rw [Nat.zero_add] at h; exact h), rfl, rfl⟩
  | n + 1, h, hp, hr => by
    obtain ⟨h1, h2, h3⟩ := Calm.data (m := m + 1) hf n (by rwa [show n + (m + 1) = n + 1 + m by omega]) (fun k hk => hp k (by omega)) (by omega)
    obtain ⟨q1, q2, q3⟩ := h1.write (i := first + (1 + (n : Int))) (b := ps.getD n []) (by omega) (by rw [h2]; omega) (by rw [h3]; exact hp n (by omega))
    exact ⟨q1, q2.trans h2, q3.trans h3⟩
/-- A value of a raw row. -/
theorem rawAt {w : World} {A : Option Addr} {vs : List (List Value)} (h : (Kd.raw 1).C w A vs.length vs) {k : Nat} {v : Value} (hk : vs[k]? = some [v]) : ∃ ad, A = some ad ∧ w.cell? (ad.add k) = some v := by
  have hlt : k < vs.length := (List.getElem?_eq_some_iff.1 hk).1
  obtain ⟨ad, e, hc⟩ := h.2.2 (by omega)
  obtain ⟨cs, _, hK, h3⟩ := hc k [v] hk
  have hcs : cs = [v] := hK.1
  exact ⟨ad, e, by simpa [Kd.raw] using h3 0 v (by rw [hcs]; rfl)⟩
theorem piece_C {w : World} {ad : Addr} {L : List Int} {s k : Nat} (hC : KB.C w (some ad) L.length L) (hk : (k + 1) * s ≤ L.length) : KB.C w (some (ad.add (k * s))) ((L.take ((k + 1) * s)).drop (k * s)).length ((L.take ((k + 1) * s)).drop (k * s)) := by
  have hl : (L.take ((k + 1) * s)).length = (k + 1) * s := by rw [List.length_take]; omega
  have hle : k * s ≤ (k + 1) * s := Nat.mul_le_mul_right _ (by omega)
  have h1 := Kd.C_drop (c := (L.take ((k + 1) * s)).length + 1) (Kd.C_take hC hk) (m := k * s) (by omega) (by omega)
  rw [if_neg (by omega)] at h1
  simpa only [Option.map_some, KB, Kd.int, Kd.scalar, Nat.mul_one] using h1

theorem pieces_getD {L : List Int} {s n k : Nat} (hk : k < n) : (pieces L s n).getD k [] = (L.take ((k + 1) * s)).drop (k * s) := by
  simp [pieces, List.getD, hk]
theorem piece_len {L : List Int} {s k : Nat} (hk : (k + 1) * s ≤ L.length) : ((L.take ((k + 1) * s)).drop (k * s)).length = s := by
  rw [List.length_drop, List.length_take, Nat.min_eq_left hk, Nat.add_mul]; omega

set_option maxRecDepth 100000 in
theorem data_err (w : World) (B g : Nat) (F : Nat → Prop) (D : DiskS) (which a b c : Int) (sl : Value) (hl : Laid w) (hD : IsDisk w B F g D) (hok : DiskOk D) (h : atE D which a b c ≠ 0) :
    Calls Tryd.prog 23 #[.pointer (some ⟨g, 0, none⟩), .int .i64 which, .agg #[.int .i64 a, .int .i64 b, .int .i64 c], sl] w fun e w' => e = .returned (.int .i64 (atE D which a b c)) ∧ Below w.heap.size w w' := by
  have HA := Lib.hid (fun (W : World) (hW : Below w.heap.size w W) => at_err W B g F D which a b c (hl.of_below hW) (hD.below hW) hok h)
  have sn : ∀ (m : Mode) (x : Addr) (w : World), (store x Value.nilFunc m).run Tryd.prog w = stored Tryd.prog w x Value.nilFunc m := fun m x w => run_store Tryd.prog w x _ m rfl
  clear hl hD hok
  generalize atE D which a b c = E at *
  go_enter Tryd.func23, Tryd.ntmps23
  go_wp2_with fail
  refine (HA.out _ (below_alloc (Below.refl _ _) _)).mono ?_
  rintro e w1 ⟨rfl, hb1⟩
  have HB1 := Lib.hid (below_via (w0 := w) (below_alloc (Below.refl _ _) _) hb1)
  clear hb1
  go_wp2_with fail
  exact bodyPost_ret (v := .int .i64 E) (by simp [results, Tryd.results23, go_sem]) rfl ⟨rfl, below_alloc HB1.out _⟩

set_option maxRecDepth 100000 in
set_option maxHeartbeats 2000000 in
theorem data_ok (w : World) (B g : Nat) (F : Nat → Prop) (D : DiskS) (which a b c : Int) (s : Nat) (A : Option Addr) (m : Nat) (l : List Int) (hl : Laid w) (hD : IsDisk w B F g D) (hB : B ≤ w.heap.size) (h : atE D which a b c = 0) (hs : D.size = s)
    (hcm : Calm D 100000) (hC : KB.C w A l.length l) (hlen : (l.length : Int) = totalF a b c) :
    Calls Tryd.prog 23 #[.pointer (some ⟨g, 0, none⟩), .int .i64 which, .agg #[.int .i64 a, .int .i64 b, .int .i64 c], .slice A l.length m] w fun e w' => ∃ n : Nat, e = .returned (.int .i64 0) ∧ sectorsF l.length s = (n : Int) ∧ IsDisk w' B (fun k => F k ∨ (w.heap.size ≤ k ∧ k < w'.heap.size)) g (dataS D (which * spanF D.size a b c) (pieces (padTo l (n * s)) s n) n) ∧ Fr w w' F := by
  have hok := hcm.ok
  obtain ⟨h1, h2, h3, h4, h5⟩ := atE_ok h
  have HA := Lib.hid (fun (W : World) (hW : Below w.heap.size w W) => at_ok W B g F D which a b c (hl.of_below hW) (hD.below hW) hok h1 h2 h3 h4 h5)
  have hsp := spanF_bd D.size a b c
  have hfi : 0 ≤ which * spanF D.size a b c ∧ which * spanF D.size a b c ≤ spanF D.size a b c := by
    have h01 : which = 0 ∨ which = 1 := by omega
    rcases h01 with rfl | rfl
    · rw [Int.zero_mul]; omega
    · rw [Int.one_mul]; omega
  have hs2 := hok.s2
  have hspe : spanF D.size a b c = 1 + sectorsF (l.length : Int) D.size := by unfold spanF; rw [if_pos ⟨h1, h4, hs2⟩, hlen]
  rw [hs] at HA hs2 hfi h4 hspe h5 hsp
  rw [hs]
  generalize hspg : spanF (s : Int) a b c = sp at *
  generalize hfd : which * sp = fd at *
  have htb := totalF_bd a b c
  have hlb : l.length ≤ 90112 := by omega
  clear htb
  have HT := Lib.hid (fun (W : World) (hW : Below w.heap.size w W) => hlen ▸ total_calls a b c W (hl.of_below hW))
  have HCut := Lib.hid (fun (W : World) (hW : Below w.heap.size w W) => cut_yes A m l s W (by omega) (by omega) (Kd.C_below hC hW) (by omega))
  have sn : ∀ (m : Mode) (x : Addr) (w : World), (store x Value.nilFunc m).run Tryd.prog w = stored Tryd.prog w x Value.nilFunc m := fun m x w => run_store Tryd.prog w x _ m rfl
  have sf : ∀ (fn : Fn) (u v : Array Value) (m : Mode) (x : Addr) (w : World), (store x (Value.func fn u v) m).run Tryd.prog w = stored Tryd.prog w x (Value.func fn u v) m := fun fn u v m x w => run_store Tryd.prog w x _ m rfl
  have HD := Lib.hid hD
  have HK := Lib.hid hok
  have HSZ := Lib.hid hs
  have HCM := Lib.hid hcm
  have HSPE := Lib.hid hspe
  clear hl hD hok h h1 h2 h3 hfd hspg hC hs hcm hspe hlen
  go_enter Tryd.func23, Tryd.ntmps23
  go_wp2_with fail
  have e0 : (w.alloc (.cells #[.int .i64 a, .int .i64 b, .int .i64 c] 23)).heap[w.heap.size]? = _ := heap_alloc_new w _
  refine (HA.out _ (below_alloc (Below.refl _ _) _)).mono ?_
  rintro e w1 ⟨p2, rfl, hb1, hp1, hp2, hle⟩
  have hk1 := (hb1.block _ (blk_lt e0)).trans e0
  have HK1 := Lib.hid hk1
  have k0 := (blk_cell hk1 0).trans rfl
  have k1 := (blk_cell hk1 1).trans rfl
  have k2 := (blk_cell hk1 2).trans rfl
  have hlt := blk_lt hk1
  have HB1 := Lib.hid (below_via (w0 := w) (below_alloc (Below.refl _ _) _) hb1)
  have hw1 : w.heap.size ≤ w1.heap.size := HB1.out.size
  have HP1 := Lib.hid hp1
  have HP2 := Lib.hid hp2
  clear hb1 hp1 hp2 hk1 e0
  go_wp2_with fail
  simp only [World.size_alloc] at HP1
  generalize hwP : w1.alloc (plC (w.heap.size + 1) p2 (sp - 1) s) = wP
  have hPl : wP.heap[w1.heap.size]? = some (plC (w.heap.size + 1) p2 (sp - 1) s) := hwP ▸ heap_alloc_new w1 _
  have hBP : Below w1.heap.size w1 wP := hwP ▸ below_alloc (Below.refl _ _) _
  clear hwP
  refine (HT.out _ (below_via HB1.out hBP)).mono ?_
  rintro e w2 ⟨rfl, hb2⟩
  have hB2 := below_via (below_via HB1.out hBP) hb2
  have hq1 := (hb2.block _ (blk_lt ((hBP.block _ (blk_lt HP1.out)).trans HP1.out))).trans ((hBP.block _ (blk_lt HP1.out)).trans HP1.out)
  have hq2 := (hb2.block _ (blk_lt ((hBP.block _ (blk_lt HP2.out)).trans HP2.out))).trans ((hBP.block _ (blk_lt HP2.out)).trans HP2.out)
  have hpl := (hb2.block _ (blk_lt hPl)).trans hPl
  have HQ1 := Lib.hid hq1
  have HQ2 := Lib.hid hq2
  have HPL := Lib.hid hpl
  have HB2 := Lib.hid hB2
  have j1 := (blk_cell hpl 1).trans rfl
  clear k0 k1 k2 hlt hb2 hq1 hq2 hpl hPl hBP HP1 HP2 HK1 HB1 hB2
  go_wp2_with fail
  refine (HCut.out _ HB2.out).mono ?_
  rintro e wS ⟨v, n, ad, rfl, hn, hV, ⟨n1, c1, hP⟩, hbS⟩
  clear j1
  have HN := Lib.hid hn
  have HV := Lib.hid hV
  have HP := Lib.hid hP
  have HBS := Lib.hid (below_via HB2.out hbS)
  have HQ1 := Lib.hid ((hbS.block _ (blk_lt HQ1.out)).trans HQ1.out)
  have HQ2 := Lib.hid ((hbS.block _ (blk_lt HQ2.out)).trans HQ2.out)
  have HPL := Lib.hid ((hbS.block _ (blk_lt HPL.out)).trans HPL.out)
  clear hn hV hP hbS
  obtain ⟨Av, cv, rfl, hvle, -⟩ := Kd.R_reads HV.out
  have hpl : (pieceV ad s n).length = n := by simp [pieceV]
  rw [hpl] at hvle
  rw [hpl]
  go_wp2_with fail
  have hnb : n ≤ 90112 := by have := (sectorsF_bd (l.length : Int) (s : Int) (by omega)).2; rw [HN.out] at this; omega
  have hspn : sp = 1 + (n : Int) := by rw [HSPE.out, HN.out]
  have hcov := sectors_cover (by omega) (by omega) HN.out
  have hPL := padTo_length hcov
  have hgl : ∀ k, F k → k < w.heap.size := fun k hk => (HD.out.bound k hk).2
  have hFg : F g := by obtain ⟨_, _, _, _, _, _, _, _, _, _, h6, _⟩ := HD.out; exact h6
  have hDS := HD.out.below HBS.out
  have hw2 : w.heap.size ≤ w2.heap.size := HB2.out.size
  generalize hL : padTo l (n * s) = L at *
  have HPs := Lib.hid (fun k (hk : k < n) => pieces_getD (L := L) (s := s) hk)
  have hlen : ∀ k, k < n → (k + 1) * s ≤ L.length := fun k hk => by rw [hPL]; exact Nat.mul_le_mul_right _ hk
  have hdat := fun k (hk : k ≤ n) => Calm.data (D := D) (first := fd) (ps := pieces L s n) (m := 100000 - k) hfi.1 k (by rw [show k + (100000 - k) = 100000 by omega]; exact HCM.out) (fun j hj => by rw [HPs.out j (by omega), piece_len (hlen j (by omega)), HSZ.out]) (by omega)
  have HDAT := Lib.hid hdat
  have HLEN := Lib.hid hlen
  have HSPN := Lib.hid hspn
  clear hdat hlen hspn
  go_loopw [42] (fun i wr => ∃ k : Nat, k ≤ n ∧ i = .int .i64 (k : Int) ∧ Hid (IsDisk wr B (fun q => F q ∨ (wS.heap.size ≤ q ∧ q < wr.heap.size)) g (dataS D fd (pieces L s n) k)) ∧ Hid (Fr wS wr F)) (fun i _ => n - (intOf i).toNat)
  case atStart => exact ⟨0, Nat.zero_le _, rfl, Lib.hid (hDS.mono (fun k hk => .inl hk) (fun k hk => hk.elim (fun h => hDS.bound k h) (fun h => absurd h.1 (by omega)))), Lib.hid (Fr.refl _ _)⟩
  case round =>
    obtain ⟨k, hk, rfl, HI, HFr⟩ := hrel
    by_cases hlt : k < n
    · have hVr : (Kd.raw 1).C wr Av (pieceV ad s n).length (pieceV ad s n) := by
        have := (Kd.R_reads' (Kd.R_step HV.out (fun q hq hq2 => HFr.out.block q hq2 (fun hf => by have := hgl q hf; have : w2.heap.size ≤ q := hq; omega)))).2.2
        exact this
      have hat : (pieceV ad s n)[k]? = some [.slice (some (ad.add (k * s))) s s] := by simp [pieceV, hlt]
      obtain ⟨adv, hAv, hcell⟩ := rawAt hVr hat
      cases hAv
      clear hVr hat
      have hnF : ∀ q, w.heap.size ≤ q → ¬ F q := fun q hq hf => by have := hgl q hf; omega
      have hb1s : w.heap.size ≤ w1.heap.size := hw1
      have hpl3 := HFr.out.blk HPL.out (hnF _ hb1s)
      have e3 := (blk_cell hpl3 3).trans rfl
      have hq1 := HFr.out.blk HQ1.out (hnF _ (by omega))
      have hq2 := HFr.out.blk HQ2.out (hnF _ (by simp only [World.size_alloc] at hle; omega))
      obtain ⟨hcm, hsc, hsz⟩ := HDAT.out k (by omega)
      have hspn := HSPN.out
      have hpk := HPs.out k hlt
      have hpiece := piece_len (HLEN.out k hlt)
      have hPr := Kd.R_step HP.out (fun q hq hq2 => HFr.out.block q hq2 (hnF q (Nat.le_trans hw2 hq)))
      have hwr := wr_calls wr B g (w.heap.size + 1) p2 (fun q => F q ∨ (wS.heap.size ≤ q ∧ q < wr.heap.size)) (dataS D fd (pieces L s n) k) fd (1 + (k : Int)) (some (ad.add (k * s))) s ((L.take ((k + 1) * s)).drop (k * s)) hq1 hq2 HI.out hcm.ok (Nat.le_trans hB (Nat.le_trans HBS.out.size HFr.out.size))
        (fun w' hf => piece_C (Kd.R_reads' (Kd.R_step hPr (fun q hq hq2 => hf.block q hq2 (fun e => hnF q (Nat.le_trans hw2 hq) (e ▸ hFg))))).2.2 (HLEN.out k hlt)) (fun h => by cases h) (by omega)
      rw [hpiece] at hwr
      have hgood := write_good (D := dataS D fd (pieces L s n) k) (i := fd + (1 + (k : Int))) (b := (L.take ((k + 1) * s)).drop (k * s)) hcm.planned (by omega) (by rw [hsc]; omega) (by rw [hsz, hpiece, HSZ.out])
      rw [hpiece] at hgood
      rw [hgood.1] at hwr
      have hst : writeS (dataS D fd (pieces L s n) k) (fd + (1 + (k : Int))) ((L.take ((k + 1) * s)).drop (k * s)) = dataS D fd (pieces L s n) (k + 1) := by rw [dataS, hpk]
      rw [hst] at hwr
      have HW := Lib.hid hwr
      have HWS : Hid (wS.heap.size ≤ wr.heap.size) := Lib.hid HFr.out.size
      have HI' := HI
      clear hspn hwr hpl3 hq1 hq2 hcm hsc hsz hpk hpiece hPr hgood hst hb1s
      go_wp2_with fail
      refine HW.out.mono ?_
      rintro e w6 ⟨rfl, hI6, hF6⟩
      have HI6 : Hid (IsDisk w6 B (fun q => F q ∨ (wS.heap.size ≤ q ∧ q < w6.heap.size)) g (dataS D fd (pieces L s n) (k + 1))) := Lib.hid (hI6.mono (fun q hq => hq.elim (fun h => h.elim .inl (fun h => .inr ⟨h.1, Nat.lt_of_lt_of_le h.2 hF6.size⟩)) (fun h => .inr ⟨Nat.le_trans HWS.out h.1, h.2⟩))
        (fun q hq => hq.elim (fun h => ⟨(HD.out.bound q h).1, Nat.lt_of_lt_of_le (HD.out.bound q h).2 (Nat.le_trans HBS.out.size (Nat.le_trans HWS.out hF6.size))⟩) (fun h => ⟨Nat.le_trans hB (Nat.le_trans HBS.out.size h.1), h.2⟩)))
      have HF6 : Hid (Fr wS w6 F) := Lib.hid (HFr.out.trans hF6 (fun q hq h => h.elim id (fun h => absurd h.1 (by omega))))
      have hk1 : k + 1 ≤ n := hlt
      clear hI6 hF6 e3 hcell
      go_wp2_with fail
      go_roundw
      case rel => first | exact ⟨k + 1, hk1, by go_num, HI6, HF6⟩ | ((repeat apply Exists.intro); exact ⟨⟨k + 1, hk1, by go_num, HI6, HF6⟩, rfl⟩)
      case measure => simp [intOf]; omega
    · have hkn : k = n := by omega
      subst hkn
      go_wp2_with fail
      refine bodyPost_ret (v := .int .i64 0) (by simp [results, Tryd.results23, go_sem]) rfl ⟨k, rfl, HN.out, ?_, (Fr.of_below HBS.out F).trans HFr.out (fun _ _ h => h)⟩
      rw [hL]
      exact HI.out.mono (fun q hq => hq.elim .inl (fun h => .inr ⟨Nat.le_trans HBS.out.size h.1, h.2⟩)) (fun q hq => hq.elim (fun h => ⟨(HD.out.bound q h).1, Nat.lt_of_lt_of_le (HD.out.bound q h).2 (Nat.le_trans HBS.out.size HFr.out.size)⟩) (fun h => ⟨Nat.le_trans hB h.1, h.2⟩))
end Go.Proofs.YtcemageindmbkaaDoor
/- (place).whole: what it returns. -/
namespace Go.Proofs.YtcemageindmbkaaDoor
open Go.RowKit Go.Proofs.YtcemageindmbkaaDoorW.PrintWords
open PSlotBytes

/-- What a sector reads as. -/
def sectR (D : DiskS) (i : Int) : List Int := (getI i D.cached).getD (D.sector i)
/-- A disk that was read n times. -/
def nextN (D : DiskS) (n : Nat) : DiskS := { D with ops := D.ops + n }
theorem nextN_next (D : DiskS) (n : Nat) : (nextN D n).next = nextN D (n + 1) := by
  simp only [nextN, DiskS.next, DiskS.mk.injEq, true_and, and_true]; omega
theorem Calm.nextN {D : DiskS} {m : Nat} : ∀ (n : Nat), Calm D (n + m) → Calm (Proofs.YtcemageindmbkaaDoor.nextN D n) m
  | n, h => by
    have := h.ops
    have := h.writes
    have := h.ok.ops0
    exact ⟨⟨h.ok.s1, h.ok.s2, h.ok.len, (by show 0 ≤ D.ops + n; omega), (by show D.ops + n ≤ _; omega), h.ok.wr0, h.ok.wr1, h.ok.cach⟩, h.planned, (by show D.ops + n + m ≤ _; omega), (by show D.writes + m ≤ _; omega)⟩
theorem read_good {D : DiskS} {i : Int} (hp : D.planned = []) (h0 : 0 ≤ i) (h1 : i < D.sectors) : readErr D i = 0 ∧ readB D i = sectR D i := by
  have e : readErr D i = 0 := by
    unfold readErr failsB
    rw [hp, if_neg (by simp), if_neg (by omega)]
  exact ⟨e, by unfold readB; rw [if_pos e]; rfl⟩
theorem plain_row {α : Type} {d : Kd α} {e : Nat} {w : World} {B : Nat} {ok : Nat → Prop} {A : Option Addr} {n c : Nat} {xs : List α} (h : d.R e w B ok (.slice A n c) xs) (hn : 0 < xs.length) : ∃ b, A = some ⟨b, 0, none⟩ := by
  obtain ⟨inner, ho⟩ := Kd.R_own h
  obtain ⟨k, hk⟩ : ∃ k, xs.length = k + 1 := ⟨xs.length - 1, by omega⟩
  rw [hk] at ho
  obtain ⟨b, cap, e1⟩ := ownsRow_succ ho
  injection e1 with e1
  exact ⟨b, e1⟩
/-- The bytes of the sectors behind the first one. -/
def sectsR (D : DiskS) (first : Int) (n : Nat) : List (List Int) := (List.range n).map fun (k : Nat) => sectR D (first + (1 + (k : Int)))

set_option maxRecDepth 100000 in
set_option maxHeartbeats 2000000 in
theorem whole_calls (w : World) (B g p1 p2 : Nat) (F : Nat → Prop) (D : DiskS) (first size : Int) (n m s : Nat) (h1 : w.heap[p1]? = some (.cells #[.pointer (some ⟨g, 0, none⟩)] 29)) (h2 : w.heap[p2]? = some (.cells #[.int .i64 first] 3)) (hD : IsDisk w B F g D) (hcm : Calm D (n + 1)) (hf : 0 ≤ first) (hfn : first + n < D.sectors)
    (hp1 : p1 ≠ g) (hp2 : p2 ≠ g) (hn : n ≤ 16777216) (hs1 : 1 ≤ s) (hb : ∀ l ∈ sectsR D first n, InB l ∧ l.length = s) (hns : n * s ≤ 16777216) (hm : m ≤ n * s) :
    Calls Tryd.prog 50 #[placeV p1 p2 (n : Int) size, .int .i64 (m : Int)] w fun e w' => ∃ A c, e = .returned (.tuple #[.slice A m c, .int .i64 0]) ∧ m ≤ c ∧ (A = none → c = 0) ∧ CN w' w.heap.size A ((sectsR D first n).flatten.take m) ∧ IsDisk w' B F g (nextN D n) ∧ Fr w w' (fun k => k = g) := by
  have hgl : g < w.heap.size := by
    obtain ⟨_, _, _, _, _, hh, _⟩ := hD
    exact blk_lt hh
  have hsc := (sectors_le hcm.ok).2
  have HD := Lib.hid hD
  have HCM := Lib.hid hcm
  have H1 := Lib.hid h1
  have H2 := Lib.hid h2
  have HBB := Lib.hid hb
  have HFN := Lib.hid hfn
  have HM := Lib.hid hm
  have HNS := Lib.hid hns
  clear h1 h2 hD hcm hb hfn hm hns
  go_enter Tryd.func50, Tryd.ntmps50
  go_wp2_with fail
  generalize hwX : w.alloc (plC p1 p2 (n : Int) size) = wX
  have hBX : Below w.heap.size w wX := hwX ▸ (below_alloc (Below.refl _ _) _)
  have hPX : wX.heap[w.heap.size]? = some (plC p1 p2 (n : Int) size) := hwX ▸ heap_alloc_new w _
  clear hwX
  have HBX := Lib.hid hBX
  have HPX := Lib.hid hPX
  clear hBX hPX
  go_loopw [6, 12] (fun v i wr => ∃ k : Nat, k ≤ n ∧ i = .int .i64 (k : Int) ∧ Hid (KBs.R 27 wr wX.heap.size (fun q => wX.heap.size ≤ q) v (sectsR D first k)) ∧ Hid (IsDisk wr B F g (nextN D k)) ∧ Hid (Fr wX wr (fun q => q = g))) (fun _ i _ => n - (intOf i).toNat)
  case atStart => exact ⟨0, Nat.zero_le _, rfl, Lib.hid (Kd.R_nil _ _ _ _ _), Lib.hid (by have := HD.out.below HBX.out; simpa [nextN] using this), Lib.hid (Fr.refl _ _)⟩
  case round =>
    obtain ⟨k, hk, rfl, HV, HI, HFr⟩ := hrel
    have hXl : w.heap.size < wX.heap.size := blk_lt HPX.out
    by_cases hlt : k < n
    · have e2 := (blk_cell (HFr.out.blk HPX.out (by omega)) 2).trans rfl
      have hq1 := HFr.out.blk ((HBX.out.block _ (blk_lt H1.out)).trans H1.out) hp1
      have hq2 := HFr.out.blk ((HBX.out.block _ (blk_lt H2.out)).trans H2.out) hp2
      have hck := Calm.nextN (D := D) (m := 1) k (by have := HCM.out; exact ⟨this.ok, this.planned, (by have := this.ops; omega), (by have := this.writes; omega)⟩)
      have hfn := HFN.out
      have hrd := rd_calls wr B g p1 p2 F (nextN D k) first (1 + (k : Int)) hq1 hq2 HI.out hck.ok (by omega)
      have hgood := read_good (D := nextN D k) (i := first + (1 + (k : Int))) hck.planned (by omega) (by show first + (1 + (k : Int)) < D.sectors; omega)
      rw [hgood.1, hgood.2, nextN_next] at hrd
      have hss : sectR (nextN D k) (first + (1 + (k : Int))) = sectR D (first + (1 + (k : Int))) := rfl
      rw [hss] at hrd
      have HRD := Lib.hid hrd
      have hwl : wX.heap.size ≤ wr.heap.size := HFr.out.size
      have HWL := Lib.hid hwl
      have hll : (sectsR D first k).length = k := by simp [sectsR]
      have HLL := Lib.hid hll
      clear hq1 hq2 hck hfn hrd hgood hss hwl hll
      go_wp2_with fail
      refine HRD.out.mono ?_
      rintro e w6 ⟨v6, rfl, hR6, hI6, hF6⟩
      have HR6 := Lib.hid hR6
      have HI6 := Lib.hid hI6
      have HF6 := Lib.hid hF6
      have hV6 := Kd.R_step HV.out (fun q hq hq2 => hF6.block q hq2 (fun e => by have : wX.heap.size ≤ q := hq; omega))
      have HV6 := Lib.hid hV6
      obtain ⟨A6, c6, rfl, -, -⟩ := Kd.R_reads HR6.out
      clear hR6 hI6 hF6 hV6 e2
      go_wp2_with ((with_reducible refine gate_dst (N := 29) rfl ?_); refine Kd.R_append KBs (w0 := w6) wX.heap.size rfl _ _ 81 27 (.slice none 0 0) 24 rfl Tryd.underlying81 infoS rfl (by decide) (by decide) u6 (sectsR D first k) (sectR D (first + (1 + (k : Int)))) [.slice A6 (sectR D (first + (1 + (k : Int)))).length c6] (fun q => wX.heap.size ≤ q) (fun q => wr.heap.size ≤ q) rfl rfl ⟨_, rfl, Kd.R_lower HR6.out HWL.out⟩ (fun q hq => ⟨Nat.le_trans HWL.out hq, fun e => absurd (Kd.R_lt HV.out q e.symm) (by omega)⟩) (fun q hq => Nat.le_trans HWL.out (Nat.le_trans HF6.out.size hq)) HV6.out (Below.mono (Below.refl _ _) (Nat.le_trans HWL.out HF6.out.size)) (Nat.le_trans HWL.out HF6.out.size) (by rw [HLL.out]; exact piece_bytes (by omega)) ?_; intro v1 w7 HV1 HB1 HG1 _)
      have r1 : Hid (KBs.R 27 w7 wX.heap.size (fun q => wX.heap.size ≤ q) v1 (sectsR D first (k + 1))) := Lib.hid (by have e1 : sectsR D first (k + 1) = sectsR D first k ++ [sectR D (first + (1 + (k : Int)))] := (by simp [sectsR, List.range_succ]); rw [e1]; exact HV1)
      have r2 : Hid (IsDisk w7 B F g (nextN D (k + 1))) := Lib.hid (HI6.out.step HB1.size (fun q hq => HB1.block q (by have := (HD.out.bound q hq).2; omega)))
      have r3 : Hid (Fr wX w7 (fun q => q = g)) := Lib.hid ((HFr.out.trans HF6.out (fun _ _ h => h)).trans (S2 := fun q => wX.heap.size ≤ q) ⟨HB1.os, HB1.tape, HB1.output, HB1.size, fun q _ hq => HB1.block q (by omega)⟩ (fun q h1 h2 => absurd h2 (by omega)))
      have hk1 : k + 1 ≤ n := hlt
      clear HV1 HB1 HG1
      go_roundw
      case rel => first | exact ⟨k + 1, hk1, by go_num, r1, r2, r3⟩ | ((repeat apply Exists.intro); exact ⟨⟨k + 1, hk1, by go_num, r1, r2, r3⟩, rfl⟩)
      case measure => simp [intOf]; omega
    · have hkn : k = n := by omega
      subst hkn
      obtain ⟨Al, cl, rfl, hcl, hCl⟩ := Kd.R_reads HV.out
      have hll : (sectsR D first k).length = k := by simp [sectsR]
      have hpr : 0 < (sectsR D first k).length → ∃ b, Al = some ⟨b, 0, none⟩ := fun h => plain_row HV.out h
      obtain ⟨bb, hbb⟩ : ∃ b, 0 < (sectsR D first k).length → Al = some ⟨b, 0, none⟩ := by
        by_cases h : 0 < (sectsR D first k).length
        · obtain ⟨b, e⟩ := hpr h; exact ⟨b, fun _ => e⟩
        · exact ⟨0, fun h2 => absurd h2 h⟩
      have hfl : (sectsR D first k).flatten.length = k * s := by
        rw [List.length_flatten]
        have : ∀ (L : List (List Int)), (∀ l ∈ L, l.length = s) → (L.map List.length).sum = L.length * s := by
          intro L
          induction L with
          | nil => simp
          | cons x L ih => intro h; rw [List.map_cons, List.sum_cons, ih (fun l hl => h l (List.mem_cons_of_mem _ hl)), h x (List.mem_cons_self ..), List.length_cons, Nat.add_mul]; omega
        rw [this _ (fun l hl => (HBB.out l hl).2), hll]
      have HG := Lib.hid (glue_calls bb 0 cl m (sectsR D first k) wr Al hbb hCl hcl (fun l hl => ⟨(HBB.out l hl).1, by rw [(HBB.out l hl).2]; omega⟩) (by omega) (by rw [hfl]; exact HNS.out) (by rw [hfl]; exact HM.out))
      clear hCl hpr hbb hfl hcl
      rw [hll]
      rw [hll] at HG
      go_wp2_with fail
      refine HG.out.mono ?_
      rintro e w8 ⟨A', c', rfl, hmc, hnil, hCN, hb8⟩
      have HCN := Lib.hid hCN
      have HB8 := Lib.hid hb8
      clear hCN hb8
      go_wp2_with fail
      go_ret2
      exact ⟨A', c', rfl, hmc, hnil, HCN.out.lower (Nat.le_trans HBX.out.size HFr.out.size), HI.out.below HB8.out, ((Fr.of_below HBX.out _).trans HFr.out (fun _ _ h => h)).thenB HB8.out⟩
end Go.Proofs.YtcemageindmbkaaDoor
/- slot.Read: what it returns. -/
namespace Go.Proofs.YtcemageindmbkaaDoor
open Go.RowKit Go.Proofs.YtcemageindmbkaaDoorW.PrintWords
open PSlotBytes

abbrev zeroSl : Value := .agg #[.int .i64 0, .int .i64 0, .int .u64 0, .slice none 0 0]
abbrev slC : Obj := .cells #[.int .i64 0, .int .i64 0, .int .u64 0, .slice none 0 0] 37
/-- The box of the chips, and the result's, in a world that has come of w0. -/
structure Rd2 (w0 W : World) (a b c : Int) : Prop where
  below : Below w0.heap.size w0 W
  b0 : W.heap[w0.heap.size]? = some (.cells #[.int .i64 a, .int .i64 b, .int .i64 c] 23)
  b1 : W.heap[w0.heap.size + 1]? = some slC
theorem Rd2.made (w0 : World) (a b c : Int) : Rd2 w0 ((w0.alloc (.cells #[.int .i64 a, .int .i64 b, .int .i64 c] 23)).alloc slC) a b c :=
  ⟨below_alloc (below_alloc (Below.refl _ _) _) _, blk_alloc (heap_alloc_new w0 _) _, by simpa using heap_alloc_new (w0.alloc (.cells #[.int .i64 a, .int .i64 b, .int .i64 c] 23)) slC⟩
theorem Rd2.step {w0 W W' : World} {a b c : Int} (h : Rd2 w0 W a b c) (hb : Below W.heap.size W W') : Rd2 w0 W' a b c :=
  ⟨below_via h.below hb, (hb.block _ (blk_lt h.b0)).trans h.b0, (hb.block _ (blk_lt h.b1)).trans h.b1⟩
theorem Rd2.cells {w0 W : World} {a b c : Int} (h : Rd2 w0 W a b c) : (W.cell? ⟨w0.heap.size, 0, none⟩ = some (.int .i64 a) ∧ W.cell? ⟨w0.heap.size, 1, none⟩ = some (.int .i64 b) ∧ W.cell? ⟨w0.heap.size, 2, none⟩ = some (.int .i64 c)) ∧
    (W.cell? ⟨w0.heap.size + 1, 0, none⟩ = some (.int .i64 0) ∧ W.cell? ⟨w0.heap.size + 1, 1, none⟩ = some (.int .i64 0) ∧ W.cell? ⟨w0.heap.size + 1, 2, none⟩ = some (.int .u64 0) ∧ W.cell? ⟨w0.heap.size + 1, 3, none⟩ = some (.slice none 0 0)) ∧
    (W.frozen? ⟨w0.heap.size + 1, 0, none⟩ = false ∧ W.frozen? ⟨w0.heap.size + 1, 1, none⟩ = false ∧ W.frozen? ⟨w0.heap.size + 1, 2, none⟩ = false ∧ W.frozen? ⟨w0.heap.size + 1, 3, none⟩ = false) :=
  ⟨⟨(blk_cell h.b0 0).trans rfl, (blk_cell h.b0 1).trans rfl, (blk_cell h.b0 2).trans rfl⟩, ⟨(blk_cell h.b1 0).trans rfl, (blk_cell h.b1 1).trans rfl, (blk_cell h.b1 2).trans rfl, (blk_cell h.b1 3).trans rfl⟩, blk_frozen h.b1 0, blk_frozen h.b1 1, blk_frozen h.b1 2, blk_frozen h.b1 3⟩

/-- The same behind a read of the disk at g. -/
structure Rd3 (w0 W : World) (g : Nat) (a b c : Int) : Prop where
  fr : Fr w0 W (fun k => k = g)
  b0 : W.heap[w0.heap.size]? = some (.cells #[.int .i64 a, .int .i64 b, .int .i64 c] 23)
  b1 : W.heap[w0.heap.size + 1]? = some slC
theorem Rd3.step {w0 W W' : World} {g : Nat} {a b c : Int} (h : Rd3 w0 W g a b c) (hb : Below W.heap.size W W') : Rd3 w0 W' g a b c :=
  ⟨h.fr.thenB hb, (hb.block _ (blk_lt h.b0)).trans h.b0, (hb.block _ (blk_lt h.b1)).trans h.b1⟩
theorem Rd3.cells {w0 W : World} {g : Nat} {a b c : Int} (h : Rd3 w0 W g a b c) : (W.cell? ⟨w0.heap.size, 0, none⟩ = some (.int .i64 a) ∧ W.cell? ⟨w0.heap.size, 1, none⟩ = some (.int .i64 b) ∧ W.cell? ⟨w0.heap.size, 2, none⟩ = some (.int .i64 c)) ∧
    (W.cell? ⟨w0.heap.size + 1, 0, none⟩ = some (.int .i64 0) ∧ W.cell? ⟨w0.heap.size + 1, 1, none⟩ = some (.int .i64 0) ∧ W.cell? ⟨w0.heap.size + 1, 2, none⟩ = some (.int .u64 0) ∧ W.cell? ⟨w0.heap.size + 1, 3, none⟩ = some (.slice none 0 0)) ∧
    (W.frozen? ⟨w0.heap.size + 1, 0, none⟩ = false ∧ W.frozen? ⟨w0.heap.size + 1, 1, none⟩ = false ∧ W.frozen? ⟨w0.heap.size + 1, 2, none⟩ = false ∧ W.frozen? ⟨w0.heap.size + 1, 3, none⟩ = false) :=
  ⟨⟨(blk_cell h.b0 0).trans rfl, (blk_cell h.b0 1).trans rfl, (blk_cell h.b0 2).trans rfl⟩, ⟨(blk_cell h.b1 0).trans rfl, (blk_cell h.b1 1).trans rfl, (blk_cell h.b1 2).trans rfl, (blk_cell h.b1 3).trans rfl⟩, blk_frozen h.b1 0, blk_frozen h.b1 1, blk_frozen h.b1 2, blk_frozen h.b1 3⟩

theorem rd_fin {w W W9 : World} {g : Nat} (h : Fr w W (fun k => k = g)) (hb : Below (w.heap.size + 1) W W9) : Fr w W9 (fun k => k = g) :=
  h.trans (S2 := fun q => w.heap.size + 1 ≤ q) ⟨hb.os, hb.tape, hb.output, hb.size, fun q _ hq => hb.block q (by omega)⟩ (fun q h1 h2 => absurd h2 (by omega))
set_option maxRecDepth 100000 in
theorem rd_err (w : World) (B g : Nat) (F : Nat → Prop) (D : DiskS) (which a b c : Int) (hl : Laid w) (hD : IsDisk w B F g D) (hok : DiskOk D) (h : atE D which a b c ≠ 0) :
    Calls Tryd.prog 15 #[.pointer (some ⟨g, 0, none⟩), .int .i64 which, .agg #[.int .i64 a, .int .i64 b, .int .i64 c]] w fun e w' => e = .returned (.tuple #[zeroSl, .int .i64 (atE D which a b c)]) ∧ Below w.heap.size w w' := by
  have HA := Lib.hid (fun (W : World) (hW : Below w.heap.size w W) => at_err W B g F D which a b c (hl.of_below hW) (hD.below hW) hok h)
  have sn : ∀ (m : Mode) (x : Addr) (w : World), (store x Value.nilFunc m).run Tryd.prog w = stored Tryd.prog w x Value.nilFunc m := fun m x w => run_store Tryd.prog w x _ m rfl
  clear hl hD hok
  generalize atE D which a b c = E at *
  go_enter Tryd.func15, Tryd.ntmps15
  go_wp2_with fail
  have HX := Lib.hid (Rd2.made w a b c)
  generalize (w.alloc (.cells #[.int .i64 a, .int .i64 b, .int .i64 c] 23)).alloc slC = wX at *
  refine (HA.out _ HX.out.below).mono ?_
  rintro e w1 ⟨rfl, hb1⟩
  have H1 := Lib.hid ((HX.out.step hb1).step (below_alloc (Below.refl _ _) (.cells #[.int .i64 0, .int .i64 0, .nilFunc, .nilFunc] 87)))
  obtain ⟨-, ⟨k0, k1, k2, k3⟩, f0, f1, f2, f3⟩ := H1.out.cells
  clear hb1
  go_wp2_with fail
  obtain ⟨W9, hW9, ⟨l0, l1, l2, l3⟩, hbel, hsz9, hrest⟩ := set4 (.int .i64 0) (.int .i64 0) (.int .u64 0) (.slice none 0 0) ⟨k0, k1, k2, k3⟩
  rw [← hW9]
  clear hW9 k0 k1 k2 k3 f0 f1 f2 f3
  refine bodyPost_ret (v := .tuple #[zeroSl, .int .i64 E]) (by simp [results, Tryd.results15, go_sem, l0, l1, l2, l3]) rfl ?_
  exact ⟨rfl, hbel _ _ H1.out.below (by omega)⟩

set_option maxRecDepth 100000 in
set_option maxHeartbeats 400000 in
theorem rd_bad (w : World) (B g : Nat) (F : Nat → Prop) (D : DiskS) (which a b c : Int) (s : Nat) (hl : Laid w) (hD : IsDisk w B F g D) (hcm : Calm D 100000) (hB0 : 0 < B) (h : atE D which a b c = 0) (hs : D.size = s) (x5 x6 x7 hn q u E : Int) 
    (hlen0 : (sectR D (which * spanF D.size a b c)).length = s) (hin0 : InB (sectR D (which * spanF D.size a b c))) (hdv : decV (sectR D (which * spanF D.size a b c)) = .agg #[.int .i64 x5, .int .i64 x6, .int .i64 x7, .int .i64 hn, .int .u64 q, .int .u32 u]) (hde : decE (sectR D (which * spanF D.size a b c)) = E) (hE : E ≠ 0) :
    Calls Tryd.prog 15 #[.pointer (some ⟨g, 0, none⟩), .int .i64 which, .agg #[.int .i64 a, .int .i64 b, .int .i64 c]] w fun e w' => e = .returned (.tuple #[.agg #[.int .i64 0, .int .i64 E, .int .u64 0, .slice none 0 0], .int .i64 0]) ∧ IsDisk w' B F g D.next ∧ Fr w w' (fun k => k = g) := by
  obtain ⟨h1, h2, h3, h4, h5⟩ := atE_ok h
  have hok := hcm.ok
  have HA := Lib.hid (fun (W : World) (hW : Below w.heap.size w W) => at_ok W B g F D which a b c (hl.of_below hW) (hD.below hW) hok h1 h2 h3 h4 h5)
  have hsp := spanF_bd D.size a b c
  have hfi : 0 ≤ which * spanF D.size a b c ∧ which * spanF D.size a b c ≤ spanF D.size a b c := by
    have h01 : which = 0 ∨ which = 1 := by omega
    rcases h01 with rfl | rfl
    · rw [Int.zero_mul]; omega
    · rw [Int.one_mul]; omega
  have hspe : spanF D.size a b c = 1 + sectorsF (totalF a b c) D.size := by unfold spanF; rw [if_pos ⟨h1, h4, hok.s2⟩]
  have hsn : 0 ≤ sectorsF (totalF a b c) D.size := (sectorsF_bd _ _ (totalF_bd a b c).1).1
  rw [hs] at HA hfi h4 hspe h5 hsp hsn
  rw [hs] at hlen0 hin0 hdv hde
  generalize hspg : spanF (s : Int) a b c = sp at *
  generalize hfd : which * sp = fd at *
  have hgood := read_good (D := D) (i := fd) hcm.planned (by omega) (by omega)
  have hrd := fun (W : World) p1 p2 q1 q2 hD => rd_calls W B g p1 p2 F D fd 0 q1 q2 hD hok (by omega)
  simp only [Int.add_zero, hgood.1, hgood.2] at hrd
  have HRD := Lib.hid hrd
  generalize hsec : sectR D fd = l0 at *
  have hdc := fun (W : World) bb o cc hl hC hc => decode_calls bb o cc l0 W hl hC hc hin0
  rw [hdv, hde] at hdc
  have HDC := Lib.hid hdc
  have sn : ∀ (m : Mode) (x : Addr) (w : World), (store x Value.nilFunc m).run Tryd.prog w = stored Tryd.prog w x Value.nilFunc m := fun m x w => run_store Tryd.prog w x _ m rfl
  have sf : ∀ (fn : Fn) (u v : Array Value) (m : Mode) (x : Addr) (w : World), (store x (Value.func fn u v) m).run Tryd.prog w = stored Tryd.prog w x (Value.func fn u v) m := fun fn u v m x w => run_store Tryd.prog w x _ m rfl
  have HD := Lib.hid hD
  have HL := Lib.hid hl
  have HCM := Lib.hid hcm
  have HSPE := Lib.hid hspe
  have HLEN0 := Lib.hid hlen0
  have HS32 : Hid (32 ≤ s) := Lib.hid (by omega)
  have hgl : g < w.heap.size := by
    obtain ⟨_, _, _, _, _, hh, _⟩ := hD
    exact blk_lt hh
  have hFg : F g := by obtain ⟨_, _, _, _, _, _, _, _, _, _, h6, _⟩ := hD; exact h6
  clear hlen0 hl hD hok h h1 h2 h3 h4 h5 hcm hfd hspg hspe hs hgood hrd hsec hdc hdv hde
  go_enter Tryd.func15, Tryd.ntmps15
  go_wp2_with fail
  have HX := Lib.hid (Rd2.made w a b c)
  generalize (w.alloc (.cells #[.int .i64 a, .int .i64 b, .int .i64 c] 23)).alloc slC = wX at *
  refine (HA.out _ HX.out.below).mono ?_
  rintro e w1 ⟨p2, rfl, hb1, hp1, hp2, hle⟩
  have HP1 := Lib.hid hp1
  have HP2 := Lib.hid hp2
  have HX1 := Lib.hid (HX.out.step hb1)
  have hx1 : w.heap.size + 1 < wX.heap.size := blk_lt HX.out.b1
  clear hb1 hp1 hp2
  go_wp2_with fail
  generalize hwP : w1.alloc (plC wX.heap.size p2 (sp - 1) s) = wP
  have hPl : wP.heap[w1.heap.size]? = some (plC wX.heap.size p2 (sp - 1) s) := hwP ▸ heap_alloc_new w1 _
  have hBP : Below w1.heap.size w1 wP := hwP ▸ below_alloc (Below.refl _ _) _
  clear hwP
  have hq1 := (hBP.block _ (blk_lt HP1.out)).trans HP1.out
  have hq2 := (hBP.block _ (blk_lt HP2.out)).trans HP2.out
  have HXP := Lib.hid (HX1.out.step hBP)
  have hw1 : wX.heap.size < w1.heap.size := blk_lt HP1.out
  have HQ1 := Lib.hid hq1
  have HQ2 := Lib.hid hq2
  have HPL := Lib.hid hPl
  clear hBP hPl hq1 hq2
  refine (HRD.out wP _ _ HQ1.out HQ2.out (HD.out.below HXP.out.below)).mono ?_
  rintro e w2 ⟨v2, rfl, hR2, hI2, hF2⟩
  have hx2 : Rd3 w w2 g a b c := ⟨(Fr.of_below HXP.out.below _).trans hF2 (fun _ _ h => h), hF2.blk HXP.out.b0 (by omega), hF2.blk HXP.out.b1 (by omega)⟩
  have hpl2 := hF2.blk HPL.out (by omega)
  have hq1 := hF2.blk HQ1.out (by omega)
  have hq2 := hF2.blk HQ2.out (by omega)
  obtain ⟨A2, c2, rfl, hc2, hC2⟩ := Kd.R_reads hR2
  obtain ⟨bb, rfl⟩ := plain_row hR2 (by rw [HLEN0.out]; have := HS32.out; omega)
  have HX2 := Lib.hid hx2
  have HPL2 := Lib.hid hpl2
  have HQ12 := Lib.hid hq1
  have HQ22 := Lib.hid hq2
  have HI2 := Lib.hid hI2
  have HDEC := Lib.hid (HDC.out w2 bb 0 c2 ((HL.out.of_below HXP.out.below).of_kept hF2.kept (by have := (HD.out.bound g hFg).1; omega)) hC2 hc2)
  clear hF2 hx2 hpl2 hq1 hq2 hI2 hR2 hC2 hc2
  go_wp2_with fail
  refine HDEC.out.mono ?_
  rintro e w3 ⟨rfl, hb3⟩
  have HX3 := Lib.hid ((HX2.out.step hb3).step (below_alloc (Below.refl _ _) (.cells #[.int .i64 x5, .int .i64 x6, .int .i64 x7, .int .i64 hn, .int .u64 q, .int .u32 u] 93)))
  have hb3' := below_via hb3 (below_alloc (Below.refl w3.heap.size w3) (.cells #[.int .i64 x5, .int .i64 x6, .int .i64 x7, .int .i64 hn, .int .u64 q, .int .u32 u] 93))
  have HI3 := Lib.hid (HI2.out.below hb3')
  have HPL3 := Lib.hid ((hb3'.block _ (blk_lt HPL2.out)).trans HPL2.out)
  have HQ13 := Lib.hid ((hb3'.block _ (blk_lt HQ12.out)).trans HQ12.out)
  have HQ23 := Lib.hid ((hb3'.block _ (blk_lt HQ22.out)).trans HQ22.out)
  clear hb3 hb3'
  obtain ⟨⟨c0, c1, c2⟩, ⟨k0, k1, k2, k3⟩, f0, f1, f2, f3⟩ := HX3.out.cells
  go_wp2_with fail
  obtain ⟨W9, hW9, ⟨l0, l1, l2, l3⟩, hbel, hsz9, hrest⟩ := set4 (.int .i64 0) (.int .i64 E) (.int .u64 0) (.slice none 0 0) ⟨k0, k1, k2, k3⟩
  rw [← hW9]
  clear hW9 k0 k1 k2 k3 f0 f1 f2 f3
  refine bodyPost_ret (v := .tuple #[.agg #[.int .i64 0, .int .i64 E, .int .u64 0, .slice none 0 0], .int .i64 0]) (by simp [results, Tryd.results15, go_sem, l0, l1, l2, l3]) rfl ?_
  have hb9 := hbel (w.heap.size + 1) _ (Below.refl _ _) (Nat.le_refl _)
  exact ⟨rfl, HI3.out.step hb9.size (fun q hq => hb9.block q (by have := (HD.out.bound q hq).2; omega)), rd_fin HX3.out.fr hb9⟩
set_option maxRecDepth 100000 in
set_option maxHeartbeats 400000 in
theorem rd_al1 (w : World) (B g : Nat) (F : Nat → Prop) (D : DiskS) (which a b c : Int) (s : Nat) (hl : Laid w) (hD : IsDisk w B F g D) (hcm : Calm D 100000) (hB0 : 0 < B) (h : atE D which a b c = 0) (hs : D.size = s) (x5 x6 x7 hn q u : Int) 
    (hlen0 : (sectR D (which * spanF D.size a b c)).length = s) (hin0 : InB (sectR D (which * spanF D.size a b c))) (hdv : decV (sectR D (which * spanF D.size a b c)) = .agg #[.int .i64 x5, .int .i64 x6, .int .i64 x7, .int .i64 hn, .int .u64 q, .int .u32 u]) (hde : decE (sectR D (which * spanF D.size a b c)) = 0) (hne : x5 ≠ a) :
    Calls Tryd.prog 15 #[.pointer (some ⟨g, 0, none⟩), .int .i64 which, .agg #[.int .i64 a, .int .i64 b, .int .i64 c]] w fun e w' => e = .returned (.tuple #[.agg #[.int .i64 1, .int .i64 0, .int .u64 0, .slice none 0 0], .int .i64 0]) ∧ IsDisk w' B F g D.next ∧ Fr w w' (fun k => k = g) := by
  obtain ⟨h1, h2, h3, h4, h5⟩ := atE_ok h
  have hok := hcm.ok
  have HA := Lib.hid (fun (W : World) (hW : Below w.heap.size w W) => at_ok W B g F D which a b c (hl.of_below hW) (hD.below hW) hok h1 h2 h3 h4 h5)
  have hsp := spanF_bd D.size a b c
  have hfi : 0 ≤ which * spanF D.size a b c ∧ which * spanF D.size a b c ≤ spanF D.size a b c := by
    have h01 : which = 0 ∨ which = 1 := by omega
    rcases h01 with rfl | rfl
    · rw [Int.zero_mul]; omega
    · rw [Int.one_mul]; omega
  have hspe : spanF D.size a b c = 1 + sectorsF (totalF a b c) D.size := by unfold spanF; rw [if_pos ⟨h1, h4, hok.s2⟩]
  have hsn : 0 ≤ sectorsF (totalF a b c) D.size := (sectorsF_bd _ _ (totalF_bd a b c).1).1
  rw [hs] at HA hfi h4 hspe h5 hsp hsn
  rw [hs] at hlen0 hin0 hdv hde
  generalize hspg : spanF (s : Int) a b c = sp at *
  generalize hfd : which * sp = fd at *
  have hgood := read_good (D := D) (i := fd) hcm.planned (by omega) (by omega)
  have hrd := fun (W : World) p1 p2 q1 q2 hD => rd_calls W B g p1 p2 F D fd 0 q1 q2 hD hok (by omega)
  simp only [Int.add_zero, hgood.1, hgood.2] at hrd
  have HRD := Lib.hid hrd
  generalize hsec : sectR D fd = l0 at *
  have hdc := fun (W : World) bb o cc hl hC hc => decode_calls bb o cc l0 W hl hC hc hin0
  rw [hdv, hde] at hdc
  have HDC := Lib.hid hdc
  have sn : ∀ (m : Mode) (x : Addr) (w : World), (store x Value.nilFunc m).run Tryd.prog w = stored Tryd.prog w x Value.nilFunc m := fun m x w => run_store Tryd.prog w x _ m rfl
  have sf : ∀ (fn : Fn) (u v : Array Value) (m : Mode) (x : Addr) (w : World), (store x (Value.func fn u v) m).run Tryd.prog w = stored Tryd.prog w x (Value.func fn u v) m := fun fn u v m x w => run_store Tryd.prog w x _ m rfl
  have HD := Lib.hid hD
  have HL := Lib.hid hl
  have HCM := Lib.hid hcm
  have HSPE := Lib.hid hspe
  have HLEN0 := Lib.hid hlen0
  have HS32 : Hid (32 ≤ s) := Lib.hid (by omega)
  have hgl : g < w.heap.size := by
    obtain ⟨_, _, _, _, _, hh, _⟩ := hD
    exact blk_lt hh
  have hFg : F g := by obtain ⟨_, _, _, _, _, _, _, _, _, _, h6, _⟩ := hD; exact h6
  clear hlen0 hl hD hok h h1 h2 h3 h4 h5 hcm hfd hspg hspe hs hgood hrd hsec hdc hdv hde
  go_enter Tryd.func15, Tryd.ntmps15
  go_wp2_with fail
  have HX := Lib.hid (Rd2.made w a b c)
  generalize (w.alloc (.cells #[.int .i64 a, .int .i64 b, .int .i64 c] 23)).alloc slC = wX at *
  refine (HA.out _ HX.out.below).mono ?_
  rintro e w1 ⟨p2, rfl, hb1, hp1, hp2, hle⟩
  have HP1 := Lib.hid hp1
  have HP2 := Lib.hid hp2
  have HX1 := Lib.hid (HX.out.step hb1)
  have hx1 : w.heap.size + 1 < wX.heap.size := blk_lt HX.out.b1
  clear hb1 hp1 hp2
  go_wp2_with fail
  generalize hwP : w1.alloc (plC wX.heap.size p2 (sp - 1) s) = wP
  have hPl : wP.heap[w1.heap.size]? = some (plC wX.heap.size p2 (sp - 1) s) := hwP ▸ heap_alloc_new w1 _
  have hBP : Below w1.heap.size w1 wP := hwP ▸ below_alloc (Below.refl _ _) _
  clear hwP
  have hq1 := (hBP.block _ (blk_lt HP1.out)).trans HP1.out
  have hq2 := (hBP.block _ (blk_lt HP2.out)).trans HP2.out
  have HXP := Lib.hid (HX1.out.step hBP)
  have hw1 : wX.heap.size < w1.heap.size := blk_lt HP1.out
  have HQ1 := Lib.hid hq1
  have HQ2 := Lib.hid hq2
  have HPL := Lib.hid hPl
  clear hBP hPl hq1 hq2
  refine (HRD.out wP _ _ HQ1.out HQ2.out (HD.out.below HXP.out.below)).mono ?_
  rintro e w2 ⟨v2, rfl, hR2, hI2, hF2⟩
  have hx2 : Rd3 w w2 g a b c := ⟨(Fr.of_below HXP.out.below _).trans hF2 (fun _ _ h => h), hF2.blk HXP.out.b0 (by omega), hF2.blk HXP.out.b1 (by omega)⟩
  have hpl2 := hF2.blk HPL.out (by omega)
  have hq1 := hF2.blk HQ1.out (by omega)
  have hq2 := hF2.blk HQ2.out (by omega)
  obtain ⟨A2, c2, rfl, hc2, hC2⟩ := Kd.R_reads hR2
  obtain ⟨bb, rfl⟩ := plain_row hR2 (by rw [HLEN0.out]; have := HS32.out; omega)
  have HX2 := Lib.hid hx2
  have HPL2 := Lib.hid hpl2
  have HQ12 := Lib.hid hq1
  have HQ22 := Lib.hid hq2
  have HI2 := Lib.hid hI2
  have HDEC := Lib.hid (HDC.out w2 bb 0 c2 ((HL.out.of_below HXP.out.below).of_kept hF2.kept (by have := (HD.out.bound g hFg).1; omega)) hC2 hc2)
  clear hF2 hx2 hpl2 hq1 hq2 hI2 hR2 hC2 hc2
  go_wp2_with fail
  refine HDEC.out.mono ?_
  rintro e w3 ⟨rfl, hb3⟩
  have HX3 := Lib.hid ((HX2.out.step hb3).step (below_alloc (Below.refl _ _) (.cells #[.int .i64 x5, .int .i64 x6, .int .i64 x7, .int .i64 hn, .int .u64 q, .int .u32 u] 93)))
  have hb3' := below_via hb3 (below_alloc (Below.refl w3.heap.size w3) (.cells #[.int .i64 x5, .int .i64 x6, .int .i64 x7, .int .i64 hn, .int .u64 q, .int .u32 u] 93))
  have HI3 := Lib.hid (HI2.out.below hb3')
  have HPL3 := Lib.hid ((hb3'.block _ (blk_lt HPL2.out)).trans HPL2.out)
  have HQ13 := Lib.hid ((hb3'.block _ (blk_lt HQ12.out)).trans HQ12.out)
  have HQ23 := Lib.hid ((hb3'.block _ (blk_lt HQ22.out)).trans HQ22.out)
  clear hb3 hb3'
  obtain ⟨⟨c0, c1, c2⟩, ⟨k0, k1, k2, k3⟩, f0, f1, f2, f3⟩ := HX3.out.cells
  go_wp2_with fail
  obtain ⟨W9, hW9, ⟨l0, l1, l2, l3⟩, hbel, hsz9, hrest⟩ := set4 (.int .i64 1) (.int .i64 0) (.int .u64 0) (.slice none 0 0) ⟨k0, k1, k2, k3⟩
  rw [← hW9]
  clear hW9 k0 k1 k2 k3 f0 f1 f2 f3
  refine bodyPost_ret (v := .tuple #[.agg #[.int .i64 1, .int .i64 0, .int .u64 0, .slice none 0 0], .int .i64 0]) (by simp [results, Tryd.results15, go_sem, l0, l1, l2, l3]) rfl ?_
  have hb9 := hbel (w.heap.size + 1) _ (Below.refl _ _) (Nat.le_refl _)
  exact ⟨rfl, HI3.out.step hb9.size (fun q hq => hb9.block q (by have := (HD.out.bound q hq).2; omega)), rd_fin HX3.out.fr hb9⟩
set_option maxRecDepth 100000 in
set_option maxHeartbeats 400000 in
theorem rd_al2 (w : World) (B g : Nat) (F : Nat → Prop) (D : DiskS) (which a b c : Int) (s : Nat) (hl : Laid w) (hD : IsDisk w B F g D) (hcm : Calm D 100000) (hB0 : 0 < B) (h : atE D which a b c = 0) (hs : D.size = s) (x6 x7 hn q u : Int) 
    (hlen0 : (sectR D (which * spanF D.size a b c)).length = s) (hin0 : InB (sectR D (which * spanF D.size a b c))) (hdv : decV (sectR D (which * spanF D.size a b c)) = .agg #[.int .i64 a, .int .i64 x6, .int .i64 x7, .int .i64 hn, .int .u64 q, .int .u32 u]) (hde : decE (sectR D (which * spanF D.size a b c)) = 0) (hne : x6 ≠ b) :
    Calls Tryd.prog 15 #[.pointer (some ⟨g, 0, none⟩), .int .i64 which, .agg #[.int .i64 a, .int .i64 b, .int .i64 c]] w fun e w' => e = .returned (.tuple #[.agg #[.int .i64 1, .int .i64 0, .int .u64 0, .slice none 0 0], .int .i64 0]) ∧ IsDisk w' B F g D.next ∧ Fr w w' (fun k => k = g) := by
  obtain ⟨h1, h2, h3, h4, h5⟩ := atE_ok h
  have hok := hcm.ok
  have HA := Lib.hid (fun (W : World) (hW : Below w.heap.size w W) => at_ok W B g F D which a b c (hl.of_below hW) (hD.below hW) hok h1 h2 h3 h4 h5)
  have hsp := spanF_bd D.size a b c
  have hfi : 0 ≤ which * spanF D.size a b c ∧ which * spanF D.size a b c ≤ spanF D.size a b c := by
    have h01 : which = 0 ∨ which = 1 := by omega
    rcases h01 with rfl | rfl
    · rw [Int.zero_mul]; omega
    · rw [Int.one_mul]; omega
  have hspe : spanF D.size a b c = 1 + sectorsF (totalF a b c) D.size := by unfold spanF; rw [if_pos ⟨h1, h4, hok.s2⟩]
  have hsn : 0 ≤ sectorsF (totalF a b c) D.size := (sectorsF_bd _ _ (totalF_bd a b c).1).1
  rw [hs] at HA hfi h4 hspe h5 hsp hsn
  rw [hs] at hlen0 hin0 hdv hde
  generalize hspg : spanF (s : Int) a b c = sp at *
  generalize hfd : which * sp = fd at *
  have hgood := read_good (D := D) (i := fd) hcm.planned (by omega) (by omega)
  have hrd := fun (W : World) p1 p2 q1 q2 hD => rd_calls W B g p1 p2 F D fd 0 q1 q2 hD hok (by omega)
  simp only [Int.add_zero, hgood.1, hgood.2] at hrd
  have HRD := Lib.hid hrd
  generalize hsec : sectR D fd = l0 at *
  have hdc := fun (W : World) bb o cc hl hC hc => decode_calls bb o cc l0 W hl hC hc hin0
  rw [hdv, hde] at hdc
  have HDC := Lib.hid hdc
  have sn : ∀ (m : Mode) (x : Addr) (w : World), (store x Value.nilFunc m).run Tryd.prog w = stored Tryd.prog w x Value.nilFunc m := fun m x w => run_store Tryd.prog w x _ m rfl
  have sf : ∀ (fn : Fn) (u v : Array Value) (m : Mode) (x : Addr) (w : World), (store x (Value.func fn u v) m).run Tryd.prog w = stored Tryd.prog w x (Value.func fn u v) m := fun fn u v m x w => run_store Tryd.prog w x _ m rfl
  have HD := Lib.hid hD
  have HL := Lib.hid hl
  have HCM := Lib.hid hcm
  have HSPE := Lib.hid hspe
  have HLEN0 := Lib.hid hlen0
  have HS32 : Hid (32 ≤ s) := Lib.hid (by omega)
  have hgl : g < w.heap.size := by
    obtain ⟨_, _, _, _, _, hh, _⟩ := hD
    exact blk_lt hh
  have hFg : F g := by obtain ⟨_, _, _, _, _, _, _, _, _, _, h6, _⟩ := hD; exact h6
  clear hlen0 hl hD hok h h1 h2 h3 h4 h5 hcm hfd hspg hspe hs hgood hrd hsec hdc hdv hde
  go_enter Tryd.func15, Tryd.ntmps15
  go_wp2_with fail
  have HX := Lib.hid (Rd2.made w a b c)
  generalize (w.alloc (.cells #[.int .i64 a, .int .i64 b, .int .i64 c] 23)).alloc slC = wX at *
  refine (HA.out _ HX.out.below).mono ?_
  rintro e w1 ⟨p2, rfl, hb1, hp1, hp2, hle⟩
  have HP1 := Lib.hid hp1
  have HP2 := Lib.hid hp2
  have HX1 := Lib.hid (HX.out.step hb1)
  have hx1 : w.heap.size + 1 < wX.heap.size := blk_lt HX.out.b1
  clear hb1 hp1 hp2
  go_wp2_with fail
  generalize hwP : w1.alloc (plC wX.heap.size p2 (sp - 1) s) = wP
  have hPl : wP.heap[w1.heap.size]? = some (plC wX.heap.size p2 (sp - 1) s) := hwP ▸ heap_alloc_new w1 _
  have hBP : Below w1.heap.size w1 wP := hwP ▸ below_alloc (Below.refl _ _) _
  clear hwP
  have hq1 := (hBP.block _ (blk_lt HP1.out)).trans HP1.out
  have hq2 := (hBP.block _ (blk_lt HP2.out)).trans HP2.out
  have HXP := Lib.hid (HX1.out.step hBP)
  have hw1 : wX.heap.size < w1.heap.size := blk_lt HP1.out
  have HQ1 := Lib.hid hq1
  have HQ2 := Lib.hid hq2
  have HPL := Lib.hid hPl
  clear hBP hPl hq1 hq2
  refine (HRD.out wP _ _ HQ1.out HQ2.out (HD.out.below HXP.out.below)).mono ?_
  rintro e w2 ⟨v2, rfl, hR2, hI2, hF2⟩
  have hx2 : Rd3 w w2 g a b c := ⟨(Fr.of_below HXP.out.below _).trans hF2 (fun _ _ h => h), hF2.blk HXP.out.b0 (by omega), hF2.blk HXP.out.b1 (by omega)⟩
  have hpl2 := hF2.blk HPL.out (by omega)
  have hq1 := hF2.blk HQ1.out (by omega)
  have hq2 := hF2.blk HQ2.out (by omega)
  obtain ⟨A2, c2, rfl, hc2, hC2⟩ := Kd.R_reads hR2
  obtain ⟨bb, rfl⟩ := plain_row hR2 (by rw [HLEN0.out]; have := HS32.out; omega)
  have HX2 := Lib.hid hx2
  have HPL2 := Lib.hid hpl2
  have HQ12 := Lib.hid hq1
  have HQ22 := Lib.hid hq2
  have HI2 := Lib.hid hI2
  have HDEC := Lib.hid (HDC.out w2 bb 0 c2 ((HL.out.of_below HXP.out.below).of_kept hF2.kept (by have := (HD.out.bound g hFg).1; omega)) hC2 hc2)
  clear hF2 hx2 hpl2 hq1 hq2 hI2 hR2 hC2 hc2
  go_wp2_with fail
  refine HDEC.out.mono ?_
  rintro e w3 ⟨rfl, hb3⟩
  have HX3 := Lib.hid ((HX2.out.step hb3).step (below_alloc (Below.refl _ _) (.cells #[.int .i64 a, .int .i64 x6, .int .i64 x7, .int .i64 hn, .int .u64 q, .int .u32 u] 93)))
  have hb3' := below_via hb3 (below_alloc (Below.refl w3.heap.size w3) (.cells #[.int .i64 a, .int .i64 x6, .int .i64 x7, .int .i64 hn, .int .u64 q, .int .u32 u] 93))
  have HI3 := Lib.hid (HI2.out.below hb3')
  have HPL3 := Lib.hid ((hb3'.block _ (blk_lt HPL2.out)).trans HPL2.out)
  have HQ13 := Lib.hid ((hb3'.block _ (blk_lt HQ12.out)).trans HQ12.out)
  have HQ23 := Lib.hid ((hb3'.block _ (blk_lt HQ22.out)).trans HQ22.out)
  clear hb3 hb3'
  obtain ⟨⟨c0, c1, c2⟩, ⟨k0, k1, k2, k3⟩, f0, f1, f2, f3⟩ := HX3.out.cells
  go_wp2_with fail
  obtain ⟨W9, hW9, ⟨l0, l1, l2, l3⟩, hbel, hsz9, hrest⟩ := set4 (.int .i64 1) (.int .i64 0) (.int .u64 0) (.slice none 0 0) ⟨k0, k1, k2, k3⟩
  rw [← hW9]
  clear hW9 k0 k1 k2 k3 f0 f1 f2 f3
  refine bodyPost_ret (v := .tuple #[.agg #[.int .i64 1, .int .i64 0, .int .u64 0, .slice none 0 0], .int .i64 0]) (by simp [results, Tryd.results15, go_sem, l0, l1, l2, l3]) rfl ?_
  have hb9 := hbel (w.heap.size + 1) _ (Below.refl _ _) (Nat.le_refl _)
  exact ⟨rfl, HI3.out.step hb9.size (fun q hq => hb9.block q (by have := (HD.out.bound q hq).2; omega)), rd_fin HX3.out.fr hb9⟩
set_option maxRecDepth 100000 in
set_option maxHeartbeats 400000 in
theorem rd_al3 (w : World) (B g : Nat) (F : Nat → Prop) (D : DiskS) (which a b c : Int) (s : Nat) (hl : Laid w) (hD : IsDisk w B F g D) (hcm : Calm D 100000) (hB0 : 0 < B) (h : atE D which a b c = 0) (hs : D.size = s) (x7 hn q u : Int) 
    (hlen0 : (sectR D (which * spanF D.size a b c)).length = s) (hin0 : InB (sectR D (which * spanF D.size a b c))) (hdv : decV (sectR D (which * spanF D.size a b c)) = .agg #[.int .i64 a, .int .i64 b, .int .i64 x7, .int .i64 hn, .int .u64 q, .int .u32 u]) (hde : decE (sectR D (which * spanF D.size a b c)) = 0) (hne : x7 ≠ c) :
    Calls Tryd.prog 15 #[.pointer (some ⟨g, 0, none⟩), .int .i64 which, .agg #[.int .i64 a, .int .i64 b, .int .i64 c]] w fun e w' => e = .returned (.tuple #[.agg #[.int .i64 1, .int .i64 0, .int .u64 0, .slice none 0 0], .int .i64 0]) ∧ IsDisk w' B F g D.next ∧ Fr w w' (fun k => k = g) := by
  obtain ⟨h1, h2, h3, h4, h5⟩ := atE_ok h
  have hok := hcm.ok
  have HA := Lib.hid (fun (W : World) (hW : Below w.heap.size w W) => at_ok W B g F D which a b c (hl.of_below hW) (hD.below hW) hok h1 h2 h3 h4 h5)
  have hsp := spanF_bd D.size a b c
  have hfi : 0 ≤ which * spanF D.size a b c ∧ which * spanF D.size a b c ≤ spanF D.size a b c := by
    have h01 : which = 0 ∨ which = 1 := by omega
    rcases h01 with rfl | rfl
    · rw [Int.zero_mul]; omega
    · rw [Int.one_mul]; omega
  have hspe : spanF D.size a b c = 1 + sectorsF (totalF a b c) D.size := by unfold spanF; rw [if_pos ⟨h1, h4, hok.s2⟩]
  have hsn : 0 ≤ sectorsF (totalF a b c) D.size := (sectorsF_bd _ _ (totalF_bd a b c).1).1
  rw [hs] at HA hfi h4 hspe h5 hsp hsn
  rw [hs] at hlen0 hin0 hdv hde
  generalize hspg : spanF (s : Int) a b c = sp at *
  generalize hfd : which * sp = fd at *
  have hgood := read_good (D := D) (i := fd) hcm.planned (by omega) (by omega)
  have hrd := fun (W : World) p1 p2 q1 q2 hD => rd_calls W B g p1 p2 F D fd 0 q1 q2 hD hok (by omega)
  simp only [Int.add_zero, hgood.1, hgood.2] at hrd
  have HRD := Lib.hid hrd
  generalize hsec : sectR D fd = l0 at *
  have hdc := fun (W : World) bb o cc hl hC hc => decode_calls bb o cc l0 W hl hC hc hin0
  rw [hdv, hde] at hdc
  have HDC := Lib.hid hdc
  have sn : ∀ (m : Mode) (x : Addr) (w : World), (store x Value.nilFunc m).run Tryd.prog w = stored Tryd.prog w x Value.nilFunc m := fun m x w => run_store Tryd.prog w x _ m rfl
  have sf : ∀ (fn : Fn) (u v : Array Value) (m : Mode) (x : Addr) (w : World), (store x (Value.func fn u v) m).run Tryd.prog w = stored Tryd.prog w x (Value.func fn u v) m := fun fn u v m x w => run_store Tryd.prog w x _ m rfl
  have HD := Lib.hid hD
  have HL := Lib.hid hl
  have HCM := Lib.hid hcm
  have HSPE := Lib.hid hspe
  have HLEN0 := Lib.hid hlen0
  have HS32 : Hid (32 ≤ s) := Lib.hid (by omega)
  have hgl : g < w.heap.size := by
    obtain ⟨_, _, _, _, _, hh, _⟩ := hD
    exact blk_lt hh
  have hFg : F g := by obtain ⟨_, _, _, _, _, _, _, _, _, _, h6, _⟩ := hD; exact h6
  clear hlen0 hl hD hok h h1 h2 h3 h4 h5 hcm hfd hspg hspe hs hgood hrd hsec hdc hdv hde
  go_enter Tryd.func15, Tryd.ntmps15
  go_wp2_with fail
  have HX := Lib.hid (Rd2.made w a b c)
  generalize (w.alloc (.cells #[.int .i64 a, .int .i64 b, .int .i64 c] 23)).alloc slC = wX at *
  refine (HA.out _ HX.out.below).mono ?_
  rintro e w1 ⟨p2, rfl, hb1, hp1, hp2, hle⟩
  have HP1 := Lib.hid hp1
  have HP2 := Lib.hid hp2
  have HX1 := Lib.hid (HX.out.step hb1)
  have hx1 : w.heap.size + 1 < wX.heap.size := blk_lt HX.out.b1
  clear hb1 hp1 hp2
  go_wp2_with fail
  generalize hwP : w1.alloc (plC wX.heap.size p2 (sp - 1) s) = wP
  have hPl : wP.heap[w1.heap.size]? = some (plC wX.heap.size p2 (sp - 1) s) := hwP ▸ heap_alloc_new w1 _
  have hBP : Below w1.heap.size w1 wP := hwP ▸ below_alloc (Below.refl _ _) _
  clear hwP
  have hq1 := (hBP.block _ (blk_lt HP1.out)).trans HP1.out
  have hq2 := (hBP.block _ (blk_lt HP2.out)).trans HP2.out
  have HXP := Lib.hid (HX1.out.step hBP)
  have hw1 : wX.heap.size < w1.heap.size := blk_lt HP1.out
  have HQ1 := Lib.hid hq1
  have HQ2 := Lib.hid hq2
  have HPL := Lib.hid hPl
  clear hBP hPl hq1 hq2
  refine (HRD.out wP _ _ HQ1.out HQ2.out (HD.out.below HXP.out.below)).mono ?_
  rintro e w2 ⟨v2, rfl, hR2, hI2, hF2⟩
  have hx2 : Rd3 w w2 g a b c := ⟨(Fr.of_below HXP.out.below _).trans hF2 (fun _ _ h => h), hF2.blk HXP.out.b0 (by omega), hF2.blk HXP.out.b1 (by omega)⟩
  have hpl2 := hF2.blk HPL.out (by omega)
  have hq1 := hF2.blk HQ1.out (by omega)
  have hq2 := hF2.blk HQ2.out (by omega)
  obtain ⟨A2, c2, rfl, hc2, hC2⟩ := Kd.R_reads hR2
  obtain ⟨bb, rfl⟩ := plain_row hR2 (by rw [HLEN0.out]; have := HS32.out; omega)
  have HX2 := Lib.hid hx2
  have HPL2 := Lib.hid hpl2
  have HQ12 := Lib.hid hq1
  have HQ22 := Lib.hid hq2
  have HI2 := Lib.hid hI2
  have HDEC := Lib.hid (HDC.out w2 bb 0 c2 ((HL.out.of_below HXP.out.below).of_kept hF2.kept (by have := (HD.out.bound g hFg).1; omega)) hC2 hc2)
  clear hF2 hx2 hpl2 hq1 hq2 hI2 hR2 hC2 hc2
  go_wp2_with fail
  refine HDEC.out.mono ?_
  rintro e w3 ⟨rfl, hb3⟩
  have HX3 := Lib.hid ((HX2.out.step hb3).step (below_alloc (Below.refl _ _) (.cells #[.int .i64 a, .int .i64 b, .int .i64 x7, .int .i64 hn, .int .u64 q, .int .u32 u] 93)))
  have hb3' := below_via hb3 (below_alloc (Below.refl w3.heap.size w3) (.cells #[.int .i64 a, .int .i64 b, .int .i64 x7, .int .i64 hn, .int .u64 q, .int .u32 u] 93))
  have HI3 := Lib.hid (HI2.out.below hb3')
  have HPL3 := Lib.hid ((hb3'.block _ (blk_lt HPL2.out)).trans HPL2.out)
  have HQ13 := Lib.hid ((hb3'.block _ (blk_lt HQ12.out)).trans HQ12.out)
  have HQ23 := Lib.hid ((hb3'.block _ (blk_lt HQ22.out)).trans HQ22.out)
  clear hb3 hb3'
  obtain ⟨⟨c0, c1, c2⟩, ⟨k0, k1, k2, k3⟩, f0, f1, f2, f3⟩ := HX3.out.cells
  go_wp2_with fail
  obtain ⟨W9, hW9, ⟨l0, l1, l2, l3⟩, hbel, hsz9, hrest⟩ := set4 (.int .i64 1) (.int .i64 0) (.int .u64 0) (.slice none 0 0) ⟨k0, k1, k2, k3⟩
  rw [← hW9]
  clear hW9 k0 k1 k2 k3 f0 f1 f2 f3
  refine bodyPost_ret (v := .tuple #[.agg #[.int .i64 1, .int .i64 0, .int .u64 0, .slice none 0 0], .int .i64 0]) (by simp [results, Tryd.results15, go_sem, l0, l1, l2, l3]) rfl ?_
  have hb9 := hbel (w.heap.size + 1) _ (Below.refl _ _) (Nat.le_refl _)
  exact ⟨rfl, HI3.out.step hb9.size (fun q hq => hb9.block q (by have := (HD.out.bound q hq).2; omega)), rd_fin HX3.out.fr hb9⟩
end Go.Proofs.YtcemageindmbkaaDoor
/- slot.Read, where the head is the slot's own: what it returns. -/
namespace Go.Proofs.YtcemageindmbkaaDoor
open Go.RowKit Go.Proofs.YtcemageindmbkaaDoorW.PrintWords
open PSlotBytes

theorem sectors_room {n s m : Nat} (hs1 : 1 ≤ s) (hs2 : s ≤ 4096) (h : sectorsF (n : Int) (s : Int) = (m : Int)) : m * s ≤ n + s := by
  unfold sectorsF at h
  split at h
  · have : m = 0 := by omega
    subst this; omega
  · rename_i h1
    have e1 : ((n : Int) - 1) / (s : Int) = (((n - 1) / s : Nat) : Int) := by
      rw [show ((n : Int) - 1) = ((n - 1 : Nat) : Int) by omega]; simp
    rw [e1] at h
    have hm : m = (n - 1) / s + 1 := by omega
    subst hm
    have h2 := Nat.div_mul_le_self (n - 1) s
    rw [Nat.add_mul]; omega
theorem flat_len {L : List (List Int)} {s : Nat} (h : ∀ l ∈ L, l.length = s) : L.flatten.length = L.length * s := by
  induction L with
  | nil => simp
  | cons x L ih => rw [List.flatten_cons, List.length_append, ih (fun l hl => h l (List.mem_cons_of_mem _ hl)), h x (List.mem_cons_self ..), List.length_cons, Nat.add_mul]; omega
theorem flat_in {L : List (List Int)} (h : ∀ l ∈ L, InB l) : InB L.flatten := fun x hx => by
  obtain ⟨l, hl, hx⟩ := List.mem_flatten.1 hx
  exact h l hl x hx
set_option maxRecDepth 100000 in
set_option maxHeartbeats 1000000 in
theorem rd_good (w : World) (B g : Nat) (F : Nat → Prop) (D : DiskS) (which a b c : Int) (s n m : Nat) (hl : Laid w) (hD : IsDisk w B F g D) (hcm : Calm D 100000) (hB0 : 0 < B) (h : atE D which a b c = 0) (hs : D.size = s) (q u : Int)
    (hlen0 : (sectR D (which * spanF D.size a b c)).length = s) (hin0 : InB (sectR D (which * spanF D.size a b c))) (hdv : decV (sectR D (which * spanF D.size a b c)) = .agg #[.int .i64 a, .int .i64 b, .int .i64 c, .int .i64 (m : Int), .int .u64 q, .int .u32 u]) (hde : decE (sectR D (which * spanF D.size a b c)) = 0)
    (hm : (m : Int) = totalF a b c) (hn : sectorsF (totalF a b c) s = n) (hsb : ∀ l ∈ sectsR D (which * spanF D.size a b c) n, InB l ∧ l.length = s) (hu : sumF ((sectsR D (which * spanF D.size a b c) n).flatten.take m) = u) :
    Calls Tryd.prog 15 #[.pointer (some ⟨g, 0, none⟩), .int .i64 which, .agg #[.int .i64 a, .int .i64 b, .int .i64 c]] w fun e w' => ∃ A cc, e = .returned (.tuple #[.agg #[.int .i64 2, .int .i64 0, .int .u64 q, .slice A m cc], .int .i64 0]) ∧ CN w' w.heap.size A ((sectsR D (which * spanF D.size a b c) n).flatten.take m) ∧ m ≤ cc ∧ (A = none → cc = 0) ∧ IsDisk w' B F g (nextN D (n + 1)) ∧ Fr w w' (fun k => k = g) := by
  rw [hs] at hsb hu ⊢
  have hmt := totalF_bd a b c
  have hnb := (sectorsF_bd (totalF a b c) (s : Int) hmt.1)
  have hsr := atE_ok h
  rw [hs] at hsr
  have hs2 : s ≤ 4096 := by have := hcm.ok.s2; rw [hs] at this; omega
  have hcov : m ≤ n * s := sectors_cover (by omega) hs2 (by rw [hm]; exact hn)
  have hns : n * s ≤ 16777216 := by have := sectors_room (n := m) (m := n) (by omega) hs2 (by rw [hm]; exact hn); omega
  clear hsr
  obtain ⟨h1, h2, h3, h4, h5⟩ := atE_ok h
  have hok := hcm.ok
  have HA := Lib.hid (fun (W : World) (hW : Below w.heap.size w W) => at_ok W B g F D which a b c (hl.of_below hW) (hD.below hW) hok h1 h2 h3 h4 h5)
  have hsp := spanF_bd D.size a b c
  have hfi : 0 ≤ which * spanF D.size a b c ∧ which * spanF D.size a b c ≤ spanF D.size a b c := by
    have h01 : which = 0 ∨ which = 1 := by omega
    rcases h01 with rfl | rfl
    · rw [Int.zero_mul]; omega
    · rw [Int.one_mul]; omega
  have hspe : spanF D.size a b c = 1 + sectorsF (totalF a b c) D.size := by unfold spanF; rw [if_pos ⟨h1, h4, hok.s2⟩]
  have hsn : 0 ≤ sectorsF (totalF a b c) D.size := (sectorsF_bd _ _ (totalF_bd a b c).1).1
  rw [hs] at HA hfi h4 hspe h5 hsp hsn
  rw [hs] at hlen0 hin0 hdv hde
  generalize hspg : spanF (s : Int) a b c = sp at *
  generalize hfd : which * sp = fd at *
  have hgood := read_good (D := D) (i := fd) hcm.planned (by omega) (by omega)
  have hrd := fun (W : World) p1 p2 q1 q2 hD => rd_calls W B g p1 p2 F D fd 0 q1 q2 hD hok (by omega)
  simp only [Int.add_zero, hgood.1, hgood.2] at hrd
  have HRD := Lib.hid hrd
  generalize hsec : sectR D fd = l0 at *
  have hdc := fun (W : World) bb o cc hl hC hc => decode_calls bb o cc l0 W hl hC hc hin0
  rw [hdv, hde] at hdc
  have HDC := Lib.hid hdc
  have sn : ∀ (m : Mode) (x : Addr) (w : World), (store x Value.nilFunc m).run Tryd.prog w = stored Tryd.prog w x Value.nilFunc m := fun m x w => run_store Tryd.prog w x _ m rfl
  have sf : ∀ (fn : Fn) (u v : Array Value) (m : Mode) (x : Addr) (w : World), (store x (Value.func fn u v) m).run Tryd.prog w = stored Tryd.prog w x (Value.func fn u v) m := fun fn u v m x w => run_store Tryd.prog w x _ m rfl
  have HD := Lib.hid hD
  have HL := Lib.hid hl
  have HCM := Lib.hid hcm
  have HSPE := Lib.hid hspe
  have HLEN0 := Lib.hid hlen0
  have HS32 : Hid (32 ≤ s) := Lib.hid (by omega)
  have hgl : g < w.heap.size := by
    obtain ⟨_, _, _, _, _, hh, _⟩ := hD
    exact blk_lt hh
  have hFg : F g := by obtain ⟨_, _, _, _, _, _, _, _, _, _, h6, _⟩ := hD; exact h6
  have HM := Lib.hid hm
  have HN := Lib.hid hn
  have HSB := Lib.hid hsb
  have HNB : Hid (n ≤ 90112) := Lib.hid (by omega)
  have HCOV := Lib.hid hcov
  have HNS := Lib.hid hns
  have HSC : Hid (fd + (n : Int) < D.sectors) := Lib.hid (by omega)
  clear hm hn hsb hmt hnb hcov hns
  clear hlen0 hl hD hok h h1 h2 h3 h4 h5 hcm hfd hspg hspe hs hgood hrd hsec hdc hdv hde
  go_enter Tryd.func15, Tryd.ntmps15
  go_wp2_with fail
  have HX := Lib.hid (Rd2.made w a b c)
  generalize (w.alloc (.cells #[.int .i64 a, .int .i64 b, .int .i64 c] 23)).alloc slC = wX at *
  refine (HA.out _ HX.out.below).mono ?_
  rintro e w1 ⟨p2, rfl, hb1, hp1, hp2, hle⟩
  have HP1 := Lib.hid hp1
  have HP2 := Lib.hid hp2
  have HX1 := Lib.hid (HX.out.step hb1)
  have hx1 : w.heap.size + 1 < wX.heap.size := blk_lt HX.out.b1
  clear hb1 hp1 hp2
  go_wp2_with fail
  generalize hwP : w1.alloc (plC wX.heap.size p2 (sp - 1) s) = wP
  have hPl : wP.heap[w1.heap.size]? = some (plC wX.heap.size p2 (sp - 1) s) := hwP ▸ heap_alloc_new w1 _
  have hBP : Below w1.heap.size w1 wP := hwP ▸ below_alloc (Below.refl _ _) _
  clear hwP
  have hq1 := (hBP.block _ (blk_lt HP1.out)).trans HP1.out
  have hq2 := (hBP.block _ (blk_lt HP2.out)).trans HP2.out
  have HXP := Lib.hid (HX1.out.step hBP)
  have hw1 : wX.heap.size < w1.heap.size := blk_lt HP1.out
  have HQ1 := Lib.hid hq1
  have HQ2 := Lib.hid hq2
  have HPL := Lib.hid hPl
  clear hBP hPl hq1 hq2
  refine (HRD.out wP _ _ HQ1.out HQ2.out (HD.out.below HXP.out.below)).mono ?_
  rintro e w2 ⟨v2, rfl, hR2, hI2, hF2⟩
  have hx2 : Rd3 w w2 g a b c := ⟨(Fr.of_below HXP.out.below _).trans hF2 (fun _ _ h => h), hF2.blk HXP.out.b0 (by omega), hF2.blk HXP.out.b1 (by omega)⟩
  have hpl2 := hF2.blk HPL.out (by omega)
  have hq1 := hF2.blk HQ1.out (by omega)
  have hq2 := hF2.blk HQ2.out (by omega)
  obtain ⟨A2, c2, rfl, hc2, hC2⟩ := Kd.R_reads hR2
  obtain ⟨bb, rfl⟩ := plain_row hR2 (by rw [HLEN0.out]; have := HS32.out; omega)
  have HX2 := Lib.hid hx2
  have HPL2 := Lib.hid hpl2
  have HQ12 := Lib.hid hq1
  have HQ22 := Lib.hid hq2
  have HI2 := Lib.hid hI2
  have HDEC := Lib.hid (HDC.out w2 bb 0 c2 ((HL.out.of_below HXP.out.below).of_kept hF2.kept (by have := (HD.out.bound g hFg).1; omega)) hC2 hc2)
  clear hF2 hx2 hpl2 hq1 hq2 hI2 hR2 hC2 hc2
  go_wp2_with fail
  refine HDEC.out.mono ?_
  rintro e w3 ⟨rfl, hb3⟩
  have HX3 := Lib.hid ((HX2.out.step hb3).step (below_alloc (Below.refl _ _) (.cells #[.int .i64 a, .int .i64 b, .int .i64 c, .int .i64 (m : Int), .int .u64 q, .int .u32 u] 93)))
  have hb3' := below_via hb3 (below_alloc (Below.refl w3.heap.size w3) (.cells #[.int .i64 a, .int .i64 b, .int .i64 c, .int .i64 (m : Int), .int .u64 q, .int .u32 u] 93))
  have HI3 := Lib.hid (HI2.out.below hb3')
  have HPL3 := Lib.hid ((hb3'.block _ (blk_lt HPL2.out)).trans HPL2.out)
  have HQ13 := Lib.hid ((hb3'.block _ (blk_lt HQ12.out)).trans HQ12.out)
  have HQ23 := Lib.hid ((hb3'.block _ (blk_lt HQ22.out)).trans HQ22.out)
  clear hb3 hb3'
  obtain ⟨⟨c0, c1, c2⟩, ⟨k0, k1, k2, k3⟩, f0, f1, f2, f3⟩ := HX3.out.cells
  have y0 := (blk_cell HPL3.out 0).trans rfl
  have y1 := (blk_cell HPL3.out 1).trans rfl
  have y2 := (blk_cell HPL3.out 2).trans rfl
  have y3 := (blk_cell HPL3.out 3).trans rfl
  go_wp2_with fail
  have e1 : sp - 1 = (n : Int) := by rw [HSPE.out, HN.out]; omega
  rw [e1]
  have hcn : Calm D.next (n + 1) := by
    have := (Calm.read (n := 99999) HCM.out)
    exact ⟨this.ok, this.planned, (by have := this.ops; have := HNB.out; omega), (by have := this.writes; have := HNB.out; omega)⟩
  have hsect : sectsR D.next fd n = sectsR D fd n := rfl
  have HW := Lib.hid (whole_calls _ B g wX.heap.size p2 F D.next fd s n m s HQ13.out HQ23.out HI3.out hcn (by omega) (by have := HSC.out; show fd + (n : Int) < D.sectors; omega) (by omega) (by omega) (by have := HNB.out; omega) (by have := HS32.out; omega) (by rw [hsect]; exact HSB.out) HNS.out HCOV.out)
  refine HW.out.mono ?_
  rintro e w4 ⟨A4, c4, rfl, hmc, hnil, hCN, hI4, hF4⟩
  have hlt3 : w.heap.size + 1 < w3.heap.size + 1 := by have := blk_lt HX3.out.b1; simpa using this
  have hx4 : Rd3 w w4 g a b c := ⟨HX3.out.fr.trans hF4 (fun _ _ h => h), hF4.blk HX3.out.b0 (by omega), hF4.blk HX3.out.b1 (by omega)⟩
  have hh4 := hF4.blk (heap_alloc_new w3 (.cells #[.int .i64 a, .int .i64 b, .int .i64 c, .int .i64 (m : Int), .int .u64 q, .int .u32 u] 93)) (show ¬ w3.heap.size = g by omega)
  have himg : ((sectsR D fd n).flatten.take m).length = m := by
    rw [List.length_take, flat_len (fun l hl => (HSB.out l hl).2)]
    have : (sectsR D fd n).length = n := by simp [sectsR]
    rw [this]; have := HCOV.out; omega
  have hiin : InB ((sectsR D fd n).flatten.take m) := fun x hx => flat_in (fun l hl => (HSB.out l hl).1) x (List.mem_of_mem_take hx)
  rw [hsect] at hCN
  generalize hIG : (sectsR D fd n).flatten.take m = img at *
  have HIG := Lib.hid hIG
  clear hIG
  have HSUM := Lib.hid (fun W (hW : Below w4.heap.size w4 W) => sum_n m A4 c4 img W himg (Kd.C_below hCN.1 hW) hiin (by rw [himg]; have := HCOV.out; have := HNS.out; omega))
  have HX4 := Lib.hid hx4
  have HH4 := Lib.hid hh4
  have HI4 := Lib.hid hI4
  have HCN := Lib.hid hCN
  have HX3s : Hid (w.heap.size ≤ w3.heap.size + 1) := Lib.hid (by omega)
  clear hF4 hx4 hh4 hI4 hCN himg hiin hsect hcn c0 c1 c2 k0 k1 k2 k3 f0 f1 f2 f3 y0 y1 y2 y3 e1
  have y5 := (blk_cell HH4.out 5).trans rfl
  have y4 := (blk_cell HH4.out 4).trans rfl
  have z5 := fun n : BT w4 => BT.cell y5 n
  go_wp2_with fail
  · skip
    refine wp_region_below (by kernel_rfl) (by kernel_rfl) ?_
    repeat (go_big_quiet_step (first | (go_at_call 51; exact Calls.below_of (HSUM.out _ (CT.ok _)))))
    refine wpQuiet_nil ?_
    intro W5 hW5
    obtain ⟨⟨w5, hb5⟩, rfl⟩ := hW5
    have HX5 := Lib.hid (HX4.out.step hb5)
    obtain ⟨-, ⟨k0, k1, k2, k3⟩, f0, f1, f2, f3⟩ := HX5.out.cells
    have y4' := pw_cell_below hb5 y4
    have HI5 := Lib.hid (HI4.out.below hb5)
    have HCN5 := Lib.hid (HCN.out.below hb5)
    clear hb5 z5 y4 y5
    go_wp2_with fail
    obtain ⟨W9, hW9, ⟨l0, l1, l2, l3⟩, hbel, hsz9, hrest⟩ := set4 (.int .i64 2) (.int .i64 0) (.int .u64 q) (.slice A4 m c4) ⟨k0, k1, k2, k3⟩
    rw [← hW9]
    clear hW9 k0 k1 k2 k3 f0 f1 f2 f3
    refine bodyPost_ret (v := .tuple #[.agg #[.int .i64 2, .int .i64 0, .int .u64 q, .slice A4 m c4], .int .i64 0]) (by simp [results, Tryd.results15, go_sem, l0, l1, l2, l3]) rfl ?_
    have hb9 := hbel (w.heap.size + 1) _ (Below.refl _ _) (Nat.le_refl _)
    rw [HIG.out]
    refine ⟨A4, c4, rfl, (HCN5.out.step (by rw [hsz9]; exact Nat.le_refl _) (fun q hq hq2 => hrest q (by simp only [World.size_alloc] at hq; omega))).lower (by simp only [World.size_alloc]; omega), hmc, hnil, ?_, rd_fin HX5.out.fr hb9⟩
    have := HI5.out.step hb9.size (fun q hq => hb9.block q (by have := (HD.out.bound q hq).2; omega))
    have e9 : nextN D.next n = nextN D (n + 1) := by simp only [nextN, DiskS.next, DiskS.mk.injEq, true_and, and_true]; omega
    rwa [e9] at this
end Go.Proofs.YtcemageindmbkaaDoor
/- disk.Open, New: what they return. -/
namespace Go.Proofs.YtcemageindmbkaaDoor
open Go.RowKit Go.Proofs.YtcemageindmbkaaDoorW.PrintWords
open PSlotBytes

/-- A disk that has just been opened. -/
def freshD (s : Int) (l : List Int) : DiskS := ⟨s, l, [], [], 0, 0⟩

theorem fresh_disk (w w1 : World) (s : Int) (l : List Int) (A1 : Option Addr) (c1 : Nat) (hR : RB w1 w.heap.size (fun k => w.heap.size ≤ k) (.slice A1 l.length c1) l) (hb : Below w.heap.size w w1) :
    let W := ((w1.alloc (.map #[] 0)).alloc (.map #[] 0)).alloc (.cells #[.int .i64 s, .slice A1 l.length c1, .map (some w1.heap.size), .map (some (w1.heap.size + 1)), .int .i64 0, .int .i64 0] 80)
    IsDisk W w.heap.size (fun k => w.heap.size ≤ k ∧ k < W.heap.size) (w1.heap.size + 1 + 1) (freshD s l) := by
  intro W
  have hsz : W.heap.size = w1.heap.size + 3 := by simp [W]
  have hs := hb.size
  have hbW : Below w1.heap.size w1 W := below_alloc (below_alloc (below_alloc (Below.refl _ _) _) _) _
  have m1 : MapAt W w1.heap.size [] := ((MapAt.made w1).below (below_alloc (Below.refl _ _) _)).below (below_alloc (Below.refl _ _) _)
  have m2 : MapAt W (w1.heap.size + 1) [] := by
    have := (MapAt.made (w1.alloc (.map #[] 0))).below (below_alloc (Below.refl _ _) (.cells #[.int .i64 s, .slice A1 l.length c1, .map (some w1.heap.size), .map (some (w1.heap.size + 1)), .int .i64 0, .int .i64 0] 80))
    simpa [W] using this
  have hR' := Kd.R_below hR hbW
  refine ⟨A1, c1, w1.heap.size, w1.heap.size + 1, [], enc_blk2 w1 _ _ _, Kd.R_mono (Kd.R_bound hR') (fun k hk => ⟨hk.1, hk.2.2.1⟩), m1, trivial, m2, ⟨by omega, by omega⟩, ⟨by omega, by omega⟩, ⟨by omega, by omega⟩, by omega, fun k hk => hk⟩

set_option maxRecDepth 100000 in
theorem open_yes (w : World) (s : Nat) (A : Option Addr) (c : Nat) (l : List Int) (hC : KB.C w A l.length l) (hnil : A = none → c = 0) (hs1 : 1 ≤ s) (hs2 : s ≤ 4096) (hm : (l.length : Int) % (s : Int) = 0) (hq : (l.length : Int) / (s : Int) ≤ 4096) (hl : l.length ≤ 16777216) :
    Calls Tryd.prog 13 #[.int .i64 (s : Int), .slice A l.length c] w fun e w' => ∃ g, e = .returned (.tuple #[.pointer (some ⟨g, 0, none⟩), .int .i64 0]) ∧ IsDisk w' w.heap.size (fun k => w.heap.size ≤ k ∧ k < w'.heap.size) g (freshD s l) ∧ Below w.heap.size w w' := by
  have HK := Lib.hid (fun (W : World) (hW : Below w.heap.size w W) => clone_calls A c l W (Kd.C_below hC hW) (by omega) hnil)
  have hr : Int.tmod (l.length : Int) (s : Int) = 0 := by rw [Int.tmod_eq_emod_of_nonneg (by omega)]; exact hm
  have hd : Int.tdiv (l.length : Int) (s : Int) ≤ 4096 := by rw [Int.tdiv_eq_ediv_of_nonneg (by omega)]; exact hq
  have hq0 : 0 ≤ (l.length : Int) / (s : Int) := Int.ediv_nonneg (by omega) (by omega)
  have hwq : wrap64 ((l.length : Int) / (s : Int)) = (l.length : Int) / (s : Int) := by
    generalize (l.length : Int) / (s : Int) = z at *
    unfold wrap64; omega
  clear hC hnil
  have hmk : ∀ (t : TypeId) (W : World), (Instr.makeMap t none).run Tryd.prog W = .ok (.map (some W.heap.size)) (W.alloc (.map #[] 0)) := fun _ _ => rfl
  go_enter Tryd.func13, Tryd.ntmps13
  go_wp2_with fail
  refine (HK.out w (Below.refl _ _)).mono ?_
  rintro e w1 ⟨v, rfl, hR, hb⟩
  obtain ⟨A1, c1, rfl, -, -⟩ := Kd.R_reads hR
  have HR := Lib.hid hR
  have HB := Lib.hid hb
  clear hR hb
  go_wp2_with fail
  go_ret2
  exact ⟨_, rfl, fresh_disk w w1 s l A1 c1 HR.out HB.out, below_alloc (below_alloc (below_alloc HB.out _) _) _⟩
end Go.Proofs.YtcemageindmbkaaDoor
/- disk.New, Ops, Writes: what they return. -/
namespace Go.Proofs.YtcemageindmbkaaDoor
open Go.RowKit Go.Proofs.YtcemageindmbkaaDoorW.PrintWords
open PSlotBytes

theorem CRep.lower {w : World} {B B' : Nat} {ok : Nat → Prop} (hb : B' ≤ B) : ∀ {ces : List (Int × Value)} {cs : List (Int × List Int)}, CRep w B ok ces cs → CRep w B' ok ces cs
  | [], [], h => h
  | _ :: _, _ :: _, h => ⟨h.1, Kd.R_lower h.2.1 hb, h.2.2.lower hb⟩
theorem IsDisk.lower {w : World} {B B' g : Nat} {F F' : Nat → Prop} {D : DiskS} (h : IsDisk w B F g D) (hb : B' ≤ B) (h1 : ∀ k, F k → F' k) (h2 : ∀ k, F' k → B' ≤ k ∧ k < w.heap.size) : IsDisk w B' F' g D := by
  obtain ⟨A, c, cb, pb, ces, a1, a2, a3, a4, a5, a6, a7, a8, a9, _⟩ := h
  exact ⟨A, c, cb, pb, ces, a1, Kd.R_mono (Kd.R_lower a2 hb) h1, a3, (a4.lower hb).mono (fun k hk => ⟨h1 k hk.1, hk.2⟩), a5, h1 _ a6, h1 _ a7, h1 _ a8, a9, h2⟩

set_option maxRecDepth 100000 in
theorem new_yes (w : World) (n s : Nat) (hn : n ≤ 4096) (hs1 : 1 ≤ s) (hs2 : s ≤ 4096) :
    Calls Tryd.prog 22 #[.int .i64 (n : Int), .int .i64 (s : Int)] w fun e w' => ∃ g, e = .returned (.tuple #[.pointer (some ⟨g, 0, none⟩), .int .i64 0]) ∧ IsDisk w' w.heap.size (fun k => w.heap.size ≤ k ∧ k < w'.heap.size) g (freshD s (List.replicate (n * s) 0)) ∧ Below w.heap.size w w' := by
  have hms : n * s ≤ 16777216 := by have := Nat.mul_le_mul hn hs2; omega
  have e1 : wrap64 ((n : Int) * (s : Int)) = (n : Int) * (s : Int) := by rw [← Int.natCast_mul]; unfold wrap64; omega
  have e0 : ((n : Int) * (s : Int)).toNat = n * s := by rw [← Int.natCast_mul]; omega
  have hp : 0 ≤ (n : Int) * (s : Int) := by rw [← Int.natCast_mul]; omega
  have hmod : ((n * s : Nat) : Int) % (s : Int) = 0 := by rw [Int.natCast_mul]; exact Int.mul_emod_left _ _
  have hdiv : ((n * s : Nat) : Int) / (s : Int) ≤ 4096 := by rw [Int.natCast_mul, Int.mul_ediv_cancel _ (by omega)]; omega
  have HM := Lib.hid hmod
  have HDV := Lib.hid hdiv
  have H0 := Lib.hid e0
  clear hmod hdiv e0
  go_enter Tryd.func22, Tryd.ntmps22
  go_wp2_with ((with_reducible refine gate_dst (N := 24) rfl ?_); refine Kd.R_make KB (w0 := w) w.heap.size 5 rfl (N := 24) rfl 27 _ _ rfl ((n : Int) * (s : Int)) rfl rfl Tryd.underlying27 (.int .u8 0) 1 infoB rfl (by decide) (by decide) 0 (ok := fun k => w.heap.size ≤ k) (okp := fun _ => False) rfl (fun _ h => h.elim) (Nat.le_refl _) hp (by rw [H0.out]; omega) (Below.refl _ _) (Nat.le_refl _) ?_; intro v5 w5 HO5 HB5 _ hne5)
  rw [H0.out] at HO5
  obtain ⟨A5, c5, rfl, -, hC5⟩ := Kd.R_reads HO5
  have hnil : A5 = none → c5 = 0 := by
    obtain ⟨bb, hh, -⟩ := hne5
    rintro rfl
    simp [Value.ownBlock] at hh
  have hrl : (List.replicate (n * s) (0 : Int)).length = n * s := List.length_replicate
  have HO := Lib.hid (open_yes w5 s A5 c5 (List.replicate (n * s) 0) hC5 hnil hs1 hs2 (by rw [hrl]; exact HM.out) (by rw [hrl]; exact HDV.out) (by rw [hrl]; exact hms))
  have HB := Lib.hid HB5
  rw [hrl] at HO
  clear HO5 HB5 hne5 hC5 hnil
  rw [hrl]
  go_wp2_with fail
  refine HO.out.mono ?_
  rintro e w6 ⟨g, rfl, hD, hb⟩
  have HD := Lib.hid hD
  have HB6 := Lib.hid hb
  clear hD hb
  go_wp2_with fail
  go_ret2
  exact ⟨g, rfl, HD.out.lower HB.out.size (fun k hk => ⟨Nat.le_trans HB.out.size hk.1, hk.2⟩) (fun k hk => hk), below_via HB.out HB6.out⟩

theorem ops_calls (w : World) (B g : Nat) (F : Nat → Prop) (D : DiskS) (h : IsDisk w B F g D) :
    Calls Tryd.prog 26 #[.pointer (some ⟨g, 0, none⟩)] w fun e w' => e = .returned (.int .i64 D.ops) ∧ Below w.heap.size w w' := by
  obtain ⟨A, c, cb, pb, -, -, -, -, c4, c5⟩ := h.cells
  clear h
  go_enter Tryd.func26, Tryd.ntmps26
  go_wp2_with fail
  exact bodyPost_ret (v := .int .i64 D.ops) (by simp [results, Tryd.results26, go_sem]) rfl ⟨rfl, Below.refl _ _⟩
theorem writes_calls (w : World) (B g : Nat) (F : Nat → Prop) (D : DiskS) (h : IsDisk w B F g D) :
    Calls Tryd.prog 25 #[.pointer (some ⟨g, 0, none⟩)] w fun e w' => e = .returned (.int .i64 D.writes) ∧ Below w.heap.size w w' := by
  obtain ⟨A, c, cb, pb, -, -, -, -, c4, c5⟩ := h.cells
  clear h
  go_enter Tryd.func25, Tryd.ntmps25
  go_wp2_with fail
  exact bodyPost_ret (v := .int .i64 D.writes) (by simp [results, Tryd.results25, go_sem]) rfl ⟨rfl, Below.refl _ _⟩
end Go.Proofs.YtcemageindmbkaaDoor
/- A slot that was laid and sealed reads as it was: in plain Lean. -/
namespace Go.Proofs.YtcemageindmbkaaDoor
open Go.RowKit Go.Proofs.YtcemageindmbkaaDoorW.PrintWords
open PSlotBytes

theorem sumF_bd (l : List Int) : 0 ≤ sumF l ∧ sumF l < 4294967296 := by
  have h1 := bits_lo_u32 .xor IntKind.u32.max (crcAll (notF 0) l)
  have h2 := bits_hi_u32 .xor IntKind.u32.max (crcAll (notF 0) l)
  unfold sumF notF
  unfold notF at h1 h2
  omega
theorem val_lay4 (n : Int) (h0 : 0 ≤ n) (h1 : n < 4294967296) : valF (layF 4 n) = n := by
  simp only [layF, valF]; omega
theorem val_lay8 (n : Int) (h0 : 0 ≤ n) (h1 : n < 18446744073709551616) : valF (layF 8 n) = n := by
  simp only [layF, valF]; omega
section
variable (a b c n q u : Int) (s : Nat)
theorem enc_long : (encF a b c n q u).length = 28 := by simp [encF, enc24_length, layF_length]
theorem enc_eq : padTo (encF a b c n q u) s = enc24 a b c n q u ++ (layF 4 (sumF (enc24 a b c n q u)) ++ List.replicate (s - (encF a b c n q u).length) 0) := by
  unfold padTo encF; rw [List.append_assoc]
theorem enc_take24 : (padTo (encF a b c n q u) s).take 24 = enc24 a b c n q u := by
  rw [enc_eq, List.take_left' (enc24_length ..)]
theorem enc_sumbytes : ((padTo (encF a b c n q u) s).take 28).drop 24 = layF 4 (sumF (enc24 a b c n q u)) := by
  have h1 : (padTo (encF a b c n q u) s).take 28 = encF a b c n q u := by unfold padTo; rw [List.take_left' (enc_long ..)]
  rw [h1]; unfold encF; rw [List.drop_left' (enc24_length ..)]
theorem enc24_eq : enc24 a b c n q u = enc8 a b c ++ (layF 4 (n % 4294967296) ++ (layF 8 q ++ layF 4 u)) := by
  unfold enc24; simp only [List.append_assoc]
theorem enc_t (k : Nat) (hk : k ≤ 24) : (padTo (encF a b c n q u) s).take k = (enc24 a b c n q u).take k := by
  rw [← enc_take24 a b c n q u s, List.take_take, Nat.min_eq_left hk]
theorem enc_len : ((padTo (encF a b c n q u) s).take 12).drop 8 = layF 4 (n % 4294967296) := by
  rw [enc_t _ _ _ _ _ _ _ _ (by omega), enc24_eq, ← List.append_assoc, List.take_left' (by simp [enc8, layF_length]), List.drop_left' (by simp [enc8])]
theorem enc_seq : ((padTo (encF a b c n q u) s).take 20).drop 12 = layF 8 q := by
  rw [enc_t _ _ _ _ _ _ _ _ (by omega), enc24_eq, ← List.append_assoc, ← List.append_assoc, List.take_left' (by simp [enc8, layF_length]), List.drop_left' (by simp [enc8, layF_length])]
theorem enc_sum : ((padTo (encF a b c n q u) s).take 24).drop 20 = layF 4 u := by
  rw [enc_take24, enc24_eq, ← List.append_assoc, ← List.append_assoc, List.drop_left' (by simp [enc8, layF_length])]
theorem enc_get (i : Nat) (hi : i < 8) : (padTo (encF a b c n q u) s).getD i 0 = (enc8 a b c).getD i 0 := by
  rw [enc_eq, enc24_eq]
  simp only [List.getD_eq_getElem?_getD]
  rw [List.append_assoc, List.getElem?_append_left (by simpa [enc8] using hi)]
theorem enc_t4 : (padTo (encF a b c n q u) s).take 4 = [75, 69, 69, 80] := by
  rw [enc_t _ _ _ _ _ _ _ _ (by omega), enc24_eq]; simp [enc8]
theorem pad_len (l : List Int) (h : l.length ≤ s) : (padTo l s).length = s := by unfold padTo; simp; omega
end

/-- A head that was laid is told as it was. -/
theorem dec_enc (a b c n q u : Int) (s : Nat) (hr : rightF a b c = true) (hn : n = totalF a b c) (hq : 0 ≤ q ∧ q < 18446744073709551616) (hu : 0 ≤ u ∧ u < 4294967296) (hs : 28 ≤ s) :
    decE (padTo (encF a b c n q u) s) = 0 ∧ decV (padTo (encF a b c n q u) s) = .agg #[.int .i64 a, .int .i64 b, .int .i64 c, .int .i64 n, .int .u64 q, .int .u32 u] := by
  have htb := totalF_bd a b c
  have hrr : 0 ≤ a ∧ a ≤ 10 ∧ 0 ≤ b ∧ b ≤ 64 ∧ 0 ≤ c ∧ c ≤ 128 := by simpa [rightF] using hr
  have e5 : (padTo (encF a b c n q u) s).getD 5 0 = a := by rw [enc_get _ _ _ _ _ _ _ _ (by omega)]; show a % 256 = a; omega
  have e6 : (padTo (encF a b c n q u) s).getD 6 0 = b := by rw [enc_get _ _ _ _ _ _ _ _ (by omega)]; show b % 256 = b; omega
  have e7 : (padTo (encF a b c n q u) s).getD 7 0 = c := by rw [enc_get _ _ _ _ _ _ _ _ (by omega)]; show c % 256 = c; omega
  have e4 : (padTo (encF a b c n q u) s).getD 4 0 = 1 := by rw [enc_get _ _ _ _ _ _ _ _ (by omega)]; rfl
  have el : valF (((padTo (encF a b c n q u) s).take 12).drop 8) = n := by rw [enc_len, val_lay4 _ (by omega) (by omega)]; omega
  have eq : valF (((padTo (encF a b c n q u) s).take 20).drop 12) = q := by rw [enc_seq, val_lay8 _ hq.1 hq.2]
  have eu : valF (((padTo (encF a b c n q u) s).take 24).drop 20) = u := by rw [enc_sum, val_lay4 _ hu.1 hu.2]
  have es : valF (((padTo (encF a b c n q u) s).take 28).drop 24) = sumF (enc24 a b c n q u) := by rw [enc_sumbytes, val_lay4 _ (sumF_bd _).1 (sumF_bd _).2]
  have e0 : decE (padTo (encF a b c n q u) s) = 0 := by
    unfold decE
    rw [if_neg (by rw [pad_len _ _ (by rw [enc_long]; omega)]; omega), if_neg (by rw [enc_t4]; simp), if_neg (by rw [e4]; simp), if_neg (by rw [es, enc_take24]; simp), e5, e6, e7, el, if_pos (by simp [hrightF, hr, hn])]
  exact ⟨e0, by unfold decV headV; rw [if_pos e0, e5, e6, e7, el, eq, eu]⟩

theorem pieces_flat (L : List Int) (s : Nat) : ∀ n : Nat, (pieces L s n).flatten = L.take (n * s)
  | 0 => by simp [pieces]
  | n + 1 => by
    have ih := pieces_flat L s n
    unfold pieces at ih ⊢
    rw [List.range_succ, List.map_append, List.flatten_append, ih]
    simp only [List.map_cons, List.map_nil, List.flatten_cons, List.flatten_nil, List.append_nil]
    have hle : n * s ≤ (n + 1) * s := Nat.mul_le_mul_right _ (by omega)
    have e : L.take (n * s) = (L.take ((n + 1) * s)).take (n * s) := by rw [List.take_take, Nat.min_eq_left hle]
    rw [e, List.take_append_drop]

theorem data_cached {D : DiskS} {first : Int} {ps : List (List Int)} (hf : 0 ≤ first) : ∀ (n : Nat), Calm D n → (∀ k, k < n → ((ps.getD k []).length : Int) = D.size) → first + n < D.sectors →
    (∀ k, k < n → getI (first + (1 + (k : Int))) (dataS D first ps n).cached = some (ps.getD k [])) ∧ (∀ i, i ≤ first → getI i (dataS D first ps n).cached = getI i D.cached) ∧ (dataS D first ps n).lasting = D.lasting ∧ (dataS D first ps n).ops = D.ops + n ∧ (dataS D first ps n).writes = D.writes + n
  | 0, _, _, _ => ⟨fun k hk => absurd hk (by omega), fun _ _ => rfl, rfl, by simp [dataS], by simp [dataS]⟩
  | n + 1, h, hp, hr => by
    have hcn : Calm D n := ⟨h.ok, h.planned, by have := h.ops; omega, by have := h.writes; omega⟩
    obtain ⟨i1, i2, i3, i4, i5⟩ := data_cached hf n hcn (fun k hk => hp k (by omega)) (by omega)
    obtain ⟨h1, h2, h3⟩ := Calm.data (m := 1) hf n h (fun k hk => hp k (by omega)) (by omega)
    obtain ⟨-, e⟩ := write_good (i := first + (1 + (n : Int))) (b := ps.getD n []) h1.planned (by omega) (by rw [h2]; omega) (by rw [h3]; exact hp n (by omega))
    have e' : dataS D first ps (n + 1) = { (dataS D first ps n).next with cached := putI (first + (1 + (n : Int))) (ps.getD n []) (dataS D first ps n).cached, writes := (dataS D first ps n).writes + 1 } := e
    rw [e']
    refine ⟨fun k hk => ?_, fun i hi => ?_, i3, ?_, ?_⟩
    · show getI _ (putI _ _ _) = _
      rw [getI_putI]
      by_cases hkn : k = n
      · subst hkn; rw [if_pos rfl]
      · rw [if_neg (by omega), i1 k (by omega)]
    · show getI _ (putI _ _ _) = _
      rw [getI_putI, if_neg (by omega), i2 i hi]
    · show (dataS D first ps n).ops + 1 = _
      rw [i4]; omega
    · show (dataS D first ps n).writes + 1 = _
      rw [i5]; omega

/-- What a slot holds that was laid and sealed. -/
structure Sealed (D : DiskS) (which a b c q : Int) (s n : Nat) (l : List Int) : Prop where
  calm1 : Calm (dataS D (which * spanF D.size a b c) (pieces (padTo l (n * s)) s n) n) 100001
  size1 : (dataS D (which * spanF D.size a b c) (pieces (padTo l (n * s)) s n) n).size = s
  at1 : ∀ w' a' b' c', atE (dataS D (which * spanF D.size a b c) (pieces (padTo l (n * s)) s n) n) w' a' b' c' = atE D w' a' b' c'
  err : writeErr (dataS D (which * spanF D.size a b c) (pieces (padTo l (n * s)) s n) n) (which * spanF D.size a b c) s = 0
  calm2 : Calm (writeS (dataS D (which * spanF D.size a b c) (pieces (padTo l (n * s)) s n) n) (which * spanF D.size a b c) (padTo (encF a b c l.length q (sumF l)) s)) 100000
  size2 : (writeS (dataS D (which * spanF D.size a b c) (pieces (padTo l (n * s)) s n) n) (which * spanF D.size a b c) (padTo (encF a b c l.length q (sumF l)) s)).size = s
  at2 : ∀ w' a' b' c', atE (writeS (dataS D (which * spanF D.size a b c) (pieces (padTo l (n * s)) s n) n) (which * spanF D.size a b c) (padTo (encF a b c l.length q (sumF l)) s)) w' a' b' c' = atE D w' a' b' c'
  head : sectR (writeS (dataS D (which * spanF D.size a b c) (pieces (padTo l (n * s)) s n) n) (which * spanF D.size a b c) (padTo (encF a b c l.length q (sumF l)) s)) (which * spanF D.size a b c) = padTo (encF a b c l.length q (sumF l)) s
  body : sectsR (writeS (dataS D (which * spanF D.size a b c) (pieces (padTo l (n * s)) s n) n) (which * spanF D.size a b c) (padTo (encF a b c l.length q (sumF l)) s)) (which * spanF D.size a b c) n = pieces (padTo l (n * s)) s n
  ops2 : (writeS (dataS D (which * spanF D.size a b c) (pieces (padTo l (n * s)) s n) n) (which * spanF D.size a b c) (padTo (encF a b c l.length q (sumF l)) s)).ops = D.ops + n + 1
  writes2 : (writeS (dataS D (which * spanF D.size a b c) (pieces (padTo l (n * s)) s n) n) (which * spanF D.size a b c) (padTo (encF a b c l.length q (sumF l)) s)).writes = D.writes + n + 1

theorem atE_same {D D' : DiskS} (h1 : D'.size = D.size) (h2 : D'.sectors = D.sectors) (w a b c : Int) : atE D' w a b c = atE D w a b c := by
  unfold atE; rw [h1, h2]

theorem sealed_of {D : DiskS} {which a b c q : Int} {s n : Nat} {l : List Int} (hcm : Calm D 300000) (hs : D.size = s) (h : atE D which a b c = 0) (hlen : (l.length : Int) = totalF a b c) (hn : sectorsF l.length s = n) : Sealed D which a b c q s n l := by
  obtain ⟨h1, h2, h3, h4, h5⟩ := atE_ok h
  have hok := hcm.ok
  have hsp := spanF_bd D.size a b c
  have hs2 := hok.s2
  have hspe : spanF D.size a b c = 1 + (n : Int) := by unfold spanF; rw [if_pos ⟨h1, h4, hok.s2⟩, ← hlen, hs, hn]
  have hfi : 0 ≤ which * spanF D.size a b c ∧ which * spanF D.size a b c + n < D.sectors := by
    have h01 : which = 0 ∨ which = 1 := by omega
    rcases h01 with rfl | rfl
    · rw [Int.zero_mul]; omega
    · rw [Int.one_mul]; omega
  rw [hs] at h4 hs2
  have hcov : l.length ≤ n * s := sectors_cover (by omega) (by omega) hn
  have hnb : n ≤ 90112 := by
    have := sectorsF_bd (totalF a b c) (s : Int) (totalF_bd a b c).1
    have := totalF_bd a b c
    rw [← hlen, hn] at *
    omega
  generalize hfd : which * spanF D.size a b c = fd at *
  have hpl : (padTo l (n * s)).length = n * s := pad_len _ _ hcov
  have hps : ∀ k, k < n → (((pieces (padTo l (n * s)) s n).getD k []).length : Int) = D.size := fun k hk => by
    rw [pieces_getD hk, piece_len (by rw [hpl]; exact Nat.mul_le_mul_right _ (by omega)), hs]
  have hcm2 : Calm D (n + 200001) := ⟨hcm.ok, hcm.planned, by have := hcm.ops; omega, by have := hcm.writes; omega⟩
  have hcm3 : Calm D n := ⟨hcm.ok, hcm.planned, by have := hcm.ops; omega, by have := hcm.writes; omega⟩
  obtain ⟨c1, c2, c3⟩ := Calm.data (first := fd) (ps := pieces (padTo l (n * s)) s n) hfi.1 n hcm2 hps hfi.2
  obtain ⟨g1, g2, g3, g4, g5⟩ := data_cached (first := fd) (ps := pieces (padTo l (n * s)) s n) hfi.1 n hcm3 hps hfi.2
  generalize hD1 : dataS D fd (pieces (padTo l (n * s)) s n) n = D1 at *
  have hel : (padTo (encF a b c l.length q (sumF l)) s).length = s := pad_len _ _ (by rw [enc_long]; omega)
  have hsz : (((padTo (encF a b c l.length q (sumF l)) s).length : Nat) : Int) = D1.size := by rw [hel, c3, hs]
  obtain ⟨w1, w2⟩ := write_good (i := fd) (b := padTo (encF a b c l.length q (sumF l)) s) c1.planned hfi.1 (by rw [c2]; omega) hsz
  obtain ⟨q1, q2, q3⟩ := Calm.write (n := 200000) (i := fd) (b := padTo (encF a b c l.length q (sumF l)) s) c1 hfi.1 (by rw [c2]; omega) hsz
  rw [hel] at w1
  have low : ∀ {D : DiskS} {n m : Nat}, m ≤ n → Calm D n → Calm D m := fun hm h => ⟨h.ok, h.planned, by have := h.ops; omega, by have := h.writes; omega⟩
  have cch : (writeS D1 fd (padTo (encF a b c l.length q (sumF l)) s)).cached = putI fd (padTo (encF a b c l.length q (sumF l)) s) D1.cached := by rw [w2]
  constructor
  · rw [hfd, hD1]; exact low (by omega) c1
  · rw [hfd, hD1, c3, hs]
  · intro w' a' b' c'; rw [hfd, hD1]; exact atE_same c3 c2 _ _ _ _
  · rw [hfd, hD1]; exact w1
  · rw [hfd, hD1]; exact low (by omega) q1
  · rw [hfd, hD1, q3, c3, hs]
  · intro w' a' b' c'; rw [hfd, hD1]; exact atE_same (q3.trans c3) (q2.trans c2) _ _ _ _
  · rw [hfd, hD1]; unfold sectR; rw [cch, getI_putI, if_pos rfl]; rfl
  · rw [hfd, hD1]
    unfold sectsR
    conv => rhs; unfold pieces
    refine List.map_congr_left fun k hk => ?_
    have hk' : k < n := List.mem_range.1 hk
    unfold sectR
    rw [cch, getI_putI, if_neg (by omega), g1 k hk', pieces_getD hk']
    rfl
  · rw [hfd, hD1, w2]; show D1.ops + 1 = _; omega
  · rw [hfd, hD1, w2]; show D1.writes + 1 = _; omega
/-- What is read of it. -/
theorem body_of {l : List Int} {s n : Nat} (hcov : l.length ≤ n * s) (hin : InB l) : (∀ x ∈ pieces (padTo l (n * s)) s n, InB x ∧ x.length = s) ∧ ((pieces (padTo l (n * s)) s n).flatten.take l.length) = l := by
  have hpl : (padTo l (n * s)).length = n * s := pad_len _ _ hcov
  have hpi : InB (padTo l (n * s)) := fun x hx => by
    unfold padTo at hx
    rcases List.mem_append.1 hx with hx | hx
    · exact hin x hx
    · have := List.eq_of_mem_replicate hx; omega
  refine ⟨fun x hx => ?_, ?_⟩
  · unfold pieces at hx
    obtain ⟨k, hk, rfl⟩ := List.mem_map.1 hx
    have hk' : k < n := List.mem_range.1 hk
    refine ⟨fun y hy => hpi y (List.mem_of_mem_take (List.mem_of_mem_drop hy)), piece_len (by rw [hpl]; exact Nat.mul_le_mul_right _ (by omega))⟩
  · rw [pieces_flat, List.take_of_length_le (l := padTo l (n * s)) (by omega)]
    unfold padTo; rw [List.take_left' rfl]
end Go.Proofs.YtcemageindmbkaaDoor
