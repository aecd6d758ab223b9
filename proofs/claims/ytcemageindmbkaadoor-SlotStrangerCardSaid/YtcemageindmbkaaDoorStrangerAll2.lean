/- Parts of the proof, in build order. -/
import Derived.Test.YtcemageindmbkaaDoorStrangerAll1
import Derived.Lib.SlBytesConst
import Derived.ArgAppend
import Derived.StillTail
import Derived.Laws.BytesArg
import Derived.Lib.EndianBits
/- head.lay, take, Encode: what they return. -/
namespace Go.Proofs.YtcemageindmbkaaDoor
open Go.RowKit Go.Proofs.YtcemageindmbkaaDoorW.PrintWords
open PSlotBytes

/-- A number's bytes, the lowest first. -/
def layF : Nat → Int → List Int
  | 0, _ => []
  | m + 1, n => n % 256 :: layF m (n / 256)
theorem layF_length : ∀ m n, (layF m n).length = m
  | 0, _ => rfl
  | m + 1, n => by simp [layF, layF_length m]
theorem layF_in : ∀ m n, InB (layF m n)
  | 0, _ => fun x hx => by cases hx
  | m + 1, n => fun x hx => by
    rcases List.mem_cons.1 hx with rfl | hx
    · omega
    · exact layF_in m _ x hx
theorem lay32_l (d : Nat) : ∀ (k : Nat) (l : List Int) (n many i : Int), 0 ≤ i → many - i = d → many ≤ 100 → d < k → l.length + d ≤ 1000000 → head_lay_uint32.l0 k l n many i = some (l ++ layF d n) := by
  induction d with
  | zero =>
    intro k l n many i h0 h1 h2 hk hl
    obtain ⟨k, rfl⟩ : ∃ m, k = m + 1 := ⟨k - 1, by omega⟩
    simp only [head_lay_uint32.l0, layF]
    rw [if_neg (by omega)]; simp
  | succ d ih =>
    intro k l n many i h0 h1 h2 hk hl
    obtain ⟨k, rfl⟩ : ∃ m, k = m + 1 := ⟨k - 1, by omega⟩
    simp only [head_lay_uint32.l0, layF]
    have e : wrap64 (i + 1) = i + 1 := by unfold wrap64; omega
    rw [if_pos (by omega), if_pos (by omega), e, ih k _ _ _ _ (by omega) (by omega) h2 (by omega) (by simp; omega)]
    simp
theorem lay64_l (d : Nat) : ∀ (k : Nat) (l : List Int) (n many i : Int), 0 ≤ i → many - i = d → many ≤ 100 → d < k → l.length + d ≤ 1000000 → head_lay_uint64.l0 k l n many i = some (l ++ layF d n) := by
  induction d with
  | zero =>
    intro k l n many i h0 h1 h2 hk hl
    obtain ⟨k, rfl⟩ : ∃ m, k = m + 1 := ⟨k - 1, by omega⟩
    simp only [head_lay_uint64.l0, layF]
    rw [if_neg (by omega)]; simp
  | succ d ih =>
    intro k l n many i h0 h1 h2 hk hl
    obtain ⟨k, rfl⟩ : ∃ m, k = m + 1 := ⟨k - 1, by omega⟩
    simp only [head_lay_uint64.l0, layF]
    have e : wrap64 (i + 1) = i + 1 := by unfold wrap64; omega
    rw [if_pos (by omega), if_pos (by omega), e, ih k _ _ _ _ (by omega) (by omega) h2 (by omega) (by simp; omega)]
    simp

/-- lay: onto bytes of the call's own. -/
theorem lay32_calls (m : Nat) (v : Value) (l : List Int) (n : Int) (w0 w : World) (hB : Below w0.heap.size w0 w) (hR : RB w w0.heap.size (fun k => w0.heap.size ≤ k) v l) (hm : m ≤ 100) (hl : l.length ≤ 1000) :
    Calls Tryd.prog 103 #[v, .int .u32 n, .int .i64 (m : Int)] w fun e w' => ∃ v', e = .returned v' ∧ RB w' w0.heap.size (fun k => w0.heap.size ≤ k) v' (l ++ layF m n) ∧ Below w0.heap.size w0 w' :=
  (head_lay_uint32.calls (m + 1) (fun k => w0.heap.size ≤ k) v l n m _ w0 w hB hR (lay32_l m (m + 1) l n m 0 (by omega) (by omega) (by omega) (by omega) (by omega))).mono
    fun e w' ⟨v', h1, h2, h3, _⟩ => ⟨v', h1, Kd.R_mono h2 (fun k hk => hk.elim id (fun h => Nat.le_trans hB.size h)), h3⟩
theorem lay64_calls (m : Nat) (v : Value) (l : List Int) (n : Int) (w0 w : World) (hB : Below w0.heap.size w0 w) (hR : RB w w0.heap.size (fun k => w0.heap.size ≤ k) v l) (hm : m ≤ 100) (hl : l.length ≤ 1000) :
    Calls Tryd.prog 104 #[v, .int .u64 n, .int .i64 (m : Int)] w fun e w' => ∃ v', e = .returned v' ∧ RB w' w0.heap.size (fun k => w0.heap.size ≤ k) v' (l ++ layF m n) ∧ Below w0.heap.size w0 w' :=
  (head_lay_uint64.calls (m + 1) (fun k => w0.heap.size ≤ k) v l n m _ w0 w hB hR (lay64_l m (m + 1) l n m 0 (by omega) (by omega) (by omega) (by omega) (by omega))).mono
    fun e w' ⟨v', h1, h2, h3, _⟩ => ⟨v', h1, Kd.R_mono h2 (fun k hk => hk.elim id (fun h => Nat.le_trans hB.size h)), h3⟩

def enc8 (a b c : Int) : List Int := [75, 69, 69, 80, 1, a % 256, b % 256, c % 256]
def enc24 (a b c n q u : Int) : List Int := enc8 a b c ++ layF 4 (n % 4294967296) ++ layF 8 q ++ layF 4 u
theorem enc24_length (a b c n q u : Int) : (enc24 a b c n q u).length = 24 := by simp [enc24, enc8, layF_length]
theorem enc24_in (a b c n q u : Int) : InB (enc24 a b c n q u) := fun x hx => by
  simp only [enc24, List.mem_append] at hx
  rcases hx with ((hx | hx) | hx) | hx
  · simp [enc8] at hx; omega
  · exact layF_in _ _ x hx
  · exact layF_in _ _ x hx
  · exact layF_in _ _ x hx
def encF (a b c n q u : Int) : List Int := enc24 a b c n q u ++ layF 4 (sumF (enc24 a b c n q u))

theorem RB_of_own {w : World} {B : Nat} {v : Value} {l : List Int} (h : w.ownsRow B 5 1 v l.length (nums .u8 l)) : RB w B (fun k => B ≤ k) v l :=
  ⟨fun k hk => own_base h k hk, nums .u8 l, h, ⟨by simp [nums, KB, Kd.int, Kd.scalar], fun j p hj => by
    show _ = _
    have hj2 := (List.getElem?_eq_some_iff.1 hj).1
    simp only [nums, KB, Kd.int, Kd.scalar, Nat.mul_one]
    rw [List.take_one]
    simp [List.head?_drop, hj]⟩⟩

theorem enc_blk1 (w1 : World) (o1 o2 o3 : Obj) : (((w1.alloc o1).alloc o2).alloc o3).heap[w1.heap.size + 1]? = some o2 := by
  have := heap_alloc_new (w1.alloc o1) o2
  have h2 := blk_alloc this o3
  simpa using h2
theorem enc_blk2 (w1 : World) (o1 o2 o3 : Obj) : (((w1.alloc o1).alloc o2).alloc o3).heap[w1.heap.size + 1 + 1]? = some o3 := by
  have := heap_alloc_new ((w1.alloc o1).alloc o2) o3
  simpa using this

set_option maxHeartbeats 2000000 in
set_option maxRecDepth 100000 in
theorem enc_calls (a b c n q u : Int) (w : World) (hl : Laid w) (hr : hrightF a b c n = true) :
    Calls Tryd.prog 59 #[.agg #[.int .i64 a, .int .i64 b, .int .i64 c, .int .i64 n, .int .u64 q, .int .u32 u]] w fun e w' => ∃ v, e = .returned (.tuple #[v, .int .i64 0]) ∧ RB w' w.heap.size (fun k => w.heap.size ≤ k) v (encF a b c n q u) ∧ Below w.heap.size w w' := by
  have hR := fun w hl => hr ▸ hright_calls a b c n q u w hl
  have HR := Lib.hid hR
  have HL := Lib.hid hl
  clear hR hr hl
  go_enter Tryd.func59, Tryd.ntmps59
  go_wp2_with fail
  generalize hW : w.alloc (.cells #[.int .i64 a, .int .i64 b, .int .i64 c, .int .i64 n, .int .u64 q, .int .u32 u] 93) = wB
  have c0 : wB.cell? ⟨w.heap.size, 0, none⟩ = some (.int .i64 a) := by rw [← hW]; simp
  have c1 : wB.cell? ⟨w.heap.size, 1, none⟩ = some (.int .i64 b) := by rw [← hW]; simp
  have c2 : wB.cell? ⟨w.heap.size, 2, none⟩ = some (.int .i64 c) := by rw [← hW]; simp
  have c3 : wB.cell? ⟨w.heap.size, 3, none⟩ = some (.int .i64 n) := by rw [← hW]; simp
  have c4 : wB.cell? ⟨w.heap.size, 4, none⟩ = some (.int .u64 q) := by rw [← hW]; simp
  have c5 : wB.cell? ⟨w.heap.size, 5, none⟩ = some (.int .u32 u) := by rw [← hW]; simp
  have hbW : Below w.heap.size w wB := by rw [← hW]; exact (below_alloc (Below.refl _ _) _)
  have HBW := Lib.hid hbW
  have hlt : w.heap.size < wB.heap.size := World.block_lt_of_cell? wB _ c0
  clear hW hbW
  refine (HR.out _ (HL.out.of_below HBW.out)).mono ?_
  rintro e w1 ⟨rfl, hb⟩
  obtain ⟨hc, hf⟩ := bcell hb
  have hsz : w.heap.size < w1.heap.size := Nat.lt_of_lt_of_le hlt hb.size
  have HB := Lib.hid hb
  clear hb
  have kc : (convert 27 27 (.slice (some ⟨w1.heap.size + 1, 0, none⟩) 4 4)).run Tryd.prog ((w1.alloc (.cells #[.int .i64 a, .int .i64 b, .int .i64 c] 23)).alloc (.cells #[.int .u8 75, .int .u8 69, .int .u8 69, .int .u8 80] 5)) = .ok (.slice (some ⟨w1.heap.size + 1, 0, none⟩) 4 4) ((w1.alloc (.cells #[.int .i64 a, .int .i64 b, .int .i64 c] 23)).alloc (.cells #[.int .u8 75, .int .u8 69, .int .u8 69, .int .u8 80] 5 (4, 5))) := by
    have := Lib.run_convert_bytes_const (P := Tryd.prog) (w1.alloc (.cells #[.int .i64 a, .int .i64 b, .int .i64 c] 23)) 27 5 #[.int .u8 75, .int .u8 69, .int .u8 69, .int .u8 80] 4 4 Tryd.underlying27 Tryd.underlying5
    simpa using this
  obtain ⟨i0, hi, hzz⟩ := Option.map_eq_some_iff.1 infoB
  simp only [Prod.mk.injEq] at hzz
  obtain ⟨hz0, hz1, hz2⟩ := hzz
  have HI := Lib.hid hi
  have HZ0 := Lib.hid hz0
  have HZ1 := Lib.hid hz1
  have HZ2 := Lib.hid hz2
  clear hi hz0 hz1 hz2
  go_wp2_with ((with_reducible refine gate_dst (N := 23) rfl ?_); refine wpList_append_grows _ rfl _ _ 27 rfl 5 i0 (.int .u8 0) 1 1 Tryd.underlying27 HI.out HZ0.out HZ1.out HZ2.out rfl (by decide) (some ⟨w1.heap.size + 1, 0, none⟩) 4 4 [.int .u8 75, .int .u8 69, .int .u8 69, .int .u8 80] rfl (fun h => by cases h) rfl (fun bb hbb => by cases hbb; exact World.news_of_block (cs := #[.int .u8 75, .int .u8 69, .int .u8 69, .int .u8 80]) (t := 5) (fr := (4, 5)) (enc_blk1 _ _ _ _)) ⟨w1.heap.size + 1 + 1, 0, none⟩ 4 4 [.int .u8 1, .int .u8 (a % 256), .int .u8 (b % 256), .int .u8 (c % 256)] rfl rfl (World.news_of_block (cs := #[.int .u8 1, .int .u8 (a % 256), .int .u8 (b % 256), .int .u8 (c % 256)]) (t := 5) (fr := (0, 0)) (enc_blk2 _ _ _ _)) (by simp [Value.oneCell']) (by decide) (by decide) (by decide) ?_; intro v2 w2 HO2 HG2; have hB2 : Below wB.heap.size wB w2 := (Below.grown (below_alloc (below_alloc (below_alloc HB.out _) _) _) HG2 (by have := HB.out.size; simp only [World.size_alloc]; omega) (fun _ h => (by cases h))); have d3 : w2.cell? ⟨w.heap.size, 3, none⟩ = some (.int .i64 n) := ((bcell hB2).1 _ _ hlt).trans c3; have d4 : w2.cell? ⟨w.heap.size, 4, none⟩ = some (.int .u64 q) := ((bcell hB2).1 _ _ hlt).trans c4; have d5 : w2.cell? ⟨w.heap.size, 5, none⟩ = some (.int .u32 u) := ((bcell hB2).1 _ _ hlt).trans c5)
  have hS2 := HB.out.size
  have hR2 : RB w2 wB.heap.size (fun k => wB.heap.size ≤ k) v2 (enc8 a b c) := Kd.R_mono (Kd.R_lower (RB_of_own (l := enc8 a b c) HO2) (by simp only [World.size_alloc]; omega)) (fun q hq => by simp only [World.size_alloc] at hq; omega)
  have HR2 := Lib.hid hR2
  have HB2 := Lib.hid hB2
  clear HO2 HG2 hR2 hB2
  refine (lay32_calls 4 v2 _ (n % 4294967296) wB w2 HB2.out HR2.out (by decide) (by simp [enc8])).mono ?_
  rintro e w3 ⟨v3, rfl, hR3, hB3⟩
  have e4 : w3.cell? ⟨w.heap.size, 4, none⟩ = some (.int .u64 q) := ((bcell hB3).1 _ _ hlt).trans c4
  have HR3 := Lib.hid hR3
  have HB3 := Lib.hid hB3
  clear hR3 hB3
  go_wp2_with fail
  refine (lay64_calls 8 v3 _ q wB w3 HB3.out HR3.out (by decide) (by simp [enc8, layF_length])).mono ?_
  rintro e w4 ⟨v4, rfl, hR4, hB4⟩
  have f5 : w4.cell? ⟨w.heap.size, 5, none⟩ = some (.int .u32 u) := ((bcell hB4).1 _ _ hlt).trans c5
  have HR4 := Lib.hid hR4
  have HB4 := Lib.hid hB4
  clear hR4 hB4
  go_wp2_with fail
  refine (lay32_calls 4 v4 _ u wB w4 HB4.out HR4.out (by decide) (by simp [enc8, layF_length])).mono ?_
  rintro e w5 ⟨v5, rfl, hR5, hB5⟩
  have HB5 := Lib.hid hB5
  replace hR5 : RB w5 wB.heap.size (fun k => wB.heap.size ≤ k) v5 (enc24 a b c n q u) := hR5
  have hin := enc24_in a b c n q u
  have hlen := enc24_length a b c n q u
  have hfin : encF a b c n q u = enc24 a b c n q u ++ layF 4 (sumF (enc24 a b c n q u)) := rfl
  generalize enc24 a b c n q u = L at *
  have HF := Lib.hid hfin
  have HR5 := Lib.hid hR5
  have HI := Lib.hid hin
  have HL := Lib.hid hlen
  clear hR5 hB5 hin hlen hfin
  obtain ⟨A5, m5, rfl, hm5, hC5⟩ := Kd.R_reads HR5.out
  have HC5 := Lib.hid hC5
  clear hC5
  go_wp2_with fail
  refine (sum_calls A5 m5 L w5 HC5.out HI.out (by rw [HL.out]; decide)).mono ?_
  rintro e w6 ⟨rfl, hB6⟩
  have HR6 := Lib.hid (Kd.R_below HR5.out hB6)
  have HB6 := Lib.hid (below_via HB5.out hB6)
  clear hB6
  go_wp2_with fail
  refine (lay32_calls 4 _ _ (sumF L) wB w6 HB6.out HR6.out (by decide) (by rw [HL.out]; decide)).mono ?_
  rintro e w7 ⟨v7, rfl, hR7, hB7⟩
  have HR7 := Lib.hid hR7
  have HB7 := Lib.hid (below_via HBW.out hB7)
  clear hR7 hB7
  go_wp2_with fail
  go_ret2
  refine ⟨v7, rfl, HF.out ▸ Kd.R_mono (Kd.R_lower HR7.out HBW.out.size) (fun q hq => Nat.le_trans HBW.out.size hq), HB7.out⟩
end Go.Proofs.YtcemageindmbkaaDoor
/- A region that draws its order, whose operations yield one value each in every world that has come of w0, but for ONE that makes memory and may come up at any time, and a tail in one order: ONE walk, in the order of the text. -/
namespace Go.Proofs.YtcemageindmbkaaDoor
open Go.RowKit Go.Proofs.YtcemageindmbkaaDoorW.PrintWords

/-- w' has come of w: nothing of what was there has turned. -/
abbrev Abv (w w' : World) : Prop := Below w.heap.size w w'
theorem Abv.refl (w : World) : Abv w w := Below.refl _ _
theorem Abv.trans {w w1 w2 : World} (h : Abv w w1) (k : Abv w1 w2) : Abv w w2 := below_via h k

section
variable {P : Program} {ops : Array Oper} {md : Region.Mode} {w0 : World}

/-- What an operation's end leaves, if all that follows is the next operation. -/
def smoothUpon (P : Program) (o : Oper) (a : Act) (w : World) (K : Act → World → Prop) : Result Next → Prop
  | .ok (.value v) w' => Abv w w' ∧ K (a.put o.dst v) w'
  | .ok .skip w' => Abv w w' ∧ K (a.put o.dst undef) w'
  | .ok (.enter f args) w' => w' = w ∧ Calls P f args w (fun e w'' => ∃ v, e = .returned v ∧ Abv w w'' ∧ K (a.put o.dst v) w'')
  | _ => False
def smooth (P : Program) (o : Oper) (a : Act) (w : World) (K : Act → World → Prop) : Prop := smoothUpon P o a w K ((execOp a.eval o).run P w)
def smOp (P : Program) (ops : Array Oper) (i : Nat) (K : Act → World → Prop) (a : Act) (w : World) : Prop :=
  match ops[i]? with
  | none => K a w
  | some o => if Region.wanted o (yielded ops a.tmps) then smooth P o a w K else K (a.put o.dst undef) w

theorem smooth_mono {o : Oper} {a : Act} {w : World} {K K' : Act → World → Prop} (h : ∀ a' w', Abv w w' → K a' w' → K' a' w') (hh : smooth P o a w K) : smooth P o a w K' := by
  unfold smooth at *
  generalize (execOp a.eval o).run P w = r at *
  cases r with
  | ok x w' =>
    cases x <;> simp only [smoothUpon] at hh ⊢
    case value u => exact ⟨hh.1, h _ _ hh.1 hh.2⟩
    case skip => exact ⟨hh.1, h _ _ hh.1 hh.2⟩
    case enter f args => exact ⟨hh.1, hh.2.mono fun e w'' ⟨v, h1, h2, h3⟩ => ⟨v, h1, h2, h _ _ h2 h3⟩⟩
  | halt x w' => simp only [smoothUpon] at hh
theorem smOp_mono {i : Nat} {a : Act} {w : World} {K K' : Act → World → Prop} (h : ∀ a' w', Abv w w' → K a' w' → K' a' w') (hh : smOp P ops i K a w) : smOp P ops i K' a w := by
  unfold smOp at *
  split
  · rename_i ho; simp only [ho] at hh; exact h _ _ (Abv.refl _) hh
  · rename_i o ho
    simp only [ho] at hh
    split
    · rename_i hw; simp only [hw, if_true] at hh; exact smooth_mono h hh
    · rename_i hw; simp only [hw] at hh; exact h _ _ (Abv.refl _) hh
theorem wpOp_of_smOp {i : Nat} {a : Act} {w : World} {K : Act → World → Prop} {K' : Act → World → Prop} {Q' : Exit → Act → World → Prop} (h : ∀ a' w', Abv w w' → K a' w' → K' a' w') (hh : smOp P ops i K a w) : wpOp P ops Q' i K' a w := by
  unfold smOp at hh
  unfold wpOp
  split
  · rename_i ho; simp only [ho] at hh; exact h _ _ (Abv.refl _) hh
  · rename_i o ho
    simp only [ho] at hh
    split
    · rename_i hw
      simp only [hw, if_true] at hh
      refine .inl ?_
      unfold smooth at hh
      unfold Oper.wp
      generalize (execOp a.eval o).run P w = r at *
      cases r with
      | ok x w' =>
        cases x <;> simp only [smoothUpon] at hh <;> simp only [Oper.upon]
        case value u => exact h _ _ hh.1 hh.2
        case skip => exact h _ _ hh.1 hh.2
        case enter f args =>
          obtain ⟨e1, hc⟩ := hh
          rw [e1]
          exact hc.mono fun e w'' ⟨v, h1, h2, h3⟩ => by subst h1; exact h _ _ h2 h3
      | halt x w' => simp only [smoothUpon] at hh
    · rename_i hw; simp only [hw] at hh; exact h _ _ (Abv.refl _) hh

/-- In every world that has come of w0 the operation yields v, and leaves what was there. -/
def YR (P : Program) (ops : Array Oper) (w0 : World) (o : Oper) (v : Value) (a : Act) : Prop :=
  (Region.wanted o (yielded ops a.tmps) = true ∧ ∀ w, Abv w0 w → o.quietAt P a (Abv w) w v) ∨
  (Region.wanted o (yielded ops a.tmps) = false ∧ v = undef)
theorem YR.of_same {o : Oper} {v : Value} {a a' : Act} (hy : YR P ops w0 o v a) (he : execOp a'.eval o = execOp a.eval o)
    (hw : Region.wanted o (yielded ops a'.tmps) = Region.wanted o (yielded ops a.tmps)) : YR P ops w0 o v a' := by
  unfold YR Oper.quietAt at *
  rw [he, hw]
  exact hy
theorem YR.smOp {i : Nat} {o : Oper} {v : Value} {a : Act} {w : World} (hi : ops[i]? = some o) (hy : YR P ops w0 o v a) (hw0 : Abv w0 w) {K : Act → World → Prop} (h : ∀ w', Abv w w' → K (a.put o.dst v) w') : smOp P ops i K a w := by
  unfold Proofs.YtcemageindmbkaaDoor.smOp
  simp only [hi]
  rcases hy with ⟨hw, hv⟩ | ⟨hw, rfl⟩
  · simp only [hw, if_true]
    have h3 := hv w hw0
    unfold Oper.quietAt at h3
    unfold smooth
    generalize (execOp a.eval o).run P w = r at *
    cases r with
    | ok x w' =>
      cases x <;> simp only [Oper.quietUpon] at h3 <;> simp only [smoothUpon]
      case value u => obtain ⟨rfl, rfl⟩ := h3; exact ⟨Abv.refl _, h _ (Abv.refl _)⟩
      case skip => obtain ⟨rfl, rfl⟩ := h3; exact ⟨Abv.refl _, h _ (Abv.refl _)⟩
      case enter f args => exact ⟨h3.1, h3.2.mono fun e w'' ⟨he, hb⟩ => ⟨v, he, hb, h _ hb⟩⟩
    | halt x w' => simp only [Oper.quietUpon] at h3
  · simp only [hw, Bool.false_eq_true, if_false]; exact h _ (Abv.refl _)

theorem smOp_put {j : Nat} {oi oj : Oper} {v : Value} (hj : ops[j]? = some oj) (hap : oi.apart ops oj = true)
    (hsi : ∀ cs b, oi.op ≠ .select cs b) (hsj : ∀ cs b, oj.op ≠ .select cs b) {K : Act → World → Prop} {a : Act} {w : World}
    (hy : YR P ops w0 oi v a) (h : smOp P ops j K (a.put oi.dst v) w) :
    smOp P ops j (fun a' w' => YR P ops w0 oi v a' ∧ K (a'.put oi.dst v) w') a w := by
  obtain ⟨h1, h2, h3⟩ := Oper.apart_spec hap
  have keep : ∀ (a : Act), YR P ops w0 oi v a → ∀ u, YR P ops w0 oi v (a.put oj.dst u) := fun a hy u =>
    hy.of_same (execOp_put oi hsi a oj.dst u h3) (wanted_put oi a oj.dst u h3)
  unfold smOp at *
  simp only [hj] at *
  rw [wanted_put oj a oi.dst v h1] at h
  split
  · rename_i hw
    simp only [hw, if_true] at h
    unfold smooth at *
    rw [execOp_put oj hsj a oi.dst v h1] at h
    generalize (execOp a.eval oj).run P w = r at *
    cases r with
    | ok x w' =>
      cases x <;> simp only [smoothUpon] at h ⊢
      case value u => exact ⟨h.1, keep a hy u, by rw [← Act.put_comm a v u h2]; exact h.2⟩
      case skip => exact ⟨h.1, keep a hy _, by rw [← Act.put_comm a v undef h2]; exact h.2⟩
      case enter f args => exact ⟨h.1, h.2.mono fun e w'' ⟨u, e1, e2, e3⟩ => ⟨u, e1, e2, keep a hy u, by rw [← Act.put_comm a v u h2]; exact e3⟩⟩
    | halt x w' => simp only [smoothUpon] at h
  · rename_i hw
    simp only [hw] at h
    exact ⟨keep a hy _, by rw [← Act.put_comm a v undef h2]; exact h⟩

/-- Whatever order is picked among the first n; then L: in every world that comes of w. -/
def wpR (P : Program) (md : Region.Mode) (ops : Array Oper) (n : Nat) (L : Array Bool → Act → World → Prop) : Nat → Array Bool → Act → World → Prop
  | 0, listed, a, w => ∀ w', Abv w w' → L listed a w'
  | f + 1, listed, a, w => Region.ready md ops listed ≠ [] ∧ ∀ i ∈ Region.ready md ops listed, i < n ∧ ∀ w', Abv w w' → smOp P ops i (wpR P md ops n L f (listed.setIfInBounds i true)) a w'
theorem wpR_mono {n : Nat} {L : Array Bool → Act → World → Prop} : ∀ (f : Nat) {listed : Array Bool} {a : Act} {w w' : World}, Abv w w' → wpR P md ops n L f listed a w → wpR P md ops n L f listed a w'
  | 0, _, _, _, _, hb, h => fun w'' h2 => h w'' (hb.trans h2)
  | _ + 1, _, _, _, _, hb, h => ⟨h.1, fun i hi => ⟨(h.2 i hi).1, fun w'' h2 => (h.2 i hi).2 w'' (hb.trans h2)⟩⟩

theorem wpAny_of_R {n g : Nat} {L : Array Bool → Act → World → Prop} {Q' : Exit → Act → World → Prop} (hL : ∀ listed a w, L listed a w → wpAny P md ops Q' g listed a w) :
    ∀ (f : Nat) (listed : Array Bool) (a : Act) (w : World), wpR P md ops n L f listed a w → wpAny P md ops Q' (f + g) listed a w
  | 0, listed, a, w, h => by rw [Nat.zero_add]; exact hL _ _ _ (h w (Abv.refl _))
  | f + 1, listed, a, w, h => by
    rw [show f + 1 + g = (f + g) + 1 by omega]
    exact ⟨fun h0 => absurd h0 h.1, fun i hi => wpOp_of_smOp (fun a' w' _ h' => wpAny_of_R hL f _ a' w' h') ((h.2 i hi).2 w (Abv.refl _))⟩

theorem wpR_first {n i : Nat} {oi : Oper} {v : Value} {L : Array Bool → Act → World → Prop} (hi : ops[i]? = some oi) (hsel : ∀ (j : Nat) (o : Oper) cs b, ops[j]? = some o → o.op ≠ .select cs b)
    (hwait : ∀ listed, HeadInv md ops n listed → ∀ i, i < n → listed.getD i true = false → ∀ t, n ≤ t → t ∉ Region.ready md ops listed) (hin : i < n)
    (hdone : ∀ listed a w, L listed a w → ∀ j ∈ Region.ready md ops listed, n ≤ j) :
    ∀ (f : Nat) (listed : Array Bool) (a : Act) (w : World), Abv w0 w → HeadInv md ops n listed →
      (∀ j oj, ops[j]? = some oj → j ≠ i → listed.getD j true = false → (∀ e ∈ oj.after, Region.binds md e = true → e.on ≠ i) → oi.apart ops oj = true) →
      i ∈ Region.ready md ops listed → YR P ops w0 oi v a →
      wpR P md ops n L f (listed.setIfInBounds i true) (a.put oi.dst v) w → wpR P md ops n L (f + 1) listed a w := by
  intro f
  induction f with
  | zero =>
    intro listed a w hw0 inv _ hr hy H
    have hun := (mem_ready.1 hr).1
    refine ⟨fun h => (by rw [h] at hr; cases hr), fun j hj => ?_⟩
    have hjn : j < n := by
      rcases Nat.lt_or_ge j n with h | h
      · exact h
      · exact absurd hj (hwait _ inv i hin hun j h)
    refine ⟨hjn, fun w1 h1 => ?_⟩
    by_cases hji : j = i
    · subst hji; exact hy.smOp hi (hw0.trans h1) (fun w2 h2 => wpR_mono 0 (h1.trans h2) H)
    · have := hdone _ _ _ (H w (Abv.refl _)) j (ready_mono hj hji)
      omega
  | succ f ih =>
    intro listed a w hw0 inv hfree hr hy H
    have hun := (mem_ready.1 hr).1
    refine ⟨fun h => (by rw [h] at hr; cases hr), fun j hj => ?_⟩
    have hjn : j < n := by
      rcases Nat.lt_or_ge j n with h | h
      · exact h
      · exact absurd hj (hwait _ inv i hin hun j h)
    refine ⟨hjn, fun w1 h1 => ?_⟩
    by_cases hji : j = i
    · subst hji; exact hy.smOp hi (hw0.trans h1) (fun w2 h2 => wpR_mono (f + 1) (h1.trans h2) H)
    · obtain ⟨hjun, oj, hoj, hall⟩ := mem_ready.1 hj
      have hnot : ∀ e ∈ oj.after, Region.binds md e = true → e.on ≠ i := fun e he hb heq => by
        have h1 := hall e he hb
        rw [heq, getD_both hun] at h1
        cases h1
      have hfree' : ∀ k ok, ops[k]? = some ok → k ≠ i → (listed.setIfInBounds j true).getD k true = false →
          (∀ e ∈ ok.after, Region.binds md e = true → e.on ≠ i) → oi.apart ops ok = true := fun k ok hk hki hun hno => by
        refine hfree k ok hk hki ?_ hno
        by_cases hjk : j = k
        · subst hjk; exact hjun
        · rw [getD_set_ne true hjk] at hun; exact hun
      have h3 := (H.2 j (ready_mono hj hji)).2 w1 h1
      refine smOp_mono (fun a' w' hb h4 => ih (listed.setIfInBounds j true) a' w' (hw0.trans (h1.trans hb)) (inv.set hj hjn) hfree' (ready_mono hr (Ne.symm hji)) h4.1 ?_)
        (smOp_put hoj (hfree j oj hoj hji hjun hnot) (fun cs b => hsel i oi cs b hi) (fun cs b => hsel j oj cs b hoj) hy h3)
      rw [Array.setIfInBounds_comm _ _ hji]
      exact h4.2

/-- The first n - 1 in the order of the text. -/
def LQ (P : Program) (ops : Array Oper) (w0 : World) : List Oper → Act → Act → Prop
  | [], a, z => a = z
  | o :: l, a, z => ∃ v, YR P ops w0 o v a ∧ LQ P ops w0 l (a.put o.dst v) z

/-- The first n - 1 one by one, then the one that is left, then what E says. -/
def lexHeadE (md : Region.Mode) (ops : Array Oper) (E : Array Bool → Bool) : Nat → Nat → Array Bool → Bool
  | 0, _, listed => E listed
  | f + 1, k, listed => (Region.ready md ops listed).contains k && Region.free md ops listed k && lexHeadE md ops E f (k + 1) (listed.setIfInBounds k true)
theorem wpR_lex {n : Nat} {E : Array Bool → Bool} {L : Array Bool → Act → World → Prop} (hsel : Region.noSelect ops = true) (hwait : ∀ listed, HeadInv md ops n listed → ∀ i, i < n → listed.getD i true = false → ∀ t, n ≤ t → t ∉ Region.ready md ops listed)
    (hdone : ∀ listed a w, L listed a w → ∀ j ∈ Region.ready md ops listed, n ≤ j) {z : Act} {w : World} (hw : Abv w0 w)
    (hend : ∀ listed, E listed = true → wpR P md ops n L 1 listed z w) :
    ∀ (l : List Oper) (k : Nat) (listed : Array Bool) (a : Act), (∀ j, j < l.length → l[j]? = ops[k + j]?) → k + l.length = n - 1 → 1 ≤ n → HeadInv md ops n listed →
    lexHeadE md ops E l.length k listed = true → LQ P ops w0 l a z →
    wpR P md ops n L (l.length + 1) listed a w
  | [], k, listed, a, _, hk, h1, _, hB, h => by
    have e : a = z := h
    subst e
    exact hend listed (by simpa [lexHeadE] using hB)
  | o :: l, k, listed, a, hl, hk, h1, inv, hB, h => by
    have h0 : ops[k]? = some o := by simpa using (hl 0 (by simp)).symm
    simp only [List.length_cons, lexHeadE, Bool.and_eq_true] at hB
    obtain ⟨⟨hr, hf⟩, hB'⟩ := hB
    have hkn : k < n := by simp only [List.length_cons] at hk; omega
    have hr' : k ∈ Region.ready md ops listed := by simpa using hr
    obtain ⟨v, hy, hK⟩ := h
    exact wpR_first h0 (Region.noSelect_spec hsel) hwait hkn hdone (l.length + 1) listed a w hw inv (Region.free_spec h0 hf) hr' hy
      (wpR_lex hsel hwait hdone hw hend l (k + 1) _ _ (fun j hj => by have := hl (j + 1) (by simp; omega); simpa [Nat.add_assoc, Nat.add_comm 1 j] using this) (by simp only [List.length_cons] at hk; omega) h1 (inv.set hr' hkn) hB' hK)

/-- Each has a slot of its own. -/
def dstsB (m : Nat) : List Oper → Bool
  | [] => true
  | o :: l => (match o.dst with | some d => decide (d < m) && l.all (fun p => p.dst != some d) | none => false) && dstsB m l

theorem quiet_keeps {C : World → Prop} {z : Act} {d : Nat} : ∀ {l : List Oper} {a : Act}, wpQuiet P ops C (fun a' => a' = z) l a → l.all (fun p => p.dst != some d) = true → z.tmps[d]? = a.tmps[d]?
  | [], a, h, _ => by have e : a = z := h; rw [e]
  | o :: l, a, h, hd => by
    simp only [List.all_cons, Bool.and_eq_true] at hd
    have hne : o.dst ≠ some d := by simpa using hd.1
    have key : ∀ v, (a.put o.dst v).tmps[d]? = a.tmps[d]? := fun v => by
      cases ho : o.dst with
      | none => rfl
      | some x => rw [ho] at hne; simp only [Act.put]; exact Array.getElem?_setIfInBounds_ne (fun e => hne (by rw [e]))
    unfold wpQuiet at h
    split at h
    · obtain ⟨v, _, h2⟩ := h; exact (quiet_keeps h2 hd.2).trans (key v)
    · exact (quiet_keeps h hd.2).trans (key _)

theorem LQ_of_quiet {z : Act} : ∀ {l : List Oper} {a : Act} (_ : dstsB a.tmps.size l = true) (_ : ∀ w1, Abv w0 w1 → wpQuiet P ops (Abv w1) (fun a' => a' = z) l a), LQ P ops w0 l a z
  | [], a, _, H => H w0 (Abv.refl _)
  | o :: l, a, hB, H => by
    simp only [dstsB, Bool.and_eq_true] at hB
    obtain ⟨h1, h2⟩ := hB
    cases ho : o.dst with
    | none => rw [ho] at h1; cases h1
    | some d =>
      rw [ho] at h1
      simp only [Bool.and_eq_true, decide_eq_true_eq] at h1
      have hsz : ∀ v, (a.put o.dst v).tmps.size = a.tmps.size := fun v => by rw [ho]; simp [Act.put]
      by_cases hw : Region.wanted o (yielded ops a.tmps) = true
      · have H' : ∀ w1, Abv w0 w1 → o.quietAt P a (Abv w1) w1 (z.tmps.getD d undef) ∧ wpQuiet P ops (Abv w1) (fun a' => a' = z) l (a.put o.dst (z.tmps.getD d undef)) := fun w1 hw1 => by
          have h3 := H w1 hw1
          unfold wpQuiet at h3
          rw [if_pos hw] at h3
          obtain ⟨v, h4, h5⟩ := h3
          have e1 := quiet_keeps h5 h1.2
          have e2 : (a.put o.dst v).tmps[d]? = some v := by rw [ho]; simp only [Act.put]; exact Array.getElem?_setIfInBounds_self_of_lt h1.1
          rw [e2] at e1
          have e3 : z.tmps.getD d undef = v := by rw [Array.getD_eq_getD_getElem?, e1]; rfl
          rw [e3]
          exact ⟨h4 w1 (Abv.refl _), h5⟩
        exact ⟨_, .inl ⟨hw, fun w1 hw1 => (H' w1 hw1).1⟩, LQ_of_quiet (by rw [hsz]; exact h2) (fun w1 hw1 => (H' w1 hw1).2)⟩
      · refine ⟨undef, .inr ⟨by simpa using hw, rfl⟩, LQ_of_quiet (by rw [hsz]; exact h2) (fun w1 hw1 => ?_)⟩
        have h3 := H w1 hw1
        unfold wpQuiet at h3
        rwa [if_neg hw] at h3

def floatB (m n : Nat) (ops : Array Oper) (l : List Oper) : Bool :=
  Region.noSelect ops && Region.sinkB .any ops n && Region.chainB .any ops n && decide (n < ops.size) && decide (1 ≤ n) && lexHeadE .any ops (fun listed => Region.seqB .any ops (ops.size - (n - 1)) (n - 1) listed) (n - 1) 0 (Array.replicate ops.size false) && dstsB m l

theorem wp_region_float {id : Nat} {Q : Exit → Act → World → Prop} {a : Act} {w : World} {l : List Oper} (n m : Nat) (hsz : a.tmps.size = m) (hm : P.follows .mixedOrders = true) (hB : floatB m n l.toArray (l.take (n - 1)) = true) (z : Act)
    (H : ∀ w1, Abv w w1 → wpQuiet P l.toArray (fun w' => ∃ m : BT w1, w' = m.w) (fun a' => a' = z) (l.take (n - 1)) a)
    (A : ∀ w', Abv w w' → smOp P l.toArray (n - 1) (fun a' w'' => ∀ w3, Abv w'' w3 → wpList P l.toArray Q (l.drop n) a' w3) z w') : (Code.region id l.toArray true).wp P Q a w := by
  simp only [floatB, Bool.and_eq_true, decide_eq_true_eq] at hB
  obtain ⟨⟨⟨⟨⟨⟨hsel, hs⟩, hc⟩, hn⟩, h1⟩, hlex⟩, hd⟩ := hB
  have hn' : n < l.length := by simpa using hn
  have htl : (l.take (n - 1)).length = n - 1 := by simp; omega
  have hdl : (l.drop n).length = l.toArray.size - n := by simp
  have inv0 : HeadInv .any l.toArray n (Array.replicate l.toArray.size false) :=
    ⟨by simp, fun j oj _ hl => (by rw [getD_replicate_false] at hl; cases hl), fun t _ ht => getD_in (by simpa using ht) (getD_replicate_false _ _)⟩
  have hcl : ∀ w1 : World, (fun w' => ∃ m : BT w1, w' = m.w) = Abv w1 := fun w1 => funext fun w' => propext ⟨fun ⟨m, e⟩ => e ▸ m.ok, fun h => ⟨⟨w', h⟩, rfl⟩⟩
  have hLQ : LQ P l.toArray w (l.take (n - 1)) a z := LQ_of_quiet (by rw [hsz]; exact hd) (fun w1 hw1 => by have := H w1 hw1; rwa [hcl] at this)
  have hdr : Abv w w.drew := below_drew (Below.refl _ _)
  have R := wpR_lex (P := P) (md := .any) (w0 := w) (w := w.drew) (L := fun listed a' w' => Region.seqB .any l.toArray (l.toArray.size - n) n listed = true ∧ wpList P l.toArray Q (l.drop n) a' w') hsel (fun listed inv i hi hun t ht => tail_waits hs hc hn inv _ i rfl hi hun t ht)
    (fun listed _ _ hL => seqB_ready hL.1) hdr (z := z) (E := fun listed => Region.seqB .any l.toArray (l.toArray.size - (n - 1)) (n - 1) listed) (fun listed hq => by
      replace hq : Region.seqB .any l.toArray (l.toArray.size - (n - 1)) (n - 1) listed = true := hq
      rw [show l.toArray.size - (n - 1) = (l.toArray.size - n) + 1 by omega] at hq
      simp only [Region.seqB, Bool.and_eq_true, decide_eq_true_eq] at hq
      rw [show n - 1 + 1 = n by omega] at hq
      refine ⟨fun h0 => (by rw [hq.1] at h0; cases h0), fun i hi => ?_⟩
      rw [hq.1] at hi
      have hi' : i = n - 1 := by simpa using hi
      subst hi'
      exact ⟨by omega, fun w' hw' => smOp_mono (fun a' w'' hb h4 w3 h5 => ⟨hq.2, h4 w3 h5⟩) (A w' (hdr.trans hw'))⟩)
    (l.take (n - 1)) 0 _ a (fun j hj => by rw [htl] at hj; simp [hj]) (by simpa using htl) h1 inv0 (by rw [htl]; exact hlex) hLQ
  refine wp_region_any hm ?_
  have := wpAny_of_R (Q' := Q) (g := l.toArray.size - n) (fun listed a' w' hL => by
    have := wpAny_of_seq (md := .any) (Q' := Q) (l.drop n) n listed a' w' (fun j => by simp [List.getElem?_drop]) (by rw [hdl]; exact hL.1) hL.2
    rwa [hdl] at this) _ _ _ _ R
  rw [htl, show n - 1 + 1 + (l.toArray.size - n) = l.toArray.size by omega] at this
  exact this

/-! ### A tail whose operations only read, in any order -/
def chainB2 (md : Region.Mode) (ops : Array Oper) (n : Nat) : Bool :=
  (List.range ops.size).all fun t => decide (t ≤ n) || (List.range t).any fun u => decide (n ≤ u) && Region.waitsFor md ops t u
theorem tail_waits2 {n : Nat} {listed : Array Bool} (hs : Region.sinkB md ops n = true) (hc : chainB2 md ops n = true) (_hn : n < ops.size) (inv : HeadInv md ops n listed) :
    ∀ (d i : Nat), n - i = d → i < n → listed.getD i true = false → ∀ t, n ≤ t → t ∉ Region.ready md ops listed := by
  intro d
  induction d using Nat.strongRecOn with
  | _ d ih =>
    intro i hd hi hun t ht hr
    obtain ⟨_, ot, hot, hall⟩ := mem_ready.1 hr
    have htlt : t < ops.size := (Array.getElem?_eq_some_iff.1 hot).1
    by_cases htn : t = n
    · subst htn
      have h1 := List.all_eq_true.1 hs i (List.mem_range.2 hi)
      obtain ⟨j, hj, hj2⟩ := List.any_eq_true.1 h1
      simp only [Bool.and_eq_true, decide_eq_true_eq] at hj2
      obtain ⟨oj, hoj, e, he, hb, hon⟩ := Region.waitsFor_spec hj2.2
      have hjle : j ≤ t := by have := List.mem_range.1 hj; omega
      by_cases hjt : j = t
      · subst hjt
        have : oj = ot := Option.some.inj (hoj.symm.trans hot)
        subst this
        have h2 := hall e he hb
        rw [hon, getD_both hun] at h2
        cases h2
      · cases hl : listed.getD j false with
        | true =>
          have h2 := inv.closed j oj hoj hl e he hb
          rw [hon, getD_both hun] at h2
          cases h2
        | false =>
          have hjs : j < listed.size := by rw [inv.size]; omega
          exact ih (t - j) (by omega) j rfl (by omega) (getD_in hjs hl) t (Nat.le_refl _) hr
    · have h1 := List.all_eq_true.1 hc t (List.mem_range.2 htlt)
      simp only [Bool.or_eq_true, decide_eq_true_eq] at h1
      rcases h1 with h1 | h1
      · omega
      · obtain ⟨u, hu, hu2⟩ := List.any_eq_true.1 h1
        simp only [Bool.and_eq_true, decide_eq_true_eq] at hu2
        have hut := List.mem_range.1 hu
        obtain ⟨o', ho', e, he, hb, hon⟩ := Region.waitsFor_spec hu2.2
        have : o' = ot := Option.some.inj (ho'.symm.trans hot)
        subst this
        have h2 := hall e he hb
        rw [hon, getD_both (inv.tail u hu2.1 (by omega))] at h2
        cases h2

def tailE (n : Nat) (ops : Array Oper) (listed : Array Bool) : Bool :=
  decide (Region.ready .any ops listed = [n - 1]) && (Region.ready .any ops (listed.setIfInBounds (n - 1) true)).all (fun j => decide (n ≤ j)) && Region.lexFrom .any ops (ops.size - n) n (listed.setIfInBounds (n - 1) true)
def floatB2 (m n : Nat) (ops : Array Oper) (l : List Oper) : Bool :=
  Region.noSelect ops && Region.sinkB .any ops n && chainB2 .any ops n && decide (n < ops.size) && decide (1 ≤ n) && lexHeadE .any ops (tailE n ops) (n - 1) 0 (Array.replicate ops.size false) && dstsB m l

/-- Behind the one that makes memory: operations that only read, in any order. -/
theorem wp_region_float2 {id : Nat} {Q : Exit → Act → World → Prop} {a : Act} {w : World} {l : List Oper} (n m : Nat) (hsz : a.tmps.size = m) (hm : P.follows .mixedOrders = true) (hB : floatB2 m n l.toArray (l.take (n - 1)) = true) (z : Act)
    (H : ∀ w1, Abv w w1 → wpQuiet P l.toArray (fun w' => ∃ m : BT w1, w' = m.w) (fun a' => a' = z) (l.take (n - 1)) a)
    (A : ∀ w', Abv w w' → smOp P l.toArray (n - 1) (fun a' w'' => ∀ w3, Abv w'' w3 → wpQuiet P l.toArray (fun w' => ∃ m : BT w3, w' = m.w) (fun a2 => ∀ w4, (∃ m : BT w3, w4 = m.w) → Q .normal a2 w4) (l.drop n) a') z w') : (Code.region id l.toArray true).wp P Q a w := by
  simp only [floatB2, Bool.and_eq_true, decide_eq_true_eq] at hB
  obtain ⟨⟨⟨⟨⟨⟨hsel, hs⟩, hc⟩, hn⟩, h1⟩, hlex⟩, hd⟩ := hB
  have hn' : n < l.length := by simpa using hn
  have htl : (l.take (n - 1)).length = n - 1 := by simp; omega
  have hdl : (l.drop n).length = l.toArray.size - n := by simp
  have inv0 : HeadInv .any l.toArray n (Array.replicate l.toArray.size false) :=
    ⟨by simp, fun j oj _ hl => (by rw [getD_replicate_false] at hl; cases hl), fun t _ ht => getD_in (by simpa using ht) (getD_replicate_false _ _)⟩
  have hcl : ∀ w1 : World, (fun w' => ∃ m : BT w1, w' = m.w) = Abv w1 := fun w1 => funext fun w' => propext ⟨fun ⟨m, e⟩ => e ▸ m.ok, fun h => ⟨⟨w', h⟩, rfl⟩⟩
  have hLQ : LQ P l.toArray w (l.take (n - 1)) a z := LQ_of_quiet (by rw [hsz]; exact hd) (fun w1 hw1 => by have := H w1 hw1; rwa [hcl] at this)
  have hdr : Abv w w.drew := below_drew (Below.refl _ _)
  have R := wpR_lex (P := P) (md := .any) (w0 := w) (w := w.drew)
    (L := fun listed a' w' => ((Region.ready .any l.toArray listed).all (fun j => decide (n ≤ j)) = true ∧ Region.lexFrom .any l.toArray (l.toArray.size - n) n listed = true) ∧
      wpQuiet P l.toArray (fun w1 => ∃ m : BT w', w1 = m.w) (fun a2 => ∀ w4, (∃ m : BT w', w4 = m.w) → Q .normal a2 w4) (l.drop n) a') hsel (fun listed inv i hi hun t ht => tail_waits2 hs hc hn inv _ i rfl hi hun t ht)
    (fun listed _ _ hL j hj => by have := List.all_eq_true.1 hL.1.1 j hj; simpa using this) hdr (z := z) (E := tailE n l.toArray) (fun listed hq => by
      simp only [tailE, Bool.and_eq_true, decide_eq_true_eq] at hq
      obtain ⟨⟨hq1, hq2⟩, hq3⟩ := hq
      refine ⟨fun h0 => (by rw [hq1] at h0; cases h0), fun i hi => ?_⟩
      rw [hq1] at hi
      have hi' : i = n - 1 := by simpa using hi
      subst hi'
      exact ⟨by omega, fun w' hw' => smOp_mono (fun a' w'' hb h4 w3 h5 => ⟨⟨hq2, hq3⟩, h4 w3 h5⟩) (A w' (hdr.trans hw'))⟩)
    (l.take (n - 1)) 0 _ a (fun j hj => by rw [htl] at hj; simp [hj]) (by simpa using htl) h1 inv0 (by rw [htl]; exact hlex) hLQ
  refine wp_region_any hm ?_
  have := wpAny_of_R (Q' := Q) (g := l.toArray.size - n) (fun listed a' w' hL => by
    have h2 := wpAny_of_quiet (P := P) (md := .any) (Q := fun a2 => ∀ w4, (∃ m : BT w', w4 = m.w) → Q .normal a2 w4) (Q' := Q) (fun a2 w4 hw4 h => h w4 hw4) (l.drop n).length listed a' w' ⟨⟨w', Abv.refl _⟩, rfl⟩
      (wpAnyQ_lex (md := .any) hsel (l.drop n) n listed a' (fun j => by simp [List.getElem?_drop]) (by rw [hdl]; exact hL.1.2) hL.2)
    rwa [hdl] at h2) _ _ _ _ R
  rw [htl, show n - 1 + 1 + (l.toArray.size - n) = l.toArray.size by omega] at this
  exact this

/-- The operation that calls, and hands back what is the call's own. -/
theorem smOp_call {i : Nat} {o : Oper} {z : Act} {w : World} {K : Act → World → Prop} (d : Option Tmp) (f : FuncId) (args : Array Value) (ho : ops[i]? = some o) (hd : o.dst = d) (hg : Region.wanted o (yielded ops z.tmps) = true)
    (hr : (execOp z.eval o).run P w = .ok (.enter f args) w) (h : Calls P f args w fun e w' => ∃ v, e = .returned v ∧ Abv w w' ∧ K (z.put d v) w') : smOp P ops i K z w := by
  subst hd
  unfold smOp
  simp only [ho, hg, if_true]
  unfold smooth
  rw [hr]
  exact ⟨rfl, h⟩
/-- The operation that makes memory. -/
theorem smOp_alloc {i : Nat} {o : Oper} {z : Act} {w : World} {K : Act → World → Prop} (obj : Obj) (ho : ops[i]? = some o) (hg : Region.wanted o (yielded ops z.tmps) = true)
    (hr : (execOp z.eval o).run P w = .ok (.value (.pointer (some ⟨w.heap.size, 0, none⟩))) (w.alloc obj)) (h : K (z.put o.dst (.pointer (some ⟨w.heap.size, 0, none⟩))) (w.alloc obj)) : smOp P ops i K z w := by
  unfold smOp
  simp only [ho, hg, if_true]
  unfold smooth
  rw [hr]
  exact ⟨below_alloc (Below.refl _ _) _, h⟩
end
end Go.Proofs.YtcemageindmbkaaDoor
/- head.take and Decode: what they return. -/
namespace Go.Proofs.YtcemageindmbkaaDoor
open Go.RowKit Go.Proofs.YtcemageindmbkaaDoorW.PrintWords
open PSlotBytes

/-- The number of bytes, the lowest first. -/
def valF : List Int → Int
  | [] => 0
  | x :: l => x + 256 * valF l
theorem valF_bd : ∀ {l : List Int}, InB l → 0 ≤ valF l ∧ valF l < (256 : Int) ^ l.length
  | [], _ => by simp [valF]
  | x :: l, h => by
    obtain ⟨h1, h2⟩ := valF_bd (l := l) (fun y hy => h y (List.mem_cons_of_mem _ hy))
    have hx := h x (List.mem_cons_self ..)
    have e : (256 : Int) ^ (l.length + 1) = 256 ^ l.length * 256 := Int.pow_succ _ _
    simp only [valF, List.length_cons]
    rw [e]
    generalize (256 : Int) ^ l.length = p at *
    omega
theorem valF_drop {l : List Int} {j : Nat} (hj : j < l.length) : valF (l.drop j) = l[j] + 256 * valF (l.drop (j + 1)) := by
  rw [List.drop_eq_getElem_cons hj]; rfl
theorem pow4 {m : Nat} (h : m ≤ 3) : (256 : Int) ^ m ≤ 16777216 := by
  match m, h with
  | 0, _ => decide
  | 1, _ => decide
  | 2, _ => decide
  | 3, _ => decide
theorem pow8 {m : Nat} (h : m ≤ 7) : (256 : Int) ^ m ≤ 72057594037927936 := by
  match m, h with
  | 0, _ => decide
  | 1, _ => decide
  | 2, _ => decide
  | 3, _ => decide
  | 4, _ => decide
  | 5, _ => decide
  | 6, _ => decide
  | 7, _ => decide
theorem or_comm_u32 (a b : Int) : Go.bits .or .u32 a b = Go.bits .or .u32 b a := by
  unfold Go.bits; simp only [BitVec.or_comm]
theorem or_comm_u64 (a b : Int) : Go.bits .or .u64 a b = Go.bits .or .u64 b a := by
  unfold Go.bits; simp only [BitVec.or_comm]
theorem take32_l (l : List Int) (hb : InB l) (hl : l.length ≤ 4) : ∀ (j k : Nat), j ≤ l.length → j < k → head_take_uint32.l0 k l (valF (l.drop j)) ((j : Int) - 1) = some (valF l)
  | 0, k, _, hk => by
    obtain ⟨k, rfl⟩ : ∃ m, k = m + 1 := ⟨k - 1, by omega⟩
    simp only [head_take_uint32.l0]
    rw [if_neg (by omega)]; rfl
  | j + 1, k, hj, hk => by
    obtain ⟨k, rfl⟩ : ∃ m, k = m + 1 := ⟨k - 1, by omega⟩
    simp only [head_take_uint32.l0]
    have hin : InB (l.drop (j + 1)) := fun x hx => hb x (List.mem_of_mem_drop hx)
    obtain ⟨v0, v1⟩ := valF_bd hin
    have hp := pow4 (m := (l.drop (j + 1)).length) (by rw [List.length_drop]; omega)
    have hx := hb l[j] (List.getElem_mem _)
    have e1 : wrap64 (((j + 1 : Nat) : Int) - 1 - 1) = (j : Int) - 1 := by unfold wrap64; omega
    have e2 : rd l (((j + 1 : Nat) : Int) - 1) = l[j] := by
      have : (((j + 1 : Nat) : Int) - 1) = (j : Int) := by omega
      rw [this]; simp [rd, List.getD, List.getElem?_eq_getElem (show j < l.length by omega)]
    rw [if_pos (by omega), if_pos (by omega), if_pos (by omega), e1, e2]
    have e3 : Go.bits .or .u32 ((valF (l.drop (j + 1)) * 256) % 4294967296) (l[j] % 4294967296) = valF (l.drop j) := by
      have hv : (valF (l.drop (j + 1)) * 256) % 4294967296 = valF (l.drop (j + 1)) * 256 := by
        generalize (256 : Int) ^ (l.drop (j + 1)).length = p at *
        omega
      have hy : l[j] % 4294967296 = l[j] := by omega
      rw [or_comm_u32, hv, hy, valF_drop (j := j) (by omega)]
      generalize (256 : Int) ^ (l.drop (j + 1)).length = p at *
      generalize valF (l.drop (j + 1)) = v at *
      generalize l[j] = y at *
      rw [u32_or8 (y := y) (x := v * 256) (by omega) (by omega) (by omega) (by omega) (by omega)]
      omega
    rw [e3]
    exact take32_l l hb hl j k (by omega) (by omega)
theorem take64_l (l : List Int) (hb : InB l) (hl : l.length ≤ 8) : ∀ (j k : Nat), j ≤ l.length → j < k → head_take_uint64.l0 k l (valF (l.drop j)) ((j : Int) - 1) = some (valF l)
  | 0, k, _, hk => by
    obtain ⟨k, rfl⟩ : ∃ m, k = m + 1 := ⟨k - 1, by omega⟩
    simp only [head_take_uint64.l0]
    rw [if_neg (by omega)]; rfl
  | j + 1, k, hj, hk => by
    obtain ⟨k, rfl⟩ : ∃ m, k = m + 1 := ⟨k - 1, by omega⟩
    simp only [head_take_uint64.l0]
    have hin : InB (l.drop (j + 1)) := fun x hx => hb x (List.mem_of_mem_drop hx)
    obtain ⟨v0, v1⟩ := valF_bd hin
    have hp := pow8 (m := (l.drop (j + 1)).length) (by rw [List.length_drop]; omega)
    have hx := hb l[j] (List.getElem_mem _)
    have e1 : wrap64 (((j + 1 : Nat) : Int) - 1 - 1) = (j : Int) - 1 := by unfold wrap64; omega
    have e2 : rd l (((j + 1 : Nat) : Int) - 1) = l[j] := by
      have : (((j + 1 : Nat) : Int) - 1) = (j : Int) := by omega
      rw [this]; simp [rd, List.getD, List.getElem?_eq_getElem (show j < l.length by omega)]
    rw [if_pos (by omega), if_pos (by omega), if_pos (by omega), e1, e2]
    have e3 : Go.bits .or .u64 (IntKind.u64.wrap (valF (l.drop (j + 1)) * 256)) (IntKind.u64.wrap l[j]) = valF (l.drop j) := by
      have hv : (valF (l.drop (j + 1)) * 256) % 18446744073709551616 = valF (l.drop (j + 1)) * 256 := by
        generalize (256 : Int) ^ (l.drop (j + 1)).length = p at *
        omega
      have hy : l[j] % 18446744073709551616 = l[j] := by omega
      rw [IntKind.wrap_u64, IntKind.wrap_u64, or_comm_u64, hv, hy, valF_drop (j := j) (by omega)]
      generalize (256 : Int) ^ (l.drop (j + 1)).length = p at *
      generalize valF (l.drop (j + 1)) = v at *
      generalize l[j] = y at *
      rw [u64_or8 (y := y) (x := v * 256) (by omega) (by omega) (by omega) (by omega) (by omega)]
      omega
    rw [e3]
    exact take64_l l hb hl j k (by omega) (by omega)
theorem take32_calls (A : Option Addr) (c : Nat) (l : List Int) (w : World) (hC : KB.C w A l.length l) (hc : l.length ≤ c) (hb : InB l) (hl : l.length ≤ 4) :
    Calls Tryd.prog 92 #[.slice A l.length c] w fun e w' => e = .returned (.int .u32 (valF l)) ∧ Below w.heap.size w w' :=
  (head_take_uint32.calls (l.length + 1) A c l (valF l) w hC hc (by
    unfold head_take_uint32.f
    have e : wrap64 ((l.length : Int) - 1) = (l.length : Int) - 1 := by unfold wrap64; omega
    rw [e]
    have := take32_l l hb hl l.length (l.length + 1) (Nat.le_refl _) (Nat.lt_succ_self _)
    simpa [valF] using this)).mono fun _ _ ⟨h1, h2⟩ => ⟨h1, h2.below⟩
theorem take64_calls (A : Option Addr) (c : Nat) (l : List Int) (w : World) (hC : KB.C w A l.length l) (hc : l.length ≤ c) (hb : InB l) (hl : l.length ≤ 8) :
    Calls Tryd.prog 93 #[.slice A l.length c] w fun e w' => e = .returned (.int .u64 (valF l)) ∧ Below w.heap.size w w' :=
  (head_take_uint64.calls (l.length + 1) A c l (valF l) w hC hc (by
    unfold head_take_uint64.f
    have e : wrap64 ((l.length : Int) - 1) = (l.length : Int) - 1 := by unfold wrap64; omega
    rw [e]
    have := take64_l l hb hl l.length (l.length + 1) (Nat.le_refl _) (Nat.lt_succ_self _)
    simpa [valF] using this)).mono fun _ _ ⟨h1, h2⟩ => ⟨h1, h2.below⟩

def zeroH : Value := .agg #[.int .i64 0, .int .i64 0, .int .i64 0, .int .i64 0, .int .u64 0, .int .u32 0]
def headV (l : List Int) : Value := .agg #[.int .i64 (l.getD 5 0), .int .i64 (l.getD 6 0), .int .i64 (l.getD 7 0), .int .i64 (valF ((l.take 12).drop 8)), .int .u64 (valF ((l.take 20).drop 12)), .int .u32 (valF ((l.take 24).drop 20))]
def decE (l : List Int) : Int :=
  if l.length < 28 then 5 else if l.take 4 ≠ [75, 69, 69, 80] then 6 else if l.getD 4 0 ≠ 1 then 7 else if sumF (l.take 24) ≠ valF ((l.take 28).drop 24) then 8
  else if hrightF (l.getD 5 0) (l.getD 6 0) (l.getD 7 0) (valF ((l.take 12).drop 8)) = true then 0 else 9
def decV (l : List Int) : Value := if decE l = 0 then headV l else zeroH

theorem toList_loop (s : ByteArray) : ∀ (d i : Nat) (r : List UInt8), s.size - i = d → ByteArray.toList.loop s i r = r.reverse ++ s.data.toList.drop i := by
  intro d
  induction d with
  | zero =>
    intro i r hd
    unfold ByteArray.toList.loop
    rw [if_neg (by omega), List.drop_eq_nil_of_le (by rw [Array.length_toList]; show s.size ≤ i; omega)]
    simp
  | succ d ih =>
    intro i r hd
    unfold ByteArray.toList.loop
    have hi : i < s.data.toList.length := by rw [Array.length_toList]; show i < s.size; omega
    rw [if_pos (by omega), ih (i + 1) _ (by omega), List.drop_eq_getElem_cons hi]
    have e : s.get! i = s.data.toList[i] := by
      have : i < s.data.size := by simpa using hi
      simp only [ByteArray.get!]; exact getElem!_pos s.data i this
    rw [e]; simp
theorem toList_data (s : ByteArray) : s.toList = s.data.toList := by
  unfold ByteArray.toList
  rw [toList_loop s _ 0 [] rfl]; simp
theorem toNat_inj {x y : Int} (h0 : 0 ≤ x ∧ x ≤ 255) (h1 : 0 ≤ y ∧ y ≤ 255) (h : UInt8.ofNat x.toNat = UInt8.ofNat y.toNat) : x = y := by
  have := congrArg UInt8.toNat h
  simp only [UInt8.toNat_ofNat'] at this
  omega
theorem str_inj : ∀ {l m : List Int}, InB l → InB m → (l.map fun n => UInt8.ofNat n.toNat) = (m.map fun n => UInt8.ofNat n.toNat) → l = m
  | [], [], _, _, _ => rfl
  | x :: l, y :: m, h1, h2, h => by
    simp only [List.map_cons, List.cons.injEq] at h
    rw [toNat_inj (h1 x (List.mem_cons_self ..)) (h2 y (List.mem_cons_self ..)) h.1, str_inj (fun z hz => h1 z (List.mem_cons_of_mem _ hz)) (fun z hz => h2 z (List.mem_cons_of_mem _ hz)) h.2]
theorem keep_eq {l : List Int} (hb : InB l) : ((strOfNums l).toList == [75, 69, 69, 80]) = decide (l = [75, 69, 69, 80]) := by
  rw [toList_data, strOfNums_data]
  by_cases h : l = [75, 69, 69, 80]
  · subst h; rfl
  · rw [decide_eq_false h]
    refine beq_eq_false_iff_ne.2 fun e => h (str_inj hb (m := [75, 69, 69, 80]) (by intro x hx; simp at hx; omega) ?_)
    rw [e]; rfl

abbrev zC : Obj := .cells #[.int .i64 0, .int .i64 0, .int .i64 0, .int .i64 0, .int .u64 0, .int .u32 0] 93
theorem byteP {w : World} {b o : Nat} {l : List Int} (h : KB.C w (some ⟨b, o, none⟩) l.length l) {k : Nat} (hk : k < l.length) : w.cell? ⟨b, o + k, none⟩ = some (.int .u8 (l.getD k 0)) := by
  obtain ⟨ad, e, h1⟩ := byteAt h hk
  cases e
  rw [show l.getD k 0 = l[k] by simp [List.getD, List.getElem?_eq_getElem hk]]
  have e2 : (⟨b, o, none⟩ : Addr).add k = ⟨b, o + k, none⟩ := by unfold Addr.add; split <;> simp_all
  rwa [e2] at h1
theorem win_run (b o n c lo hi : Nat) (h : lo < hi) (hh : hi ≤ c) (W : World) : (Instr.slice 27 (.slice (some ⟨b, o, none⟩) n c) (some (.int .i64 (lo : Int))) (some (.int .i64 (hi : Int))) none).run Tryd.prog W = .ok (.slice (some ⟨b, o + lo, none⟩) (hi - lo) (c - lo)) W := by
  exact Lib.run_slice_window W 27 5 Tryd.underlying27 (fun w => by simp [Go.sizeOf, go_sem]; rfl) b o n c lo hi h hh
set_option maxRecDepth 100000 in
theorem dec_short (A : Option Addr) (c : Nat) (l : List Int) (w : World) (h : l.length < 28) :
    Calls Tryd.prog 49 #[.slice A l.length c] w fun e w' => e = .returned (.tuple #[zeroH, .int .i64 5]) ∧ Below w.heap.size w w' := by
  go_enter Tryd.func49, Tryd.ntmps49
  go_wp2_with fail
  · exact bodyPost_ret (v := .tuple #[zeroH, .int .i64 5]) (by simp [results, Tryd.results49, go_sem, zeroH]) rfl ⟨rfl, (below_alloc (Below.refl _ _) _)⟩
set_option maxRecDepth 100000 in
theorem dec_magic (b o c : Nat) (l : List Int) (w : World) (hC : KB.C w (some ⟨b, o, none⟩) l.length l) (hc : l.length ≤ c) (hb : InB l) (h : ¬ l.length < 28) (hm : l.take 4 ≠ [75, 69, 69, 80]) :
    Calls Tryd.prog 49 #[.slice (some ⟨b, o, none⟩) l.length c] w fun e w' => e = .returned (.tuple #[zeroH, .int .i64 6]) ∧ Below w.heap.size w w' := by
  have hC1 := Kd.C_below hC (below_alloc (Below.refl _ _) zC)
  have hin : InB (l.take 4) := fun x hx => hb x (List.mem_of_mem_take hx)
  have kc := run_convert_bytes_arg (P := Tryd.prog) (w.alloc zC) 27 5 Tryd.underlying27 Tryd.underlying5 b o 4 c (l.take 4) (by rw [List.length_take]; omega) (fun i hi => by
    have := byteP hC1 (k := i) (by omega)
    rw [this]
    congr 2
    simp only [List.getD, List.getElem?_take]
    rw [if_pos hi]) 9 Tryd.underlying9
  have hne := (keep_eq hin).trans (decide_eq_false hm)
  have hw := fun W => win_run b o l.length c 0 4 (by decide) (by omega) W
  have h28 : (28 : Int) ≤ (l.length : Int) := by omega
  clear hC hC1 hin hb hm
  go_enter Tryd.func49, Tryd.ntmps49
  go_wp2_with fail
  · exact bodyPost_ret (v := .tuple #[zeroH, .int .i64 6]) (by simp [results, Tryd.results49, go_sem, zeroH]) rfl ⟨rfl, (below_alloc (Below.refl _ _) _)⟩

theorem keep_run (b o c : Nat) (l : List Int) (w : World) (hC : KB.C w (some ⟨b, o, none⟩) l.length l) (h : ¬ l.length < 28) : (convert 27 9 (.slice (some ⟨b, o, none⟩) 4 c)).run Tryd.prog w = .ok (.string (strOfNums (l.take 4))) w :=
  run_convert_bytes_arg (P := Tryd.prog) w 27 5 Tryd.underlying27 Tryd.underlying5 b o 4 c (l.take 4) (by rw [List.length_take]; omega) (fun i hi => by
    have := byteP hC (k := i) (by omega)
    rw [this]
    congr 2
    simp only [List.getD, List.getElem?_take]
    rw [if_pos hi]) 9 Tryd.underlying9
set_option maxRecDepth 100000 in
theorem dec_version (b o c : Nat) (l : List Int) (w : World) (hC : KB.C w (some ⟨b, o, none⟩) l.length l) (hc : l.length ≤ c) (hb : InB l) (h : ¬ l.length < 28) (hm : l.take 4 = [75, 69, 69, 80]) (hv : l.getD 4 0 ≠ 1) :
    Calls Tryd.prog 49 #[.slice (some ⟨b, o, none⟩) l.length c] w fun e w' => e = .returned (.tuple #[zeroH, .int .i64 7]) ∧ Below w.heap.size w w' := by
  have hC1 := Kd.C_below hC (below_alloc (Below.refl _ _) zC)
  have hin : InB (l.take 4) := fun x hx => hb x (List.mem_of_mem_take hx)
  have kc := keep_run b o c l _ hC1 h
  have hne := (keep_eq hin).trans (decide_eq_true hm)
  have b4 := byteP hC1 (k := 4) (by omega)
  generalize l.getD 4 0 = v at *
  have hw := fun W => win_run b o l.length c 0 4 (by decide) (by omega) W
  have h28 : (28 : Int) ≤ (l.length : Int) := by omega
  clear hC hC1 hin hb hm
  go_enter Tryd.func49, Tryd.ntmps49
  go_wp2_with fail
  · exact bodyPost_ret (v := .tuple #[zeroH, .int .i64 7]) (by simp [results, Tryd.results49, go_sem, zeroH]) rfl ⟨rfl, (below_alloc (Below.refl _ _) _)⟩

/-- Bytes lo to hi. -/
abbrev win (l : List Int) (lo hi : Nat) : List Int := (l.take hi).drop lo
theorem win_C {w : World} {b o lo hi : Nat} {l : List Int} (hC : KB.C w (some ⟨b, o, none⟩) l.length l) (h : lo < hi) (hh : hi ≤ l.length) : KB.C w (some ⟨b, o + lo, none⟩) (win l lo hi).length (win l lo hi) := by
  have hl : (l.take hi).length = hi := by rw [List.length_take]; omega
  have h1 := Kd.C_drop (c := (l.take hi).length + 1) (Kd.C_take hC hh) (m := lo) (by omega) (by omega)
  have e1 : (⟨b, o, none⟩ : Addr).add (lo * 1) = ⟨b, o + lo, none⟩ := by rw [Nat.mul_one]; unfold Addr.add; split <;> simp_all
  rw [if_neg (by omega)] at h1
  simpa only [Option.map_some, KB, Kd.int, Kd.scalar, e1] using h1
theorem win_len {l : List Int} {lo hi : Nat} (hh : hi ≤ l.length) : (win l lo hi).length = hi - lo := by simp [win]; omega
theorem win_in {l : List Int} (hb : InB l) (lo hi : Nat) : InB (win l lo hi) := fun x hx => hb x (List.mem_of_mem_take (List.mem_of_mem_drop hx))
theorem sum_n (n : Nat) (A : Option Addr) (c : Nat) (l : List Int) (w : World) (hn : l.length = n) (hC : KB.C w A l.length l) (hb : InB l) (hl : l.length ≤ 1000000000000) :
    Calls Tryd.prog 51 #[.slice A n c] w fun e w' => e = .returned (.int .u32 (sumF l)) ∧ Below w.heap.size w w' := by
  subst hn; exact sum_calls A c l w hC hb hl
theorem take32_n (n : Nat) (A : Option Addr) (c : Nat) (l : List Int) (w : World) (hn : l.length = n) (hC : KB.C w A l.length l) (hc : n ≤ c) (hb : InB l) (hl : n ≤ 4) :
    Calls Tryd.prog 92 #[.slice A n c] w fun e w' => e = .returned (.int .u32 (valF l)) ∧ Below w.heap.size w w' := by
  subst hn; exact take32_calls A c l w hC hc hb hl
theorem take64_n (n : Nat) (A : Option Addr) (c : Nat) (l : List Int) (w : World) (hn : l.length = n) (hC : KB.C w A l.length l) (hc : n ≤ c) (hb : InB l) (hl : n ≤ 8) :
    Calls Tryd.prog 93 #[.slice A n c] w fun e w' => e = .returned (.int .u64 (valF l)) ∧ Below w.heap.size w w' := by
  subst hn; exact take64_calls A c l w hC hc hb hl
theorem zC_cells {w W : World} (hb : Below (w.alloc zC).heap.size (w.alloc zC) W) : (W.cell? ⟨w.heap.size, 0, none⟩ = some (.int .i64 0) ∧ W.cell? ⟨w.heap.size, 1, none⟩ = some (.int .i64 0) ∧ W.cell? ⟨w.heap.size, 2, none⟩ = some (.int .i64 0) ∧ W.cell? ⟨w.heap.size, 3, none⟩ = some (.int .i64 0) ∧ W.cell? ⟨w.heap.size, 4, none⟩ = some (.int .u64 0) ∧ W.cell? ⟨w.heap.size, 5, none⟩ = some (.int .u32 0)) ∧
    (W.frozen? ⟨w.heap.size, 0, none⟩ = false ∧ W.frozen? ⟨w.heap.size, 1, none⟩ = false ∧ W.frozen? ⟨w.heap.size, 2, none⟩ = false ∧ W.frozen? ⟨w.heap.size, 3, none⟩ = false ∧ W.frozen? ⟨w.heap.size, 4, none⟩ = false ∧ W.frozen? ⟨w.heap.size, 5, none⟩ = false) := by
  have hk : W.heap[w.heap.size]? = some zC := (hb.block _ (by simp)).trans (heap_alloc_new w _)
  exact ⟨⟨(blk_cell hk 0).trans rfl, (blk_cell hk 1).trans rfl, (blk_cell hk 2).trans rfl, (blk_cell hk 3).trans rfl, (blk_cell hk 4).trans rfl, (blk_cell hk 5).trans rfl⟩, blk_frozen hk 0, blk_frozen hk 1, blk_frozen hk 2, blk_frozen hk 3, blk_frozen hk 4, blk_frozen hk 5⟩
/-- Six cells are written, one behind the other. -/
theorem set6 {W : World} {g : Nat} {u0 u1 u2 u3 u4 u5 : Value} (v0 v1 v2 v3 v4 v5 : Value)
    (k : W.cell? ⟨g, 0, none⟩ = some u0 ∧ W.cell? ⟨g, 1, none⟩ = some u1 ∧ W.cell? ⟨g, 2, none⟩ = some u2 ∧ W.cell? ⟨g, 3, none⟩ = some u3 ∧ W.cell? ⟨g, 4, none⟩ = some u4 ∧ W.cell? ⟨g, 5, none⟩ = some u5) :
    ∃ W', W' = ((((((W.setCell ⟨g, 0, none⟩ v0).setCell ⟨g, 1, none⟩ v1).setCell ⟨g, 2, none⟩ v2).setCell ⟨g, 3, none⟩ v3).setCell ⟨g, 4, none⟩ v4).setCell ⟨g, 5, none⟩ v5) ∧
      W'.cell? ⟨g, 0, none⟩ = some v0 ∧ W'.cell? ⟨g, 1, none⟩ = some v1 ∧ W'.cell? ⟨g, 2, none⟩ = some v2 ∧ W'.cell? ⟨g, 3, none⟩ = some v3 ∧ W'.cell? ⟨g, 4, none⟩ = some v4 ∧ W'.cell? ⟨g, 5, none⟩ = some v5 ∧
      ∀ B w0, Below B w0 W → B ≤ g → Below B w0 W' := by
  obtain ⟨k0, k1, k2, k3, k4, k5⟩ := k
  obtain ⟨W', hW⟩ : ∃ W', W' = ((((((W.setCell ⟨g, 0, none⟩ v0).setCell ⟨g, 1, none⟩ v1).setCell ⟨g, 2, none⟩ v2).setCell ⟨g, 3, none⟩ v3).setCell ⟨g, 4, none⟩ v4).setCell ⟨g, 5, none⟩ v5) := ⟨_, rfl⟩
  refine ⟨W', hW, ?_, ?_, ?_, ?_, ?_, ?_, fun B w0 h hg => hW ▸ (((((h.setCell hg _).setCell hg _).setCell hg _).setCell hg _).setCell hg _).setCell hg _⟩ <;> (rw [hW]; simp [go_sem, k0, k1, k2, k3, k4, k5])
set_option maxRecDepth 100000 in
theorem dec_sum (b o c : Nat) (l : List Int) (w : World) (hC : KB.C w (some ⟨b, o, none⟩) l.length l) (hc : l.length ≤ c) (hb : InB l) (h : ¬ l.length < 28) (hm : l.take 4 = [75, 69, 69, 80]) (hv : l.getD 4 0 = 1) (hs : sumF (l.take 24) ≠ valF ((l.take 28).drop 24)) :
    Calls Tryd.prog 49 #[.slice (some ⟨b, o, none⟩) l.length c] w fun e w' => e = .returned (.tuple #[zeroH, .int .i64 8]) ∧ Below w.heap.size w w' := by
  have hC1 := Kd.C_below hC (below_alloc (Below.refl _ _) zC)
  have hin : InB (l.take 4) := fun x hx => hb x (List.mem_of_mem_take hx)
  have kc := keep_run b o c l _ hC1 h
  have hne := (keep_eq hin).trans (decide_eq_true hm)
  have b4 := byteP hC1 (k := 4) (by omega)
  rw [hv] at b4
  have hw := fun W => win_run b o l.length c 0 4 (by decide) (by omega) W
  have hw1 := fun W => win_run b o l.length c 0 24 (by decide) (by omega) W
  have hw2 := fun W => win_run b o l.length c 24 28 (by decide) (by omega) W
  have h28 : (28 : Int) ≤ (l.length : Int) := by omega
  have S1 := Lib.hid (fun n : BT (w.alloc zC) => sum_n 24 (some ⟨b, o, none⟩) c (l.take 24) n.w (by rw [List.length_take]; omega) (Kd.C_below (Kd.C_take hC1 (m := 24) (by omega)) n.ok) (fun x hx => hb x (List.mem_of_mem_take hx)) (by rw [List.length_take]; omega))
  have S2 := Lib.hid (fun n : BT (w.alloc zC) => take32_n 4 (some ⟨b, o + 24, none⟩) (c - 24) (win l 24 28) n.w (win_len (by omega)) (Kd.C_below (win_C hC1 (lo := 24) (hi := 28) (by decide) (by omega)) n.ok) (by omega) (win_in hb _ _) (by omega))
  generalize sumF (l.take 24) = s1 at *
  generalize valF (win l 24 28) = s2 at *
  clear hC hC1 hin hb hm
  go_enter Tryd.func49, Tryd.ntmps49
  go_wp2_with fail
  · skip
    refine wp_region_below (by kernel_rfl) (by kernel_rfl) ?_
    repeat (go_big_quiet_step (first | (go_at_call 51; exact Calls.below_of (S1.out _)) | (go_at_call 92; exact Calls.below_of (S2.out _))))
    refine wpQuiet_nil ?_
    intro W5 hW5
    obtain ⟨⟨w5, hb5⟩, rfl⟩ := hW5
    obtain ⟨⟨k0, k1, k2, k3, k4, k5⟩, f0, f1, f2, f3, f4, f5⟩ := zC_cells hb5
    have hb6 := below_via (w0 := w) (below_alloc (Below.refl _ _) _) hb5
    go_wp2_with fail
    obtain ⟨W6, hW6, l0, l1, l2, l3, l4, l5, hbel⟩ := set6 (.int .i64 0) (.int .i64 0) (.int .i64 0) (.int .i64 0) (.int .u64 0) (.int .u32 0) ⟨k0, k1, k2, k3, k4, k5⟩
    rw [← hW6]
    have hb7 := hbel _ _ hb6 (Nat.le_refl _)
    clear hW6 hbel k0 k1 k2 k3 k4 k5 f0 f1 f2 f3 f4 f5 hb5 hb6
    exact bodyPost_ret (v := .tuple #[zeroH, .int .i64 8]) (by simp [results, Tryd.results49, go_sem, zeroH, l0, l1, l2, l3, l4, l5]) rfl ⟨rfl, hb7⟩

theorem byteB {w w' : World} {b o : Nat} {l : List Int} (h : KB.C w (some ⟨b, o, none⟩) l.length l) (hb : Below w.heap.size w w') {k : Nat} (hk : k < l.length) : w'.cell? ⟨b, o + k, none⟩ = some (.int .u8 (l.getD k 0)) := byteP (Kd.C_below h hb) hk
theorem getD_in {l : List Int} (hb : InB l) {k : Nat} (hk : k < l.length) : 0 ≤ l.getD k 0 ∧ l.getD k 0 ≤ 255 := by
  rw [show l.getD k 0 = l[k] by simp [List.getD, List.getElem?_eq_getElem hk]]
  exact hb _ (List.getElem_mem _)
/-- The three bytes that tell the chips. -/
theorem b567 {w w' : World} {b o : Nat} {x y z : Int} (h : ∀ w', Below w.heap.size w w' → w'.cell? ⟨b, o + 5, none⟩ = some (.int .u8 x) ∧ w'.cell? ⟨b, o + 6, none⟩ = some (.int .u8 y) ∧ w'.cell? ⟨b, o + 7, none⟩ = some (.int .u8 z)) (hb : Below w.heap.size w w') : w'.cell? ⟨b, o + 5, none⟩ = some (.int .u8 x) ∧ w'.cell? ⟨b, o + 6, none⟩ = some (.int .u8 y) ∧ w'.cell? ⟨b, o + 7, none⟩ = some (.int .u8 z) := h _ hb
set_option maxRecDepth 100000 in
set_option maxHeartbeats 4000000 in
theorem dec_end (b o c : Nat) (l : List Int) (w : World) (hl : Laid w) (hC : KB.C w (some ⟨b, o, none⟩) l.length l) (hc : l.length ≤ c) (hb : InB l) (h : ¬ l.length < 28) (hm : l.take 4 = [75, 69, 69, 80]) (hv : l.getD 4 0 = 1) (hs : sumF (l.take 24) = valF ((l.take 28).drop 24)) :
    Calls Tryd.prog 49 #[.slice (some ⟨b, o, none⟩) l.length c] w fun e w' => e = .returned (.tuple #[decV l, .int .i64 (decE l)]) ∧ Below w.heap.size w w' := by
  have hC1 := Kd.C_below hC (below_alloc (Below.refl _ _) zC)
  have hin : InB (l.take 4) := fun x hx => hb x (List.mem_of_mem_take hx)
  have kc := keep_run b o c l _ hC1 h
  have hne := (keep_eq hin).trans (decide_eq_true hm)
  have b4 := byteP hC1 (k := 4) (by omega)
  rw [hv] at b4
  have hw := fun W => win_run b o l.length c 0 4 (by decide) (by omega) W
  have hw1 := fun W => win_run b o l.length c 0 24 (by decide) (by omega) W
  have hw2 := fun W => win_run b o l.length c 24 28 (by decide) (by omega) W
  have hw3 := fun W => win_run b o l.length c 8 12 (by decide) (by omega) W
  have hw4 := fun W => win_run b o l.length c 12 20 (by decide) (by omega) W
  have hw5 := fun W => win_run b o l.length c 20 24 (by decide) (by omega) W
  have h28 : (28 : Int) ≤ (l.length : Int) := by omega
  have S1 := Lib.hid (fun n : BT (w.alloc zC) => sum_n 24 (some ⟨b, o, none⟩) c (l.take 24) n.w (by rw [List.length_take]; omega) (Kd.C_below (Kd.C_take hC1 (m := 24) (by omega)) n.ok) (fun x hx => hb x (List.mem_of_mem_take hx)) (by rw [List.length_take]; omega))
  have S2 := Lib.hid (fun n : BT (w.alloc zC) => take32_n 4 (some ⟨b, o + 24, none⟩) (c - 24) (win l 24 28) n.w (win_len (by omega)) (Kd.C_below (win_C hC1 (lo := 24) (hi := 28) (by decide) (by omega)) n.ok) (by omega) (win_in hb _ _) (by omega))
  have S3 := Lib.hid (fun (W : World) (hW : Below w.heap.size w W) => take32_n 4 (some ⟨b, o + 8, none⟩) (c - 8) (win l 8 12) W (win_len (by omega)) (Kd.C_below (win_C hC (lo := 8) (hi := 12) (by decide) (by omega)) hW) (by omega) (win_in hb _ _) (by omega))
  have S4 := Lib.hid (fun (W : World) (hW : Below w.heap.size w W) => take64_n 8 (some ⟨b, o + 12, none⟩) (c - 12) (win l 12 20) W (win_len (by omega)) (Kd.C_below (win_C hC (lo := 12) (hi := 20) (by decide) (by omega)) hW) (by omega) (win_in hb _ _) (by omega))
  have S5 := Lib.hid (fun (W : World) (hW : Below w.heap.size w W) => take32_n 4 (some ⟨b, o + 20, none⟩) (c - 20) (win l 20 24) W (win_len (by omega)) (Kd.C_below (win_C hC (lo := 20) (hi := 24) (by decide) (by omega)) hW) (by omega) (win_in hb _ _) (by omega))
  have hB := Lib.hid (fun (W : World) (hW : Below w.heap.size w W) => (⟨byteB hC hW (k := 5) (by omega), byteB hC hW (k := 6) (by omega), byteB hC hW (k := 7) (by omega)⟩ : _ ∧ _ ∧ _))
  have hE : decE l = if hrightF (l.getD 5 0) (l.getD 6 0) (l.getD 7 0) (valF (win l 8 12)) = true then 0 else 9 := by
    unfold decE; rw [if_neg h, if_neg (fun e => e hm), if_neg (fun e => e hv), if_neg (fun e => e hs)]
  have hV : decV l = if hrightF (l.getD 5 0) (l.getD 6 0) (l.getD 7 0) (valF (win l 8 12)) = true then .agg #[.int .i64 (l.getD 5 0), .int .i64 (l.getD 6 0), .int .i64 (l.getD 7 0), .int .i64 (valF (win l 8 12)), .int .u64 (valF (win l 12 20)), .int .u32 (valF (win l 20 24))] else zeroH := by
    unfold decV; rw [hE]; split <;> simp [headV]
  rw [hE, hV]
  clear hE hV
  generalize hr : hrightF (l.getD 5 0) (l.getD 6 0) (l.getD 7 0) (valF (win l 8 12)) = r
  obtain ⟨V, E, hVE, hf, ht⟩ : ∃ V E, (Ending.returned (.tuple #[if r = true then .agg #[.int .i64 (l.getD 5 0), .int .i64 (l.getD 6 0), .int .i64 (l.getD 7 0), .int .i64 (valF (win l 8 12)), .int .u64 (valF (win l 12 20)), .int .u32 (valF (win l 20 24))] else zeroH, .int .i64 (if r = true then 0 else 9)]) = Ending.returned (.tuple #[V, .int .i64 E])) ∧ (r = false → V = zeroH ∧ E = 9) ∧ (r = true → V = .agg #[.int .i64 (l.getD 5 0), .int .i64 (l.getD 6 0), .int .i64 (l.getD 7 0), .int .i64 (valF (win l 8 12)), .int .u64 (valF (win l 12 20)), .int .u32 (valF (win l 20 24))] ∧ E = 0) :=
    ⟨_, _, rfl, fun e => by subst e; exact ⟨rfl, rfl⟩, fun e => by subst e; exact ⟨rfl, rfl⟩⟩
  rw [hVE]
  clear hVE
  have HF := Lib.hid hf
  have HTT := Lib.hid ht
  clear hf ht
  have HR := Lib.hid (hright_calls (l.getD 5 0) (l.getD 6 0) (l.getD 7 0) (valF (win l 8 12)) (valF (win l 12 20)) (valF (win l 20 24)))
  generalize sumF (l.take 24) = s1 at *
  change s1 = valF (win l 24 28) at hs
  rw [← hs] at S2
  have q5 := getD_in hb (k := 5) (by omega)
  have q6 := getD_in hb (k := 6) (by omega)
  have q7 := getD_in hb (k := 7) (by omega)
  have qn : 0 ≤ valF (win l 8 12) ∧ valF (win l 8 12) ≤ 4294967295 := by
    obtain ⟨v1, v2⟩ := valF_bd (win_in hb 8 12)
    rw [win_len (by omega)] at v2
    exact ⟨v1, by simp only [Nat.reduceSub] at v2; omega⟩
  generalize valF (win l 8 12) = n at *
  generalize valF (win l 12 20) = q at *
  generalize valF (win l 20 24) = u at *
  generalize l.getD 5 0 = x5 at *
  generalize l.getD 6 0 = x6 at *
  generalize l.getD 7 0 = x7 at *
  have HL := Lib.hid hl
  rw [hr] at HR
  clear hC hC1 hin hb hm hs hl hr
  go_enter Tryd.func49, Tryd.ntmps49
  go_wp2_with fail
  · skip
    refine wp_region_below (by kernel_rfl) (by kernel_rfl) ?_
    repeat (go_big_quiet_step (first | (go_at_call 51; exact Calls.below_of (S1.out _)) | (go_at_call 92; exact Calls.below_of (S2.out _))))
    refine wpQuiet_nil ?_
    intro W5 hW5
    obtain ⟨⟨w5, hb5⟩, rfl⟩ := hW5
    have hb6 := below_via (w0 := w) (below_alloc (Below.refl _ _) _) hb5
    have HB6 := Lib.hid hb6
    have HB5 := Lib.hid hb5
    clear hb5 hb6
    go_wp2_with fail
    refine wp_region_float 25 60 rfl (by kernel_rfl) (by kernel_rfl) ?z (fun wa hwa => ?_) (fun w7 hw7 => ?_)
    case refine_1 =>
      simp only [List.take_succ_cons, List.take_zero, Nat.reduceSub]
      have HB7 := Lib.hid (below_via HB6.out hwa)
      obtain ⟨p5, p6, p7⟩ := hB.out _ HB7.out
      have r5 := fun n : BT wa => BT.cell p5 n
      have r6 := fun n : BT wa => BT.cell p6 n
      have r7 := fun n : BT wa => BT.cell p7 n
      clear p5 p6 p7
      repeat (go_big_quiet_step (first | (go_at_call 93; (with_reducible refine Calls.below_of (S4.out _ ?_)); exact below_via HB7.out (CT.ok _)) | (go_at_call 92; (with_reducible refine Calls.below_of (S3.out _ ?_)); exact below_via HB7.out (CT.ok _)) | (go_at_call 92; (with_reducible refine Calls.below_of (S5.out _ ?_)); exact below_via HB7.out (CT.ok _))))
      refine wpQuiet_nil ?_
      exact Eq.refl _
    refine smOp_alloc zC rfl rfl (by simp [go_sem]) ?_
    intro w3 hw3
    simp only [List.drop_succ_cons, List.drop_zero, Act.put]
    obtain ⟨⟨k0, k1, k2, k3, k4, k5⟩, f0, f1, f2, f3, f4, f5⟩ := zC_cells hw3
    have HB3 := Lib.hid (below_via (below_via HB6.out hw7) (below_via (below_alloc (Below.refl _ _) _) hw3))
    have HT := Lib.hid (below_via (below_via HB5.out hw7) (below_via (below_alloc (Below.refl _ _) _) hw3))
    have hg : w.heap.size < w7.heap.size := Nat.lt_of_lt_of_le (by simp) (below_via HB5.out hw7).size
    generalize w7.heap.size = g at *
    clear hw7 hw3
    go_wp2_with fail
    obtain ⟨W6, hW6, l0, l1, l2, l3, l4, l5, hbel⟩ := set6 (.int .i64 x5) (.int .i64 x6) (.int .i64 x7) (.int .i64 n) (.int .u64 q) (.int .u32 u) ⟨k0, k1, k2, k3, k4, k5⟩
    rw [← hW6]
    have hT6 := Lib.hid (hbel _ _ HT.out (by simp only [World.size_alloc]; omega))
    have hgl := World.block_lt_of_cell? W6 _ l0
    clear hW6 hbel k0 k1 k2 k3 k4 k5 f0 f1 f2 f3 f4 f5
    refine (HR.out _ (HL.out.of_below (below_via (below_alloc (Below.refl _ _) zC) hT6.out))).mono ?_
    rintro e w8 ⟨rfl, hb8⟩
    have m0 := ((bcell hb8).1 _ 0 hgl).trans l0
    have m1 := ((bcell hb8).1 _ 1 hgl).trans l1
    have m2 := ((bcell hb8).1 _ 2 hgl).trans l2
    have m3 := ((bcell hb8).1 _ 3 hgl).trans l3
    have m4 := ((bcell hb8).1 _ 4 hgl).trans l4
    have m5 := ((bcell hb8).1 _ 5 hgl).trans l5
    have hT8 := below_via hT6.out hb8
    obtain ⟨⟨k0, k1, k2, k3, k4, k5⟩, f0, f1, f2, f3, f4, f5⟩ := zC_cells hT8
    have HT8 := Lib.hid (below_via (below_alloc (Below.refl w.heap.size w) zC) hT8)
    clear hT8 hb8 l0 l1 l2 l3 l4 l5
    cases r
    · obtain ⟨rfl, rfl⟩ := HF.out rfl
      go_wp2_with fail
      obtain ⟨W9, hW9, l0, l1, l2, l3, l4, l5, hbel⟩ := set6 (.int .i64 0) (.int .i64 0) (.int .i64 0) (.int .i64 0) (.int .u64 0) (.int .u32 0) ⟨k0, k1, k2, k3, k4, k5⟩
      rw [← hW9]
      have hb9 := hbel _ _ HT8.out (Nat.le_refl _)
      clear hW9 hbel k0 k1 k2 k3 k4 k5 f0 f1 f2 f3 f4 f5 m0 m1 m2 m3 m4 m5
      exact bodyPost_ret (v := .tuple #[zeroH, .int .i64 9]) (by simp [results, Tryd.results49, go_sem, zeroH, l0, l1, l2, l3, l4, l5]) rfl ⟨rfl, hb9⟩
    · obtain ⟨rfl, rfl⟩ := HTT.out rfl
      go_wp2_with fail
      obtain ⟨W9, hW9, l0, l1, l2, l3, l4, l5, hbel⟩ := set6 (.int .i64 x5) (.int .i64 x6) (.int .i64 x7) (.int .i64 n) (.int .u64 q) (.int .u32 u) ⟨k0, k1, k2, k3, k4, k5⟩
      rw [← hW9]
      have hb9 := hbel _ _ HT8.out (Nat.le_refl _)
      clear hW9 hbel k0 k1 k2 k3 k4 k5 f0 f1 f2 f3 f4 f5 m0 m1 m2 m3 m4 m5
      exact bodyPost_ret (v := .tuple #[.agg #[.int .i64 x5, .int .i64 x6, .int .i64 x7, .int .i64 n, .int .u64 q, .int .u32 u], .int .i64 0]) (by simp [results, Tryd.results49, go_sem, l0, l1, l2, l3, l4, l5]) rfl ⟨rfl, hb9⟩

theorem decode_calls (b o c : Nat) (l : List Int) (w : World) (hl : Laid w) (hC : KB.C w (some ⟨b, o, none⟩) l.length l) (hc : l.length ≤ c) (hb : InB l) :
    Calls Tryd.prog 49 #[.slice (some ⟨b, o, none⟩) l.length c] w fun e w' => e = .returned (.tuple #[decV l, .int .i64 (decE l)]) ∧ Below w.heap.size w w' := by
  by_cases h1 : l.length < 28
  · have e1 : decE l = 5 := by unfold decE; rw [if_pos h1]
    have e2 : decV l = zeroH := by unfold decV; rw [e1]; rfl
    rw [e1, e2]; exact dec_short _ c l w h1
  · by_cases h2 : l.take 4 = [75, 69, 69, 80]
    · by_cases h3 : l.getD 4 0 = 1
      · by_cases h4 : sumF (l.take 24) = valF ((l.take 28).drop 24)
        · exact dec_end b o c l w hl hC hc hb h1 h2 h3 h4
        · have e1 : decE l = 8 := by unfold decE; rw [if_neg h1, if_neg (fun e => e h2), if_neg (fun e => e h3), if_pos h4]
          have e2 : decV l = zeroH := by unfold decV; rw [e1]; rfl
          rw [e1, e2]; exact dec_sum b o c l w hC hc hb h1 h2 h3 h4
      · have e1 : decE l = 7 := by unfold decE; rw [if_neg h1, if_neg (fun e => e h2), if_pos h3]
        have e2 : decV l = zeroH := by unfold decV; rw [e1]; rfl
        rw [e1, e2]; exact dec_version b o c l w hC hc hb h1 h2 h3
    · have e1 : decE l = 6 := by unfold decE; rw [if_neg h1, if_pos h2]
      have e2 : decV l = zeroH := by unfold decV; rw [e1]; rfl
      rw [e1, e2]; exact dec_magic b o c l w hC hc hb h1 h2
end Go.Proofs.YtcemageindmbkaaDoor
/- slot.at and its two closures: what they return. -/
namespace Go.Proofs.YtcemageindmbkaaDoor
open Go.RowKit Go.Proofs.YtcemageindmbkaaDoorW.PrintWords
open PSlotBytes

def atE (D : DiskS) (which a b c : Int) : Int :=
  if rightF a b c = false then 9 else if which < 0 ∨ 2 ≤ which ∨ D.size < 32 then 1 else if D.sectors < 2 * spanF D.size a b c then 4 else 0

/-- The three boxes of 'at', in a world that has come of w0. -/
structure At3 (w0 W : World) (g : Nat) (a b c : Int) : Prop where
  below : Below w0.heap.size w0 W
  b0 : W.heap[w0.heap.size]? = some (.cells #[.pointer (some ⟨g, 0, none⟩)] 29)
  b1 : W.heap[w0.heap.size + 1]? = some (.cells #[.int .i64 a, .int .i64 b, .int .i64 c] 23)
  b2 : W.heap[w0.heap.size + 1 + 1]? = some (.cells #[.int .i64 0, .int .i64 0, .nilFunc, .nilFunc] 87)
theorem At3.made (w0 : World) (g : Nat) (a b c : Int) : At3 w0 (((w0.alloc (.cells #[.pointer (some ⟨g, 0, none⟩)] 29)).alloc (.cells #[.int .i64 a, .int .i64 b, .int .i64 c] 23)).alloc (.cells #[.int .i64 0, .int .i64 0, .nilFunc, .nilFunc] 87)) g a b c :=
  ⟨below_alloc (below_alloc (below_alloc (Below.refl _ _) _) _) _, blk_alloc (blk_alloc (heap_alloc_new w0 _) _) _, enc_blk1 _ _ _ _, enc_blk2 _ _ _ _⟩
theorem At3.step {w0 W W' : World} {g : Nat} {a b c : Int} (h : At3 w0 W g a b c) (hb : Below W.heap.size W W') : At3 w0 W' g a b c :=
  ⟨below_via h.below hb, (hb.block _ (blk_lt h.b0)).trans h.b0, (hb.block _ (blk_lt h.b1)).trans h.b1, (hb.block _ (blk_lt h.b2)).trans h.b2⟩
theorem At3.cells {w0 W : World} {g : Nat} {a b c : Int} (h : At3 w0 W g a b c) : W.cell? ⟨w0.heap.size, 0, none⟩ = some (.pointer (some ⟨g, 0, none⟩)) ∧ (W.cell? ⟨w0.heap.size + 1, 0, none⟩ = some (.int .i64 a) ∧ W.cell? ⟨w0.heap.size + 1, 1, none⟩ = some (.int .i64 b) ∧ W.cell? ⟨w0.heap.size + 1, 2, none⟩ = some (.int .i64 c)) ∧
    (W.cell? ⟨w0.heap.size + 1 + 1, 0, none⟩ = some (.int .i64 0) ∧ W.cell? ⟨w0.heap.size + 1 + 1, 1, none⟩ = some (.int .i64 0) ∧ W.cell? ⟨w0.heap.size + 1 + 1, 2, none⟩ = some .nilFunc ∧ W.cell? ⟨w0.heap.size + 1 + 1, 3, none⟩ = some .nilFunc) ∧
    (W.frozen? ⟨w0.heap.size + 1 + 1, 0, none⟩ = false ∧ W.frozen? ⟨w0.heap.size + 1 + 1, 1, none⟩ = false ∧ W.frozen? ⟨w0.heap.size + 1 + 1, 2, none⟩ = false ∧ W.frozen? ⟨w0.heap.size + 1 + 1, 3, none⟩ = false) :=
  ⟨(blk_cell h.b0 0).trans rfl, ⟨(blk_cell h.b1 0).trans rfl, (blk_cell h.b1 1).trans rfl, (blk_cell h.b1 2).trans rfl⟩, ⟨(blk_cell h.b2 0).trans rfl, (blk_cell h.b2 1).trans rfl, (blk_cell h.b2 2).trans rfl, (blk_cell h.b2 3).trans rfl⟩, blk_frozen h.b2 0, blk_frozen h.b2 1, blk_frozen h.b2 2, blk_frozen h.b2 3⟩
/-- Four cells are written, one behind the other. -/
theorem set4 {W : World} {g : Nat} {u0 u1 u2 u3 : Value} (v0 v1 v2 v3 : Value)
    (k : W.cell? ⟨g, 0, none⟩ = some u0 ∧ W.cell? ⟨g, 1, none⟩ = some u1 ∧ W.cell? ⟨g, 2, none⟩ = some u2 ∧ W.cell? ⟨g, 3, none⟩ = some u3) :
    ∃ W', W' = ((((W.setCell ⟨g, 0, none⟩ v0).setCell ⟨g, 1, none⟩ v1).setCell ⟨g, 2, none⟩ v2).setCell ⟨g, 3, none⟩ v3) ∧
      (W'.cell? ⟨g, 0, none⟩ = some v0 ∧ W'.cell? ⟨g, 1, none⟩ = some v1 ∧ W'.cell? ⟨g, 2, none⟩ = some v2 ∧ W'.cell? ⟨g, 3, none⟩ = some v3) ∧
      (∀ B w0, Below B w0 W → B ≤ g → Below B w0 W') ∧ W'.heap.size = W.heap.size ∧ ∀ k, k ≠ g → W'.heap[k]? = W.heap[k]? := by
  obtain ⟨k0, k1, k2, k3⟩ := k
  obtain ⟨W', hW⟩ : ∃ W', W' = ((((W.setCell ⟨g, 0, none⟩ v0).setCell ⟨g, 1, none⟩ v1).setCell ⟨g, 2, none⟩ v2).setCell ⟨g, 3, none⟩ v3) := ⟨_, rfl⟩
  refine ⟨W', hW, ⟨?_, ?_, ?_, ?_⟩, fun B w0 h hg => hW ▸ (((h.setCell hg _).setCell hg _).setCell hg _).setCell hg _, by rw [hW]; simp [World.setCell], fun k hk => ?_⟩
  · rw [hW]; simp [go_sem, *]
  · rw [hW]; simp [go_sem, *]
  · rw [hW]; simp [go_sem, *]
  · rw [hW]; simp [go_sem, *]
  · rw [hW, Below.heap_setCell _ _ _ _ (by simpa using hk), Below.heap_setCell _ _ _ _ (by simpa using hk), Below.heap_setCell _ _ _ _ (by simpa using hk), Below.heap_setCell _ _ _ _ (by simpa using hk)]

abbrev zeroP : Value := .agg #[.int .i64 0, .int .i64 0, .nilFunc, .nilFunc]
set_option maxRecDepth 100000 in
theorem at_geo (w : World) (g : Nat) (which a b c : Int) (hr : rightF a b c = false) :
    Calls Tryd.prog 48 #[.pointer (some ⟨g, 0, none⟩), .int .i64 which, .agg #[.int .i64 a, .int .i64 b, .int .i64 c]] w fun e w' => e = .returned (.tuple #[zeroP, .int .i64 9]) ∧ Below w.heap.size w w' := by
  have HR := Lib.hid (fun w => hr ▸ right_calls a b c w)
  clear hr
  have HA := Lib.hid (At3.made w g a b c)
  have sn : ∀ (m : Mode) (x : Addr) (w : World), (store x Value.nilFunc m).run Tryd.prog w = stored Tryd.prog w x Value.nilFunc m := fun m x w => run_store Tryd.prog w x _ m rfl
  go_enter Tryd.func48, Tryd.ntmps48
  go_wp2_with fail
  generalize (((w.alloc (.cells #[.pointer (some ⟨g, 0, none⟩)] 29)).alloc (.cells #[.int .i64 a, .int .i64 b, .int .i64 c] 23)).alloc (.cells #[.int .i64 0, .int .i64 0, .nilFunc, .nilFunc] 87)) = wB at *
  refine (HR.out _).mono ?_
  rintro e w1 ⟨rfl, hb1⟩
  have HA1 := Lib.hid (HA.out.step hb1)
  clear hb1
  obtain ⟨c0, ⟨c1, c2, c3⟩, ⟨k0, k1, k2, k3⟩, f0, f1, f2, f3⟩ := HA1.out.cells
  go_wp2_with fail
  obtain ⟨W9, hW9, ⟨l0, l1, l2, l3⟩, hbel, -, -⟩ := set4 (.int .i64 0) (.int .i64 0) .nilFunc .nilFunc ⟨k0, k1, k2, k3⟩
  rw [← hW9]
  have hb9 := hbel _ _ (HA1.out).below (by omega)
  clear hW9 hbel k0 k1 k2 k3 f0 f1 f2 f3
  exact bodyPost_ret (v := .tuple #[zeroP, .int .i64 9]) (by simp [results, Tryd.results48, go_sem, l0, l1, l2, l3]) rfl ⟨rfl, hb9⟩

set_option maxRecDepth 100000 in
theorem at_arg1 (w : World) (g : Nat) (which a b c : Int) (hr : rightF a b c = true) (hw : which < 0 ∨ 2 ≤ which) :
    Calls Tryd.prog 48 #[.pointer (some ⟨g, 0, none⟩), .int .i64 which, .agg #[.int .i64 a, .int .i64 b, .int .i64 c]] w fun e w' => e = .returned (.tuple #[zeroP, .int .i64 1]) ∧ Below w.heap.size w w' := by
  have HR := Lib.hid (fun w => hr ▸ right_calls a b c w)
  clear hr
  have HA := Lib.hid (At3.made w g a b c)
  have sn : ∀ (m : Mode) (x : Addr) (w : World), (store x Value.nilFunc m).run Tryd.prog w = stored Tryd.prog w x Value.nilFunc m := fun m x w => run_store Tryd.prog w x _ m rfl
  go_enter Tryd.func48, Tryd.ntmps48
  go_wp2_with fail
  generalize (((w.alloc (.cells #[.pointer (some ⟨g, 0, none⟩)] 29)).alloc (.cells #[.int .i64 a, .int .i64 b, .int .i64 c] 23)).alloc (.cells #[.int .i64 0, .int .i64 0, .nilFunc, .nilFunc] 87)) = wB at *
  refine (HR.out _).mono ?_
  rintro e w1 ⟨rfl, hb1⟩
  have HA1 := Lib.hid (HA.out.step hb1)
  clear hb1
  obtain ⟨c0, ⟨c1, c2, c3⟩, ⟨k0, k1, k2, k3⟩, f0, f1, f2, f3⟩ := HA1.out.cells
  rcases hw with hw | hw
  · skip
    go_wp2_with fail
    obtain ⟨W9, hW9, ⟨l0, l1, l2, l3⟩, hbel, -, -⟩ := set4 (.int .i64 0) (.int .i64 0) .nilFunc .nilFunc ⟨k0, k1, k2, k3⟩
    rw [← hW9]
    have hb9 := hbel _ _ (HA1.out).below (by omega)
    clear hW9 hbel k0 k1 k2 k3 f0 f1 f2 f3
    exact bodyPost_ret (v := .tuple #[zeroP, .int .i64 1]) (by simp [results, Tryd.results48, go_sem, l0, l1, l2, l3]) rfl ⟨rfl, hb9⟩
  · skip
    go_wp2_with fail
    obtain ⟨W9, hW9, ⟨l0, l1, l2, l3⟩, hbel, -, -⟩ := set4 (.int .i64 0) (.int .i64 0) .nilFunc .nilFunc ⟨k0, k1, k2, k3⟩
    rw [← hW9]
    have hb9 := hbel _ _ (HA1.out).below (by omega)
    clear hW9 hbel k0 k1 k2 k3 f0 f1 f2 f3
    exact bodyPost_ret (v := .tuple #[zeroP, .int .i64 1]) (by simp [results, Tryd.results48, go_sem, l0, l1, l2, l3]) rfl ⟨rfl, hb9⟩

set_option maxRecDepth 100000 in
theorem at_arg2 (w : World) (B g : Nat) (F : Nat → Prop) (D : DiskS) (which a b c : Int) (hD : IsDisk w B F g D) (hr : rightF a b c = true) (hw0 : 0 ≤ which) (hw1 : which < 2) (hs : D.size < 32) :
    Calls Tryd.prog 48 #[.pointer (some ⟨g, 0, none⟩), .int .i64 which, .agg #[.int .i64 a, .int .i64 b, .int .i64 c]] w fun e w' => e = .returned (.tuple #[zeroP, .int .i64 1]) ∧ Below w.heap.size w w' := by
  have HR := Lib.hid (fun w => hr ▸ right_calls a b c w)
  have HD := Lib.hid hD
  clear hr hD
  have HA := Lib.hid (At3.made w g a b c)
  have sn : ∀ (m : Mode) (x : Addr) (w : World), (store x Value.nilFunc m).run Tryd.prog w = stored Tryd.prog w x Value.nilFunc m := fun m x w => run_store Tryd.prog w x _ m rfl
  go_enter Tryd.func48, Tryd.ntmps48
  go_wp2_with fail
  generalize (((w.alloc (.cells #[.pointer (some ⟨g, 0, none⟩)] 29)).alloc (.cells #[.int .i64 a, .int .i64 b, .int .i64 c] 23)).alloc (.cells #[.int .i64 0, .int .i64 0, .nilFunc, .nilFunc] 87)) = wB at *
  refine (HR.out _).mono ?_
  rintro e w1 ⟨rfl, hb1⟩
  have HA1 := Lib.hid (HA.out.step hb1)
  clear hb1
  obtain ⟨c0, ⟨c1, c2, c3⟩, ⟨k0, k1, k2, k3⟩, f0, f1, f2, f3⟩ := HA1.out.cells
  go_wp2_with fail
  refine (size_calls w1 B g F D (HD.out.below HA1.out.below)).mono ?_
  rintro e w2 ⟨rfl, hb2⟩
  have HA2 := Lib.hid (HA1.out.step hb2)
  clear hb2 c0 c1 c2 c3 k0 k1 k2 k3 f0 f1 f2 f3
  obtain ⟨c0, ⟨c1, c2, c3⟩, ⟨k0, k1, k2, k3⟩, f0, f1, f2, f3⟩ := HA2.out.cells
  generalize D.size = sz at *
  go_wp2_with fail
  obtain ⟨W9, hW9, ⟨l0, l1, l2, l3⟩, hbel, -, -⟩ := set4 (.int .i64 0) (.int .i64 0) .nilFunc .nilFunc ⟨k0, k1, k2, k3⟩
  rw [← hW9]
  have hb9 := hbel _ _ (HA2.out).below (by omega)
  clear hW9 hbel k0 k1 k2 k3 f0 f1 f2 f3
  exact bodyPost_ret (v := .tuple #[zeroP, .int .i64 1]) (by simp [results, Tryd.results48, go_sem, l0, l1, l2, l3]) rfl ⟨rfl, hb9⟩

set_option maxRecDepth 100000 in
theorem at_full (w : World) (B g : Nat) (F : Nat → Prop) (D : DiskS) (which a b c : Int) (hl : Laid w) (hD : IsDisk w B F g D) (hok : DiskOk D) (hr : rightF a b c = true) (hw0 : 0 ≤ which) (hw1 : which < 2) (hs : 32 ≤ D.size) (hf : D.sectors < 2 * spanF D.size a b c) :
    Calls Tryd.prog 48 #[.pointer (some ⟨g, 0, none⟩), .int .i64 which, .agg #[.int .i64 a, .int .i64 b, .int .i64 c]] w fun e w' => e = .returned (.tuple #[zeroP, .int .i64 4]) ∧ Below w.heap.size w w' := by
  have HR := Lib.hid (fun w => hr ▸ right_calls a b c w)
  have HD := Lib.hid hD
  have HK := Lib.hid hok
  have HL := Lib.hid hl
  clear hr hD hl hok
  have HA := Lib.hid (At3.made w g a b c)
  have sn : ∀ (m : Mode) (x : Addr) (w : World), (store x Value.nilFunc m).run Tryd.prog w = stored Tryd.prog w x Value.nilFunc m := fun m x w => run_store Tryd.prog w x _ m rfl
  go_enter Tryd.func48, Tryd.ntmps48
  go_wp2_with fail
  generalize (((w.alloc (.cells #[.pointer (some ⟨g, 0, none⟩)] 29)).alloc (.cells #[.int .i64 a, .int .i64 b, .int .i64 c] 23)).alloc (.cells #[.int .i64 0, .int .i64 0, .nilFunc, .nilFunc] 87)) = wB at *
  refine (HR.out _).mono ?_
  rintro e w1 ⟨rfl, hb1⟩
  have HA1 := Lib.hid (HA.out.step hb1)
  clear hb1
  obtain ⟨c0, ⟨c1, c2, c3⟩, ⟨k0, k1, k2, k3⟩, f0, f1, f2, f3⟩ := HA1.out.cells
  go_wp2_with fail
  refine (size_calls w1 B g F D (HD.out.below HA1.out.below)).mono ?_
  rintro e w2 ⟨rfl, hb2⟩
  have HA2 := Lib.hid (HA1.out.step hb2)
  clear hb2 c0 c1 c2 c3 k0 k1 k2 k3 f0 f1 f2 f3
  obtain ⟨c0, ⟨c1, c2, c3⟩, -⟩ := HA2.out.cells
  have d0 := fun n : BT w2 => BT.cell c0 n
  have d1 := fun n : BT w2 => BT.cell c1 n
  have d2 := fun n : BT w2 => BT.cell c2 n
  have d3 := fun n : BT w2 => BT.cell c3 n
  have S1 := Lib.hid (fun n : BT w2 => sectorsOf_calls n.w B g F D (HD.out.below (below_via HA2.out.below n.ok)) HK.out.s1 (by have := HK.out.len; omega))
  have S2 := Lib.hid (fun n : BT w2 => size_calls n.w B g F D (HD.out.below (below_via HA2.out.below n.ok)))
  have S3 := Lib.hid (fun n : BT w2 => room_calls D.size a b c n.w (HL.out.of_below (below_via HA2.out.below n.ok)))
  generalize D.size = sz at *
  generalize D.sectors = sc at *
  go_wp2_with fail
  · skip
    refine wp_region_below (by kernel_rfl) (by kernel_rfl) ?_
    repeat (go_big_quiet_step (first | (go_at_call 87; exact Calls.below_of (S1.out _)) | (go_at_call 86; exact Calls.below_of (S2.out _)) | (go_at_call 11; exact Calls.below_of (S3.out _))))
    refine wpQuiet_nil ?_
    intro W5 hW5
    obtain ⟨⟨w5, hb5⟩, rfl⟩ := hW5
    have HA3 := Lib.hid (HA2.out.step hb5)
    clear hb5 c0 c1 c2 c3 d0 d1 d2 d3
    obtain ⟨c0, ⟨c1, c2, c3⟩, ⟨k0, k1, k2, k3⟩, f0, f1, f2, f3⟩ := HA3.out.cells
    go_wp2_with fail
    obtain ⟨W9, hW9, ⟨l0, l1, l2, l3⟩, hbel, -, -⟩ := set4 (.int .i64 0) (.int .i64 0) .nilFunc .nilFunc ⟨k0, k1, k2, k3⟩
    rw [← hW9]
    have hb9 := hbel _ _ (HA3.out).below (by omega)
    clear hW9 hbel k0 k1 k2 k3 f0 f1 f2 f3
    exact bodyPost_ret (v := .tuple #[zeroP, .int .i64 4]) (by simp [results, Tryd.results48, go_sem, l0, l1, l2, l3]) rfl ⟨rfl, hb9⟩

/-- A slot's place: the closures read the disk's box at p1, and the first sector's at p2. -/
abbrev placeV (p1 p2 : Nat) (many size : Int) : Value :=
  .agg #[.int .i64 many, .int .i64 size, .func (.func 88) #[] #[.pointer (some ⟨p1, 0, none⟩), .pointer (some ⟨p2, 0, none⟩)], .func (.func 90) #[] #[.pointer (some ⟨p1, 0, none⟩), .pointer (some ⟨p2, 0, none⟩)]]
set_option maxRecDepth 100000 in
theorem at_ok (w : World) (B g : Nat) (F : Nat → Prop) (D : DiskS) (which a b c : Int) (hl : Laid w) (hD : IsDisk w B F g D) (hok : DiskOk D) (hr : rightF a b c = true) (hw0 : 0 ≤ which) (hw1 : which < 2) (hs : 32 ≤ D.size) (hf : ¬ D.sectors < 2 * spanF D.size a b c) :
    Calls Tryd.prog 48 #[.pointer (some ⟨g, 0, none⟩), .int .i64 which, .agg #[.int .i64 a, .int .i64 b, .int .i64 c]] w fun e w' => ∃ p2, e = .returned (.tuple #[placeV w.heap.size p2 (spanF D.size a b c - 1) D.size, .int .i64 0]) ∧ Below w.heap.size w w' ∧
      w'.heap[w.heap.size]? = some (.cells #[.pointer (some ⟨g, 0, none⟩)] 29) ∧ w'.heap[p2]? = some (.cells #[.int .i64 (which * spanF D.size a b c)] 3) ∧ w.heap.size ≤ p2 := by
  have HR := Lib.hid (fun w => hr ▸ right_calls a b c w)
  have HD := Lib.hid hD
  have HK := Lib.hid hok
  have HL := Lib.hid hl
  clear hr hD hl hok
  have S1 := Lib.hid (fun (W : World) (hW : Below w.heap.size w W) => sectorsOf_calls W B g F D (HD.out.below hW) HK.out.s1 (by have := HK.out.len; omega))
  have S2 := Lib.hid (fun (W : World) (hW : Below w.heap.size w W) => size_calls W B g F D (HD.out.below hW))
  have S3 := Lib.hid (fun (W : World) (hW : Below w.heap.size w W) => room_calls D.size a b c W (HL.out.of_below hW))
  have S4 := Lib.hid (fun (W : World) (hW : Below w.heap.size w W) => span_calls D.size a b c W (HL.out.of_below hW))
  have hsp := spanF_bd D.size a b c
  have hwr : wrap64 (which * spanF D.size a b c) = which * spanF D.size a b c := by
    have h01 : which = 0 ∨ which = 1 := by omega
    rcases h01 with rfl | rfl
    · rw [Int.zero_mul]; unfold wrap64; omega
    · rw [Int.one_mul]; unfold wrap64; omega
  have sf : ∀ (fn : Fn) (u v : Array Value) (m : Mode) (x : Addr) (w : World), (store x (Value.func fn u v) m).run Tryd.prog w = stored Tryd.prog w x (Value.func fn u v) m := fun fn u v m x w => run_store Tryd.prog w x _ m rfl
  clear HL HK HD
  generalize spanF D.size a b c = sp at *
  generalize D.size = sz at *
  generalize D.sectors = sc at *
  clear D F B
  have HA := Lib.hid (At3.made w g a b c)
  have sn : ∀ (m : Mode) (x : Addr) (w : World), (store x Value.nilFunc m).run Tryd.prog w = stored Tryd.prog w x Value.nilFunc m := fun m x w => run_store Tryd.prog w x _ m rfl
  go_enter Tryd.func48, Tryd.ntmps48
  go_wp2_with fail
  generalize (((w.alloc (.cells #[.pointer (some ⟨g, 0, none⟩)] 29)).alloc (.cells #[.int .i64 a, .int .i64 b, .int .i64 c] 23)).alloc (.cells #[.int .i64 0, .int .i64 0, .nilFunc, .nilFunc] 87)) = wB at *
  refine (HR.out _).mono ?_
  rintro e w1 ⟨rfl, hb1⟩
  have HA1 := Lib.hid (HA.out.step hb1)
  clear hb1
  obtain ⟨c0, ⟨c1, c2, c3⟩, ⟨k0, k1, k2, k3⟩, f0, f1, f2, f3⟩ := HA1.out.cells
  go_wp2_with fail
  refine (S2.out _ HA1.out.below).mono ?_
  rintro e w2 ⟨rfl, hb2⟩
  have HA2 := Lib.hid (HA1.out.step hb2)
  clear hb2 c0 c1 c2 c3 k0 k1 k2 k3 f0 f1 f2 f3
  obtain ⟨c0, ⟨c1, c2, c3⟩, -⟩ := HA2.out.cells
  have d0 := fun n : BT w2 => BT.cell c0 n
  have d1 := fun n : BT w2 => BT.cell c1 n
  have d2 := fun n : BT w2 => BT.cell c2 n
  have d3 := fun n : BT w2 => BT.cell c3 n
  go_wp2_with fail
  · skip
    refine wp_region_below (by kernel_rfl) (by kernel_rfl) ?_
    repeat (go_big_quiet_step (first | (go_at_call 87; exact Calls.below_of (S1.out _ (below_via HA2.out.below (CT.ok _)))) | (go_at_call 86; exact Calls.below_of (S2.out _ (below_via HA2.out.below (CT.ok _)))) | (go_at_call 11; exact Calls.below_of (S3.out _ (below_via HA2.out.below (CT.ok _))))))
    refine wpQuiet_nil ?_
    intro W5 hW5
    obtain ⟨⟨w5, hb5⟩, rfl⟩ := hW5
    have HA3 := Lib.hid (HA2.out.step hb5)
    clear hb5 c0 c1 c2 c3 d0 d1 d2 d3
    obtain ⟨c0, ⟨c1, c2, c3⟩, -⟩ := HA3.out.cells
    have d0 := fun n : BT W5 => BT.cell c0 n
    have d1 := fun n : BT W5 => BT.cell c1 n
    have d2 := fun n : BT W5 => BT.cell c2 n
    have d3 := fun n : BT W5 => BT.cell c3 n
    go_wp2_with fail
    refine wp_region_below (by kernel_rfl) (by kernel_rfl) ?_
    repeat (go_big_quiet_step (first | (go_at_call 86; exact Calls.below_of (S2.out _ (below_via HA3.out.below (CT.ok _)))) | (go_at_call 9; exact Calls.below_of (S4.out _ (below_via HA3.out.below (CT.ok _))))))
    refine wpQuiet_nil ?_
    intro W5 hW5
    obtain ⟨⟨w5, hb5⟩, rfl⟩ := hW5
    have HA5 := Lib.hid (HA3.out.step hb5)
    clear hb5 c0 c1 c2 c3 d0 d1 d2 d3
    obtain ⟨c0, -, ⟨k0, k1, k2, k3⟩, f0, f1, f2, f3⟩ := HA5.out.cells
    have e0 := pw_cell_below (below_alloc (Below.refl W5.heap.size W5) (.cells #[.int .i64 (which * sp)] 3)) c0
    go_wp2_with fail
    refine (S2.out _ (below_via HA5.out.below (below_alloc (Below.refl _ _) _))).mono ?_
    rintro e w6 ⟨rfl, hb6⟩
    have HA6 := Lib.hid ((HA5.out.step (below_alloc (Below.refl W5.heap.size W5) (.cells #[.int .i64 (which * sp)] 3))).step hb6)
    have hp2 : w6.heap[W5.heap.size]? = some (.cells #[.int .i64 (which * sp)] 3) := (hb6.block _ (by simp)).trans (heap_alloc_new W5 _)
    have HP2 := Lib.hid hp2
    have hle : w.heap.size + 1 + 1 < W5.heap.size := blk_lt HA5.out.b2
    clear hb6 hp2 c0 e0 k0 k1 k2 k3 f0 f1 f2 f3
    obtain ⟨-, -, ⟨k0, k1, k2, k3⟩, f0, f1, f2, f3⟩ := HA6.out.cells
    generalize W5.heap.size = p2 at *
    go_wp2_with fail
    obtain ⟨W9, hW9, ⟨l0, l1, l2, l3⟩, hbel, hsz, hrest⟩ := set4 (.int .i64 (sp - 1)) (.int .i64 sz) (.func (.func 88) #[] #[.pointer (some ⟨w.heap.size, 0, none⟩), .pointer (some ⟨p2, 0, none⟩)]) (.func (.func 90) #[] #[.pointer (some ⟨w.heap.size, 0, none⟩), .pointer (some ⟨p2, 0, none⟩)]) ⟨k0, k1, k2, k3⟩
    rw [← hW9]
    have hb9 := hbel _ _ HA6.out.below (by omega)
    have hr0 := (hrest w.heap.size (by omega)).trans HA6.out.b0
    have hr2 := (hrest p2 (by omega)).trans HP2.out
    clear hW9 hbel k0 k1 k2 k3 f0 f1 f2 f3 hrest
    exact bodyPost_ret (v := .tuple #[placeV w.heap.size p2 (sp - 1) sz, .int .i64 0]) (by simp [results, Tryd.results48, go_sem, l0, l1, l2, l3]) rfl ⟨p2, rfl, hb9, hr0, hr2, by omega⟩
end Go.Proofs.YtcemageindmbkaaDoor
/- slot.at's closures. -/
namespace Go.Proofs.YtcemageindmbkaaDoor
open Go.RowKit Go.Proofs.YtcemageindmbkaaDoorW.PrintWords
open PSlotBytes

theorem rd_calls (w : World) (B g p1 p2 : Nat) (F : Nat → Prop) (D : DiskS) (first i : Int) (h1 : w.heap[p1]? = some (.cells #[.pointer (some ⟨g, 0, none⟩)] 29)) (h2 : w.heap[p2]? = some (.cells #[.int .i64 first] 3)) (hD : IsDisk w B F g D) (hok : DiskOk D) (hb : -1000000000 ≤ first + i ∧ first + i ≤ 1000000000) :
    Calls Tryd.prog 88 #[.int .i64 i, .pointer (some ⟨p1, 0, none⟩), .pointer (some ⟨p2, 0, none⟩)] w fun e w' => ∃ v, e = .returned (.tuple #[v, .int .i64 (readErr D (first + i))]) ∧ RB w' w.heap.size (fun k => w.heap.size ≤ k) v (readB D (first + i)) ∧ IsDisk w' B F g D.next ∧ Fr w w' (fun k => k = g) := by
  have HR := Lib.hid (read_calls w B g F D (first + i) hD hok)
  have c1 : w.cell? ⟨p1, 0, none⟩ = some (.pointer (some ⟨g, 0, none⟩)) := (blk_cell h1 0).trans rfl
  have c2 : w.cell? ⟨p2, 0, none⟩ = some (.int .i64 first) := (blk_cell h2 0).trans rfl
  clear h1 h2 hD hok
  go_enter Tryd.func88, Tryd.ntmps88
  go_wp2_with fail
  refine HR.out.mono ?_
  rintro e w1 ⟨v, rfl, hR1, hD1, hf1⟩
  have HR1 := Lib.hid hR1
  have HD1 := Lib.hid hD1
  have HF1 := Lib.hid hf1
  clear hR1 hD1 hf1
  go_wp2_with fail
  go_ret2
  exact ⟨v, rfl, HR1.out, HD1.out, HF1.out⟩

theorem wr_calls (w : World) (B g p1 p2 : Nat) (F : Nat → Prop) (D : DiskS) (first i : Int) (A : Option Addr) (c : Nat) (b : List Int) (h1 : w.heap[p1]? = some (.cells #[.pointer (some ⟨g, 0, none⟩)] 29)) (h2 : w.heap[p2]? = some (.cells #[.int .i64 first] 3)) (hD : IsDisk w B F g D) (hok : DiskOk D) (hB : B ≤ w.heap.size)
    (hC : ∀ w', Fr w w' (fun k => k = g) → KB.C w' A b.length b) (hnil : A = none → c = 0) (hb : -1000000000 ≤ first + i ∧ first + i ≤ 1000000000) :
    Calls Tryd.prog 90 #[.int .i64 i, .slice A b.length c, .pointer (some ⟨p1, 0, none⟩), .pointer (some ⟨p2, 0, none⟩)] w fun e w' => e = .returned (.int .i64 (writeErr D (first + i) b.length)) ∧ IsDisk w' B (fun k => F k ∨ (w.heap.size ≤ k ∧ k < w'.heap.size)) g (writeS D (first + i) b) ∧ Fr w w' F := by
  have HR := Lib.hid (write_calls w B g F D (first + i) A c b hD hok hB hC hnil)
  have c1 : w.cell? ⟨p1, 0, none⟩ = some (.pointer (some ⟨g, 0, none⟩)) := (blk_cell h1 0).trans rfl
  have c2 : w.cell? ⟨p2, 0, none⟩ = some (.int .i64 first) := (blk_cell h2 0).trans rfl
  clear h1 h2 hD hok hC
  go_enter Tryd.func90, Tryd.ntmps90
  go_wp2_with fail
  refine HR.out.mono ?_
  rintro e w1 ⟨rfl, hD1, hf1⟩
  have HD1 := Lib.hid hD1
  have HF1 := Lib.hid hf1
  clear hD1 hf1
  go_wp2_with fail
  exact bodyPost_ret (v := .int .i64 (writeErr D (first + i) b.length)) (by simp [results, Tryd.results90, go_sem]) rfl ⟨rfl, HD1.out, HF1.out⟩
end Go.Proofs.YtcemageindmbkaaDoor
/- (place).first, Wipe, Seal, Data: what they return. -/
namespace Go.Proofs.YtcemageindmbkaaDoor
open Go.RowKit Go.Proofs.YtcemageindmbkaaDoorW.PrintWords
open PSlotBytes

set_option maxHeartbeats 1000000 in
set_option maxRecDepth 100000 in
theorem first_calls (w : World) (B g p1 p2 : Nat) (F : Nat → Prop) (D : DiskS) (first many : Int) (s : Nat) (A : Option Addr) (c : Nat) (l : List Int) (h1 : w.heap[p1]? = some (.cells #[.pointer (some ⟨g, 0, none⟩)] 29)) (h2 : w.heap[p2]? = some (.cells #[.int .i64 first] 3)) (hD : IsDisk w B F g D) (hok : DiskOk D) (hB : B ≤ w.heap.size)
    (hC : KB.C w A l.length l) (hl : l.length ≤ s) (hs : s ≤ 4096) (hb : 0 ≤ first ∧ first ≤ 1000000000) :
    Calls Tryd.prog 60 #[placeV p1 p2 many (s : Int), .slice A l.length c] w fun e w' => e = .returned (.int .i64 (writeErr D first s)) ∧ IsDisk w' B (fun k => F k ∨ (w.heap.size ≤ k ∧ k < w'.heap.size)) g (writeS D first (padTo l s)) ∧ Fr w w' F := by
  have HC := Lib.hid hC
  have HD := Lib.hid hD
  have HK := Lib.hid hok
  have H1 := Lib.hid h1
  have H2 := Lib.hid h2
  have HFg : Hid (∀ k, F k → B ≤ k ∧ k < w.heap.size) := Lib.hid hD.bound
  have hgl : g < w.heap.size := by
    obtain ⟨_, _, _, _, _, hh, _⟩ := hD
    exact blk_lt hh
  clear h1 h2 hD hok hC
  go_enter Tryd.func60, Tryd.ntmps60
  go_wp2_with (first | ((with_reducible refine gate_dst (N := 8) rfl ?_); refine Kd.R_make KB (w0 := w) w.heap.size 5 rfl (N := 8) rfl 27 _ _ rfl (s : Int) rfl rfl Tryd.underlying27 (.int .u8 0) 1 infoB rfl (by decide) (by decide) 0 (ok := fun k => w.heap.size ≤ k) (okp := fun _ => False) rfl (fun _ h => h.elim) (by simp) (by omega) (by omega) (below_alloc (Below.refl _ _) _) (by simp) ?_; intro v5 w5 HO5 HB5 hg5 hne5; have hk5 := (hg5.block w.heap.size (by simp) (by simp)).trans (heap_alloc_new w _)) | ((with_reducible refine gate_dst (N := 11) rfl ?_); refine Kd.R_copy (enc := Value.int .u8) (h1 := fun _ => rfl) 0 (w0 := w) w.heap.size rfl _ _ 27 27 5 rfl Tryd.underlying27 infoB1 v5 _ l A l.length c (fun k => w.heap.size ≤ k) rfl rfl HO5 (Kd.C_below HC.out HB5) HB5 HB5.size ?_; intro w6 HO6 HB6 HG6; have hk6 := (HG6.block w.heap.size (blk_lt hk5) (by obtain ⟨bb, e, hle⟩ := hne5; rw [e]; simp only [World.size_alloc] at hle; intro e2; cases e2; omega)).trans hk5; have e3 := blk_cell hk6 3; simp only [List.getElem?_toArray, List.getElem?_cons_succ, List.getElem?_cons_zero] at e3))
  simp only [Int.toNat_natCast] at HO6
  rw [pad_eq hl] at HO6
  have hlp := padTo_length hl
  have h61 := (HB6.block p1 (blk_lt H1.out)).trans H1.out
  have h62 := (HB6.block p2 (blk_lt H2.out)).trans H2.out
  have HO := Lib.hid HO6
  have HB6' := Lib.hid HB6
  obtain ⟨A5, c5, rfl, hle, hC5⟩ := Kd.R_reads HO6
  have hnil : A5 = none → c5 = 0 := by
    obtain ⟨bb, hh, -⟩ := hne5
    rintro rfl
    simp [Value.ownBlock] at hh
  have HW := Lib.hid (wr_calls w6 B g p1 p2 F D first 0 A5 c5 (padTo l s) h61 h62 (HD.out.below HB6) HK.out (Nat.le_trans hB HB6.size)
    (fun w' hf => (Kd.R_reads' (Kd.R_step HO.out (fun k hk hk2 => hf.block k hk2 (fun e => by subst e; exact absurd hgl (by omega))))).2.2) hnil (by omega))
  rw [hlp] at HW
  clear HO5 HB5 hg5 hne5 hk5 hk6 HG6 HO6 HB6 h61 h62 hC5 hle hnil
  rw [hlp]
  go_wp2_with fail
  refine HW.out.mono ?_
  rintro e w7 ⟨rfl, hD7, hf7⟩
  rw [Int.add_zero] at hD7
  have HD7 := Lib.hid hD7
  have HF7 := Lib.hid hf7
  clear hD7 hf7
  go_wp2_with fail
  refine bodyPost_ret (v := .int .i64 (writeErr D (first + 0) s)) (by simp [results, Tryd.results60, go_sem]) rfl ⟨by rw [Int.add_zero], ?_, (Fr.of_below HB6'.out F).trans HF7.out (fun _ _ h => h)⟩
  refine HD7.out.mono (fun k hk => hk.elim .inl (fun h => .inr ⟨Nat.le_trans HB6'.out.size h.1, h.2⟩)) (fun k hk => hk.elim (fun h => ⟨(HFg.out k h).1, Nat.lt_of_lt_of_le (HFg.out k h).2 (Nat.le_trans HB6'.out.size HF7.out.size)⟩) (fun h => ⟨Nat.le_trans hB h.1, h.2⟩))

theorem at_err (w : World) (B g : Nat) (F : Nat → Prop) (D : DiskS) (which a b c : Int) (hl : Laid w) (hD : IsDisk w B F g D) (hok : DiskOk D) (h : atE D which a b c ≠ 0) :
    Calls Tryd.prog 48 #[.pointer (some ⟨g, 0, none⟩), .int .i64 which, .agg #[.int .i64 a, .int .i64 b, .int .i64 c]] w fun e w' => e = .returned (.tuple #[zeroP, .int .i64 (atE D which a b c)]) ∧ Below w.heap.size w w' := by
  unfold atE at *
  by_cases h1 : rightF a b c = false
  · rw [if_pos h1]; exact at_geo w g which a b c h1
  · rw [if_neg h1] at h ⊢
    have hr : rightF a b c = true := by simpa using h1
    by_cases h2 : which < 0 ∨ 2 ≤ which ∨ D.size < 32
    · rw [if_pos h2]
      by_cases h3 : which < 0 ∨ 2 ≤ which
      · exact at_arg1 w g which a b c hr h3
      · exact at_arg2 w B g F D which a b c hD hr (by omega) (by omega) (by omega)
    · rw [if_neg h2] at h ⊢
      by_cases h3 : D.sectors < 2 * spanF D.size a b c
      · rw [if_pos h3]; exact at_full w B g F D which a b c hl hD hok hr (by omega) (by omega) (by omega) h3
      · rw [if_neg h3] at h; exact absurd rfl h
theorem atE_ok {D : DiskS} {which a b c : Int} (h : atE D which a b c = 0) : rightF a b c = true ∧ 0 ≤ which ∧ which < 2 ∧ 32 ≤ D.size ∧ ¬ D.sectors < 2 * spanF D.size a b c := by
  unfold atE at h
  by_cases h1 : rightF a b c = false
  · rw [if_pos h1] at h; omega
  · rw [if_neg h1] at h
    by_cases h2 : which < 0 ∨ 2 ≤ which ∨ D.size < 32
    · rw [if_pos h2] at h; omega
    · rw [if_neg h2] at h
      by_cases h3 : D.sectors < 2 * spanF D.size a b c
      · rw [if_pos h3] at h; omega
      · exact ⟨by simpa using h1, by omega, by omega, by omega, h3⟩

set_option maxRecDepth 100000 in
theorem wipe_err (w : World) (B g : Nat) (F : Nat → Prop) (D : DiskS) (which a b c : Int) (hl : Laid w) (hD : IsDisk w B F g D) (hok : DiskOk D) (h : atE D which a b c ≠ 0) :
    Calls Tryd.prog 27 #[.pointer (some ⟨g, 0, none⟩), .int .i64 which, .agg #[.int .i64 a, .int .i64 b, .int .i64 c]] w fun e w' => e = .returned (.int .i64 (atE D which a b c)) ∧ Below w.heap.size w w' := by
  have HA := Lib.hid (fun (W : World) (hW : Below w.heap.size w W) => at_err W B g F D which a b c (hl.of_below hW) (hD.below hW) hok h)
  have sn : ∀ (m : Mode) (x : Addr) (w : World), (store x Value.nilFunc m).run Tryd.prog w = stored Tryd.prog w x Value.nilFunc m := fun m x w => run_store Tryd.prog w x _ m rfl
  clear hl hD hok
  generalize atE D which a b c = E at *
  go_enter Tryd.func27, Tryd.ntmps27
  go_wp2_with fail
  refine (HA.out _ (below_alloc (Below.refl _ _) _)).mono ?_
  rintro e w1 ⟨rfl, hb1⟩
  have HB1 := Lib.hid (below_via (w0 := w) (below_alloc (Below.refl _ _) _) hb1)
  clear hb1
  go_wp2_with fail
  exact bodyPost_ret (v := .int .i64 E) (by simp [results, Tryd.results27, go_sem]) rfl ⟨rfl, below_alloc HB1.out _⟩

set_option maxRecDepth 100000 in
set_option maxHeartbeats 1000000 in
theorem wipe_ok (w : World) (B g : Nat) (F : Nat → Prop) (D : DiskS) (which a b c : Int) (s : Nat) (hl : Laid w) (hD : IsDisk w B F g D) (hok : DiskOk D) (hB : B ≤ w.heap.size) (h : atE D which a b c = 0) (hs : D.size = s) :
    Calls Tryd.prog 27 #[.pointer (some ⟨g, 0, none⟩), .int .i64 which, .agg #[.int .i64 a, .int .i64 b, .int .i64 c]] w fun e w' => e = .returned (.int .i64 (writeErr D (which * spanF D.size a b c) s)) ∧ IsDisk w' B (fun k => F k ∨ (w.heap.size ≤ k ∧ k < w'.heap.size)) g (writeS D (which * spanF D.size a b c) (padTo [] s)) ∧ Fr w w' F := by
  obtain ⟨h1, h2, h3, h4, h5⟩ := atE_ok h
  have HA := Lib.hid (fun (W : World) (hW : Below w.heap.size w W) => at_ok W B g F D which a b c (hl.of_below hW) (hD.below hW) hok h1 h2 h3 h4 h5)
  have hsp := spanF_bd D.size a b c
  have hfi : 0 ≤ which * spanF D.size a b c ∧ which * spanF D.size a b c ≤ 1000000000 := by
    have h01 : which = 0 ∨ which = 1 := by omega
    rcases h01 with rfl | rfl
    · rw [Int.zero_mul]; omega
    · rw [Int.one_mul]; omega
  have hs2 := hok.s2
  rw [hs] at HA hs2 hfi
  rw [hs]
  generalize hsp : spanF (s : Int) a b c = sp at *
  generalize hfd : which * sp = fd at *
  have HF := Lib.hid (fun (w' : World) p1 p2 many A m l h1 h2 hD hB hC hl => first_calls w' B g p1 p2 F D fd many s A m l h1 h2 hD hok hB hC hl (by omega) hfi)
  have sn : ∀ (m : Mode) (x : Addr) (w : World), (store x Value.nilFunc m).run Tryd.prog w = stored Tryd.prog w x Value.nilFunc m := fun m x w => run_store Tryd.prog w x _ m rfl
  have sf : ∀ (fn : Fn) (u v : Array Value) (m : Mode) (x : Addr) (w : World), (store x (Value.func fn u v) m).run Tryd.prog w = stored Tryd.prog w x (Value.func fn u v) m := fun fn u v m x w => run_store Tryd.prog w x _ m rfl
  have HD := Lib.hid hD
  clear hl hD hok h h1 h2 h3 h4 h5 hs2 hfi hfd hsp
  go_enter Tryd.func27, Tryd.ntmps27
  go_wp2_with fail
  refine (HA.out _ (below_alloc (Below.refl _ _) _)).mono ?_
  rintro e w1 ⟨p2, rfl, hb1, hp1, hp2, hle⟩
  have HB1 := Lib.hid (below_via (w0 := w) (below_alloc (Below.refl _ _) _) hb1)
  have HP1 := Lib.hid hp1
  have HP2 := Lib.hid hp2
  clear hb1 hp1 hp2
  go_wp2_with fail
  simp only [World.size_alloc] at HP1
  refine (HF.out _ _ p2 _ none 0 [] (blk_alloc HP1.out _) (blk_alloc HP2.out _) (HD.out.below (below_alloc HB1.out _)) (Nat.le_trans hB (below_alloc HB1.out _).size) ⟨rfl, by simp, fun h => absurd h (by decide)⟩ (Nat.zero_le _)).mono ?_
  rintro e w7 ⟨rfl, hD7, hf7⟩
  have HD7 := Lib.hid hD7
  have HF7 := Lib.hid ((Fr.of_below (below_alloc HB1.out _) F).trans hf7 (fun _ _ h => h))
  have HL7 := Lib.hid (show w.heap.size ≤ (w1.alloc (.cells #[.int .i64 (sp - 1), .int .i64 s, .func (.func 88) #[] #[.pointer (some ⟨w.heap.size + 1, 0, none⟩), .pointer (some ⟨p2, 0, none⟩)], .func (.func 90) #[] #[.pointer (some ⟨w.heap.size + 1, 0, none⟩), .pointer (some ⟨p2, 0, none⟩)]] 87)).heap.size from (below_alloc HB1.out _).size)
  clear hD7 hf7
  go_wp2_with fail
  refine bodyPost_ret (v := .int .i64 (writeErr D fd s)) (by simp [results, Tryd.results27, go_sem]) rfl ⟨rfl, ?_, HF7.out⟩
  refine HD7.out.mono (fun k hk => hk.elim .inl (fun h => .inr ⟨Nat.le_trans HL7.out h.1, h.2⟩)) (fun k hk => hk.elim (fun h => ⟨(HD.out.bound k h).1, Nat.lt_of_lt_of_le (HD.out.bound k h).2 HF7.out.size⟩) (fun h => ⟨Nat.le_trans hB h.1, h.2⟩))
end Go.Proofs.YtcemageindmbkaaDoor
