/- Parts of the proof, in build order. -/
import Derived.Test.YtcemageindmbkaaDoorBytesAll1
import Derived.StillTailTactics
import Derived.RangeFuncBox
import Derived.Lib.SlBytesConst
import Derived.ArgAppend
import Derived.StillTail
import Derived.Laws.BytesArg
import Derived.Lib.EndianBits
/- The reference's check sum (keepsakeref01): what Bits, divisor, left, word, Sum return. -/
namespace Go.Proofs.YtcemageindmbkaaDoor
open Go.RowKit Go.Proofs.YtcemageindmbkaaDoorW.PrintWords

abbrev BR (w : World) (B : Nat) (ok : Nat → Prop) (v : Value) (xs : List Bool) : Prop := Kd.bool.R 4 w B ok v xs
theorem infoBo : (Tryd.prog.info? 4).map (fun i => (i.zero, i.size, i.bytes)) = some (some (.bool false), 1, 1) := by kernel_rfl
/-- A byte's bits, the lowest first. -/
def bits8 (x : Int) : List Bool := (List.range 8).map fun (k : Nat) => (x / 2 ^ k) % 2 == 1
def bitsF (l : List Int) : List Bool := l.flatMap bits8
theorem bits8_len (x : Int) : (bits8 x).length = 8 := by simp [bits8]
theorem bitsF_len : ∀ l : List Int, (bitsF l).length = 8 * l.length
  | [] => rfl
  | x :: l => by unfold bitsF; rw [List.flatMap_cons, List.length_append, bits8_len]; have := bitsF_len l; unfold bitsF at this; rw [this, List.length_cons]; omega
theorem bits8_take (x : Int) (j : Nat) (hj : j < 8) : (bits8 x).take (j + 1) = (bits8 x).take j ++ [(x / 2 ^ j) % 2 == 1] := by
  rw [List.take_add_one]
  congr 1
  simp [bits8, hj]

set_option maxRecDepth 100000 in
set_option maxHeartbeats 2000000 in
theorem bits_calls (A : Option Addr) (c : Nat) (l : List Int) (w : World) (hC : KB.C w A l.length l) (hin : InB l) (hl : l.length ≤ 100000000) :
    Calls Tryd.prog 100 #[.slice A l.length c] w fun e w' => ∃ v, e = .returned v ∧ BR w' w.heap.size (fun k => w.heap.size ≤ k) v (bitsF l) ∧ Below w.heap.size w w' := by
  have HC := Lib.hid hC
  have HIN := Lib.hid hin
  clear hC hin
  go_enter Tryd.func100, Tryd.ntmps100
  go_wp2_with fail
  go_loopw [3, 4] (fun v i wr => ∃ n : Nat, n ≤ l.length ∧ i = .int .i64 (n : Int) ∧ Hid (BR wr w.heap.size (fun k => w.heap.size ≤ k) v (bitsF (l.take n))) ∧ Hid (Below w.heap.size w wr)) (fun _ i _ => l.length - (intOf i).toNat)
  case atStart => exact ⟨0, Nat.zero_le _, rfl, Lib.hid (Kd.R_nil _ _ _ _ _), Lib.hid (Below.refl _ _)⟩
  case round =>
    obtain ⟨n, hn, rfl, HV, HB⟩ := hrel
    by_cases hlt : n < l.length
    · obtain ⟨ad, rfl, hc⟩ := byteAt HC.out hlt
      have hx := HIN.out l[n] (List.getElem_mem _)
      have hcell := pw_cell_below HB.out hc
      have hp0 : (0 : Int) ≤ (n : Int) := by omega
      have hp1 : (n : Int) < (l.length : Int) := by omega
      have hLn : Hid (l.take (n + 1) = l.take n ++ [l[n]]) := Lib.hid (List.take_succ_eq_append_getElem hlt)
      generalize hX : l[n] = X at *
      have HX : Hid (0 ≤ X ∧ X ≤ 255) := Lib.hid hx
      have hwX : wrap64 X = X := by unfold wrap64; omega
      have hwX0 := Lib.hid hwX
      clear hc hx hX
      go_wp2_with fail
      clear hcell hwX
      go_loopw [3, 5, 6] (fun v x j wi => ∃ m : Nat, m ≤ 8 ∧ j = .int .i64 (m : Int) ∧ x = .int .i64 (X / 2 ^ m) ∧ Hid (BR wi w.heap.size (fun k => w.heap.size ≤ k) v (bitsF (l.take n) ++ (bits8 X).take m)) ∧ Hid (Below w.heap.size w wi)) (fun _ _ j _ => 8 - (intOf j).toNat)
      case atStart => exact ⟨0, by omega, rfl, (by simp [hwX0.out]), Lib.hid (by simpa using HV.out), HB⟩
      case round =>
        obtain ⟨m, hm, rfl, rfl, HV2, HB2⟩ := hrel
        by_cases hm8 : m < 8
        · have h2 : Int.tdiv (X / 2 ^ m) 2 = X / 2 ^ (m + 1) := by
            rw [Int.tdiv_eq_ediv_of_nonneg (Int.ediv_nonneg HX.out.1 (Int.pow_nonneg (by omega))), Int.ediv_ediv_of_nonneg (by exact Int.pow_nonneg (by omega)), Int.pow_succ]
          have h3 : Int.tmod (X / 2 ^ m) 2 = (X / 2 ^ m) % 2 := Int.tmod_eq_emod_of_nonneg (Int.ediv_nonneg HX.out.1 (Int.pow_nonneg (by omega)))
          have h4 : 0 ≤ X / 2 ^ (m + 1) ∧ X / 2 ^ (m + 1) ≤ 255 := ⟨Int.ediv_nonneg HX.out.1 (Int.pow_nonneg (by omega)), Int.le_trans (Int.ediv_le_self _ HX.out.1) HX.out.2⟩
          generalize hq : X / 2 ^ m = q at *
          generalize hr : X / 2 ^ (m + 1) = r at *
          have hwr : wrap64 r = r := by unfold wrap64; omega
          have hbl : Hid (((bitsF (l.take n) ++ (bits8 X).take m).length + 1) * 1 ≤ 140737488355328) := Lib.hid (by
            rw [List.length_append, bitsF_len, List.length_take, List.length_take, bits8_len]; omega)
          go_wp2_with ((with_reducible refine gate_dst (N := 27) rfl ?_); refine Kd.R_append Kd.bool (w0 := w) w.heap.size rfl (.tmp 22) (.tmp 26) 68 4 (.bool false) 1 rfl Tryd.underlying68 infoBo rfl (by decide) (by decide) u3 (bitsF (l.take n) ++ (bits8 X).take m) (q % 2 == 1) [.bool (q % 2 == 1)] (fun k => w.heap.size ≤ k) (fun _ => False) rfl rfl rfl (fun _ hk => hk.elim) (fun k hk => Nat.le_trans HB2.out.size hk) HV2.out HB2.out HB2.out.size hbl.out ?_; intro v1 w7 HV1 HB1 HG1 _)
          have r1 : Hid (BR w7 w.heap.size (fun k => w.heap.size ≤ k) v1 (bitsF (l.take n) ++ (bits8 X).take (m + 1))) := Lib.hid (by rw [bits8_take X m hm8, hq, ← List.append_assoc]; exact HV1)
          have r2 : Hid (Below w.heap.size w w7) := Lib.hid HB1
          have hm1 : m + 1 ≤ 8 := hm8
          clear HV1 HB1 HG1
          go_roundw
          case rel => exact ⟨m + 1, hm1, by go_num, by rw [hr], r1, r2⟩
          case measure => simp [intOf]; omega
        · have hm9 : m = 8 := by omega
          subst hm9
          go_wp2_with fail
          go_roundw
          case rel => exact ⟨n + 1, hlt, by go_num, Lib.hid (by rw [hLn.out]; unfold bitsF; rw [List.flatMap_append]; have := HV2.out; rw [show (bits8 X).take 8 = bits8 X from List.take_of_length_le (by rw [bits8_len]; exact Nat.le_refl _)] at this; simpa [bitsF] using this), HB2⟩
          case measure => simp [intOf]; omega
    · have hnl : n = l.length := by omega
      subst hnl
      go_wp2_with fail
      go_ret
      exact ⟨_, rfl, by have := HV.out; rwa [List.take_length] at this, HB.out⟩
end Go.Proofs.YtcemageindmbkaaDoor
/- The reference's check sum (keepsakeref01): what divisor, left, word, Sum return. -/
namespace Go.Proofs.YtcemageindmbkaaDoor
open Go.RowKit Go.Proofs.YtcemageindmbkaaDoorW.PrintWords

/-- Bools lie in block g, from its begin on. -/
def Bk (w : World) (g : Nat) (xs : List Bool) : Prop := ∃ cs : Array Value, w.heap[g]? = some (.cells cs 4 (0, 0)) ∧ ∀ (j : Nat) (b : Bool), xs[j]? = some b → cs[j]? = some (.bool b)
section
variable {w w' : World} {g : Nat} {xs : List Bool}
theorem Bk.cell (h : Bk w g xs) {j : Nat} (hj : j < xs.length) : w.cell? ⟨g, j, none⟩ = some (.bool xs[j]) ∧ w.frozen? ⟨g, j, none⟩ = false := by
  obtain ⟨cs, h1, h2⟩ := h
  exact ⟨(blk_cell h1 j).trans (h2 j _ (List.getElem?_eq_getElem hj)), blk_frozen h1 j⟩
theorem Bk.lt (h : Bk w g xs) : g < w.heap.size := by obtain ⟨cs, h1, -⟩ := h; exact blk_lt h1
theorem Bk.of_block (h : Bk w g xs) (hb : w'.heap[g]? = w.heap[g]?) : Bk w' g xs := by obtain ⟨cs, h1, h2⟩ := h; exact ⟨cs, hb.trans h1, h2⟩
theorem Bk.below (h : Bk w g xs) (hb : Below w.heap.size w w') : Bk w' g xs := h.of_block (hb.block g h.lt)
theorem Bk.set (h : Bk w g xs) {j : Nat} (hj : j < xs.length) (b : Bool) : Bk (w.setCell ⟨g, j, none⟩ (.bool b)) g (xs.set j b) := by
  obtain ⟨cs, h1, h2⟩ := h
  refine ⟨_, blk_set h1 j _, fun i u hi => ?_⟩
  have hc : j < cs.size := (Array.getElem?_eq_some_iff.1 (h2 j _ (List.getElem?_eq_getElem hj))).1
  rw [List.getElem?_set] at hi
  rw [Array.getElem?_setIfInBounds]
  by_cases hij : j = i
  · subst hij
    rw [if_pos rfl, if_pos hj] at hi
    rw [if_pos rfl, if_pos hc, ← Option.some.inj hi]
  · rw [if_neg hij] at hi
    rw [if_neg hij]; exact h2 i u hi
theorem Bk.of_row {B : Nat} {ok : Nat → Prop} {c : Nat} (h : BR w B ok (.slice (some ⟨g, 0, none⟩) xs.length c) xs) (hn : 0 < xs.length) : Bk w g xs := by
  obtain ⟨inner, ho⟩ := Kd.R_own h
  obtain ⟨cells, hc⟩ := own_typed ho g (by simp [Value.ownBlock])
  refine ⟨cells, hc, fun j b hj => ?_⟩
  obtain ⟨A, c', hv, hle, hC⟩ := Kd.R_reads h
  obtain ⟨ad, e, hk⟩ := hC.2.2 hn
  injection hv with e1 e2 e3
  rw [← e1] at e
  obtain rfl : (⟨g, 0, none⟩ : Addr) = ad := by injection e
  obtain ⟨cs, _, hK, hcell⟩ := hk j b hj
  have hK' : cs = [.bool b] := hK
  have := hcell 0 (.bool b) (by rw [hK']; rfl)
  rw [← blk_cell hc j]
  have e0 : (⟨g, 0, none⟩ : Addr).add (j * Kd.bool.sz + 0) = ⟨g, j, none⟩ := by simp [Kd.bool, Kd.scalar, Addr.add]; exact fun h => h.symm
  rwa [e0] at this
end
/-- The divisor's powers. -/
def dvL : List Nat := [0, 6, 9, 10, 16, 20, 21, 22, 24, 25, 27, 28, 30, 31, 32]
theorem dv_calls (w : World) :
    Calls Tryd.prog 128 #[] w fun e w' => e = .returned (.slice (some ⟨w.heap.size, 0, none⟩) 15 15) ∧ w'.heap[w.heap.size]? = some (.cells ((dvL.map fun (n : Nat) => Value.int .i64 (n : Int)).toArray) 3 (0, 0)) ∧ Below w.heap.size w w' := by
  go_enter Tryd.func128, Tryd.ntmps128
  go_wp2_with fail
  go_ret
  exact ⟨rfl, heap_alloc_new w _, (below_alloc (Below.refl _ _) _)⟩

def flipAt (l : List Bool) (j : Nat) : List Bool := l.set j (!(l.getD j false))
def flips (l : List Bool) (i : Nat) (k : Nat) : List Bool := (dvL.take k).foldl (fun l d => flipAt l (i + d)) l
def stepL (l : List Bool) (i : Nat) : List Bool := if l.getD i false = true then flips l i 15 else l
def leftN : Nat → List Bool → List Bool
  | 0, l => l
  | k + 1, l => stepL (leftN k l) k
theorem flips_len (l : List Bool) (i k : Nat) : (flips l i k).length = l.length := by
  unfold flips
  generalize dvL.take k = d
  induction d generalizing l with
  | nil => rfl
  | cons x d ih => rw [List.foldl_cons, ih]; simp [flipAt]
theorem stepL_len (l : List Bool) (i : Nat) : (stepL l i).length = l.length := by unfold stepL; split <;> simp [flips_len]
theorem leftN_len : ∀ (k : Nat) (l : List Bool), (leftN k l).length = l.length
  | 0, _ => rfl
  | k + 1, l => by rw [leftN, stepL_len, leftN_len k l]
theorem flips_succ (l : List Bool) (i k : Nat) (hk : k < 15) : flips l i (k + 1) = flipAt (flips l i k) (i + dvL.getD k 0) := by
  unfold flips
  have h : dvL.take (k + 1) = dvL.take k ++ [dvL.getD k 0] := by
    rw [List.take_add_one, List.getD_eq_getElem?_getD, List.getElem?_eq_getElem (show k < dvL.length from hk)]; rfl
  rw [h, List.foldl_append]; rfl
theorem dvL_le (k : Nat) : dvL.getD k 0 ≤ 32 := by
  rcases Nat.lt_or_ge k 15 with h | h
  · have : ∀ k, k < 15 → dvL.getD k 0 ≤ 32 := by decide
    exact this k h
  · rw [List.getD_eq_getElem?_getD, List.getElem?_eq_none (by simpa [dvL] using h)]; simp

theorem idx_facts {k d n : Nat} (h : k < n - 32) (hd : d ≤ 32) (hl : n ≤ 1000000000) : wrap64 ((k : Int) + (d : Int)) = ((k + d : Nat) : Int) ∧ IntKind.i64.wrap ((k : Int) + (d : Int)) = ((k + d : Nat) : Int) ∧ ((k + d : Nat) : Int) < (n : Int) ∧ (0 : Int) ≤ ((k + d : Nat) : Int) := by
  refine ⟨?_, ?_, ?_, ?_⟩
  · unfold wrap64; omega
  · rw [IntKind.wrap_i64]; omega
  · omega
  · omega
set_option maxRecDepth 100000 in
set_option maxHeartbeats 2000000 in
/-- left, of a row of bools that lies in block g: it is turned in place. -/
theorem left_calls (g n c : Nat) (xs : List Bool) (w : World) (hx : xs.length = n) (hK : Bk w g xs) (hn : 32 ≤ n) (hl : n ≤ 1000000000) (hc : n ≤ c) :
    Calls Tryd.prog 101 #[.slice (some ⟨g, 0, none⟩) n c] w fun e w' => e = .returned (.slice (some ⟨g, n - 32, none⟩) 32 (c - (n - 32))) ∧ Bk w' g (leftN (n - 32) xs) ∧ Fr w w' (fun k => k = g) := by
  have HX := Lib.hid hx
  have HK := Lib.hid hK
  have HD := Lib.hid (dv_calls w)
  have hg := hK.lt
  clear hK hx
  go_enter Tryd.func101, Tryd.ntmps101
  go_wp2_with fail
  refine HD.out.mono ?_
  rintro e w1 ⟨rfl, hd, hb⟩
  have HB := Lib.hid hb
  have HDV := Lib.hid hd
  generalize hq : w.heap.size = q at *
  have HQ := Lib.hid hq
  clear hb hd
  go_wp2_with fail
  go_loopw [4] (fun i wr => ∃ k : Nat, k ≤ n - 32 ∧ i = .int .i64 (k : Int) ∧ Hid (Bk wr g (leftN k xs)) ∧ Hid (Fr w1 wr (fun k => k = g))) (fun i _ => n - (intOf i).toNat)
  case atStart => exact ⟨0, Nat.zero_le _, rfl, Lib.hid (HK.out.of_block (HB.out.block g (by rw [← hq]; omega))), Lib.hid (Fr.refl _ _)⟩
  case round =>
    obtain ⟨k, hk, rfl, HV, HF⟩ := hrel
    by_cases hlt : k < n - 32
    · obtain ⟨hc1, hf1⟩ := HV.out.cell (j := k) (by rw [leftN_len, HX.out]; omega)
      have hdv := HF.out.blk HDV.out (by omega)
      generalize hb : (leftN k xs)[k]'(by rw [leftN_len, HX.out]; omega) = b at *
      have HBt : Hid ((leftN k xs).getD k false = b) := Lib.hid (by rw [List.getD_eq_getElem?_getD, List.getElem?_eq_getElem (by rw [leftN_len, HX.out]; omega), ← hb]; rfl)
      have hp1 : (k : Int) < (n : Int) := by omega
      have hp2 : (0 : Int) ≤ (k : Int) := by omega
      have hp3 : (k : Int) + 32 < (n : Int) := by omega
      clear hb hf1 hdv
      cases b
      · go_wp2_with fail
        go_roundw
        case rel => exact ⟨k + 1, hlt, by go_num, Lib.hid (by rw [leftN, stepL, HBt.out, if_neg (by simp)]; exact HV.out), HF⟩
        case measure => simp [intOf]; omega
      · go_wp2_with fail
        clear hc1 hp1 hp2 hp3
        go_loopw [5] (fun j wi => ∃ m : Nat, m ≤ 15 ∧ j = .int .i64 (m : Int) ∧ Hid (Bk wi g (flips (leftN k xs) k m)) ∧ Hid (Fr w1 wi (fun k => k = g))) (fun j _ => 15 - (intOf j).toNat)
        case atStart => exact ⟨0, by omega, rfl, HV, HF⟩
        case round =>
          obtain ⟨m, hm, rfl, HV2, HF2⟩ := hrel
          by_cases hm15 : m < 15
          · have hd1 : wr.cell? ⟨q, m, none⟩ = some (.int .i64 ((dvL.getD m 0 : Nat) : Int)) := by
              rw [blk_cell (HF2.out.blk HDV.out (by omega)) m]
              simp [List.getD_eq_getElem?_getD, List.getElem?_eq_getElem (show m < dvL.length from hm15)]
            have hd32 := dvL_le m
            generalize hdd : dvL.getD m 0 = d at *
            have HDD := Lib.hid hdd
            clear hdd
            have hkd : k + d < (flips (leftN k xs) k m).length := by rw [flips_len, leftN_len, HX.out]; omega
            obtain ⟨hl1, hf1⟩ := HV2.out.cell hkd
            generalize hb : (flips (leftN k xs) k m)[k + d] = b at *
            obtain ⟨he, he2, hp1, hp2⟩ := idx_facts (k := k) (d := d) (n := n) hlt hd32 hl
            have hp3 : (m : Int) < 15 := by omega
            have hp4 : (0 : Int) ≤ (m : Int) := by omega
            have HSET := Lib.hid (HV2.out.set hkd (!b))
            generalize hkk : k + d = e at *
            go_wp2_with fail
            go_still_tail 18, (by kernel_rfl)
            change wpList _ _ _ _ _ wr.drew
            go_wp2_with fail
            go_roundw
            case rel => exact ⟨m + 1, hm15, by go_num, Lib.hid (by
              have h2 : flips (leftN k xs) k (m + 1) = (flips (leftN k xs) k m).set e (!b) := by
                rw [flips_succ _ _ _ hm15, HDD.out, hkk, flipAt, List.getD_eq_getElem?_getD, List.getElem?_eq_getElem hkd, hb]; rfl
              rw [h2]; exact HSET.out), Lib.hid ((HF2.out.setCell (S := fun k => k = g) (p := ⟨g, e, none⟩) (fun _ => rfl) _).drew)⟩
            case measure => simp [intOf]; omega
          · have hm9 : m = 15 := by omega
            subst hm9
            go_wp2_with fail
            go_roundw
            case rel => exact ⟨k + 1, hlt, by go_num, Lib.hid (by rw [leftN, stepL, HBt.out, if_pos rfl]; exact HV2.out), HF2⟩
            case measure => simp [intOf]; omega
    · have hkn : k = n - 32 := by omega
      subst hkn
      have e1 : ((n - 32 : Nat) : Int) = (n : Int) - 32 := by omega
      have e2 : wrap64 ((n : Int) - 32) = (n : Int) - 32 := by unfold wrap64; omega
      go_wp2_with fail
      rw [show n - (n - 32) = 32 by omega]
      go_ret
      exact ⟨rfl, HV.out, (Fr.of_below (show Below w.heap.size w w1 by rw [HQ.out]; exact HB.out) _).trans HF.out (fun _ _ h => h)⟩
end Go.Proofs.YtcemageindmbkaaDoor
/- The reference's check sum (keepsakeref01): what word and Sum return. -/
namespace Go.Proofs.YtcemageindmbkaaDoor
open Go.RowKit Go.Proofs.YtcemageindmbkaaDoorW.PrintWords

/-- The number of bits, the lowest first. -/
def wvF : List Bool → Int
  | [] => 0
  | b :: l => (if b = true then 1 else 0) + 2 * wvF l
theorem wvF_bd : ∀ l : List Bool, 0 ≤ wvF l ∧ wvF l < (2 : Int) ^ l.length
  | [] => by simp [wvF]
  | b :: l => by
    have h := wvF_bd l
    have e : (2 : Int) ^ (l.length + 1) = 2 ^ l.length * 2 := Int.pow_succ _ _
    simp only [wvF, List.length_cons]
    rw [e]
    generalize (2 : Int) ^ l.length = p at *
    split <;> omega
theorem wvF_drop {l : List Bool} {j : Nat} (hj : j < l.length) : wvF (l.drop j) = (if l[j] = true then 1 else 0) + 2 * wvF (l.drop (j + 1)) := by
  rw [List.drop_eq_getElem_cons hj]; rfl
theorem pow2_32 {m : Nat} (h : m ≤ 32) : (2 : Int) ^ m ≤ 4294967296 := by
  have : (2 : Int) ^ m = ((2 ^ m : Nat) : Int) := by simp
  rw [this]
  have := Nat.pow_le_pow_right (n := 2) (by omega) h
  omega
theorem wv_round {l : List Bool} {j : Nat} (hl : l.length = 32) (hj : j < 32) : 0 ≤ wvF (l.drop (j + 1)) ∧ 2 * wvF (l.drop (j + 1)) + 1 ≤ 4294967295 := by
  have h := wvF_bd (l.drop (j + 1))
  rw [List.length_drop, hl] at h
  have hp := pow2_32 (m := 32 - j) (by omega)
  have e : (2 : Int) ^ (32 - j) = 2 ^ (32 - (j + 1)) * 2 := by rw [show 32 - j = (32 - (j + 1)) + 1 by omega, Int.pow_succ]
  rw [e] at hp
  generalize (2 : Int) ^ (32 - (j + 1)) = p at *
  omega

set_option maxRecDepth 100000 in
set_option maxHeartbeats 2000000 in
theorem word_calls (g o c : Nat) (l : List Bool) (w : World) (hl : l.length = 32) (hK : ∀ k (hk : k < l.length), w.cell? ⟨g, o + k, none⟩ = some (.bool l[k])) :
    Calls Tryd.prog 102 #[.slice (some ⟨g, o, none⟩) 32 c] w fun e w' => e = .returned (.int .u32 (wvF l)) ∧ Below w.heap.size w w' := by
  have HL := Lib.hid hl
  have HK := Lib.hid hK
  clear hl hK
  go_enter Tryd.func102, Tryd.ntmps102
  go_wp2_with fail
  go_loopw [3, 4] (fun v i wr => ∃ j : Nat, j ≤ 32 ∧ i = .int .i64 ((j : Int) - 1) ∧ v = .int .u32 (wvF (l.drop j)) ∧ wr = w) (fun _ i _ => ((match i with | .int _ z => z | _ => 0) + 1).toNat)
  case atStart => exact ⟨32, by omega, by simp, by rw [List.drop_eq_nil_of_le (by rw [HL.out]; exact Nat.le_refl _)]; rfl, rfl⟩
  case round =>
    obtain ⟨j, hj, rfl, rfl, rfl⟩ := hrel
    cases j with
    | zero =>
      go_wp2_with fail
      go_ret
      exact ⟨rfl, Below.refl _ _⟩
    | succ j =>
      have hj2 : j < l.length := by rw [HL.out]; omega
      have hc := HK.out j hj2
      have hv := wvF_drop hj2
      have hr := wv_round HL.out (j := j) (by omega)
      have e0 : ((j + 1 : Nat) : Int) - 1 = (j : Int) := by omega
      have HE := Lib.hid hv
      generalize hb : l[j] = b at *
      generalize wvF (l.drop (j + 1)) = v at *
      have m1 : (2 * v) % 4294967296 = 2 * v := by omega
      have m2 : (2 * v + 1) % 4294967296 = 2 * v + 1 := by omega
      have hp1 : (j : Int) < 32 := by omega
      have hp2 : (0 : Int) ≤ (j : Int) := by omega
      have HR := Lib.hid hr
      clear hb hv hr
      rw [e0]
      cases b
      · go_wp2_with fail
        go_roundw
        case rel => exact ⟨j, by omega, rfl, by rw [HE.out]; simp, trivial⟩
        case measure => simp
      · go_wp2_with fail
        go_roundw
        case rel => exact ⟨j, by omega, rfl, by rw [HE.out, if_pos rfl, Int.add_comm], trivial⟩
        case measure => simp

/-- The first 32 bits turned. -/
def notN (l : List Bool) (k : Nat) : List Bool := (l.take k).map (!·) ++ l.drop k
theorem notN_len (l : List Bool) (k : Nat) : (notN l k).length = l.length := by unfold notN; simp; omega
theorem notN_zero (l : List Bool) : notN l 0 = l := by simp [notN]
theorem notN_succ {l : List Bool} {k : Nat} (hk : k < l.length) : (notN l k)[k]'(by rw [notN_len]; exact hk) = l[k] ∧ notN l (k + 1) = (notN l k).set k (!l[k]) := by
  have hlt : (((l.take k).map (!·)).length) = k := by simp; omega
  constructor
  · unfold notN
    rw [List.getElem_append_right (by omega)]
    simp only [List.getElem_drop, hlt, Nat.sub_self, Nat.add_zero]
  · apply List.ext_getElem?
    intro i
    unfold notN
    rw [List.getElem?_set]
    by_cases hi : k = i
    · subst hi
      rw [if_pos rfl, if_pos (by simp; omega), List.getElem?_append_left (by simp; omega), List.getElem?_map, List.getElem?_take, if_pos (by omega), List.getElem?_eq_getElem hk]
      rfl
    · rw [if_neg hi]
      rcases Nat.lt_or_ge i k with h | h
      · rw [List.getElem?_append_left (by simp; omega), List.getElem?_append_left (by simp; omega)]
        simp only [List.getElem?_map, List.getElem?_take]
        rw [if_pos (by omega), if_pos h]
      · rw [List.getElem?_append_right (by simp; omega), List.getElem?_append_right (by simp; omega)]
        simp only [List.getElem?_drop, List.length_map, List.length_take]
        congr 1; omega
/-- The document's check sum. -/
def refBits (l : List Int) : List Bool := leftN (bitsF l).length (notN (bitsF l ++ List.replicate 32 false) 32)
def refSum (l : List Int) : Int := wvF (((refBits l).drop (bitsF l).length).map (!·))

theorem row_blk {α : Type} {d : Kd α} {e : Nat} {w : World} {B : Nat} {ok : Nat → Prop} {v : Value} {xs : List α} (h : d.R e w B ok v xs) (hn : 0 < xs.length) : ∃ g c, v = .slice (some ⟨g, 0, none⟩) xs.length c ∧ xs.length ≤ c ∧ ok g ∧ B ≤ g := by
  obtain ⟨A, c, rfl, hle, -⟩ := Kd.R_reads h
  obtain ⟨inner, ho⟩ := Kd.R_own h
  obtain ⟨k, hk⟩ : ∃ k, xs.length = k + 1 := ⟨xs.length - 1, by omega⟩
  rw [hk] at ho
  obtain ⟨b, cap, e1⟩ := ownsRow_succ ho
  injection e1 with e1
  subst e1
  exact ⟨b, c, rfl, hle, h.1 b (by simp [Value.ownBlock]), own_base (by rw [hk] at h; exact ho) b (by simp [Value.ownBlock])⟩

set_option maxRecDepth 100000 in
set_option maxHeartbeats 4000000 in
theorem refSum_calls (A : Option Addr) (c : Nat) (l : List Int) (w : World) (hC : KB.C w A l.length l) (hin : InB l) (hl : l.length ≤ 100000000) :
    Calls Tryd.prog 55 #[.slice A l.length c] w fun e w' => e = .returned (.int .u32 (refSum l)) ∧ Below w.heap.size w w' := by
  have HBI := Lib.hid (bits_calls A c l w hC hin hl)
  have HBL : Hid ((bitsF l).length ≤ 800000000) := Lib.hid (by rw [bitsF_len]; omega)
  clear hC hin hl
  go_enter Tryd.func55, Tryd.ntmps55
  go_wp2_with fail
  refine HBI.out.mono ?_
  rintro e w1 ⟨v, rfl, hR, hb⟩
  have HR := Lib.hid hR
  have HB := Lib.hid hb
  clear hR hb
  go_wp2_with ((with_reducible refine gate_dst (N := 9) rfl ?_); refine Kd.R_append_zeros Kd.bool (w0 := w) w.heap.size rfl _ _ 68 3 4 (.bool false) 1 rfl Tryd.underlying68 Tryd.underlying3 infoBo rfl (by decide) (by decide) v (bitsF l) false 32 (fun k => w.heap.size ≤ k) rfl rfl rfl (fun k hk => Nat.le_trans HB.out.size hk) HR.out (by omega) HB.out HB.out.size (by have := HBL.out; simp; omega) ?_; intro v1 w7 HV1 HB1 HG1 _)
  have hxl : (bitsF l ++ List.replicate 32 false).length = (bitsF l).length + 32 := by simp
  have hV0 : BR w7 w.heap.size (fun k => w.heap.size ≤ k) v1 (bitsF l ++ List.replicate 32 false) := HV1
  generalize hX : bitsF l ++ List.replicate 32 false = X at *
  have HXX := Lib.hid hX
  obtain ⟨g, cc, rfl, hcc, hg1, -⟩ := row_blk hV0 (by omega)
  have HK := Lib.hid (Bk.of_row hV0 (by omega))
  have HB7 := Lib.hid HB1
  have HXL := Lib.hid hxl
  generalize hN : X.length = N at *
  clear hX hV0 HV1 HB1 HG1 hxl
  go_wp2_with fail
  go_loopw [4] (fun i wr => ∃ k : Nat, k ≤ 32 ∧ i = .int .i64 (k : Int) ∧ Hid (Bk wr g (notN X k)) ∧ Hid (Fr w7 wr (fun k => k = g))) (fun i _ => 32 - (intOf i).toNat)
  case atStart => exact ⟨0, by omega, rfl, Lib.hid (by rw [notN_zero]; exact HK.out), Lib.hid (Fr.refl _ _)⟩
  case round =>
    obtain ⟨k, hk, rfl, HV, HF⟩ := hrel
    by_cases hlt : k < 32
    · have hkX : k < X.length := by rw [hN]; have := HXL.out; omega
      obtain ⟨hc, hf⟩ := HV.out.cell (j := k) (by rw [notN_len]; exact hkX)
      have hns := notN_succ hkX
      rw [hns.1] at hc
      have HSET := Lib.hid (HV.out.set (j := k) (by rw [notN_len]; exact hkX) (!X[k]))
      rw [← hns.2] at HSET
      generalize X[k] = b at *
      have hp1 : (k : Int) < (N : Int) := by have := HXL.out; omega
      have hp2 : (0 : Int) ≤ (k : Int) := by omega
      clear hns
      go_wp2_with fail
      go_roundw
      case rel => exact ⟨k + 1, hlt, by go_num, HSET, Lib.hid (HF.out.setCell (S := fun k => k = g) (p := ⟨g, k, none⟩) (fun _ => rfl) _)⟩
      case measure => simp [intOf]; omega
    · have hk32 : k = 32 := by omega
      subst hk32
      have hl8 := left_calls g N cc (notN X 32) wr (by rw [notN_len, hN]) HV.out (by have := HXL.out; omega) (by have := HXL.out; have := HBL.out; omega) hcc
      have hN2 : N - 32 = (bitsF l).length := by have := HXL.out; omega
      rw [hN2] at hl8
      have HL8 := Lib.hid hl8
      clear hl8 hN2
      go_wp2_with fail
      refine HL8.out.mono ?_
      rintro e w8 ⟨rfl, hK8, hF8⟩
      have hZ : leftN (bitsF l).length (notN X 32) = refBits l := by unfold refBits; rw [HXX.out]
      rw [hZ] at hK8
      have HZL : Hid ((refBits l).length = (bitsF l).length + 32) := Lib.hid (by rw [← hZ, leftN_len, notN_len, hN, HXL.out])
      have HK8 := Lib.hid hK8
      have HF8 := Lib.hid (HF.out.trans hF8 (fun _ _ h => h))
      have HSM : Hid (refSum l = wvF (((refBits l).drop (bitsF l).length).map (!·))) := Lib.hid rfl
      generalize refBits l = Y at *
      generalize (bitsF l).length = o at *
      clear hK8 hF8 hZ HF HV HL8
      go_wp2_with fail
      go_loopw [6] (fun i wr => ∃ k : Nat, k ≤ 32 ∧ i = .int .i64 (k : Int) ∧ (∃ Z, Hid (Bk wr g Z ∧ Z.length = o + 32 ∧ ∀ j, j < 32 → Z.getD (o + j) false = if j < k then !(Y.getD (o + j) false) else Y.getD (o + j) false)) ∧ Hid (Fr w7 wr (fun k => k = g))) (fun i _ => 32 - (intOf i).toNat)
      case atStart => exact ⟨0, by omega, rfl, ⟨Y, Lib.hid ⟨HK8.out, HZL.out, fun j _ => by rw [if_neg (by omega)]⟩⟩, HF8⟩
      case round =>
        obtain ⟨k, hk, rfl, ⟨Z, HZ⟩, HF⟩ := hrel
        by_cases hlt : k < 32
        · have hkZ : o + k < Z.length := by rw [HZ.out.2.1]; omega
          obtain ⟨hc, hf⟩ := HZ.out.1.cell hkZ
          have hb0 : Z[o + k] = Y.getD (o + k) false := by
            have := HZ.out.2.2 k hlt
            rw [if_neg (by omega), List.getD_eq_getElem?_getD, List.getElem?_eq_getElem hkZ] at this
            exact this
          have HSET : Hid (Bk (wr.setCell ⟨g, o + k, none⟩ (.bool (!Z[o + k]))) g (Z.set (o + k) (!Z[o + k])) ∧ (Z.set (o + k) (!Z[o + k])).length = o + 32 ∧ ∀ j, j < 32 → (Z.set (o + k) (!Z[o + k])).getD (o + j) false = if j < k + 1 then !(Y.getD (o + j) false) else Y.getD (o + j) false) :=
            Lib.hid ⟨HZ.out.1.set hkZ _, by rw [List.length_set]; exact HZ.out.2.1, fun j hj => by
              rw [List.getD_eq_getElem?_getD, List.getElem?_set]
              by_cases hjk : k = j
              · subst hjk
                rw [if_pos rfl, if_pos hkZ, if_pos (by omega), hb0]; rfl
              · rw [if_neg (by omega)]
                have := HZ.out.2.2 j hj
                rw [List.getD_eq_getElem?_getD] at this
                rw [this]
                by_cases h : j < k
                · rw [if_pos h, if_pos (by omega)]
                · rw [if_neg h, if_neg (by omega)]⟩
          generalize Z[o + k] = b at *
          have hp1 : (k : Int) < 32 := by omega
          have hp2 : (0 : Int) ≤ (k : Int) := by omega
          clear hb0
          go_wp2_with fail
          go_roundw
          case rel => exact ⟨k + 1, hlt, by go_num, ⟨_, HSET⟩, Lib.hid (HF.out.setCell (S := fun k => k = g) (p := ⟨g, o + k, none⟩) (fun _ => rfl) _)⟩
          case measure => simp [intOf]; omega
        · have hk32 : k = 32 := by omega
          subst hk32
          have hwd := fun (c : Nat) => word_calls g o c ((Y.drop o).map (!·)) wr (by rw [List.length_map, List.length_drop, HZL.out]; omega) (fun k hk => by
            have hk2 : k < 32 := by rw [List.length_map, List.length_drop, HZL.out] at hk; omega
            have hkZ : o + k < Z.length := by rw [HZ.out.2.1]; omega
            rw [(HZ.out.1.cell hkZ).1]
            have := HZ.out.2.2 k hk2
            rw [if_pos hk2, List.getD_eq_getElem?_getD, List.getElem?_eq_getElem hkZ, List.getD_eq_getElem?_getD, List.getElem?_eq_getElem (show o + k < Y.length by rw [HZL.out]; omega)] at this
            simp only [Option.getD_some] at this
            rw [this]; simp)
          have HWD := Lib.hid hwd
          clear hwd
          go_wp2_with fail
          refine (HWD.out _).mono ?_
          rintro e w9 ⟨rfl, hb9⟩
          go_wp2_with fail
          go_ret
          exact ⟨by rw [HSM.out, List.map_drop]; rfl, HB7.out.trans ((HF.out.thenB hb9).below (B := w.heap.size) HB7.out.size (fun k hk => by rw [hk]; exact hg1))⟩
end Go.Proofs.YtcemageindmbkaaDoor
/- head.lay, take, Encode: what they return. -/
namespace Go.Proofs.YtcemageindmbkaaDoor
open Go.RowKit Go.Proofs.YtcemageindmbkaaDoorW.PrintWords
open PSlotBytes

/-- A number's bytes, the lowest first. -/
def layF : Nat → Int → List Int
  | 0, _ => []
  | m + 1, n => n % 256 :: layF m (n / 256)
theorem layF_length : ∀ m n, (layF m n).length = m
  | 0, _ => rfl
  | m + 1, n => by simp [layF, layF_length m]
theorem layF_in : ∀ m n, InB (layF m n)
  | 0, _ => fun x hx => by cases hx
  | m + 1, n => fun x hx => by
    rcases List.mem_cons.1 hx with rfl | hx
    · omega
    · exact layF_in m _ x hx
theorem lay32_l (d : Nat) : ∀ (k : Nat) (l : List Int) (n many i : Int), 0 ≤ i → many - i = d → many ≤ 100 → d < k → l.length + d ≤ 1000000 → head_lay_uint32.l0 k l n many i = some (l ++ layF d n) := by
  induction d with
  | zero =>
    intro k l n many i h0 h1 h2 hk hl
    obtain ⟨k, rfl⟩ : ∃ m, k = m + 1 := ⟨k - 1, by omega⟩
    simp only [head_lay_uint32.l0, layF]
    rw [if_neg (by omega)]; simp
  | succ d ih =>
    intro k l n many i h0 h1 h2 hk hl
    obtain ⟨k, rfl⟩ : ∃ m, k = m + 1 := ⟨k - 1, by omega⟩
    simp only [head_lay_uint32.l0, layF]
    have e : wrap64 (i + 1) = i + 1 := by unfold wrap64; omega
    rw [if_pos (by omega), if_pos (by omega), e, ih k _ _ _ _ (by omega) (by omega) h2 (by omega) (by simp; omega)]
    simp
theorem lay64_l (d : Nat) : ∀ (k : Nat) (l : List Int) (n many i : Int), 0 ≤ i → many - i = d → many ≤ 100 → d < k → l.length + d ≤ 1000000 → head_lay_uint64.l0 k l n many i = some (l ++ layF d n) := by
  induction d with
  | zero =>
    intro k l n many i h0 h1 h2 hk hl
    obtain ⟨k, rfl⟩ : ∃ m, k = m + 1 := ⟨k - 1, by omega⟩
    simp only [head_lay_uint64.l0, layF]
    rw [if_neg (by omega)]; simp
  | succ d ih =>
    intro k l n many i h0 h1 h2 hk hl
    obtain ⟨k, rfl⟩ : ∃ m, k = m + 1 := ⟨k - 1, by omega⟩
    simp only [head_lay_uint64.l0, layF]
    have e : wrap64 (i + 1) = i + 1 := by unfold wrap64; omega
    rw [if_pos (by omega), if_pos (by omega), e, ih k _ _ _ _ (by omega) (by omega) h2 (by omega) (by simp; omega)]
    simp

/-- lay: onto bytes of the call's own. -/
theorem lay32_calls (m : Nat) (v : Value) (l : List Int) (n : Int) (w0 w : World) (hB : Below w0.heap.size w0 w) (hR : RB w w0.heap.size (fun k => w0.heap.size ≤ k) v l) (hm : m ≤ 100) (hl : l.length ≤ 1000) :
    Calls Tryd.prog 103 #[v, .int .u32 n, .int .i64 (m : Int)] w fun e w' => ∃ v', e = .returned v' ∧ RB w' w0.heap.size (fun k => w0.heap.size ≤ k) v' (l ++ layF m n) ∧ Below w0.heap.size w0 w' :=
  (head_lay_uint32.calls (m + 1) (fun k => w0.heap.size ≤ k) v l n m _ w0 w hB hR (lay32_l m (m + 1) l n m 0 (by omega) (by omega) (by omega) (by omega) (by omega))).mono
    fun e w' ⟨v', h1, h2, h3, _⟩ => ⟨v', h1, Kd.R_mono h2 (fun k hk => hk.elim id (fun h => Nat.le_trans hB.size h)), h3⟩
theorem lay64_calls (m : Nat) (v : Value) (l : List Int) (n : Int) (w0 w : World) (hB : Below w0.heap.size w0 w) (hR : RB w w0.heap.size (fun k => w0.heap.size ≤ k) v l) (hm : m ≤ 100) (hl : l.length ≤ 1000) :
    Calls Tryd.prog 104 #[v, .int .u64 n, .int .i64 (m : Int)] w fun e w' => ∃ v', e = .returned v' ∧ RB w' w0.heap.size (fun k => w0.heap.size ≤ k) v' (l ++ layF m n) ∧ Below w0.heap.size w0 w' :=
  (head_lay_uint64.calls (m + 1) (fun k => w0.heap.size ≤ k) v l n m _ w0 w hB hR (lay64_l m (m + 1) l n m 0 (by omega) (by omega) (by omega) (by omega) (by omega))).mono
    fun e w' ⟨v', h1, h2, h3, _⟩ => ⟨v', h1, Kd.R_mono h2 (fun k hk => hk.elim id (fun h => Nat.le_trans hB.size h)), h3⟩

def enc8 (a b c : Int) : List Int := [75, 69, 69, 80, 1, a % 256, b % 256, c % 256]
def enc24 (a b c n q u : Int) : List Int := enc8 a b c ++ layF 4 (n % 4294967296) ++ layF 8 q ++ layF 4 u
theorem enc24_length (a b c n q u : Int) : (enc24 a b c n q u).length = 24 := by simp [enc24, enc8, layF_length]
theorem enc24_in (a b c n q u : Int) : InB (enc24 a b c n q u) := fun x hx => by
  simp only [enc24, List.mem_append] at hx
  rcases hx with ((hx | hx) | hx) | hx
  · simp [enc8] at hx; omega
  · exact layF_in _ _ x hx
  · exact layF_in _ _ x hx
  · exact layF_in _ _ x hx
def encF (a b c n q u : Int) : List Int := enc24 a b c n q u ++ layF 4 (sumF (enc24 a b c n q u))

theorem RB_of_own {w : World} {B : Nat} {v : Value} {l : List Int} (h : w.ownsRow B 5 1 v l.length (nums .u8 l)) : RB w B (fun k => B ≤ k) v l :=
  ⟨fun k hk => own_base h k hk, nums .u8 l, h, ⟨by simp [nums, KB, Kd.int, Kd.scalar], fun j p hj => by
    show _ = _
    have hj2 := (List.getElem?_eq_some_iff.1 hj).1
    simp only [nums, KB, Kd.int, Kd.scalar, Nat.mul_one]
    rw [List.take_one]
    simp [List.head?_drop, hj]⟩⟩

theorem enc_blk1 (w1 : World) (o1 o2 o3 : Obj) : (((w1.alloc o1).alloc o2).alloc o3).heap[w1.heap.size + 1]? = some o2 := by
  have := heap_alloc_new (w1.alloc o1) o2
  have h2 := blk_alloc this o3
  simpa using h2
theorem enc_blk2 (w1 : World) (o1 o2 o3 : Obj) : (((w1.alloc o1).alloc o2).alloc o3).heap[w1.heap.size + 1 + 1]? = some o3 := by
  have := heap_alloc_new ((w1.alloc o1).alloc o2) o3
  simpa using this

set_option maxHeartbeats 2000000 in
set_option maxRecDepth 100000 in
theorem enc_calls (a b c n q u : Int) (w : World) (hl : Laid w) (hr : hrightF a b c n = true) :
    Calls Tryd.prog 59 #[.agg #[.int .i64 a, .int .i64 b, .int .i64 c, .int .i64 n, .int .u64 q, .int .u32 u]] w fun e w' => ∃ v, e = .returned (.tuple #[v, .int .i64 0]) ∧ RB w' w.heap.size (fun k => w.heap.size ≤ k) v (encF a b c n q u) ∧ Below w.heap.size w w' := by
  have hR := fun w hl => hr ▸ hright_calls a b c n q u w hl
  have HR := Lib.hid hR
  have HL := Lib.hid hl
  clear hR hr hl
  go_enter Tryd.func59, Tryd.ntmps59
  go_wp2_with fail
  generalize hW : w.alloc (.cells #[.int .i64 a, .int .i64 b, .int .i64 c, .int .i64 n, .int .u64 q, .int .u32 u] 93) = wB
  have c0 : wB.cell? ⟨w.heap.size, 0, none⟩ = some (.int .i64 a) := by rw [← hW]; simp
  have c1 : wB.cell? ⟨w.heap.size, 1, none⟩ = some (.int .i64 b) := by rw [← hW]; simp
  have c2 : wB.cell? ⟨w.heap.size, 2, none⟩ = some (.int .i64 c) := by rw [← hW]; simp
  have c3 : wB.cell? ⟨w.heap.size, 3, none⟩ = some (.int .i64 n) := by rw [← hW]; simp
  have c4 : wB.cell? ⟨w.heap.size, 4, none⟩ = some (.int .u64 q) := by rw [← hW]; simp
  have c5 : wB.cell? ⟨w.heap.size, 5, none⟩ = some (.int .u32 u) := by rw [← hW]; simp
  have hbW : Below w.heap.size w wB := by rw [← hW]; exact (below_alloc (Below.refl _ _) _)
  have HBW := Lib.hid hbW
  have hlt : w.heap.size < wB.heap.size := World.block_lt_of_cell? wB _ c0
  clear hW hbW
  refine (HR.out _ (HL.out.of_below HBW.out)).mono ?_
  rintro e w1 ⟨rfl, hb⟩
  obtain ⟨hc, hf⟩ := bcell hb
  have hsz : w.heap.size < w1.heap.size := Nat.lt_of_lt_of_le hlt hb.size
  have HB := Lib.hid hb
  clear hb
  have kc : (convert 27 27 (.slice (some ⟨w1.heap.size + 1, 0, none⟩) 4 4)).run Tryd.prog ((w1.alloc (.cells #[.int .i64 a, .int .i64 b, .int .i64 c] 23)).alloc (.cells #[.int .u8 75, .int .u8 69, .int .u8 69, .int .u8 80] 5)) = .ok (.slice (some ⟨w1.heap.size + 1, 0, none⟩) 4 4) ((w1.alloc (.cells #[.int .i64 a, .int .i64 b, .int .i64 c] 23)).alloc (.cells #[.int .u8 75, .int .u8 69, .int .u8 69, .int .u8 80] 5 (4, 5))) := by
    have := Lib.run_convert_bytes_const (P := Tryd.prog) (w1.alloc (.cells #[.int .i64 a, .int .i64 b, .int .i64 c] 23)) 27 5 #[.int .u8 75, .int .u8 69, .int .u8 69, .int .u8 80] 4 4 Tryd.underlying27 Tryd.underlying5
    simpa using this
  obtain ⟨i0, hi, hzz⟩ := Option.map_eq_some_iff.1 infoB
  simp only [Prod.mk.injEq] at hzz
  obtain ⟨hz0, hz1, hz2⟩ := hzz
  have HI := Lib.hid hi
  have HZ0 := Lib.hid hz0
  have HZ1 := Lib.hid hz1
  have HZ2 := Lib.hid hz2
  clear hi hz0 hz1 hz2
  go_wp2_with ((with_reducible refine gate_dst (N := 23) rfl ?_); refine wpList_append_grows _ rfl _ _ 27 rfl 5 i0 (.int .u8 0) 1 1 Tryd.underlying27 HI.out HZ0.out HZ1.out HZ2.out rfl (by decide) (some ⟨w1.heap.size + 1, 0, none⟩) 4 4 [.int .u8 75, .int .u8 69, .int .u8 69, .int .u8 80] rfl (fun h => by cases h) rfl (fun bb hbb => by cases hbb; exact World.news_of_block (cs := #[.int .u8 75, .int .u8 69, .int .u8 69, .int .u8 80]) (t := 5) (fr := (4, 5)) (enc_blk1 _ _ _ _)) ⟨w1.heap.size + 1 + 1, 0, none⟩ 4 4 [.int .u8 1, .int .u8 (a % 256), .int .u8 (b % 256), .int .u8 (c % 256)] rfl rfl (World.news_of_block (cs := #[.int .u8 1, .int .u8 (a % 256), .int .u8 (b % 256), .int .u8 (c % 256)]) (t := 5) (fr := (0, 0)) (enc_blk2 _ _ _ _)) (by simp [Value.oneCell']) (by decide) (by decide) (by decide) ?_; intro v2 w2 HO2 HG2; have hB2 : Below wB.heap.size wB w2 := (Below.grown (below_alloc (below_alloc (below_alloc HB.out _) _) _) HG2 (by have := HB.out.size; simp only [World.size_alloc]; omega) (fun _ h => (by cases h))); have d3 : w2.cell? ⟨w.heap.size, 3, none⟩ = some (.int .i64 n) := ((bcell hB2).1 _ _ hlt).trans c3; have d4 : w2.cell? ⟨w.heap.size, 4, none⟩ = some (.int .u64 q) := ((bcell hB2).1 _ _ hlt).trans c4; have d5 : w2.cell? ⟨w.heap.size, 5, none⟩ = some (.int .u32 u) := ((bcell hB2).1 _ _ hlt).trans c5)
  have hS2 := HB.out.size
  have hR2 : RB w2 wB.heap.size (fun k => wB.heap.size ≤ k) v2 (enc8 a b c) := Kd.R_mono (Kd.R_lower (RB_of_own (l := enc8 a b c) HO2) (by simp only [World.size_alloc]; omega)) (fun q hq => by simp only [World.size_alloc] at hq; omega)
  have HR2 := Lib.hid hR2
  have HB2 := Lib.hid hB2
  clear HO2 HG2 hR2 hB2
  refine (lay32_calls 4 v2 _ (n % 4294967296) wB w2 HB2.out HR2.out (by decide) (by simp [enc8])).mono ?_
  rintro e w3 ⟨v3, rfl, hR3, hB3⟩
  have e4 : w3.cell? ⟨w.heap.size, 4, none⟩ = some (.int .u64 q) := ((bcell hB3).1 _ _ hlt).trans c4
  have HR3 := Lib.hid hR3
  have HB3 := Lib.hid hB3
  clear hR3 hB3
  go_wp2_with fail
  refine (lay64_calls 8 v3 _ q wB w3 HB3.out HR3.out (by decide) (by simp [enc8, layF_length])).mono ?_
  rintro e w4 ⟨v4, rfl, hR4, hB4⟩
  have f5 : w4.cell? ⟨w.heap.size, 5, none⟩ = some (.int .u32 u) := ((bcell hB4).1 _ _ hlt).trans c5
  have HR4 := Lib.hid hR4
  have HB4 := Lib.hid hB4
  clear hR4 hB4
  go_wp2_with fail
  refine (lay32_calls 4 v4 _ u wB w4 HB4.out HR4.out (by decide) (by simp [enc8, layF_length])).mono ?_
  rintro e w5 ⟨v5, rfl, hR5, hB5⟩
  have HB5 := Lib.hid hB5
  replace hR5 : RB w5 wB.heap.size (fun k => wB.heap.size ≤ k) v5 (enc24 a b c n q u) := hR5
  have hin := enc24_in a b c n q u
  have hlen := enc24_length a b c n q u
  have hfin : encF a b c n q u = enc24 a b c n q u ++ layF 4 (sumF (enc24 a b c n q u)) := rfl
  generalize enc24 a b c n q u = L at *
  have HF := Lib.hid hfin
  have HR5 := Lib.hid hR5
  have HI := Lib.hid hin
  have HL := Lib.hid hlen
  clear hR5 hB5 hin hlen hfin
  obtain ⟨A5, m5, rfl, hm5, hC5⟩ := Kd.R_reads HR5.out
  have HC5 := Lib.hid hC5
  clear hC5
  go_wp2_with fail
  refine (sum_calls A5 m5 L w5 HC5.out HI.out (by rw [HL.out]; decide)).mono ?_
  rintro e w6 ⟨rfl, hB6⟩
  have HR6 := Lib.hid (Kd.R_below HR5.out hB6)
  have HB6 := Lib.hid (below_via HB5.out hB6)
  clear hB6
  go_wp2_with fail
  refine (lay32_calls 4 _ _ (sumF L) wB w6 HB6.out HR6.out (by decide) (by rw [HL.out]; decide)).mono ?_
  rintro e w7 ⟨v7, rfl, hR7, hB7⟩
  have HR7 := Lib.hid hR7
  have HB7 := Lib.hid (below_via HBW.out hB7)
  clear hR7 hB7
  go_wp2_with fail
  go_ret2
  refine ⟨v7, rfl, HF.out ▸ Kd.R_mono (Kd.R_lower HR7.out HBW.out.size) (fun q hq => Nat.le_trans HBW.out.size hq), HB7.out⟩
end Go.Proofs.YtcemageindmbkaaDoor
/- A region that draws its order, whose operations yield one value each in every world that has come of w0, but for ONE that makes memory and may come up at any time, and a tail in one order: ONE walk, in the order of the text. -/
namespace Go.Proofs.YtcemageindmbkaaDoor
open Go.RowKit Go.Proofs.YtcemageindmbkaaDoorW.PrintWords

/-- w' has come of w: nothing of what was there has turned. -/
abbrev Abv (w w' : World) : Prop := Below w.heap.size w w'
theorem Abv.refl (w : World) : Abv w w := Below.refl _ _
theorem Abv.trans {w w1 w2 : World} (h : Abv w w1) (k : Abv w1 w2) : Abv w w2 := below_via h k

section
variable {P : Program} {ops : Array Oper} {md : Region.Mode} {w0 : World}

/-- What an operation's end leaves, if all that follows is the next operation. -/
def smoothUpon (P : Program) (o : Oper) (a : Act) (w : World) (K : Act → World → Prop) : Result Next → Prop
  | .ok (.value v) w' => Abv w w' ∧ K (a.put o.dst v) w'
  | .ok .skip w' => Abv w w' ∧ K (a.put o.dst undef) w'
  | .ok (.enter f args) w' => w' = w ∧ Calls P f args w (fun e w'' => ∃ v, e = .returned v ∧ Abv w w'' ∧ K (a.put o.dst v) w'')
  | _ => False
def smooth (P : Program) (o : Oper) (a : Act) (w : World) (K : Act → World → Prop) : Prop := smoothUpon P o a w K ((execOp a.eval o).run P w)
def smOp (P : Program) (ops : Array Oper) (i : Nat) (K : Act → World → Prop) (a : Act) (w : World) : Prop :=
  match ops[i]? with
  | none => K a w
  | some o => if Region.wanted o (yielded ops a.tmps) then smooth P o a w K else K (a.put o.dst undef) w

theorem smooth_mono {o : Oper} {a : Act} {w : World} {K K' : Act → World → Prop} (h : ∀ a' w', Abv w w' → K a' w' → K' a' w') (hh : smooth P o a w K) : smooth P o a w K' := by
  unfold smooth at *
  generalize (execOp a.eval o).run P w = r at *
  cases r with
  | ok x w' =>
    cases x <;> simp only [smoothUpon] at hh ⊢
    case value u => exact ⟨hh.1, h _ _ hh.1 hh.2⟩
    case skip => exact ⟨hh.1, h _ _ hh.1 hh.2⟩
    case enter f args => exact ⟨hh.1, hh.2.mono fun e w'' ⟨v, h1, h2, h3⟩ => ⟨v, h1, h2, h _ _ h2 h3⟩⟩
  | halt x w' => simp only [smoothUpon] at hh
theorem smOp_mono {i : Nat} {a : Act} {w : World} {K K' : Act → World → Prop} (h : ∀ a' w', Abv w w' → K a' w' → K' a' w') (hh : smOp P ops i K a w) : smOp P ops i K' a w := by
  unfold smOp at *
  split
  · rename_i ho; simp only [ho] at hh; exact h _ _ (Abv.refl _) hh
  · rename_i o ho
    simp only [ho] at hh
    split
    · rename_i hw; simp only [hw, if_true] at hh; exact smooth_mono h hh
    · rename_i hw; simp only [hw] at hh; exact h _ _ (Abv.refl _) hh
theorem wpOp_of_smOp {i : Nat} {a : Act} {w : World} {K : Act → World → Prop} {K' : Act → World → Prop} {Q' : Exit → Act → World → Prop} (h : ∀ a' w', Abv w w' → K a' w' → K' a' w') (hh : smOp P ops i K a w) : wpOp P ops Q' i K' a w := by
  unfold smOp at hh
  unfold wpOp
  split
  · rename_i ho; simp only [ho] at hh; exact h _ _ (Abv.refl _) hh
  · rename_i o ho
    simp only [ho] at hh
    split
    · rename_i hw
      simp only [hw, if_true] at hh
      refine .inl ?_
      unfold smooth at hh
      unfold Oper.wp
      generalize (execOp a.eval o).run P w = r at *
      cases r with
      | ok x w' =>
        cases x <;> simp only [smoothUpon] at hh <;> simp only [Oper.upon]
        case value u => exact h _ _ hh.1 hh.2
        case skip => exact h _ _ hh.1 hh.2
        case enter f args =>
          obtain ⟨e1, hc⟩ := hh
          rw [e1]
          exact hc.mono fun e w'' ⟨v, h1, h2, h3⟩ => by subst h1; exact h _ _ h2 h3
      | halt x w' => simp only [smoothUpon] at hh
    · rename_i hw; simp only [hw] at hh; exact h _ _ (Abv.refl _) hh

/-- In every world that has come of w0 the operation yields v, and leaves what was there. -/
def YR (P : Program) (ops : Array Oper) (w0 : World) (o : Oper) (v : Value) (a : Act) : Prop :=
  (Region.wanted o (yielded ops a.tmps) = true ∧ ∀ w, Abv w0 w → o.quietAt P a (Abv w) w v) ∨
  (Region.wanted o (yielded ops a.tmps) = false ∧ v = undef)
theorem YR.of_same {o : Oper} {v : Value} {a a' : Act} (hy : YR P ops w0 o v a) (he : execOp a'.eval o = execOp a.eval o)
    (hw : Region.wanted o (yielded ops a'.tmps) = Region.wanted o (yielded ops a.tmps)) : YR P ops w0 o v a' := by
  unfold YR Oper.quietAt at *
  rw [he, hw]
  exact hy
theorem YR.smOp {i : Nat} {o : Oper} {v : Value} {a : Act} {w : World} (hi : ops[i]? = some o) (hy : YR P ops w0 o v a) (hw0 : Abv w0 w) {K : Act → World → Prop} (h : ∀ w', Abv w w' → K (a.put o.dst v) w') : smOp P ops i K a w := by
  unfold Proofs.YtcemageindmbkaaDoor.smOp
  simp only [hi]
  rcases hy with ⟨hw, hv⟩ | ⟨hw, rfl⟩
  · simp only [hw, if_true]
    have h3 := hv w hw0
    unfold Oper.quietAt at h3
    unfold smooth
    generalize (execOp a.eval o).run P w = r at *
    cases r with
    | ok x w' =>
      cases x <;> simp only [Oper.quietUpon] at h3 <;> simp only [smoothUpon]
      case value u => obtain ⟨rfl, rfl⟩ := h3; exact ⟨Abv.refl _, h _ (Abv.refl _)⟩
      case skip => obtain ⟨rfl, rfl⟩ := h3; exact ⟨Abv.refl _, h _ (Abv.refl _)⟩
      case enter f args => exact ⟨h3.1, h3.2.mono fun e w'' ⟨he, hb⟩ => ⟨v, he, hb, h _ hb⟩⟩
    | halt x w' => simp only [Oper.quietUpon] at h3
  · simp only [hw, Bool.false_eq_true, if_false]; exact h _ (Abv.refl _)

theorem smOp_put {j : Nat} {oi oj : Oper} {v : Value} (hj : ops[j]? = some oj) (hap : oi.apart ops oj = true)
    (hsi : ∀ cs b, oi.op ≠ .select cs b) (hsj : ∀ cs b, oj.op ≠ .select cs b) {K : Act → World → Prop} {a : Act} {w : World}
    (hy : YR P ops w0 oi v a) (h : smOp P ops j K (a.put oi.dst v) w) :
    smOp P ops j (fun a' w' => YR P ops w0 oi v a' ∧ K (a'.put oi.dst v) w') a w := by
  obtain ⟨h1, h2, h3⟩ := Oper.apart_spec hap
  have keep : ∀ (a : Act), YR P ops w0 oi v a → ∀ u, YR P ops w0 oi v (a.put oj.dst u) := fun a hy u =>
    hy.of_same (execOp_put oi hsi a oj.dst u h3) (wanted_put oi a oj.dst u h3)
  unfold smOp at *
  simp only [hj] at *
  rw [wanted_put oj a oi.dst v h1] at h
  split
  · rename_i hw
    simp only [hw, if_true] at h
    unfold smooth at *
    rw [execOp_put oj hsj a oi.dst v h1] at h
    generalize (execOp a.eval oj).run P w = r at *
    cases r with
    | ok x w' =>
      cases x <;> simp only [smoothUpon] at h ⊢
      case value u => exact ⟨h.1, keep a hy u, by rw [← Act.put_comm a v u h2]; exact h.2⟩
      case skip => exact ⟨h.1, keep a hy _, by rw [← Act.put_comm a v undef h2]; exact h.2⟩
      case enter f args => exact ⟨h.1, h.2.mono fun e w'' ⟨u, e1, e2, e3⟩ => ⟨u, e1, e2, keep a hy u, by rw [← Act.put_comm a v u h2]; exact e3⟩⟩
    | halt x w' => simp only [smoothUpon] at h
  · rename_i hw
    simp only [hw] at h
    exact ⟨keep a hy _, by rw [← Act.put_comm a v undef h2]; exact h⟩

/-- Whatever order is picked among the first n; then L: in every world that comes of w. -/
def wpR (P : Program) (md : Region.Mode) (ops : Array Oper) (n : Nat) (L : Array Bool → Act → World → Prop) : Nat → Array Bool → Act → World → Prop
  | 0, listed, a, w => ∀ w', Abv w w' → L listed a w'
  | f + 1, listed, a, w => Region.ready md ops listed ≠ [] ∧ ∀ i ∈ Region.ready md ops listed, i < n ∧ ∀ w', Abv w w' → smOp P ops i (wpR P md ops n L f (listed.setIfInBounds i true)) a w'
theorem wpR_mono {n : Nat} {L : Array Bool → Act → World → Prop} : ∀ (f : Nat) {listed : Array Bool} {a : Act} {w w' : World}, Abv w w' → wpR P md ops n L f listed a w → wpR P md ops n L f listed a w'
  | 0, _, _, _, _, hb, h => fun w'' h2 => h w'' (hb.trans h2)
  | _ + 1, _, _, _, _, hb, h => ⟨h.1, fun i hi => ⟨(h.2 i hi).1, fun w'' h2 => (h.2 i hi).2 w'' (hb.trans h2)⟩⟩

theorem wpAny_of_R {n g : Nat} {L : Array Bool → Act → World → Prop} {Q' : Exit → Act → World → Prop} (hL : ∀ listed a w, L listed a w → wpAny P md ops Q' g listed a w) :
    ∀ (f : Nat) (listed : Array Bool) (a : Act) (w : World), wpR P md ops n L f listed a w → wpAny P md ops Q' (f + g) listed a w
  | 0, listed, a, w, h => by rw [Nat.zero_add]; exact hL _ _ _ (h w (Abv.refl _))
  | f + 1, listed, a, w, h => by
    rw [show f + 1 + g = (f + g) + 1 by omega]
    exact ⟨fun h0 => absurd h0 h.1, fun i hi => wpOp_of_smOp (fun a' w' _ h' => wpAny_of_R hL f _ a' w' h') ((h.2 i hi).2 w (Abv.refl _))⟩

theorem wpR_first {n i : Nat} {oi : Oper} {v : Value} {L : Array Bool → Act → World → Prop} (hi : ops[i]? = some oi) (hsel : ∀ (j : Nat) (o : Oper) cs b, ops[j]? = some o → o.op ≠ .select cs b)
    (hwait : ∀ listed, HeadInv md ops n listed → ∀ i, i < n → listed.getD i true = false → ∀ t, n ≤ t → t ∉ Region.ready md ops listed) (hin : i < n)
    (hdone : ∀ listed a w, L listed a w → ∀ j ∈ Region.ready md ops listed, n ≤ j) :
    ∀ (f : Nat) (listed : Array Bool) (a : Act) (w : World), Abv w0 w → HeadInv md ops n listed →
      (∀ j oj, ops[j]? = some oj → j ≠ i → listed.getD j true = false → (∀ e ∈ oj.after, Region.binds md e = true → e.on ≠ i) → oi.apart ops oj = true) →
      i ∈ Region.ready md ops listed → YR P ops w0 oi v a →
      wpR P md ops n L f (listed.setIfInBounds i true) (a.put oi.dst v) w → wpR P md ops n L (f + 1) listed a w := by
  intro f
  induction f with
  | zero =>
    intro listed a w hw0 inv _ hr hy H
    have hun := (mem_ready.1 hr).1
    refine ⟨fun h => (by rw [h] at hr; cases hr), fun j hj => ?_⟩
    have hjn : j < n := by
      rcases Nat.lt_or_ge j n with h | h
      · exact h
      · exact absurd hj (hwait _ inv i hin hun j h)
    refine ⟨hjn, fun w1 h1 => ?_⟩
    by_cases hji : j = i
    · subst hji; exact hy.smOp hi (hw0.trans h1) (fun w2 h2 => wpR_mono 0 (h1.trans h2) H)
    · have := hdone _ _ _ (H w (Abv.refl _)) j (ready_mono hj hji)
      omega
  | succ f ih =>
    intro listed a w hw0 inv hfree hr hy H
    have hun := (mem_ready.1 hr).1
    refine ⟨fun h => (by rw [h] at hr; cases hr), fun j hj => ?_⟩
    have hjn : j < n := by
      rcases Nat.lt_or_ge j n with h | h
      · exact h
      · exact absurd hj (hwait _ inv i hin hun j h)
    refine ⟨hjn, fun w1 h1 => ?_⟩
    by_cases hji : j = i
    · subst hji; exact hy.smOp hi (hw0.trans h1) (fun w2 h2 => wpR_mono (f + 1) (h1.trans h2) H)
    · obtain ⟨hjun, oj, hoj, hall⟩ := mem_ready.1 hj
      have hnot : ∀ e ∈ oj.after, Region.binds md e = true → e.on ≠ i := fun e he hb heq => by
        have h1 := hall e he hb
        rw [heq, getD_both hun] at h1
        cases h1
      have hfree' : ∀ k ok, ops[k]? = some ok → k ≠ i → (listed.setIfInBounds j true).getD k true = false →
          (∀ e ∈ ok.after, Region.binds md e = true → e.on ≠ i) → oi.apart ops ok = true := fun k ok hk hki hun hno => by
        refine hfree k ok hk hki ?_ hno
        by_cases hjk : j = k
        · subst hjk; exact hjun
        · rw [getD_set_ne true hjk] at hun; exact hun
      have h3 := (H.2 j (ready_mono hj hji)).2 w1 h1
      refine smOp_mono (fun a' w' hb h4 => ih (listed.setIfInBounds j true) a' w' (hw0.trans (h1.trans hb)) (inv.set hj hjn) hfree' (ready_mono hr (Ne.symm hji)) h4.1 ?_)
        (smOp_put hoj (hfree j oj hoj hji hjun hnot) (fun cs b => hsel i oi cs b hi) (fun cs b => hsel j oj cs b hoj) hy h3)
      rw [Array.setIfInBounds_comm _ _ hji]
      exact h4.2

/-- The first n - 1 in the order of the text. -/
def LQ (P : Program) (ops : Array Oper) (w0 : World) : List Oper → Act → Act → Prop
  | [], a, z => a = z
  | o :: l, a, z => ∃ v, YR P ops w0 o v a ∧ LQ P ops w0 l (a.put o.dst v) z

/-- The first n - 1 one by one, then the one that is left, then what E says. -/
def lexHeadE (md : Region.Mode) (ops : Array Oper) (E : Array Bool → Bool) : Nat → Nat → Array Bool → Bool
  | 0, _, listed => E listed
  | f + 1, k, listed => (Region.ready md ops listed).contains k && Region.free md ops listed k && lexHeadE md ops E f (k + 1) (listed.setIfInBounds k true)
theorem wpR_lex {n : Nat} {E : Array Bool → Bool} {L : Array Bool → Act → World → Prop} (hsel : Region.noSelect ops = true) (hwait : ∀ listed, HeadInv md ops n listed → ∀ i, i < n → listed.getD i true = false → ∀ t, n ≤ t → t ∉ Region.ready md ops listed)
    (hdone : ∀ listed a w, L listed a w → ∀ j ∈ Region.ready md ops listed, n ≤ j) {z : Act} {w : World} (hw : Abv w0 w)
    (hend : ∀ listed, E listed = true → wpR P md ops n L 1 listed z w) :
    ∀ (l : List Oper) (k : Nat) (listed : Array Bool) (a : Act), (∀ j, j < l.length → l[j]? = ops[k + j]?) → k + l.length = n - 1 → 1 ≤ n → HeadInv md ops n listed →
    lexHeadE md ops E l.length k listed = true → LQ P ops w0 l a z →
    wpR P md ops n L (l.length + 1) listed a w
  | [], k, listed, a, _, hk, h1, _, hB, h => by
    have e : a = z := h
    subst e
    exact hend listed (by simpa [lexHeadE] using hB)
  | o :: l, k, listed, a, hl, hk, h1, inv, hB, h => by
    have h0 : ops[k]? = some o := by simpa using (hl 0 (by simp)).symm
    simp only [List.length_cons, lexHeadE, Bool.and_eq_true] at hB
    obtain ⟨⟨hr, hf⟩, hB'⟩ := hB
    have hkn : k < n := by simp only [List.length_cons] at hk; omega
    have hr' : k ∈ Region.ready md ops listed := by simpa using hr
    obtain ⟨v, hy, hK⟩ := h
    exact wpR_first h0 (Region.noSelect_spec hsel) hwait hkn hdone (l.length + 1) listed a w hw inv (Region.free_spec h0 hf) hr' hy
      (wpR_lex hsel hwait hdone hw hend l (k + 1) _ _ (fun j hj => by have := hl (j + 1) (by simp; omega); simpa [Nat.add_assoc, Nat.add_comm 1 j] using this) (by simp only [List.length_cons] at hk; omega) h1 (inv.set hr' hkn) hB' hK)

/-- Each has a slot of its own. -/
def dstsB (m : Nat) : List Oper → Bool
  | [] => true
  | o :: l => (match o.dst with | some d => decide (d < m) && l.all (fun p => p.dst != some d) | none => false) && dstsB m l

theorem quiet_keeps {C : World → Prop} {z : Act} {d : Nat} : ∀ {l : List Oper} {a : Act}, wpQuiet P ops C (fun a' => a' = z) l a → l.all (fun p => p.dst != some d) = true → z.tmps[d]? = a.tmps[d]?
  | [], a, h, _ => by have e : a = z := h; rw [e]
  | o :: l, a, h, hd => by
    simp only [List.all_cons, Bool.and_eq_true] at hd
    have hne : o.dst ≠ some d := by simpa using hd.1
    have key : ∀ v, (a.put o.dst v).tmps[d]? = a.tmps[d]? := fun v => by
      cases ho : o.dst with
      | none => rfl
      | some x => rw [ho] at hne; simp only [Act.put]; exact Array.getElem?_setIfInBounds_ne (fun e => hne (by rw [e]))
    unfold wpQuiet at h
    split at h
    · obtain ⟨v, _, h2⟩ := h; exact (quiet_keeps h2 hd.2).trans (key v)
    · exact (quiet_keeps h hd.2).trans (key _)

theorem LQ_of_quiet {z : Act} : ∀ {l : List Oper} {a : Act} (_ : dstsB a.tmps.size l = true) (_ : ∀ w1, Abv w0 w1 → wpQuiet P ops (Abv w1) (fun a' => a' = z) l a), LQ P ops w0 l a z
  | [], a, _, H => H w0 (Abv.refl _)
  | o :: l, a, hB, H => by
    simp only [dstsB, Bool.and_eq_true] at hB
    obtain ⟨h1, h2⟩ := hB
    cases ho : o.dst with
    | none => rw [ho] at h1; cases h1
    | some d =>
      rw [ho] at h1
      simp only [Bool.and_eq_true, decide_eq_true_eq] at h1
      have hsz : ∀ v, (a.put o.dst v).tmps.size = a.tmps.size := fun v => by rw [ho]; simp [Act.put]
      by_cases hw : Region.wanted o (yielded ops a.tmps) = true
      · have H' : ∀ w1, Abv w0 w1 → o.quietAt P a (Abv w1) w1 (z.tmps.getD d undef) ∧ wpQuiet P ops (Abv w1) (fun a' => a' = z) l (a.put o.dst (z.tmps.getD d undef)) := fun w1 hw1 => by
          have h3 := H w1 hw1
          unfold wpQuiet at h3
          rw [if_pos hw] at h3
          obtain ⟨v, h4, h5⟩ := h3
          have e1 := quiet_keeps h5 h1.2
          have e2 : (a.put o.dst v).tmps[d]? = some v := by rw [ho]; simp only [Act.put]; exact Array.getElem?_setIfInBounds_self_of_lt h1.1
          rw [e2] at e1
          have e3 : z.tmps.getD d undef = v := by rw [Array.getD_eq_getD_getElem?, e1]; rfl
          rw [e3]
          exact ⟨h4 w1 (Abv.refl _), h5⟩
        exact ⟨_, .inl ⟨hw, fun w1 hw1 => (H' w1 hw1).1⟩, LQ_of_quiet (by rw [hsz]; exact h2) (fun w1 hw1 => (H' w1 hw1).2)⟩
      · refine ⟨undef, .inr ⟨by simpa using hw, rfl⟩, LQ_of_quiet (by rw [hsz]; exact h2) (fun w1 hw1 => ?_)⟩
        have h3 := H w1 hw1
        unfold wpQuiet at h3
        rwa [if_neg hw] at h3

def floatB (m n : Nat) (ops : Array Oper) (l : List Oper) : Bool :=
  Region.noSelect ops && Region.sinkB .any ops n && Region.chainB .any ops n && decide (n < ops.size) && decide (1 ≤ n) && lexHeadE .any ops (fun listed => Region.seqB .any ops (ops.size - (n - 1)) (n - 1) listed) (n - 1) 0 (Array.replicate ops.size false) && dstsB m l

theorem wp_region_float {id : Nat} {Q : Exit → Act → World → Prop} {a : Act} {w : World} {l : List Oper} (n m : Nat) (hsz : a.tmps.size = m) (hm : P.follows .mixedOrders = true) (hB : floatB m n l.toArray (l.take (n - 1)) = true) (z : Act)
    (H : ∀ w1, Abv w w1 → wpQuiet P l.toArray (fun w' => ∃ m : BT w1, w' = m.w) (fun a' => a' = z) (l.take (n - 1)) a)
    (A : ∀ w', Abv w w' → smOp P l.toArray (n - 1) (fun a' w'' => ∀ w3, Abv w'' w3 → wpList P l.toArray Q (l.drop n) a' w3) z w') : (Code.region id l.toArray true).wp P Q a w := by
  simp only [floatB, Bool.and_eq_true, decide_eq_true_eq] at hB
  obtain ⟨⟨⟨⟨⟨⟨hsel, hs⟩, hc⟩, hn⟩, h1⟩, hlex⟩, hd⟩ := hB
  have hn' : n < l.length := by simpa using hn
  have htl : (l.take (n - 1)).length = n - 1 := by simp; omega
  have hdl : (l.drop n).length = l.toArray.size - n := by simp
  have inv0 : HeadInv .any l.toArray n (Array.replicate l.toArray.size false) :=
    ⟨by simp, fun j oj _ hl => (by rw [getD_replicate_false] at hl; cases hl), fun t _ ht => getD_in (by simpa using ht) (getD_replicate_false _ _)⟩
  have hcl : ∀ w1 : World, (fun w' => ∃ m : BT w1, w' = m.w) = Abv w1 := fun w1 => funext fun w' => propext ⟨fun ⟨m, e⟩ => e ▸ m.ok, fun h => ⟨⟨w', h⟩, rfl⟩⟩
  have hLQ : LQ P l.toArray w (l.take (n - 1)) a z := LQ_of_quiet (by rw [hsz]; exact hd) (fun w1 hw1 => by have := H w1 hw1; rwa [hcl] at this)
  have hdr : Abv w w.drew := below_drew (Below.refl _ _)
  have R := wpR_lex (P := P) (md := .any) (w0 := w) (w := w.drew) (L := fun listed a' w' => Region.seqB .any l.toArray (l.toArray.size - n) n listed = true ∧ wpList P l.toArray Q (l.drop n) a' w') hsel (fun listed inv i hi hun t ht => tail_waits hs hc hn inv _ i rfl hi hun t ht)
    (fun listed _ _ hL => seqB_ready hL.1) hdr (z := z) (E := fun listed => Region.seqB .any l.toArray (l.toArray.size - (n - 1)) (n - 1) listed) (fun listed hq => by
      replace hq : Region.seqB .any l.toArray (l.toArray.size - (n - 1)) (n - 1) listed = true := hq
      rw [show l.toArray.size - (n - 1) = (l.toArray.size - n) + 1 by omega] at hq
      simp only [Region.seqB, Bool.and_eq_true, decide_eq_true_eq] at hq
      rw [show n - 1 + 1 = n by omega] at hq
      refine ⟨fun h0 => (by rw [hq.1] at h0; cases h0), fun i hi => ?_⟩
      rw [hq.1] at hi
      have hi' : i = n - 1 := by simpa using hi
      subst hi'
      exact ⟨by omega, fun w' hw' => smOp_mono (fun a' w'' hb h4 w3 h5 => ⟨hq.2, h4 w3 h5⟩) (A w' (hdr.trans hw'))⟩)
    (l.take (n - 1)) 0 _ a (fun j hj => by rw [htl] at hj; simp [hj]) (by simpa using htl) h1 inv0 (by rw [htl]; exact hlex) hLQ
  refine wp_region_any hm ?_
  have := wpAny_of_R (Q' := Q) (g := l.toArray.size - n) (fun listed a' w' hL => by
    have := wpAny_of_seq (md := .any) (Q' := Q) (l.drop n) n listed a' w' (fun j => by simp [List.getElem?_drop]) (by rw [hdl]; exact hL.1) hL.2
    rwa [hdl] at this) _ _ _ _ R
  rw [htl, show n - 1 + 1 + (l.toArray.size - n) = l.toArray.size by omega] at this
  exact this

/-! ### A tail whose operations only read, in any order -/
def chainB2 (md : Region.Mode) (ops : Array Oper) (n : Nat) : Bool :=
  (List.range ops.size).all fun t => decide (t ≤ n) || (List.range t).any fun u => decide (n ≤ u) && Region.waitsFor md ops t u
theorem tail_waits2 {n : Nat} {listed : Array Bool} (hs : Region.sinkB md ops n = true) (hc : chainB2 md ops n = true) (_hn : n < ops.size) (inv : HeadInv md ops n listed) :
    ∀ (d i : Nat), n - i = d → i < n → listed.getD i true = false → ∀ t, n ≤ t → t ∉ Region.ready md ops listed := by
  intro d
  induction d using Nat.strongRecOn with
  | _ d ih =>
    intro i hd hi hun t ht hr
    obtain ⟨_, ot, hot, hall⟩ := mem_ready.1 hr
    have htlt : t < ops.size := (Array.getElem?_eq_some_iff.1 hot).1
    by_cases htn : t = n
    · subst htn
      have h1 := List.all_eq_true.1 hs i (List.mem_range.2 hi)
      obtain ⟨j, hj, hj2⟩ := List.any_eq_true.1 h1
      simp only [Bool.and_eq_true, decide_eq_true_eq] at hj2
      obtain ⟨oj, hoj, e, he, hb, hon⟩ := Region.waitsFor_spec hj2.2
      have hjle : j ≤ t := by have := List.mem_range.1 hj; omega
      by_cases hjt : j = t
      · subst hjt
        have : oj = ot := Option.some.inj (hoj.symm.trans hot)
        subst this
        have h2 := hall e he hb
        rw [hon, getD_both hun] at h2
        cases h2
      · cases hl : listed.getD j false with
        | true =>
          have h2 := inv.closed j oj hoj hl e he hb
          rw [hon, getD_both hun] at h2
          cases h2
        | false =>
          have hjs : j < listed.size := by rw [inv.size]; omega
          exact ih (t - j) (by omega) j rfl (by omega) (getD_in hjs hl) t (Nat.le_refl _) hr
    · have h1 := List.all_eq_true.1 hc t (List.mem_range.2 htlt)
      simp only [Bool.or_eq_true, decide_eq_true_eq] at h1
      rcases h1 with h1 | h1
      · omega
      · obtain ⟨u, hu, hu2⟩ := List.any_eq_true.1 h1
        simp only [Bool.and_eq_true, decide_eq_true_eq] at hu2
        have hut := List.mem_range.1 hu
        obtain ⟨o', ho', e, he, hb, hon⟩ := Region.waitsFor_spec hu2.2
        have : o' = ot := Option.some.inj (ho'.symm.trans hot)
        subst this
        have h2 := hall e he hb
        rw [hon, getD_both (inv.tail u hu2.1 (by omega))] at h2
        cases h2

def tailE (n : Nat) (ops : Array Oper) (listed : Array Bool) : Bool :=
  decide (Region.ready .any ops listed = [n - 1]) && (Region.ready .any ops (listed.setIfInBounds (n - 1) true)).all (fun j => decide (n ≤ j)) && Region.lexFrom .any ops (ops.size - n) n (listed.setIfInBounds (n - 1) true)
def floatB2 (m n : Nat) (ops : Array Oper) (l : List Oper) : Bool :=
  Region.noSelect ops && Region.sinkB .any ops n && chainB2 .any ops n && decide (n < ops.size) && decide (1 ≤ n) && lexHeadE .any ops (tailE n ops) (n - 1) 0 (Array.replicate ops.size false) && dstsB m l

/-- Behind the one that makes memory: operations that only read, in any order. -/
theorem wp_region_float2 {id : Nat} {Q : Exit → Act → World → Prop} {a : Act} {w : World} {l : List Oper} (n m : Nat) (hsz : a.tmps.size = m) (hm : P.follows .mixedOrders = true) (hB : floatB2 m n l.toArray (l.take (n - 1)) = true) (z : Act)
    (H : ∀ w1, Abv w w1 → wpQuiet P l.toArray (fun w' => ∃ m : BT w1, w' = m.w) (fun a' => a' = z) (l.take (n - 1)) a)
    (A : ∀ w', Abv w w' → smOp P l.toArray (n - 1) (fun a' w'' => ∀ w3, Abv w'' w3 → wpQuiet P l.toArray (fun w' => ∃ m : BT w3, w' = m.w) (fun a2 => ∀ w4, (∃ m : BT w3, w4 = m.w) → Q .normal a2 w4) (l.drop n) a') z w') : (Code.region id l.toArray true).wp P Q a w := by
  simp only [floatB2, Bool.and_eq_true, decide_eq_true_eq] at hB
  obtain ⟨⟨⟨⟨⟨⟨hsel, hs⟩, hc⟩, hn⟩, h1⟩, hlex⟩, hd⟩ := hB
  have hn' : n < l.length := by simpa using hn
  have htl : (l.take (n - 1)).length = n - 1 := by simp; omega
  have hdl : (l.drop n).length = l.toArray.size - n := by simp
  have inv0 : HeadInv .any l.toArray n (Array.replicate l.toArray.size false) :=
    ⟨by simp, fun j oj _ hl => (by rw [getD_replicate_false] at hl; cases hl), fun t _ ht => getD_in (by simpa using ht) (getD_replicate_false _ _)⟩
  have hcl : ∀ w1 : World, (fun w' => ∃ m : BT w1, w' = m.w) = Abv w1 := fun w1 => funext fun w' => propext ⟨fun ⟨m, e⟩ => e ▸ m.ok, fun h => ⟨⟨w', h⟩, rfl⟩⟩
  have hLQ : LQ P l.toArray w (l.take (n - 1)) a z := LQ_of_quiet (by rw [hsz]; exact hd) (fun w1 hw1 => by have := H w1 hw1; rwa [hcl] at this)
  have hdr : Abv w w.drew := below_drew (Below.refl _ _)
  have R := wpR_lex (P := P) (md := .any) (w0 := w) (w := w.drew)
    (L := fun listed a' w' => ((Region.ready .any l.toArray listed).all (fun j => decide (n ≤ j)) = true ∧ Region.lexFrom .any l.toArray (l.toArray.size - n) n listed = true) ∧
      wpQuiet P l.toArray (fun w1 => ∃ m : BT w', w1 = m.w) (fun a2 => ∀ w4, (∃ m : BT w', w4 = m.w) → Q .normal a2 w4) (l.drop n) a') hsel (fun listed inv i hi hun t ht => tail_waits2 hs hc hn inv _ i rfl hi hun t ht)
    (fun listed _ _ hL j hj => by have := List.all_eq_true.1 hL.1.1 j hj; simpa using this) hdr (z := z) (E := tailE n l.toArray) (fun listed hq => by
      simp only [tailE, Bool.and_eq_true, decide_eq_true_eq] at hq
      obtain ⟨⟨hq1, hq2⟩, hq3⟩ := hq
      refine ⟨fun h0 => (by rw [hq1] at h0; cases h0), fun i hi => ?_⟩
      rw [hq1] at hi
      have hi' : i = n - 1 := by simpa using hi
      subst hi'
      exact ⟨by omega, fun w' hw' => smOp_mono (fun a' w'' hb h4 w3 h5 => ⟨⟨hq2, hq3⟩, h4 w3 h5⟩) (A w' (hdr.trans hw'))⟩)
    (l.take (n - 1)) 0 _ a (fun j hj => by rw [htl] at hj; simp [hj]) (by simpa using htl) h1 inv0 (by rw [htl]; exact hlex) hLQ
  refine wp_region_any hm ?_
  have := wpAny_of_R (Q' := Q) (g := l.toArray.size - n) (fun listed a' w' hL => by
    have h2 := wpAny_of_quiet (P := P) (md := .any) (Q := fun a2 => ∀ w4, (∃ m : BT w', w4 = m.w) → Q .normal a2 w4) (Q' := Q) (fun a2 w4 hw4 h => h w4 hw4) (l.drop n).length listed a' w' ⟨⟨w', Abv.refl _⟩, rfl⟩
      (wpAnyQ_lex (md := .any) hsel (l.drop n) n listed a' (fun j => by simp [List.getElem?_drop]) (by rw [hdl]; exact hL.1.2) hL.2)
    rwa [hdl] at h2) _ _ _ _ R
  rw [htl, show n - 1 + 1 + (l.toArray.size - n) = l.toArray.size by omega] at this
  exact this

/-- The operation that calls, and hands back what is the call's own. -/
theorem smOp_call {i : Nat} {o : Oper} {z : Act} {w : World} {K : Act → World → Prop} (d : Option Tmp) (f : FuncId) (args : Array Value) (ho : ops[i]? = some o) (hd : o.dst = d) (hg : Region.wanted o (yielded ops z.tmps) = true)
    (hr : (execOp z.eval o).run P w = .ok (.enter f args) w) (h : Calls P f args w fun e w' => ∃ v, e = .returned v ∧ Abv w w' ∧ K (z.put d v) w') : smOp P ops i K z w := by
  subst hd
  unfold smOp
  simp only [ho, hg, if_true]
  unfold smooth
  rw [hr]
  exact ⟨rfl, h⟩
/-- The operation that makes memory. -/
theorem smOp_alloc {i : Nat} {o : Oper} {z : Act} {w : World} {K : Act → World → Prop} (obj : Obj) (ho : ops[i]? = some o) (hg : Region.wanted o (yielded ops z.tmps) = true)
    (hr : (execOp z.eval o).run P w = .ok (.value (.pointer (some ⟨w.heap.size, 0, none⟩))) (w.alloc obj)) (h : K (z.put o.dst (.pointer (some ⟨w.heap.size, 0, none⟩))) (w.alloc obj)) : smOp P ops i K z w := by
  unfold smOp
  simp only [ho, hg, if_true]
  unfold smooth
  rw [hr]
  exact ⟨below_alloc (Below.refl _ _) _, h⟩
end
end Go.Proofs.YtcemageindmbkaaDoor
/- head.take and Decode: what they return. -/
namespace Go.Proofs.YtcemageindmbkaaDoor
open Go.RowKit Go.Proofs.YtcemageindmbkaaDoorW.PrintWords
open PSlotBytes

/-- The number of bytes, the lowest first. -/
def valF : List Int → Int
  | [] => 0
  | x :: l => x + 256 * valF l
theorem valF_bd : ∀ {l : List Int}, InB l → 0 ≤ valF l ∧ valF l < (256 : Int) ^ l.length
  | [], _ => by simp [valF]
  | x :: l, h => by
    obtain ⟨h1, h2⟩ := valF_bd (l := l) (fun y hy => h y (List.mem_cons_of_mem _ hy))
    have hx := h x (List.mem_cons_self ..)
    have e : (256 : Int) ^ (l.length + 1) = 256 ^ l.length * 256 := Int.pow_succ _ _
    simp only [valF, List.length_cons]
    rw [e]
    generalize (256 : Int) ^ l.length = p at *
    omega
theorem valF_drop {l : List Int} {j : Nat} (hj : j < l.length) : valF (l.drop j) = l[j] + 256 * valF (l.drop (j + 1)) := by
  rw [List.drop_eq_getElem_cons hj]; rfl
theorem pow4 {m : Nat} (h : m ≤ 3) : (256 : Int) ^ m ≤ 16777216 := by
  match m, h with
  | 0, _ => decide
  | 1, _ => decide
  | 2, _ => decide
  | 3, _ => decide
theorem pow8 {m : Nat} (h : m ≤ 7) : (256 : Int) ^ m ≤ 72057594037927936 := by
  match m, h with
  | 0, _ => decide
  | 1, _ => decide
  | 2, _ => decide
  | 3, _ => decide
  | 4, _ => decide
  | 5, _ => decide
  | 6, _ => decide
  | 7, _ => decide
theorem or_comm_u32 (a b : Int) : Go.bits .or .u32 a b = Go.bits .or .u32 b a := by
  unfold Go.bits; simp only [BitVec.or_comm]
theorem or_comm_u64 (a b : Int) : Go.bits .or .u64 a b = Go.bits .or .u64 b a := by
  unfold Go.bits; simp only [BitVec.or_comm]
theorem take32_l (l : List Int) (hb : InB l) (hl : l.length ≤ 4) : ∀ (j k : Nat), j ≤ l.length → j < k → head_take_uint32.l0 k l (valF (l.drop j)) ((j : Int) - 1) = some (valF l)
  | 0, k, _, hk => by
    obtain ⟨k, rfl⟩ : ∃ m, k = m + 1 := ⟨k - 1, by omega⟩
    simp only [head_take_uint32.l0]
    rw [if_neg (by omega)]; rfl
  | j + 1, k, hj, hk => by
    obtain ⟨k, rfl⟩ : ∃ m, k = m + 1 := ⟨k - 1, by omega⟩
    simp only [head_take_uint32.l0]
    have hin : InB (l.drop (j + 1)) := fun x hx => hb x (List.mem_of_mem_drop hx)
    obtain ⟨v0, v1⟩ := valF_bd hin
    have hp := pow4 (m := (l.drop (j + 1)).length) (by rw [List.length_drop]; omega)
    have hx := hb l[j] (List.getElem_mem _)
    have e1 : wrap64 (((j + 1 : Nat) : Int) - 1 - 1) = (j : Int) - 1 := by unfold wrap64; omega
    have e2 : rd l (((j + 1 : Nat) : Int) - 1) = l[j] := by
      have : (((j + 1 : Nat) : Int) - 1) = (j : Int) := by omega
      rw [this]; simp [rd, List.getD, List.getElem?_eq_getElem (show j < l.length by omega)]
    rw [if_pos (by omega), if_pos (by omega), if_pos (by omega), e1, e2]
    have e3 : Go.bits .or .u32 ((valF (l.drop (j + 1)) * 256) % 4294967296) (l[j] % 4294967296) = valF (l.drop j) := by
      have hv : (valF (l.drop (j + 1)) * 256) % 4294967296 = valF (l.drop (j + 1)) * 256 := by
        generalize (256 : Int) ^ (l.drop (j + 1)).length = p at *
        omega
      have hy : l[j] % 4294967296 = l[j] := by omega
      rw [or_comm_u32, hv, hy, valF_drop (j := j) (by omega)]
      generalize (256 : Int) ^ (l.drop (j + 1)).length = p at *
      generalize valF (l.drop (j + 1)) = v at *
      generalize l[j] = y at *
      rw [u32_or8 (y := y) (x := v * 256) (by omega) (by omega) (by omega) (by omega) (by omega)]
      omega
    rw [e3]
    exact take32_l l hb hl j k (by omega) (by omega)
theorem take64_l (l : List Int) (hb : InB l) (hl : l.length ≤ 8) : ∀ (j k : Nat), j ≤ l.length → j < k → head_take_uint64.l0 k l (valF (l.drop j)) ((j : Int) - 1) = some (valF l)
  | 0, k, _, hk => by
    obtain ⟨k, rfl⟩ : ∃ m, k = m + 1 := ⟨k - 1, by omega⟩
    simp only [head_take_uint64.l0]
    rw [if_neg (by omega)]; rfl
  | j + 1, k, hj, hk => by
    obtain ⟨k, rfl⟩ : ∃ m, k = m + 1 := ⟨k - 1, by omega⟩
    simp only [head_take_uint64.l0]
    have hin : InB (l.drop (j + 1)) := fun x hx => hb x (List.mem_of_mem_drop hx)
    obtain ⟨v0, v1⟩ := valF_bd hin
    have hp := pow8 (m := (l.drop (j + 1)).length) (by rw [List.length_drop]; omega)
    have hx := hb l[j] (List.getElem_mem _)
    have e1 : wrap64 (((j + 1 : Nat) : Int) - 1 - 1) = (j : Int) - 1 := by unfold wrap64; omega
    have e2 : rd l (((j + 1 : Nat) : Int) - 1) = l[j] := by
      have : (((j + 1 : Nat) : Int) - 1) = (j : Int) := by omega
      rw [this]; simp [rd, List.getD, List.getElem?_eq_getElem (show j < l.length by omega)]
    rw [if_pos (by omega), if_pos (by omega), if_pos (by omega), e1, e2]
    have e3 : Go.bits .or .u64 (IntKind.u64.wrap (valF (l.drop (j + 1)) * 256)) (IntKind.u64.wrap l[j]) = valF (l.drop j) := by
      have hv : (valF (l.drop (j + 1)) * 256) % 18446744073709551616 = valF (l.drop (j + 1)) * 256 := by
        generalize (256 : Int) ^ (l.drop (j + 1)).length = p at *
        omega
      have hy : l[j] % 18446744073709551616 = l[j] := by omega
      rw [IntKind.wrap_u64, IntKind.wrap_u64, or_comm_u64, hv, hy, valF_drop (j := j) (by omega)]
      generalize (256 : Int) ^ (l.drop (j + 1)).length = p at *
      generalize valF (l.drop (j + 1)) = v at *
      generalize l[j] = y at *
      rw [u64_or8 (y := y) (x := v * 256) (by omega) (by omega) (by omega) (by omega) (by omega)]
      omega
    rw [e3]
    exact take64_l l hb hl j k (by omega) (by omega)
theorem take32_calls (A : Option Addr) (c : Nat) (l : List Int) (w : World) (hC : KB.C w A l.length l) (hc : l.length ≤ c) (hb : InB l) (hl : l.length ≤ 4) :
    Calls Tryd.prog 92 #[.slice A l.length c] w fun e w' => e = .returned (.int .u32 (valF l)) ∧ Below w.heap.size w w' :=
  (head_take_uint32.calls (l.length + 1) A c l (valF l) w hC hc (by
    unfold head_take_uint32.f
    have e : wrap64 ((l.length : Int) - 1) = (l.length : Int) - 1 := by unfold wrap64; omega
    rw [e]
    have := take32_l l hb hl l.length (l.length + 1) (Nat.le_refl _) (Nat.lt_succ_self _)
    simpa [valF] using this)).mono fun _ _ ⟨h1, h2⟩ => ⟨h1, h2.below⟩
theorem take64_calls (A : Option Addr) (c : Nat) (l : List Int) (w : World) (hC : KB.C w A l.length l) (hc : l.length ≤ c) (hb : InB l) (hl : l.length ≤ 8) :
    Calls Tryd.prog 93 #[.slice A l.length c] w fun e w' => e = .returned (.int .u64 (valF l)) ∧ Below w.heap.size w w' :=
  (head_take_uint64.calls (l.length + 1) A c l (valF l) w hC hc (by
    unfold head_take_uint64.f
    have e : wrap64 ((l.length : Int) - 1) = (l.length : Int) - 1 := by unfold wrap64; omega
    rw [e]
    have := take64_l l hb hl l.length (l.length + 1) (Nat.le_refl _) (Nat.lt_succ_self _)
    simpa [valF] using this)).mono fun _ _ ⟨h1, h2⟩ => ⟨h1, h2.below⟩

def zeroH : Value := .agg #[.int .i64 0, .int .i64 0, .int .i64 0, .int .i64 0, .int .u64 0, .int .u32 0]
def headV (l : List Int) : Value := .agg #[.int .i64 (l.getD 5 0), .int .i64 (l.getD 6 0), .int .i64 (l.getD 7 0), .int .i64 (valF ((l.take 12).drop 8)), .int .u64 (valF ((l.take 20).drop 12)), .int .u32 (valF ((l.take 24).drop 20))]
def decE (l : List Int) : Int :=
  if l.length < 28 then 5 else if l.take 4 ≠ [75, 69, 69, 80] then 6 else if l.getD 4 0 ≠ 1 then 7 else if sumF (l.take 24) ≠ valF ((l.take 28).drop 24) then 8
  else if hrightF (l.getD 5 0) (l.getD 6 0) (l.getD 7 0) (valF ((l.take 12).drop 8)) = true then 0 else 9
def decV (l : List Int) : Value := if decE l = 0 then headV l else zeroH

theorem toList_loop (s : ByteArray) : ∀ (d i : Nat) (r : List UInt8), s.size - i = d → ByteArray.toList.loop s i r = r.reverse ++ s.data.toList.drop i := by
  intro d
  induction d with
  | zero =>
    intro i r hd
    unfold ByteArray.toList.loop
    rw [if_neg (by omega), List.drop_eq_nil_of_le (by rw [Array.length_toList]; show s.size ≤ i; omega)]
    simp
  | succ d ih =>
    intro i r hd
    unfold ByteArray.toList.loop
    have hi : i < s.data.toList.length := by rw [Array.length_toList]; show i < s.size; omega
    rw [if_pos (by omega), ih (i + 1) _ (by omega), List.drop_eq_getElem_cons hi]
    have e : s.get! i = s.data.toList[i] := by
      have : i < s.data.size := by simpa using hi
      simp only [ByteArray.get!]; exact getElem!_pos s.data i this
    rw [e]; simp
theorem toList_data (s : ByteArray) : s.toList = s.data.toList := by
  unfold ByteArray.toList
  rw [toList_loop s _ 0 [] rfl]; simp
theorem toNat_inj {x y : Int} (h0 : 0 ≤ x ∧ x ≤ 255) (h1 : 0 ≤ y ∧ y ≤ 255) (h : UInt8.ofNat x.toNat = UInt8.ofNat y.toNat) : x = y := by
  have := congrArg UInt8.toNat h
  simp only [UInt8.toNat_ofNat'] at this
  omega
theorem str_inj : ∀ {l m : List Int}, InB l → InB m → (l.map fun n => UInt8.ofNat n.toNat) = (m.map fun n => UInt8.ofNat n.toNat) → l = m
  | [], [], _, _, _ => rfl
  | x :: l, y :: m, h1, h2, h => by
    simp only [List.map_cons, List.cons.injEq] at h
    rw [toNat_inj (h1 x (List.mem_cons_self ..)) (h2 y (List.mem_cons_self ..)) h.1, str_inj (fun z hz => h1 z (List.mem_cons_of_mem _ hz)) (fun z hz => h2 z (List.mem_cons_of_mem _ hz)) h.2]
theorem keep_eq {l : List Int} (hb : InB l) : ((strOfNums l).toList == [75, 69, 69, 80]) = decide (l = [75, 69, 69, 80]) := by
  rw [toList_data, strOfNums_data]
  by_cases h : l = [75, 69, 69, 80]
  · subst h; rfl
  · rw [decide_eq_false h]
    refine beq_eq_false_iff_ne.2 fun e => h (str_inj hb (m := [75, 69, 69, 80]) (by intro x hx; simp at hx; omega) ?_)
    rw [e]; rfl

abbrev zC : Obj := .cells #[.int .i64 0, .int .i64 0, .int .i64 0, .int .i64 0, .int .u64 0, .int .u32 0] 93
theorem byteP {w : World} {b o : Nat} {l : List Int} (h : KB.C w (some ⟨b, o, none⟩) l.length l) {k : Nat} (hk : k < l.length) : w.cell? ⟨b, o + k, none⟩ = some (.int .u8 (l.getD k 0)) := by
  obtain ⟨ad, e, h1⟩ := byteAt h hk
  cases e
  rw [show l.getD k 0 = l[k] by simp [List.getD, List.getElem?_eq_getElem hk]]
  have e2 : (⟨b, o, none⟩ : Addr).add k = ⟨b, o + k, none⟩ := by unfold Addr.add; split <;> simp_all
  rwa [e2] at h1
theorem win_run (b o n c lo hi : Nat) (h : lo < hi) (hh : hi ≤ c) (W : World) : (Instr.slice 27 (.slice (some ⟨b, o, none⟩) n c) (some (.int .i64 (lo : Int))) (some (.int .i64 (hi : Int))) none).run Tryd.prog W = .ok (.slice (some ⟨b, o + lo, none⟩) (hi - lo) (c - lo)) W := by
  exact Lib.run_slice_window W 27 5 Tryd.underlying27 (fun w => by simp [Go.sizeOf, go_sem]; rfl) b o n c lo hi h hh
set_option maxRecDepth 100000 in
theorem dec_short (A : Option Addr) (c : Nat) (l : List Int) (w : World) (h : l.length < 28) :
    Calls Tryd.prog 49 #[.slice A l.length c] w fun e w' => e = .returned (.tuple #[zeroH, .int .i64 5]) ∧ Below w.heap.size w w' := by
  go_enter Tryd.func49, Tryd.ntmps49
  go_wp2_with fail
  · exact bodyPost_ret (v := .tuple #[zeroH, .int .i64 5]) (by simp [results, Tryd.results49, go_sem, zeroH]) rfl ⟨rfl, (below_alloc (Below.refl _ _) _)⟩
set_option maxRecDepth 100000 in
theorem dec_magic (b o c : Nat) (l : List Int) (w : World) (hC : KB.C w (some ⟨b, o, none⟩) l.length l) (hc : l.length ≤ c) (hb : InB l) (h : ¬ l.length < 28) (hm : l.take 4 ≠ [75, 69, 69, 80]) :
    Calls Tryd.prog 49 #[.slice (some ⟨b, o, none⟩) l.length c] w fun e w' => e = .returned (.tuple #[zeroH, .int .i64 6]) ∧ Below w.heap.size w w' := by
  have hC1 := Kd.C_below hC (below_alloc (Below.refl _ _) zC)
  have hin : InB (l.take 4) := fun x hx => hb x (List.mem_of_mem_take hx)
  have kc := run_convert_bytes_arg (P := Tryd.prog) (w.alloc zC) 27 5 Tryd.underlying27 Tryd.underlying5 b o 4 c (l.take 4) (by rw [List.length_take]; omega) (fun i hi => by
    have := byteP hC1 (k := i) (by omega)
    rw [this]
    congr 2
    simp only [List.getD, List.getElem?_take]
    rw [if_pos hi]) 9 Tryd.underlying9
  have hne := (keep_eq hin).trans (decide_eq_false hm)
  have hw := fun W => win_run b o l.length c 0 4 (by decide) (by omega) W
  have h28 : (28 : Int) ≤ (l.length : Int) := by omega
  clear hC hC1 hin hb hm
  go_enter Tryd.func49, Tryd.ntmps49
  go_wp2_with fail
  · exact bodyPost_ret (v := .tuple #[zeroH, .int .i64 6]) (by simp [results, Tryd.results49, go_sem, zeroH]) rfl ⟨rfl, (below_alloc (Below.refl _ _) _)⟩

theorem keep_run (b o c : Nat) (l : List Int) (w : World) (hC : KB.C w (some ⟨b, o, none⟩) l.length l) (h : ¬ l.length < 28) : (convert 27 9 (.slice (some ⟨b, o, none⟩) 4 c)).run Tryd.prog w = .ok (.string (strOfNums (l.take 4))) w :=
  run_convert_bytes_arg (P := Tryd.prog) w 27 5 Tryd.underlying27 Tryd.underlying5 b o 4 c (l.take 4) (by rw [List.length_take]; omega) (fun i hi => by
    have := byteP hC (k := i) (by omega)
    rw [this]
    congr 2
    simp only [List.getD, List.getElem?_take]
    rw [if_pos hi]) 9 Tryd.underlying9
set_option maxRecDepth 100000 in
theorem dec_version (b o c : Nat) (l : List Int) (w : World) (hC : KB.C w (some ⟨b, o, none⟩) l.length l) (hc : l.length ≤ c) (hb : InB l) (h : ¬ l.length < 28) (hm : l.take 4 = [75, 69, 69, 80]) (hv : l.getD 4 0 ≠ 1) :
    Calls Tryd.prog 49 #[.slice (some ⟨b, o, none⟩) l.length c] w fun e w' => e = .returned (.tuple #[zeroH, .int .i64 7]) ∧ Below w.heap.size w w' := by
  have hC1 := Kd.C_below hC (below_alloc (Below.refl _ _) zC)
  have hin : InB (l.take 4) := fun x hx => hb x (List.mem_of_mem_take hx)
  have kc := keep_run b o c l _ hC1 h
  have hne := (keep_eq hin).trans (decide_eq_true hm)
  have b4 := byteP hC1 (k := 4) (by omega)
  generalize l.getD 4 0 = v at *
  have hw := fun W => win_run b o l.length c 0 4 (by decide) (by omega) W
  have h28 : (28 : Int) ≤ (l.length : Int) := by omega
  clear hC hC1 hin hb hm
  go_enter Tryd.func49, Tryd.ntmps49
  go_wp2_with fail
  · exact bodyPost_ret (v := .tuple #[zeroH, .int .i64 7]) (by simp [results, Tryd.results49, go_sem, zeroH]) rfl ⟨rfl, (below_alloc (Below.refl _ _) _)⟩

/-- Bytes lo to hi. -/
abbrev win (l : List Int) (lo hi : Nat) : List Int := (l.take hi).drop lo
theorem win_C {w : World} {b o lo hi : Nat} {l : List Int} (hC : KB.C w (some ⟨b, o, none⟩) l.length l) (h : lo < hi) (hh : hi ≤ l.length) : KB.C w (some ⟨b, o + lo, none⟩) (win l lo hi).length (win l lo hi) := by
  have hl : (l.take hi).length = hi := by rw [List.length_take]; omega
  have h1 := Kd.C_drop (c := (l.take hi).length + 1) (Kd.C_take hC hh) (m := lo) (by omega) (by omega)
  have e1 : (⟨b, o, none⟩ : Addr).add (lo * 1) = ⟨b, o + lo, none⟩ := by rw [Nat.mul_one]; unfold Addr.add; split <;> simp_all
  rw [if_neg (by omega)] at h1
  simpa only [Option.map_some, KB, Kd.int, Kd.scalar, e1] using h1
theorem win_len {l : List Int} {lo hi : Nat} (hh : hi ≤ l.length) : (win l lo hi).length = hi - lo := by simp [win]; omega
theorem win_in {l : List Int} (hb : InB l) (lo hi : Nat) : InB (win l lo hi) := fun x hx => hb x (List.mem_of_mem_take (List.mem_of_mem_drop hx))
theorem sum_n (n : Nat) (A : Option Addr) (c : Nat) (l : List Int) (w : World) (hn : l.length = n) (hC : KB.C w A l.length l) (hb : InB l) (hl : l.length ≤ 1000000000000) :
    Calls Tryd.prog 51 #[.slice A n c] w fun e w' => e = .returned (.int .u32 (sumF l)) ∧ Below w.heap.size w w' := by
  subst hn; exact sum_calls A c l w hC hb hl
theorem take32_n (n : Nat) (A : Option Addr) (c : Nat) (l : List Int) (w : World) (hn : l.length = n) (hC : KB.C w A l.length l) (hc : n ≤ c) (hb : InB l) (hl : n ≤ 4) :
    Calls Tryd.prog 92 #[.slice A n c] w fun e w' => e = .returned (.int .u32 (valF l)) ∧ Below w.heap.size w w' := by
  subst hn; exact take32_calls A c l w hC hc hb hl
theorem take64_n (n : Nat) (A : Option Addr) (c : Nat) (l : List Int) (w : World) (hn : l.length = n) (hC : KB.C w A l.length l) (hc : n ≤ c) (hb : InB l) (hl : n ≤ 8) :
    Calls Tryd.prog 93 #[.slice A n c] w fun e w' => e = .returned (.int .u64 (valF l)) ∧ Below w.heap.size w w' := by
  subst hn; exact take64_calls A c l w hC hc hb hl
theorem zC_cells {w W : World} (hb : Below (w.alloc zC).heap.size (w.alloc zC) W) : (W.cell? ⟨w.heap.size, 0, none⟩ = some (.int .i64 0) ∧ W.cell? ⟨w.heap.size, 1, none⟩ = some (.int .i64 0) ∧ W.cell? ⟨w.heap.size, 2, none⟩ = some (.int .i64 0) ∧ W.cell? ⟨w.heap.size, 3, none⟩ = some (.int .i64 0) ∧ W.cell? ⟨w.heap.size, 4, none⟩ = some (.int .u64 0) ∧ W.cell? ⟨w.heap.size, 5, none⟩ = some (.int .u32 0)) ∧
    (W.frozen? ⟨w.heap.size, 0, none⟩ = false ∧ W.frozen? ⟨w.heap.size, 1, none⟩ = false ∧ W.frozen? ⟨w.heap.size, 2, none⟩ = false ∧ W.frozen? ⟨w.heap.size, 3, none⟩ = false ∧ W.frozen? ⟨w.heap.size, 4, none⟩ = false ∧ W.frozen? ⟨w.heap.size, 5, none⟩ = false) := by
  have hk : W.heap[w.heap.size]? = some zC := (hb.block _ (by simp)).trans (heap_alloc_new w _)
  exact ⟨⟨(blk_cell hk 0).trans rfl, (blk_cell hk 1).trans rfl, (blk_cell hk 2).trans rfl, (blk_cell hk 3).trans rfl, (blk_cell hk 4).trans rfl, (blk_cell hk 5).trans rfl⟩, blk_frozen hk 0, blk_frozen hk 1, blk_frozen hk 2, blk_frozen hk 3, blk_frozen hk 4, blk_frozen hk 5⟩
/-- Six cells are written, one behind the other. -/
theorem set6 {W : World} {g : Nat} {u0 u1 u2 u3 u4 u5 : Value} (v0 v1 v2 v3 v4 v5 : Value)
    (k : W.cell? ⟨g, 0, none⟩ = some u0 ∧ W.cell? ⟨g, 1, none⟩ = some u1 ∧ W.cell? ⟨g, 2, none⟩ = some u2 ∧ W.cell? ⟨g, 3, none⟩ = some u3 ∧ W.cell? ⟨g, 4, none⟩ = some u4 ∧ W.cell? ⟨g, 5, none⟩ = some u5) :
    ∃ W', W' = ((((((W.setCell ⟨g, 0, none⟩ v0).setCell ⟨g, 1, none⟩ v1).setCell ⟨g, 2, none⟩ v2).setCell ⟨g, 3, none⟩ v3).setCell ⟨g, 4, none⟩ v4).setCell ⟨g, 5, none⟩ v5) ∧
      W'.cell? ⟨g, 0, none⟩ = some v0 ∧ W'.cell? ⟨g, 1, none⟩ = some v1 ∧ W'.cell? ⟨g, 2, none⟩ = some v2 ∧ W'.cell? ⟨g, 3, none⟩ = some v3 ∧ W'.cell? ⟨g, 4, none⟩ = some v4 ∧ W'.cell? ⟨g, 5, none⟩ = some v5 ∧
      ∀ B w0, Below B w0 W → B ≤ g → Below B w0 W' := by
  obtain ⟨k0, k1, k2, k3, k4, k5⟩ := k
  obtain ⟨W', hW⟩ : ∃ W', W' = ((((((W.setCell ⟨g, 0, none⟩ v0).setCell ⟨g, 1, none⟩ v1).setCell ⟨g, 2, none⟩ v2).setCell ⟨g, 3, none⟩ v3).setCell ⟨g, 4, none⟩ v4).setCell ⟨g, 5, none⟩ v5) := ⟨_, rfl⟩
  refine ⟨W', hW, ?_, ?_, ?_, ?_, ?_, ?_, fun B w0 h hg => hW ▸ (((((h.setCell hg _).setCell hg _).setCell hg _).setCell hg _).setCell hg _).setCell hg _⟩ <;> (rw [hW]; simp [go_sem, k0, k1, k2, k3, k4, k5])
set_option maxRecDepth 100000 in
theorem dec_sum (b o c : Nat) (l : List Int) (w : World) (hC : KB.C w (some ⟨b, o, none⟩) l.length l) (hc : l.length ≤ c) (hb : InB l) (h : ¬ l.length < 28) (hm : l.take 4 = [75, 69, 69, 80]) (hv : l.getD 4 0 = 1) (hs : sumF (l.take 24) ≠ valF ((l.take 28).drop 24)) :
    Calls Tryd.prog 49 #[.slice (some ⟨b, o, none⟩) l.length c] w fun e w' => e = .returned (.tuple #[zeroH, .int .i64 8]) ∧ Below w.heap.size w w' := by
  have hC1 := Kd.C_below hC (below_alloc (Below.refl _ _) zC)
  have hin : InB (l.take 4) := fun x hx => hb x (List.mem_of_mem_take hx)
  have kc := keep_run b o c l _ hC1 h
  have hne := (keep_eq hin).trans (decide_eq_true hm)
  have b4 := byteP hC1 (k := 4) (by omega)
  rw [hv] at b4
  have hw := fun W => win_run b o l.length c 0 4 (by decide) (by omega) W
  have hw1 := fun W => win_run b o l.length c 0 24 (by decide) (by omega) W
  have hw2 := fun W => win_run b o l.length c 24 28 (by decide) (by omega) W
  have h28 : (28 : Int) ≤ (l.length : Int) := by omega
  have S1 := Lib.hid (fun n : BT (w.alloc zC) => sum_n 24 (some ⟨b, o, none⟩) c (l.take 24) n.w (by rw [List.length_take]; omega) (Kd.C_below (Kd.C_take hC1 (m := 24) (by omega)) n.ok) (fun x hx => hb x (List.mem_of_mem_take hx)) (by rw [List.length_take]; omega))
  have S2 := Lib.hid (fun n : BT (w.alloc zC) => take32_n 4 (some ⟨b, o + 24, none⟩) (c - 24) (win l 24 28) n.w (win_len (by omega)) (Kd.C_below (win_C hC1 (lo := 24) (hi := 28) (by decide) (by omega)) n.ok) (by omega) (win_in hb _ _) (by omega))
  generalize sumF (l.take 24) = s1 at *
  generalize valF (win l 24 28) = s2 at *
  clear hC hC1 hin hb hm
  go_enter Tryd.func49, Tryd.ntmps49
  go_wp2_with fail
  · skip
    refine wp_region_below (by kernel_rfl) (by kernel_rfl) ?_
    repeat (go_big_quiet_step (first | (go_at_call 51; exact Calls.below_of (S1.out _)) | (go_at_call 92; exact Calls.below_of (S2.out _))))
    refine wpQuiet_nil ?_
    intro W5 hW5
    obtain ⟨⟨w5, hb5⟩, rfl⟩ := hW5
    obtain ⟨⟨k0, k1, k2, k3, k4, k5⟩, f0, f1, f2, f3, f4, f5⟩ := zC_cells hb5
    have hb6 := below_via (w0 := w) (below_alloc (Below.refl _ _) _) hb5
    go_wp2_with fail
    obtain ⟨W6, hW6, l0, l1, l2, l3, l4, l5, hbel⟩ := set6 (.int .i64 0) (.int .i64 0) (.int .i64 0) (.int .i64 0) (.int .u64 0) (.int .u32 0) ⟨k0, k1, k2, k3, k4, k5⟩
    rw [← hW6]
    have hb7 := hbel _ _ hb6 (Nat.le_refl _)
    clear hW6 hbel k0 k1 k2 k3 k4 k5 f0 f1 f2 f3 f4 f5 hb5 hb6
    exact bodyPost_ret (v := .tuple #[zeroH, .int .i64 8]) (by simp [results, Tryd.results49, go_sem, zeroH, l0, l1, l2, l3, l4, l5]) rfl ⟨rfl, hb7⟩

theorem byteB {w w' : World} {b o : Nat} {l : List Int} (h : KB.C w (some ⟨b, o, none⟩) l.length l) (hb : Below w.heap.size w w') {k : Nat} (hk : k < l.length) : w'.cell? ⟨b, o + k, none⟩ = some (.int .u8 (l.getD k 0)) := byteP (Kd.C_below h hb) hk
theorem getD_in {l : List Int} (hb : InB l) {k : Nat} (hk : k < l.length) : 0 ≤ l.getD k 0 ∧ l.getD k 0 ≤ 255 := by
  rw [show l.getD k 0 = l[k] by simp [List.getD, List.getElem?_eq_getElem hk]]
  exact hb _ (List.getElem_mem _)
/-- The three bytes that tell the chips. -/
theorem b567 {w w' : World} {b o : Nat} {x y z : Int} (h : ∀ w', Below w.heap.size w w' → w'.cell? ⟨b, o + 5, none⟩ = some (.int .u8 x) ∧ w'.cell? ⟨b, o + 6, none⟩ = some (.int .u8 y) ∧ w'.cell? ⟨b, o + 7, none⟩ = some (.int .u8 z)) (hb : Below w.heap.size w w') : w'.cell? ⟨b, o + 5, none⟩ = some (.int .u8 x) ∧ w'.cell? ⟨b, o + 6, none⟩ = some (.int .u8 y) ∧ w'.cell? ⟨b, o + 7, none⟩ = some (.int .u8 z) := h _ hb
set_option maxRecDepth 100000 in
set_option maxHeartbeats 4000000 in
theorem dec_end (b o c : Nat) (l : List Int) (w : World) (hl : Laid w) (hC : KB.C w (some ⟨b, o, none⟩) l.length l) (hc : l.length ≤ c) (hb : InB l) (h : ¬ l.length < 28) (hm : l.take 4 = [75, 69, 69, 80]) (hv : l.getD 4 0 = 1) (hs : sumF (l.take 24) = valF ((l.take 28).drop 24)) :
    Calls Tryd.prog 49 #[.slice (some ⟨b, o, none⟩) l.length c] w fun e w' => e = .returned (.tuple #[decV l, .int .i64 (decE l)]) ∧ Below w.heap.size w w' := by
  have hC1 := Kd.C_below hC (below_alloc (Below.refl _ _) zC)
  have hin : InB (l.take 4) := fun x hx => hb x (List.mem_of_mem_take hx)
  have kc := keep_run b o c l _ hC1 h
  have hne := (keep_eq hin).trans (decide_eq_true hm)
  have b4 := byteP hC1 (k := 4) (by omega)
  rw [hv] at b4
  have hw := fun W => win_run b o l.length c 0 4 (by decide) (by omega) W
  have hw1 := fun W => win_run b o l.length c 0 24 (by decide) (by omega) W
  have hw2 := fun W => win_run b o l.length c 24 28 (by decide) (by omega) W
  have hw3 := fun W => win_run b o l.length c 8 12 (by decide) (by omega) W
  have hw4 := fun W => win_run b o l.length c 12 20 (by decide) (by omega) W
  have hw5 := fun W => win_run b o l.length c 20 24 (by decide) (by omega) W
  have h28 : (28 : Int) ≤ (l.length : Int) := by omega
  have S1 := Lib.hid (fun n : BT (w.alloc zC) => sum_n 24 (some ⟨b, o, none⟩) c (l.take 24) n.w (by rw [List.length_take]; omega) (Kd.C_below (Kd.C_take hC1 (m := 24) (by omega)) n.ok) (fun x hx => hb x (List.mem_of_mem_take hx)) (by rw [List.length_take]; omega))
  have S2 := Lib.hid (fun n : BT (w.alloc zC) => take32_n 4 (some ⟨b, o + 24, none⟩) (c - 24) (win l 24 28) n.w (win_len (by omega)) (Kd.C_below (win_C hC1 (lo := 24) (hi := 28) (by decide) (by omega)) n.ok) (by omega) (win_in hb _ _) (by omega))
  have S3 := Lib.hid (fun (W : World) (hW : Below w.heap.size w W) => take32_n 4 (some ⟨b, o + 8, none⟩) (c - 8) (win l 8 12) W (win_len (by omega)) (Kd.C_below (win_C hC (lo := 8) (hi := 12) (by decide) (by omega)) hW) (by omega) (win_in hb _ _) (by omega))
  have S4 := Lib.hid (fun (W : World) (hW : Below w.heap.size w W) => take64_n 8 (some ⟨b, o + 12, none⟩) (c - 12) (win l 12 20) W (win_len (by omega)) (Kd.C_below (win_C hC (lo := 12) (hi := 20) (by decide) (by omega)) hW) (by omega) (win_in hb _ _) (by omega))
  have S5 := Lib.hid (fun (W : World) (hW : Below w.heap.size w W) => take32_n 4 (some ⟨b, o + 20, none⟩) (c - 20) (win l 20 24) W (win_len (by omega)) (Kd.C_below (win_C hC (lo := 20) (hi := 24) (by decide) (by omega)) hW) (by omega) (win_in hb _ _) (by omega))
  have hB := Lib.hid (fun (W : World) (hW : Below w.heap.size w W) => (⟨byteB hC hW (k := 5) (by omega), byteB hC hW (k := 6) (by omega), byteB hC hW (k := 7) (by omega)⟩ : _ ∧ _ ∧ _))
  have hE : decE l = if hrightF (l.getD 5 0) (l.getD 6 0) (l.getD 7 0) (valF (win l 8 12)) = true then 0 else 9 := by
    unfold decE; rw [if_neg h, if_neg (fun e => e hm), if_neg (fun e => e hv), if_neg (fun e => e hs)]
  have hV : decV l = if hrightF (l.getD 5 0) (l.getD 6 0) (l.getD 7 0) (valF (win l 8 12)) = true then .agg #[.int .i64 (l.getD 5 0), .int .i64 (l.getD 6 0), .int .i64 (l.getD 7 0), .int .i64 (valF (win l 8 12)), .int .u64 (valF (win l 12 20)), .int .u32 (valF (win l 20 24))] else zeroH := by
    unfold decV; rw [hE]; split <;> simp [headV]
  rw [hE, hV]
  clear hE hV
  generalize hr : hrightF (l.getD 5 0) (l.getD 6 0) (l.getD 7 0) (valF (win l 8 12)) = r
  obtain ⟨V, E, hVE, hf, ht⟩ : ∃ V E, (Ending.returned (.tuple #[if r = true then .agg #[.int .i64 (l.getD 5 0), .int .i64 (l.getD 6 0), .int .i64 (l.getD 7 0), .int .i64 (valF (win l 8 12)), .int .u64 (valF (win l 12 20)), .int .u32 (valF (win l 20 24))] else zeroH, .int .i64 (if r = true then 0 else 9)]) = Ending.returned (.tuple #[V, .int .i64 E])) ∧ (r = false → V = zeroH ∧ E = 9) ∧ (r = true → V = .agg #[.int .i64 (l.getD 5 0), .int .i64 (l.getD 6 0), .int .i64 (l.getD 7 0), .int .i64 (valF (win l 8 12)), .int .u64 (valF (win l 12 20)), .int .u32 (valF (win l 20 24))] ∧ E = 0) :=
    ⟨_, _, rfl, fun e => by subst e; exact ⟨rfl, rfl⟩, fun e => by subst e; exact ⟨rfl, rfl⟩⟩
  rw [hVE]
  clear hVE
  have HF := Lib.hid hf
  have HTT := Lib.hid ht
  clear hf ht
  have HR := Lib.hid (hright_calls (l.getD 5 0) (l.getD 6 0) (l.getD 7 0) (valF (win l 8 12)) (valF (win l 12 20)) (valF (win l 20 24)))
  generalize sumF (l.take 24) = s1 at *
  change s1 = valF (win l 24 28) at hs
  rw [← hs] at S2
  have q5 := getD_in hb (k := 5) (by omega)
  have q6 := getD_in hb (k := 6) (by omega)
  have q7 := getD_in hb (k := 7) (by omega)
  have qn : 0 ≤ valF (win l 8 12) ∧ valF (win l 8 12) ≤ 4294967295 := by
    obtain ⟨v1, v2⟩ := valF_bd (win_in hb 8 12)
    rw [win_len (by omega)] at v2
    exact ⟨v1, by simp only [Nat.reduceSub] at v2; omega⟩
  generalize valF (win l 8 12) = n at *
  generalize valF (win l 12 20) = q at *
  generalize valF (win l 20 24) = u at *
  generalize l.getD 5 0 = x5 at *
  generalize l.getD 6 0 = x6 at *
  generalize l.getD 7 0 = x7 at *
  have HL := Lib.hid hl
  rw [hr] at HR
  clear hC hC1 hin hb hm hs hl hr
  go_enter Tryd.func49, Tryd.ntmps49
  go_wp2_with fail
  · skip
    refine wp_region_below (by kernel_rfl) (by kernel_rfl) ?_
    repeat (go_big_quiet_step (first | (go_at_call 51; exact Calls.below_of (S1.out _)) | (go_at_call 92; exact Calls.below_of (S2.out _))))
    refine wpQuiet_nil ?_
    intro W5 hW5
    obtain ⟨⟨w5, hb5⟩, rfl⟩ := hW5
    have hb6 := below_via (w0 := w) (below_alloc (Below.refl _ _) _) hb5
    have HB6 := Lib.hid hb6
    have HB5 := Lib.hid hb5
    clear hb5 hb6
    go_wp2_with fail
    refine wp_region_float 25 60 rfl (by kernel_rfl) (by kernel_rfl) ?z (fun wa hwa => ?_) (fun w7 hw7 => ?_)
    case refine_1 =>
      simp only [List.take_succ_cons, List.take_zero, Nat.reduceSub]
      have HB7 := Lib.hid (below_via HB6.out hwa)
      obtain ⟨p5, p6, p7⟩ := hB.out _ HB7.out
      have r5 := fun n : BT wa => BT.cell p5 n
      have r6 := fun n : BT wa => BT.cell p6 n
      have r7 := fun n : BT wa => BT.cell p7 n
      clear p5 p6 p7
      repeat (go_big_quiet_step (first | (go_at_call 93; (with_reducible refine Calls.below_of (S4.out _ ?_)); exact below_via HB7.out (CT.ok _)) | (go_at_call 92; (with_reducible refine Calls.below_of (S3.out _ ?_)); exact below_via HB7.out (CT.ok _)) | (go_at_call 92; (with_reducible refine Calls.below_of (S5.out _ ?_)); exact below_via HB7.out (CT.ok _))))
      refine wpQuiet_nil ?_
      exact Eq.refl _
    refine smOp_alloc zC rfl rfl (by simp [go_sem]) ?_
    intro w3 hw3
    simp only [List.drop_succ_cons, List.drop_zero, Act.put]
    obtain ⟨⟨k0, k1, k2, k3, k4, k5⟩, f0, f1, f2, f3, f4, f5⟩ := zC_cells hw3
    have HB3 := Lib.hid (below_via (below_via HB6.out hw7) (below_via (below_alloc (Below.refl _ _) _) hw3))
    have HT := Lib.hid (below_via (below_via HB5.out hw7) (below_via (below_alloc (Below.refl _ _) _) hw3))
    have hg : w.heap.size < w7.heap.size := Nat.lt_of_lt_of_le (by simp) (below_via HB5.out hw7).size
    generalize w7.heap.size = g at *
    clear hw7 hw3
    go_wp2_with fail
    obtain ⟨W6, hW6, l0, l1, l2, l3, l4, l5, hbel⟩ := set6 (.int .i64 x5) (.int .i64 x6) (.int .i64 x7) (.int .i64 n) (.int .u64 q) (.int .u32 u) ⟨k0, k1, k2, k3, k4, k5⟩
    rw [← hW6]
    have hT6 := Lib.hid (hbel _ _ HT.out (by simp only [World.size_alloc]; omega))
    have hgl := World.block_lt_of_cell? W6 _ l0
    clear hW6 hbel k0 k1 k2 k3 k4 k5 f0 f1 f2 f3 f4 f5
    refine (HR.out _ (HL.out.of_below (below_via (below_alloc (Below.refl _ _) zC) hT6.out))).mono ?_
    rintro e w8 ⟨rfl, hb8⟩
    have m0 := ((bcell hb8).1 _ 0 hgl).trans l0
    have m1 := ((bcell hb8).1 _ 1 hgl).trans l1
    have m2 := ((bcell hb8).1 _ 2 hgl).trans l2
    have m3 := ((bcell hb8).1 _ 3 hgl).trans l3
    have m4 := ((bcell hb8).1 _ 4 hgl).trans l4
    have m5 := ((bcell hb8).1 _ 5 hgl).trans l5
    have hT8 := below_via hT6.out hb8
    obtain ⟨⟨k0, k1, k2, k3, k4, k5⟩, f0, f1, f2, f3, f4, f5⟩ := zC_cells hT8
    have HT8 := Lib.hid (below_via (below_alloc (Below.refl w.heap.size w) zC) hT8)
    clear hT8 hb8 l0 l1 l2 l3 l4 l5
    cases r
    · obtain ⟨rfl, rfl⟩ := HF.out rfl
      go_wp2_with fail
      obtain ⟨W9, hW9, l0, l1, l2, l3, l4, l5, hbel⟩ := set6 (.int .i64 0) (.int .i64 0) (.int .i64 0) (.int .i64 0) (.int .u64 0) (.int .u32 0) ⟨k0, k1, k2, k3, k4, k5⟩
      rw [← hW9]
      have hb9 := hbel _ _ HT8.out (Nat.le_refl _)
      clear hW9 hbel k0 k1 k2 k3 k4 k5 f0 f1 f2 f3 f4 f5 m0 m1 m2 m3 m4 m5
      exact bodyPost_ret (v := .tuple #[zeroH, .int .i64 9]) (by simp [results, Tryd.results49, go_sem, zeroH, l0, l1, l2, l3, l4, l5]) rfl ⟨rfl, hb9⟩
    · obtain ⟨rfl, rfl⟩ := HTT.out rfl
      go_wp2_with fail
      obtain ⟨W9, hW9, l0, l1, l2, l3, l4, l5, hbel⟩ := set6 (.int .i64 x5) (.int .i64 x6) (.int .i64 x7) (.int .i64 n) (.int .u64 q) (.int .u32 u) ⟨k0, k1, k2, k3, k4, k5⟩
      rw [← hW9]
      have hb9 := hbel _ _ HT8.out (Nat.le_refl _)
      clear hW9 hbel k0 k1 k2 k3 k4 k5 f0 f1 f2 f3 f4 f5 m0 m1 m2 m3 m4 m5
      exact bodyPost_ret (v := .tuple #[.agg #[.int .i64 x5, .int .i64 x6, .int .i64 x7, .int .i64 n, .int .u64 q, .int .u32 u], .int .i64 0]) (by simp [results, Tryd.results49, go_sem, l0, l1, l2, l3, l4, l5]) rfl ⟨rfl, hb9⟩

theorem decode_calls (b o c : Nat) (l : List Int) (w : World) (hl : Laid w) (hC : KB.C w (some ⟨b, o, none⟩) l.length l) (hc : l.length ≤ c) (hb : InB l) :
    Calls Tryd.prog 49 #[.slice (some ⟨b, o, none⟩) l.length c] w fun e w' => e = .returned (.tuple #[decV l, .int .i64 (decE l)]) ∧ Below w.heap.size w w' := by
  by_cases h1 : l.length < 28
  · have e1 : decE l = 5 := by unfold decE; rw [if_pos h1]
    have e2 : decV l = zeroH := by unfold decV; rw [e1]; rfl
    rw [e1, e2]; exact dec_short _ c l w h1
  · by_cases h2 : l.take 4 = [75, 69, 69, 80]
    · by_cases h3 : l.getD 4 0 = 1
      · by_cases h4 : sumF (l.take 24) = valF ((l.take 28).drop 24)
        · exact dec_end b o c l w hl hC hc hb h1 h2 h3 h4
        · have e1 : decE l = 8 := by unfold decE; rw [if_neg h1, if_neg (fun e => e h2), if_neg (fun e => e h3), if_pos h4]
          have e2 : decV l = zeroH := by unfold decV; rw [e1]; rfl
          rw [e1, e2]; exact dec_sum b o c l w hC hc hb h1 h2 h3 h4
      · have e1 : decE l = 7 := by unfold decE; rw [if_neg h1, if_neg (fun e => e h2), if_pos h3]
        have e2 : decV l = zeroH := by unfold decV; rw [e1]; rfl
        rw [e1, e2]; exact dec_version b o c l w hC hc hb h1 h2 h3
    · have e1 : decE l = 6 := by unfold decE; rw [if_neg h1, if_pos h2]
      have e2 : decV l = zeroH := by unfold decV; rw [e1]; rfl
      rw [e1, e2]; exact dec_magic b o c l w hC hc hb h1 h2
end Go.Proofs.YtcemageindmbkaaDoor
