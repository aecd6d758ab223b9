/- SlotBytes holds: for any bytes on a disk, any size byte, any slot number and any kind of chips, the slot's reading answers as the reference's reading does, and the disk's bytes stay. The one listed variable (geo.rows) is tied to the program's text. -/
import Derived.Test.YtcemageindmbkaaDoorBytesAll5
import Derived.Test.YtcemageindmbkaaDoorCards
import Derived.Test.YtcemageindmbkaaDoorTie
import Derived.SevenTiedAt
namespace Go.Proofs.YtcemageindmbkaaDoor
open Go.ChangeShapes Go.WideShapes Go.ChangeAt Go.RowKit

set_option maxRecDepth 100000 in
theorem bytes_lifted (os : Os) (started : os.Started) (H : Type) (enc : TypeId × Value → H) :
    ReturnsInHanded {} Tryd.checked os 4 .any (fun w args => (Rows.slotBytesSpec.pre enc Tryd.prog Tryd.f4 [] false w args ∧ laidMetH Tryd.prog laidL w) ∧ sizedMet enc Tryd.prog Tryd.f4 (OpenSpec.ofChange Rows.slotBytesSpec) false w args)
      (Rows.slotBytesSpec.post enc Tryd.prog Tryd.f4 false true false false) := by
  refine returnsInHanded_of_change_and (C := Tryd.checked) (X := fun w _ => laidMetH Tryd.prog laidL w) (fun _ _ _ hh h => h.of_heap hh) own started (by kernel_rfl) Tryd.func4
    (ChangeSpec.witness_shaped (enc := enc) (C := Tryd.checked) (os := os) (X := fun w _ => laidMetH Tryd.prog laidL w) false (World.doorLaid Tryd.prog 25 os) #[.slice none 0 0, .int .u8 0, .int .i64 0, .agg #[.int .i64 0, .int .i64 0, .int .i64 0]] 8 rfl (World.shaped_of_RefB (by kernel_rfl) (by kernel_rfl)) (by kernel_rfl) (by kernel_rfl) (by kernel_rfl) (door_met os _)) ?_
  intro W base args ds gs before hval0 hW _ _ hL _
  have hval : ∀ (j : Nat) t v, Tryd.f4.params[j]? = some t → args[j]? = some v → Value.okWide Tryd.prog W .any base t v := hval0
  have hW' := hW
  obtain ⟨p, q, hA0, hV, rfl, hfz, hnd⟩ := hW
  have hA : DataW.TrodAll enc Tryd.prog W 0 (fun _ => true) true Tryd.f4.params.toList args.toList ds p := hA0
  rw [Tryd.params4] at hA hval
  obtain ⟨v0, vs0, d0, ds0, p0, q0, hargs, rfl, rfl, h0, r0⟩ := trodAll_cons hA
  obtain ⟨v1, vs1, d1, ds1, p1, q1, rfl, rfl, rfl, h1, r1⟩ := trodAll_cons r0
  obtain ⟨v2, vs2, d2, ds2, p2, q2, rfl, rfl, rfl, h2, r2⟩ := trodAll_cons r1
  obtain ⟨v3, vs3, d3, ds3, p3, q3, rfl, rfl, rfl, h3, r3⟩ := trodAll_cons r2
  obtain ⟨rfl, rfl, rfl⟩ := trodAll_nil r3
  obtain rfl : args = #[v0, v1, v2, v3] := by cases args; simp_all
  obtain ⟨rfl, rfl⟩ := trodVars_none hV
  obtain ⟨A, l, m, rfl, hC, hin, -, -⟩ := bytes_arg (hval 0 27 v0 rfl rfl) h0
  obtain ⟨x, rfl, rfl, rfl, wx⟩ := open_int Tryd.underlying5 (hval 1 5 v1 rfl rfl) h1
  obtain ⟨y, rfl, rfl, rfl, wy⟩ := open_int Tryd.underlying3 (hval 2 3 v2 rfl rfl) h2
  obtain ⟨a, b, c, rfl⟩ := geo_arg (hval 3 23 v3 rfl rfl) h3
  have lt : ∀ (P : List MemPlace) t v d, DataW.Trod enc Tryd.prog W 0 (fun _ => true) true t v d P → ∀ x ∈ P, x.block < W.heap.size := fun P t v d k => by obtain ⟨m, hm⟩ := k; exact DataW.trod_lt m _ _ _ hm
  have hx : 0 ≤ x ∧ x ≤ 255 := by
    have e1 : IntKind.u8.min = 0 := rfl
    have e2 : IntKind.u8.max = 255 := rfl
    simpa only [Lit.wf, e1, e2, Bool.and_eq_true, decide_eq_true_eq] using wx
  clear hA0 hval0
  simp only [List.append_nil] at hW'
  refine (byt_calls l A m x y a b c W (laid_of hL) hx hC hin).mono fun e W' ⟨he, bel⟩ => ?_
  subst he
  exact ⟨_, rfl, _, _, _, [], _, [], hW', trodAll_mk1 (shut_bool Tryd.underlying4 _), (trodAll_cons_mk (Below.trod laidOut (by kernel_rfl) (of_decide_eq_true (by kernel_rfl)) h0 bel (lt _ _ _ _ h0)) (trodAll_cons_mk (shut_int Tryd.underlying5 wx) (trodAll_cons_mk (shut_int Tryd.underlying3 wy) (trodAll_cons_mk (Below.trod laidOut (by kernel_rfl) (of_decide_eq_true (by kernel_rfl)) h3 bel (lt _ _ _ _ h3)) trodAll_mk0)))), rfl, bel.frame _, fun h => by cases h⟩

theorem bytes_row : Rows.SlotBytesSaid :=
  OpenClaim.holds_of_wide 4 Tryd.f4 rfl rfl rfl rfl rfl rfl rfl ⟨rfl, rfl, rfl, rfl, rfl⟩ rfl rfl rfl rfl rfl (by kernel_rfl) Tryd.func4 (by kernel_rfl)
    (of_decide_eq_true (by kernel_rfl)) (by unfold Func.isWrapper; first | (rw [if_pos (by decide +kernel)]; kernel_rfl) | (rw [if_neg (by decide +kernel)]; exact ⟨rfl, rfl⟩))
    (fun os started H enc _ => bytes_lifted os started H enc)
theorem slotBytes_holds : Rows.SlotBytesCardSaid :=
  Claim7.holds_tied_plain_at .later [] [.data] true (true, "4726cab8438cce3db2bb13aeedb02c700030f2d6115c4540c3c86b96834fbcc4") false
    bytes_row (fun _ h => by cases h) (by kernel_rfl) (fun _ h => by cases h) slotBytes_row_tie rfl ⟨rfl, rfl⟩ (by kernel_rfl) rfl
    (fun f fn hf hfn => by
      obtain rfl : f = 4 := Option.some.inj ((show Tryd.prog.funcNamed "keepsake/keepsakelaw06.SlotBytes" = some 4 by kernel_rfl).symm.trans hf) |>.symm
      obtain rfl : fn = Tryd.f4 := (Option.some.inj (Tryd.func4.symm.trans hfn)).symm
      exact ⟨by kernel_rfl, fun j t ht => by
        rw [Tryd.params4] at ht
        have hm : t ∈ [27, 5, 3, 23] := by simpa using Array.mem_of_getElem? ht
        have hall : ([27, 5, 3, 23].all fun u => !Tryd.prog.wantsStandIn u) = true := by kernel_rfl
        exact (show Tryd.prog.wantsStandIn t = false by simpa using List.all_eq_true.1 hall t hm)⟩)
    (by kernel_rfl)
#print axioms slotBytes_holds
end Go.Proofs.YtcemageindmbkaaDoor
