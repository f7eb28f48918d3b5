/- The heap of the program: an item is taken out. -/
import Derived.Test.YtldoplehchngfaaHpN
namespace Go.Proofs.Ytldoplehchngfaa
open Go.Wf
set_option linter.unusedVariables false
structure TX where
  (K Pl O : List Int) (rest : List Value)
section
variable {n bh bk bp bo cap : Nat} {rest : List Value} {K Pl O : List Int}
set_option maxHeartbeats 2000000 in
theorem take_ok (hI : Inv n K Pl O) (hl : O.length ≤ 65536) (hr : O.length + rest.length = cap) (hH : Hord K O.length (ia O)) (p : Int) (hp : 0 ≤ p ∧ p < O.length) :
    MCalls Try.prog 90 [.pointer (some ⟨bh, 0, none⟩), .int .i64 p] (HL n bh bk bp bo O.length cap rest K Pl O)
      (fun x : TX => Inv n x.K x.Pl x.O ∧ x.O.length = O.length - 1 ∧ x.O.length + x.rest.length = cap ∧ Hord x.K x.O.length (ia x.O) ∧ x.K = tkK K O p ∧ SameHeld n (tkP Pl O p) x.Pl) (fun _ => .tuple #[]) (fun x => HL n bh bk bp bo x.O.length cap x.rest x.K x.Pl x.O) := .mk fun w hw => by
  have b1 := hI.el p hp.1 hp.2
  have hla : (0 : Int) ≤ (O.length : Int) - 1 ∧ (O.length : Int) - 1 < O.length := by omega
  have b2 := hI.el _ hla.1 hla.2
  obtain ⟨t1, t2⟩ := hI.take hp
  have hlen : (tkO O p).length = O.length - 1 := tkO_len
  have hcast : (((tkO O p).length : Nat) : Int) = (O.length : Int) - 1 := by omega
  have hup := hI.take_up hH hp
  have hsplit : ints (swO O p ((O.length : Int) - 1)) ++ rest = ints (tkO O p) ++ (ints ((swO O p ((O.length : Int) - 1)).drop (O.length - 1)) ++ rest) := by
    rw [← List.append_assoc]
    congr 1
    unfold tkO ints
    rw [← List.map_append, List.take_append_drop]
  have hrl : ((ints ((swO O p ((O.length : Int) - 1)).drop (O.length - 1)) ++ rest)).length + (tkO O p).length = cap := by
    simp only [List.length_append, ints_len, List.length_drop, swO_len, hlen]; omega
  have hPn := hI.hP
  have hKn := hI.hK
  have hPs : (swP Pl O p ((O.length : Int) - 1)).length = n := by rw [swP_len]; exact hPn
  generalize hR : ints ((swO O p ((O.length : Int) - 1)).drop (O.length - 1)) ++ rest = R at hsplit hrl
  refine Goal.enter (args := [.pointer (some ⟨bh, 0, none⟩), .int .i64 p]) Try.func90 rfl Try.ntmps90 rfl (hw) ?_
  repeat' (first
    | (refine Goal.drawAll (id := 4) 11 T.mixed ?_; all_goals ((refine Goal.takeP (listed' := #[Ya,No,No,No,No,No,No,No,No,No,No,No,No,No]) 0 ⟨rfl, by kernel_rfl, by kernel_rfl, by kernel_rfl, by kernel_rfl⟩ rfl (fun _ _ _ _ h => h) (by intro _; exact Run.move rfl) ?_)); all_goals ((refine Goal.takeP (listed' := #[Ya,Ya,No,No,No,No,No,No,No,No,No,No,No,No]) 1 ⟨rfl, by kernel_rfl, by kernel_rfl, by kernel_rfl, by kernel_rfl⟩ rfl (fun _ _ _ _ h => h) (by intro _; exact Run.nilCheckP rfl) ?_)); all_goals ((refine Goal.takeP (listed' := #[Ya,Ya,Ya,No,No,No,No,No,No,No,No,No,No,No]) 2 ⟨rfl, by kernel_rfl, by kernel_rfl, by kernel_rfl, by kernel_rfl⟩ rfl (fun _ _ _ _ h => h) (by intro _; exact Run.fieldAddr T.fld_89_1 rfl) ?_)); all_goals ((refine Goal.takeP (listed' := #[Ya,Ya,Ya,No,Ya,No,No,No,No,No,No,No,No,No]) 4 ⟨rfl, by kernel_rfl, by kernel_rfl, by kernel_rfl, by kernel_rfl⟩ rfl (fun _ _ _ _ h => h) (by intro _; exact Run.move rfl) ?_)); all_goals ((refine Goal.takeP (listed' := #[Ya,Ya,Ya,No,Ya,Ya,No,No,No,No,No,No,No,No]) 5 ⟨rfl, by kernel_rfl, by kernel_rfl, by kernel_rfl, by kernel_rfl⟩ rfl (fun _ _ _ _ h => h) (by intro _; exact Run.move rfl) ?_)); all_goals ((refine Goal.takeP (listed' := #[Ya,Ya,Ya,No,Ya,Ya,Ya,No,No,No,No,No,No,No]) 6 ⟨rfl, by kernel_rfl, by kernel_rfl, by kernel_rfl, by kernel_rfl⟩ rfl (fun _ _ _ _ h => h) (by intro _; exact Run.nilCheckP rfl) ?_)); all_goals ((refine Goal.takeP (listed' := #[Ya,Ya,Ya,No,Ya,Ya,Ya,Ya,No,No,No,No,No,No]) 7 ⟨rfl, by kernel_rfl, by kernel_rfl, by kernel_rfl, by kernel_rfl⟩ rfl (fun _ _ _ _ h => h) (by intro _; exact Run.fieldAddr T.fld_89_0 rfl) ?_)); all_goals ((refine Goal.takeP (listed' := #[Ya,Ya,Ya,No,Ya,Ya,Ya,Ya,No,Ya,No,No,No,No]) 9 ⟨rfl, by kernel_rfl, by kernel_rfl, by kernel_rfl, by kernel_rfl⟩ rfl (fun _ _ _ _ h => h) (by intro _; exact Run.move rfl) ?_)); all_goals ((refine Goal.take (listed' := #[Ya,Ya,Ya,Ya,Ya,Ya,Ya,Ya,No,Ya,No,No,No,No]) 3 ⟨rfl, by kernel_rfl, by kernel_rfl, by kernel_rfl, by kernel_rfl, by kernel_rfl⟩ rfl (by (first | exact s0 | exact s1 | exact s2 | exact s3 | exact sd | exact sa | exact sn (by simp))) (fun _ _ _ _ h => h) (by (apply Run.load; exact rfl; first | exact LoadOK.iaR T.one_3 3 rfl (by omega) | exact LoadOK.one T.one_30 0 rfl rfl | exact LoadOK.one T.one_30 1 rfl rfl | exact LoadOK.one T.one_30 2 rfl rfl | exact LoadOK.one T.one_30 3 rfl rfl | exact LoadOK.one T.one_30 4 rfl rfl)) ?_)); all_goals ((refine Goal.take (listed' := #[Ya,Ya,Ya,Ya,Ya,Ya,Ya,Ya,Ya,Ya,No,No,No,No]) 8 ⟨rfl, by kernel_rfl, by kernel_rfl, by kernel_rfl, by kernel_rfl, by kernel_rfl⟩ rfl (by (first | exact s0 | exact s1 | exact s2 | exact s3 | exact sd | exact sa | exact sn (by simp))) (fun _ _ _ _ h => h) (by (apply Run.load; exact rfl; first | exact LoadOK.iaR T.one_3 3 rfl (by omega) | exact LoadOK.one T.one_30 0 rfl rfl | exact LoadOK.one T.one_30 1 rfl rfl | exact LoadOK.one T.one_30 2 rfl rfl | exact LoadOK.one T.one_30 3 rfl rfl | exact LoadOK.one T.one_30 4 rfl rfl)) ?_)); all_goals ((refine Goal.takeP (listed' := #[Ya,Ya,Ya,Ya,Ya,Ya,Ya,Ya,Ya,Ya,Ya,No,No,No]) 10 ⟨rfl, by kernel_rfl, by kernel_rfl, by kernel_rfl, by kernel_rfl⟩ rfl (fun _ _ _ _ h => h) (by intro _; first | exact Run.indexAddr1 T.slc_30 T.sz_3 rfl rfl rfl (by omega) | exact Run.indexAddr1 T.slc_30 T.sz_3 rfl rfl (Int.toNat_of_nonneg (by omega)).symm (by omega)) ?_)); all_goals (refine Goal.ready1 (i := 11) (by kernel_rfl) ?_); all_goals ((refine Goal.up (i := 11) (listed' := #[Ya,Ya,Ya,Ya,Ya,Ya,Ya,Ya,Ya,Ya,Ya,Ya,No,No]) rfl (by kernel_rfl) ?_; (first | refine Loud.store2 rfl rfl T.sz_3 rfl rfl rfl (by rw [List.size_toArray, ints_len]; omega) (wr_ints (by omega)) ?_ | refine Loud.store1 rfl rfl T.sz_3 rfl rfl rfl (by rw [List.size_toArray, ints_len]; omega) (wr_ints (by omega)) ?_ | refine Loud.store0 rfl rfl T.sz_3 rfl rfl rfl (by first | exact Nat.le_of_ble_eq_true rfl | exact Nat.le_refl _ | decide | (simp; omega)) rfl ?_ | refine Loud.store1 rfl rfl T.sz_3 rfl rfl rfl (by first | exact Nat.le_of_ble_eq_true rfl | exact Nat.le_refl _ | decide | (simp; omega)) rfl ?_ | refine Loud.store2 rfl rfl T.sz_3 rfl rfl rfl (by first | exact Nat.le_of_ble_eq_true rfl | exact Nat.le_refl _ | decide | (simp; omega)) rfl ?_ | refine Loud.store3 rfl rfl T.sz_3 rfl rfl rfl (by first | exact Nat.le_of_ble_eq_true rfl | exact Nat.le_refl _ | decide | (simp; omega)) rfl ?_ | refine Loud.store4 rfl rfl T.sz_3 rfl rfl rfl (by first | exact Nat.le_of_ble_eq_true rfl | exact Nat.le_refl _ | decide | (simp; omega)) rfl ?_); first | refine Goal.tail rfl ?_ | refine Goal.kept (by (first | exact s0 | exact s1 | exact s2 | exact s3 | exact sd | exact sa | exact sn (by simp))) ?_)); all_goals ((refine Goal.takeP (listed' := #[Ya,Ya,Ya,Ya,Ya,Ya,Ya,Ya,Ya,Ya,Ya,Ya,Ya,No]) 12 ⟨rfl, by kernel_rfl, by kernel_rfl, by kernel_rfl, by kernel_rfl⟩ rfl (fun _ _ _ _ h => h) (by intro _; first | exact Run.indexAddr1 T.slc_30 T.sz_3 rfl rfl rfl (by omega) | exact Run.indexAddr1 T.slc_30 T.sz_3 rfl rfl (Int.toNat_of_nonneg (by omega)).symm (by omega)) ?_)); all_goals (refine Goal.ready1 (i := 13) (by kernel_rfl) ?_); all_goals ((refine Goal.up (i := 13) (listed' := #[Ya,Ya,Ya,Ya,Ya,Ya,Ya,Ya,Ya,Ya,Ya,Ya,Ya,Ya]) rfl (by kernel_rfl) ?_; (first | refine Loud.store2 rfl rfl T.sz_3 rfl rfl rfl (by rw [List.size_toArray, ints_len]; omega) (wr_ints (by omega)) ?_ | refine Loud.store1 rfl rfl T.sz_3 rfl rfl rfl (by rw [List.size_toArray, ints_len]; omega) (wr_ints (by omega)) ?_ | refine Loud.store0 rfl rfl T.sz_3 rfl rfl rfl (by first | exact Nat.le_of_ble_eq_true rfl | exact Nat.le_refl _ | decide | (simp; omega)) rfl ?_ | refine Loud.store1 rfl rfl T.sz_3 rfl rfl rfl (by first | exact Nat.le_of_ble_eq_true rfl | exact Nat.le_refl _ | decide | (simp; omega)) rfl ?_ | refine Loud.store2 rfl rfl T.sz_3 rfl rfl rfl (by first | exact Nat.le_of_ble_eq_true rfl | exact Nat.le_refl _ | decide | (simp; omega)) rfl ?_ | refine Loud.store3 rfl rfl T.sz_3 rfl rfl rfl (by first | exact Nat.le_of_ble_eq_true rfl | exact Nat.le_refl _ | decide | (simp; omega)) rfl ?_ | refine Loud.store4 rfl rfl T.sz_3 rfl rfl rfl (by first | exact Nat.le_of_ble_eq_true rfl | exact Nat.le_refl _ | decide | (simp; omega)) rfl ?_); first | refine Goal.tail rfl ?_ | refine Goal.kept (by (first | exact s0 | exact s1 | exact s2 | exact s3 | exact sd | exact sa | exact sn (by simp))) ?_)); all_goals (refine Goal.allUp (by kernel_rfl) ?_))
    | (refine Goal.loud (o := ⟨some 22, _, _, _, _, _⟩) rfl ?_; refine Loud.callM [] (swap_ok hI.hK hI.hP rfl p ((O.length : Int) - 1) hp hla hl b1 b2) rfl rfl rfl rfl T.bod_92 (fun _ h => h) ?_; rintro ⟨⟩ -; dsimp only [HL, List.nil_append, List.cons_append]; rw [hsplit])
    | (refine Goal.loud (o := ⟨some 49, _, _, _, _, _⟩) rfl ?_; refine Loud.callM [] (settle_ok t1 rfl (by omega) p (by omega) (by rw [hcast]; exact hup)) rfl rfl rfl rfl T.bod_89 (fun _ h => h) ?_; rintro ⟨Pl2, O2⟩ ⟨s1, s2, s3, s4⟩; dsimp only at s1 s2 s3 s4 ⊢)
    | (refine Goal.quiet rfl (Run.sliceH T.slc_30 T.sz_3 rfl rfl (tkO O p).length (by omega) (by omega)) ?_)
    | (apply G.move; exact rfl; exact rfl)
    | (apply G.assign; exact rfl; exact rfl)
    | refine Goal.seq (fun _ _ => ?_)
    | refine Goal.next (by assumption) ?_
    | refine Goal.lnil ?_
    | refine Goal.region ?_
    | refine Goal.skip ?_
    | refine Goal.block ?_
    | refine Goal.exit ?_
    | refine Goal.ret ?_
    | refine Goal.then_exit ?_
    | refine Goal.then_ret ?_
    | refine Goal.inBlock_exit ?_
    | refine Goal.inBlock_normal ?_
    | refine Goal.inBlock_ret ?_
    | refine Goal.inBlock_other rfl ?_
    | (apply Goal.condT; exact rfl)
    | (apply Goal.condF; exact rfl)
    | (refine Goal.condD rfl (fun hc => ?_) (fun hc => ?_) <;> first | (exfalso; omega) | contradiction | skip)
    | refine Goal.condB rfl (fun hc => ?_) (fun hc => ?_)
    | (apply G.fieldAddr; exact rfl; exact rfl; (first | exact T.fld_89_0 | exact T.fld_89_1 | exact T.fld_89_2))
    | (apply G.load; exact rfl; exact rfl; first | exact LoadOK.iaR T.one_3 3 rfl (by omega) | exact LoadOK.one (by first | exact T.one_3 | exact T.one_30) 0 rfl rfl | exact LoadOK.one (by first | exact T.one_3 | exact T.one_30) 1 rfl rfl | exact LoadOK.one (by first | exact T.one_3 | exact T.one_30) 2 rfl rfl | exact LoadOK.one (by first | exact T.one_3 | exact T.one_30) 3 rfl rfl | exact LoadOK.one (by first | exact T.one_3 | exact T.one_30) 4 rfl rfl)
    | (apply G.lss; exact rfl; exact rfl; exact rfl)
    | (apply G.sub; exact rfl; exact rfl; exact rfl; exact IntWalk.i64_in _ (by omega))
    | (apply G.len; exact rfl; exact rfl; exact T.slc_30)
    | (apply G.nilCheckP; exact rfl; exact rfl)
    | (refine Goal.quiet rfl (Run.sliceH T.slc_30 T.sz_3 rfl rfl _ rfl (by omega)) ?_)
    | (refine Goal.quiet rfl (Run.sliceH T.slc_30 T.sz_3 rfl rfl _ (Int.toNat_of_nonneg (by omega)).symm (by omega)) ?_)
    | (refine G.indexAddr1 rfl T.slc_30 T.sz_3 rfl rfl _ rfl (by omega) ?_)
    | (refine G.indexAddr1 rfl T.slc_30 T.sz_3 rfl rfl _ (Int.toNat_of_nonneg (by omega)).symm (by omega) ?_)
    | (refine Goal.loud rfl ?_; refine Loud.store2 rfl rfl T.sz_3 rfl rfl rfl (by rw [List.size_toArray, ints_len]; omega) (wr_ints (by omega)) ?_)
    | (refine Goal.loud rfl ?_; refine Loud.store1 rfl rfl T.sz_3 rfl rfl rfl (by rw [List.size_toArray, ints_len]; omega) (wr_ints (by omega)) ?_)
    | (refine Goal.loud rfl ?_; refine Loud.store0 rfl rfl (by first | exact T.sz_3 | exact T.sz_30) rfl rfl rfl (by first | exact Nat.le_of_ble_eq_true rfl | exact Nat.le_refl _ | decide | (simp; omega)) rfl ?_)
    | (refine Goal.loud rfl ?_; refine Loud.store1 rfl rfl (by first | exact T.sz_3 | exact T.sz_30) rfl rfl rfl (by first | exact Nat.le_of_ble_eq_true rfl | exact Nat.le_refl _ | decide | (simp; omega)) rfl ?_)
    | (refine Goal.loud rfl ?_; refine Loud.store2 rfl rfl (by first | exact T.sz_3 | exact T.sz_30) rfl rfl rfl (by first | exact Nat.le_of_ble_eq_true rfl | exact Nat.le_refl _ | decide | (simp; omega)) rfl ?_)
    | (refine Goal.loud rfl ?_; refine Loud.store3 rfl rfl (by first | exact T.sz_3 | exact T.sz_30) rfl rfl rfl (by first | exact Nat.le_of_ble_eq_true rfl | exact Nat.le_refl _ | decide | (simp; omega)) rfl ?_)
    | (refine Goal.loud rfl ?_; refine Loud.store4 rfl rfl (by first | exact T.sz_3 | exact T.sz_30) rfl rfl rfl (by first | exact Nat.le_of_ble_eq_true rfl | exact Nat.le_refl _ | decide | (simp; omega)) rfl ?_))
  · refine Goal.done (vs := []) (by first | exact .inl rfl | exact .inr rfl) Try.results90 trivial rfl (fun w' H => ⟨⟨tkK K O p, Pl2, O2, R⟩, ⟨s1, by dsimp only; omega, by dsimp only; omega, by rw [s2]; exact s3, rfl, s4⟩, rfl, by rw [s2]; exact H⟩)
  · refine Goal.done (vs := []) (by first | exact .inl rfl | exact .inr rfl) Try.results90 trivial rfl (fun w' H => ⟨⟨tkK K O p, tkP Pl O p, tkO O p, R⟩, ⟨t1, by dsimp only; omega, by dsimp only; omega, by dsimp only; rw [hcast]; exact hI.take_hord hH hp (by omega), rfl, fun _ _ _ => Iff.rfl⟩, rfl, H⟩)
end
end Go.Proofs.Ytldoplehchngfaa
