/- The queue of events: its functions by the events that it holds. -/
import Derived.Test.YtcekjnfdgbeekaaEvI
namespace Go.Proofs.Ytcekjnfdgbeekaa
open Go.Wf
set_option linter.unusedVariables false
def addErr (n : Nat) (now time : Int) : Int := if time < 0 ∨ 1073741824 < time then 1 else if time < now then 7 else if 65536 ≤ n then 6 else 0
def rep0 : Rep := ⟨0, 0, fun _ => none, [], [], fun _ => none, fun _ => none, 0, 0⟩
theorem inv0 : QInv [] none rep0 := by
  refine ⟨by simp, by simp, by decide, ?_, ?_, ?_, fun _ => rfl, rfl, by simp [rep0], ?_, ?_, ?_, rfl, by decide⟩ <;> intro a b
  all_goals first | (intro c; simp [rep0] at b c; done) | (simp [rep0] at b; done) | (simp [rep0, slotOf]; done) | skip
  all_goals (intro c d; simp [rep0] at c d)
  all_goals omega
structure FQ where
  (k d : Int) (ok : Bool) (A : List Blk)
/-- What Next and Peek are to say of the events. -/
def FirstQ (E : List Evt) (k d : Int) (ok : Bool) (p : List Evt → Int → Prop) (p0 : Prop) : Prop :=
  (ok = false ∧ k = 0 ∧ d = 0 ∧ E = [] ∧ p0) ∨ (ok = true ∧ ∃ E1 e E2, IsFirst E E1 e E2 ∧ k = e.time ∧ d = e.data ∧ p (E1 ++ E2) e.time)
section
variable {bq : Nat} {A : List Blk} {E : List Evt} {now last : Int}
theorem QM.few (h : QM bq E now last A) : E.length ≤ 65536 ∧ 0 ≤ last ∧ ∀ e ∈ E, 1 ≤ e.id ∧ e.id ≤ last := by
  rcases h with ⟨rfl, rfl, rfl, _⟩ | ⟨q, hQ, rfl, rfl, hE, _⟩
  · simp
  · exact ⟨hE, hQ.last, hQ.ids⟩
theorem add_tailQ {q : Rep} (hA : EvM bq q A) (hQ : QInv E none q) (hE : E.length < 65536) (time data : Int) (ht : (0 ≤ time ∧ time ≤ 1073741824) ∧ q.now ≤ time) (hl : q.last ≤ 1099511627776) (w : World) (S : List Nat) (R : Ending → World → Prop)
    (hR : ∀ A' w', QM bq (E ++ [⟨q.last + 1, time, data⟩]) q.now (q.last + 1) A' → St w S w' A' → R (.returned (.tuple #[.int .i64 (q.last + 1), .int .i64 0])) w') :
    Goal 105 w S [(0, .pointer (some ⟨bq, 0, none⟩)), (1, .int .i64 time), (2, .int .i64 data)] A (CW Try.prog (bodyPost Try.prog Try.f11 R) (cdrs 6 (Try.f11.body.getD .skip))) := by
  obtain ⟨o1, o2, o3, o4, o5⟩ := opened_inv hQ hE time
  obtain ⟨s1, s2, _⟩ := o1.slot _ _ o2
  have hul := hQ.un_len
  have hll := hQ.len
  refine add_tail hA time data ht (by rw [hQ.ni]; omega) ⟨hQ.last, hl⟩ ?_ ⟨s1, s2⟩ (by omega) o5 (fun l hl => by have := o1.list_len l hl; omega) w S R fun A' w' hA' H => hR A' w' (.inr ⟨added (opened q time).1 (opened q time).2 time data, ?_, o4, ?_, by simp; omega, hA'⟩) H
  · rw [hQ.fi, find_none (fun x hx => by have := hQ.ids x hx; omega)]
    rfl
  · rw [← o3]
    exact added_inv o1 o2 data
  · unfold added
    dsimp only
    rw [o3]
theorem ret_tuple2 {a b c d : Value} (h1 : a = c) (h2 : b = d) : Ending.returned (.tuple #[a, b]) = .returned (.tuple #[c, d]) := by rw [h1, h2]
theorem St.made {w0 w : World} {S : List Nat} {X Y Z : Blk} {R : List Blk} (h : St w0 S w (Y :: X :: Z :: R)) : St w0 S w (Z :: X :: Y :: R) := h.perm (by
  refine List.Perm.trans (.swap _ _ _) (List.Perm.trans (.cons _ (.swap _ _ _)) (.swap _ _ _))
  )
theorem first_fresh (bq : Nat) : MCalls Try.prog 23 [.pointer (some ⟨bq, 0, none⟩)] [(bq, .cells #[.int .i64 0, .int .i64 0, .pointer none, .slice none 0 0, .slice none 0 0, .map none, .map none] 56)] (fun _ : Unit => True) (fun _ => .tuple #[.int .i64 0, .int .i64 0, .bool false])
    (fun _ => [(bq, .cells #[.int .i64 0, .int .i64 0, .pointer none, .slice none 0 0, .slice none 0 0, .map none, .map none] 56)]) := .mk fun w hw => by
  refine Goal.enter (args := [.pointer (some ⟨bq, 0, none⟩)]) Try.func23 rfl Try.ntmps23 rfl (hw) ?_
  repeat' (first
    | (refine Goal.loud (o := ⟨some 10, _, _, _, _, _⟩) rfl ?_; apply Loud.call0; exact rfl; exact rfl; exact rfl; exact rfl; exact T.bod_30; exact (fun w H => pop_nil w))
    | (apply G.move; exact rfl; exact rfl)
    | (apply G.assign; exact rfl; exact rfl)
    | refine Goal.seq (fun _ _ => ?_)
    | refine Goal.next (by assumption) ?_
    | refine Goal.lnil ?_
    | refine Goal.region ?_
    | refine Goal.skip ?_
    | refine Goal.block ?_
    | refine Goal.exit ?_
    | refine Goal.ret ?_
    | refine Goal.then_exit ?_
    | refine Goal.then_ret ?_
    | refine Goal.inBlock_exit ?_
    | refine Goal.inBlock_normal ?_
    | refine Goal.inBlock_ret ?_
    | refine Goal.inBlock_other rfl ?_
    | (apply Goal.condT; exact rfl)
    | (apply Goal.condF; exact rfl)
    | (refine Goal.condD rfl (fun hc => ?_) (fun hc => ?_) <;> first | (exfalso; omega) | contradiction | skip)
    | refine Goal.condB rfl (fun hc => ?_) (fun hc => ?_)
    | (apply G.fieldAddr; exact rfl; exact rfl; exact T.fld_56_2)
    | (apply G.load; exact rfl; exact rfl; first | exact LoadOK.one T.one_52 0 rfl rfl | exact LoadOK.one T.one_52 1 rfl rfl | exact LoadOK.one T.one_52 2 rfl rfl | exact LoadOK.one T.one_52 3 rfl rfl | exact LoadOK.one T.one_52 4 rfl rfl | exact LoadOK.one T.one_52 5 rfl rfl | exact LoadOK.one T.one_52 6 rfl rfl | exact LoadOK.one T.one_52 7 rfl rfl)
    | (apply G.extract; exact rfl; exact rfl; exact rfl)
    | (apply G.nilCheckP; exact rfl; exact rfl))
  refine Goal.done (vs := [_, _, _]) (by first | exact .inl rfl | exact .inr rfl) Try.results23 ⟨rfl, rfl, rfl, trivial⟩ rfl (fun w' H => ⟨(), trivial, rfl, H⟩)
set_option maxHeartbeats 8000000 in
theorem addQ (hA : QM bq E now last A) (time data : Int) (hl : last ≤ 1099511627776) :
    MCalls Try.prog 11 [.pointer (some ⟨bq, 0, none⟩), .int .i64 time, .int .i64 data] A
      (fun A' : List Blk => QM bq (if addErr E.length now time = 0 then E ++ [⟨last + 1, time, data⟩] else E) now (if addErr E.length now time = 0 then last + 1 else last) A')
      (fun _ => .tuple #[.int .i64 (if addErr E.length now time = 0 then last + 1 else 0), .int .i64 (addErr E.length now time)]) (fun A' => A') := .mk fun w hw => by
  have hA0 := hA
  have hfew := hA.few
  rcases hA with ⟨rfl, rfl, rfl, rfl⟩ | ⟨q, hQ, rfl, rfl, hE, hA⟩
  · by_cases ht : 0 ≤ time ∧ time ≤ 1073741824
    · have he : addErr 0 0 time = 0 := by unfold addErr; rw [if_neg (by omega), if_neg (by omega), if_neg (by omega)]
      rw [List.length_nil, he]
      simp only [if_true]
      refine Goal.enter (args := [.pointer (some ⟨bq, 0, none⟩), .int .i64 time, .int .i64 data]) Try.func11 rfl Try.ntmps11 rfl (hw) ?_
      repeat' (first
        | (refine Goal.loud (o := ⟨some 37, _, _, _, _, _⟩) rfl ?_; apply Loud.callN; exact rfl; exact rfl; exact rfl; exact rfl; exact T.bod_21; exact (fun w H => new_ok 65536 (by decide) w); rintro ⟨bh, bk, bp, A1⟩ h1; dsimp only at h1 ⊢)
        | (refine Goal.loud (o := ⟨some 44, _, _, _, _, _⟩) rfl ?_; refine Loud.makeMap rfl (fun b44 => ?_))
        | (refine Goal.loud (o := ⟨some 45, _, _, _, _, _⟩) rfl ?_; refine Loud.makeMap rfl (fun b45 => ?_))
        | (refine Goal.subF (F' := [(0, .pointer (some ⟨bq, 0, none⟩)), (1, .int .i64 time), (2, .int .i64 data)]) ⟨rfl, rfl, rfl, trivial⟩ (Goal.subL (fun _ h => St.made h) (add_tailQ (q := rep0) (E := []) ⟨b44, b45, 0, 0, bh, bk, bp, [], [], .slice none 0 0, .slice none 0 0, [], [], [], [], A1, rfl, Sl.nil _ 1, Sl.nil _ 1, Inn.nil, h1, MapA.zero, MapA.zero⟩ inv0 (by decide) time data ⟨ht, ht.1⟩ (by decide) w _ _ (fun A' w' a b => ⟨A', a, rfl, b⟩))))
        | (apply G.move; exact rfl; exact rfl)
        | (apply G.assign; exact rfl; exact rfl)
        | refine Goal.seq (fun _ _ => ?_)
        | refine Goal.next (by assumption) ?_
        | refine Goal.lnil ?_
        | refine Goal.region ?_
        | refine Goal.skip ?_
        | refine Goal.block ?_
        | refine Goal.exit ?_
        | refine Goal.ret ?_
        | refine Goal.then_exit ?_
        | refine Goal.then_ret ?_
        | refine Goal.inBlock_exit ?_
        | refine Goal.inBlock_normal ?_
        | refine Goal.inBlock_ret ?_
        | refine Goal.inBlock_other rfl ?_
        | (apply Goal.condT; exact rfl)
        | (apply Goal.condF; exact rfl)
        | (refine Goal.condD rfl (fun hc => ?_) (fun hc => ?_) <;> first | (exfalso; omega) | contradiction | skip)
        | refine Goal.condB rfl (fun hc => ?_) (fun hc => ?_)
        | refine Goal.guardT rfl rfl ?_
        | refine Goal.guardF rfl rfl rfl rfl ?_
        | refine Goal.guardU rfl rfl rfl ?_
        | (refine Goal.guardD rfl rfl (fun hc => ?_) (fun hc => ?_) <;> first | (exfalso; omega) | contradiction | skip)
        | refine Goal.guardB rfl rfl (fun hc => ?_) (fun hc => ?_)
        | (apply G.fieldAddr; exact rfl; exact rfl; (first | exact T.fld_56_0 | exact T.fld_56_1 | exact T.fld_56_2 | exact T.fld_56_3 | exact T.fld_56_5 | exact T.fld_56_6))
        | (apply G.load; exact rfl; exact rfl; first | exact LoadOK.one (by first | exact T.one_3 | exact T.one_52 | exact T.one_53 | exact T.one_54 | exact T.one_60) 0 rfl rfl | exact LoadOK.one (by first | exact T.one_3 | exact T.one_52 | exact T.one_53 | exact T.one_54 | exact T.one_60) 1 rfl rfl | exact LoadOK.one (by first | exact T.one_3 | exact T.one_52 | exact T.one_53 | exact T.one_54 | exact T.one_60) 2 rfl rfl | exact LoadOK.one (by first | exact T.one_3 | exact T.one_52 | exact T.one_53 | exact T.one_54 | exact T.one_60) 3 rfl rfl | exact LoadOK.one (by first | exact T.one_3 | exact T.one_52 | exact T.one_53 | exact T.one_54 | exact T.one_60) 4 rfl rfl | exact LoadOK.one (by first | exact T.one_3 | exact T.one_52 | exact T.one_53 | exact T.one_54 | exact T.one_60) 5 rfl rfl | exact LoadOK.one (by first | exact T.one_3 | exact T.one_52 | exact T.one_53 | exact T.one_54 | exact T.one_60) 6 rfl rfl | exact LoadOK.one (by first | exact T.one_3 | exact T.one_52 | exact T.one_53 | exact T.one_54 | exact T.one_60) 7 rfl rfl)
        | (apply G.pickT; exact rfl; exact rfl; exact rfl)
        | (apply G.pickF; exact rfl; exact rfl; exact rfl)
        | (apply G.lss; exact rfl; exact rfl; exact rfl)
        | (apply G.gtr; exact rfl; exact rfl; exact rfl)
        | (apply G.geq; exact rfl; exact rfl; exact rfl)
        | (apply G.eql; exact rfl; exact rfl; exact rfl)
        | (apply G.add; exact rfl; exact rfl; exact rfl; first | exact IntWalk.i64_in _ (by omega) | exact IntWalk.u8_in _ (by omega) | exact IntWalk.u16_in _ (by omega) | exact IntWalk.u32_in _ (by omega) | exact IntWalk.u64_in _ (by omega))
        | (refine Goal.quiet rfl (Run.eqlP (by first | exact T.ptr_24 | exact T.ptr_52) rfl rfl rfl) ?_)
        | (apply G.notT; exact rfl; exact rfl)
        | (apply G.notF; exact rfl; exact rfl)
        | (refine G.notD rfl rfl ?_)
        | (apply G.notB; exact rfl; exact rfl)
        | (apply G.extract; exact rfl; exact rfl; exact rfl)
        | (apply G.build (cs := [_, _]); exact rfl; exact T.lay_62; exact rfl; exact rfl)
        | (refine Goal.quiet rfl (Run.lenM 0 T.map_54 rfl rfl) ?_)
        | (refine Goal.quiet rfl (Run.lenM 1 T.map_54 rfl rfl) ?_)
        | (refine Goal.quiet rfl (Run.lenM 2 T.map_54 rfl rfl) ?_)
        | (refine Goal.quiet rfl (Run.lenM 3 T.map_54 rfl rfl) ?_)
        | (refine Goal.quiet rfl (Run.lenM 4 T.map_54 rfl rfl) ?_)
        | (refine Goal.quiet rfl (Run.lenM0 T.map_54 rfl) ?_)
        | (refine Goal.quiet rfl (Run.lookII 0 T.map_54 rfl rfl rfl) ?_)
        | (refine Goal.quiet rfl (Run.lookI 0 T.map_54 rfl rfl rfl) ?_)
        | (refine Goal.quiet rfl (Run.lookII 1 T.map_54 rfl rfl rfl) ?_)
        | (refine Goal.quiet rfl (Run.lookI 1 T.map_54 rfl rfl rfl) ?_)
        | (refine Goal.quiet rfl (Run.lookII 2 T.map_54 rfl rfl rfl) ?_)
        | (refine Goal.quiet rfl (Run.lookI 2 T.map_54 rfl rfl rfl) ?_)
        | (refine Goal.quiet rfl (Run.lookII 3 T.map_54 rfl rfl rfl) ?_)
        | (refine Goal.quiet rfl (Run.lookI 3 T.map_54 rfl rfl rfl) ?_)
        | (refine Goal.quiet rfl (Run.lookII 4 T.map_54 rfl rfl rfl) ?_)
        | (refine Goal.quiet rfl (Run.lookI 4 T.map_54 rfl rfl rfl) ?_)
        | (refine Goal.quiet rfl (Run.lookNone T.map_54 rfl rfl) ?_)
        | (refine Goal.loud rfl ?_; refine Loud.putI0 T.map_54 rfl rfl rfl ?_)
        | (refine Goal.loud rfl ?_; refine Loud.putI1 T.map_54 rfl rfl rfl ?_)
        | (refine Goal.loud rfl ?_; refine Loud.putI2 T.map_54 rfl rfl rfl ?_)
        | (refine Goal.loud rfl ?_; refine Loud.putI3 T.map_54 rfl rfl rfl ?_)
        | (refine Goal.loud rfl ?_; refine Loud.putI4 T.map_54 rfl rfl rfl ?_)
        | (apply G.nilCheckP; exact rfl; exact rfl)
        | (refine G.indexAddr1 rfl T.slc_53 T.sz_60 rfl rfl _ rfl (by omega) ?_)
        | (refine G.indexAddr1 rfl T.slc_53 T.sz_60 rfl rfl _ (Int.toNat_of_nonneg (by omega)).symm (by omega) ?_)
        | (refine Goal.loud rfl ?_; refine Loud.store0 rfl rfl (by first | exact T.sz_3 | exact T.sz_52 | exact T.sz_54 | exact T.sz_60) rfl rfl rfl (by first | exact Nat.le_of_ble_eq_true rfl | exact Nat.le_refl _ | decide | (simp; omega)) rfl ?_)
        | (refine Goal.loud rfl ?_; refine Loud.store1 rfl rfl (by first | exact T.sz_3 | exact T.sz_52 | exact T.sz_54 | exact T.sz_60) rfl rfl rfl (by first | exact Nat.le_of_ble_eq_true rfl | exact Nat.le_refl _ | decide | (simp; omega)) rfl ?_)
        | (refine Goal.loud rfl ?_; refine Loud.store2 rfl rfl (by first | exact T.sz_3 | exact T.sz_52 | exact T.sz_54 | exact T.sz_60) rfl rfl rfl (by first | exact Nat.le_of_ble_eq_true rfl | exact Nat.le_refl _ | decide | (simp; omega)) rfl ?_)
        | (refine Goal.loud rfl ?_; refine Loud.store3 rfl rfl (by first | exact T.sz_3 | exact T.sz_52 | exact T.sz_54 | exact T.sz_60) rfl rfl rfl (by first | exact Nat.le_of_ble_eq_true rfl | exact Nat.le_refl _ | decide | (simp; omega)) rfl ?_)
        | (refine Goal.loud rfl ?_; refine Loud.store4 rfl rfl (by first | exact T.sz_3 | exact T.sz_52 | exact T.sz_54 | exact T.sz_60) rfl rfl rfl (by first | exact Nat.le_of_ble_eq_true rfl | exact Nat.le_refl _ | decide | (simp; omega)) rfl ?_)
        | (refine Goal.loud rfl ?_; refine Loud.store5 rfl rfl (by first | exact T.sz_3 | exact T.sz_52 | exact T.sz_54 | exact T.sz_60) rfl rfl rfl (by first | exact Nat.le_of_ble_eq_true rfl | exact Nat.le_refl _ | decide | (simp; omega)) rfl ?_)
        | (refine Goal.loud rfl ?_; refine Loud.store6 rfl rfl (by first | exact T.sz_3 | exact T.sz_52 | exact T.sz_54 | exact T.sz_60) rfl rfl rfl (by first | exact Nat.le_of_ble_eq_true rfl | exact Nat.le_refl _ | decide | (simp; omega)) rfl ?_)
        | (refine Goal.loud rfl ?_; refine Loud.store7 rfl rfl (by first | exact T.sz_3 | exact T.sz_52 | exact T.sz_54 | exact T.sz_60) rfl rfl rfl (by first | exact Nat.le_of_ble_eq_true rfl | exact Nat.le_refl _ | decide | (simp; omega)) rfl ?_))
    · have he : addErr 0 0 time = 1 := by unfold addErr; rw [if_pos (by omega)]
      rw [List.length_nil, he]
      refine Goal.enter (args := [.pointer (some ⟨bq, 0, none⟩), .int .i64 time, .int .i64 data]) Try.func11 rfl Try.ntmps11 rfl (hw) ?_
      repeat' (first
        | (refine Goal.loud (o := ⟨some 44, _, _, _, _, _⟩) rfl ?_; refine Loud.makeMap rfl (fun b44 => ?_))
        | (refine Goal.loud (o := ⟨some 45, _, _, _, _, _⟩) rfl ?_; refine Loud.makeMap rfl (fun b45 => ?_))
        | (apply G.move; exact rfl; exact rfl)
        | (apply G.assign; exact rfl; exact rfl)
        | refine Goal.seq (fun _ _ => ?_)
        | refine Goal.next (by assumption) ?_
        | refine Goal.lnil ?_
        | refine Goal.region ?_
        | refine Goal.skip ?_
        | refine Goal.block ?_
        | refine Goal.exit ?_
        | refine Goal.ret ?_
        | refine Goal.then_exit ?_
        | refine Goal.then_ret ?_
        | refine Goal.inBlock_exit ?_
        | refine Goal.inBlock_normal ?_
        | refine Goal.inBlock_ret ?_
        | refine Goal.inBlock_other rfl ?_
        | (apply Goal.condT; exact rfl)
        | (apply Goal.condF; exact rfl)
        | (refine Goal.condD rfl (fun hc => ?_) (fun hc => ?_) <;> first | (exfalso; omega) | contradiction | skip)
        | refine Goal.condB rfl (fun hc => ?_) (fun hc => ?_)
        | refine Goal.guardT rfl rfl ?_
        | refine Goal.guardF rfl rfl rfl rfl ?_
        | refine Goal.guardU rfl rfl rfl ?_
        | (refine Goal.guardD rfl rfl (fun hc => ?_) (fun hc => ?_) <;> first | (exfalso; omega) | contradiction | skip)
        | refine Goal.guardB rfl rfl (fun hc => ?_) (fun hc => ?_)
        | (apply G.fieldAddr; exact rfl; exact rfl; (first | exact T.fld_56_0 | exact T.fld_56_1 | exact T.fld_56_2 | exact T.fld_56_3 | exact T.fld_56_5 | exact T.fld_56_6))
        | (apply G.load; exact rfl; exact rfl; first | exact LoadOK.one (by first | exact T.one_3 | exact T.one_52 | exact T.one_53 | exact T.one_54 | exact T.one_60) 0 rfl rfl | exact LoadOK.one (by first | exact T.one_3 | exact T.one_52 | exact T.one_53 | exact T.one_54 | exact T.one_60) 1 rfl rfl | exact LoadOK.one (by first | exact T.one_3 | exact T.one_52 | exact T.one_53 | exact T.one_54 | exact T.one_60) 2 rfl rfl | exact LoadOK.one (by first | exact T.one_3 | exact T.one_52 | exact T.one_53 | exact T.one_54 | exact T.one_60) 3 rfl rfl | exact LoadOK.one (by first | exact T.one_3 | exact T.one_52 | exact T.one_53 | exact T.one_54 | exact T.one_60) 4 rfl rfl | exact LoadOK.one (by first | exact T.one_3 | exact T.one_52 | exact T.one_53 | exact T.one_54 | exact T.one_60) 5 rfl rfl | exact LoadOK.one (by first | exact T.one_3 | exact T.one_52 | exact T.one_53 | exact T.one_54 | exact T.one_60) 6 rfl rfl | exact LoadOK.one (by first | exact T.one_3 | exact T.one_52 | exact T.one_53 | exact T.one_54 | exact T.one_60) 7 rfl rfl)
        | (apply G.pickT; exact rfl; exact rfl; exact rfl)
        | (apply G.pickF; exact rfl; exact rfl; exact rfl)
        | (apply G.lss; exact rfl; exact rfl; exact rfl)
        | (apply G.gtr; exact rfl; exact rfl; exact rfl)
        | (apply G.geq; exact rfl; exact rfl; exact rfl)
        | (apply G.eql; exact rfl; exact rfl; exact rfl)
        | (apply G.add; exact rfl; exact rfl; exact rfl; first | exact IntWalk.i64_in _ (by omega) | exact IntWalk.u8_in _ (by omega) | exact IntWalk.u16_in _ (by omega) | exact IntWalk.u32_in _ (by omega) | exact IntWalk.u64_in _ (by omega))
        | (refine Goal.quiet rfl (Run.eqlP (by first | exact T.ptr_24 | exact T.ptr_52) rfl rfl rfl) ?_)
        | (apply G.notT; exact rfl; exact rfl)
        | (apply G.notF; exact rfl; exact rfl)
        | (refine G.notD rfl rfl ?_)
        | (apply G.notB; exact rfl; exact rfl)
        | (apply G.extract; exact rfl; exact rfl; exact rfl)
        | (apply G.build (cs := [_, _]); exact rfl; exact T.lay_62; exact rfl; exact rfl)
        | (refine Goal.quiet rfl (Run.lenM 0 T.map_54 rfl rfl) ?_)
        | (refine Goal.quiet rfl (Run.lenM 1 T.map_54 rfl rfl) ?_)
        | (refine Goal.quiet rfl (Run.lenM 2 T.map_54 rfl rfl) ?_)
        | (refine Goal.quiet rfl (Run.lenM 3 T.map_54 rfl rfl) ?_)
        | (refine Goal.quiet rfl (Run.lenM 4 T.map_54 rfl rfl) ?_)
        | (refine Goal.quiet rfl (Run.lenM0 T.map_54 rfl) ?_)
        | (refine Goal.quiet rfl (Run.lookII 0 T.map_54 rfl rfl rfl) ?_)
        | (refine Goal.quiet rfl (Run.lookI 0 T.map_54 rfl rfl rfl) ?_)
        | (refine Goal.quiet rfl (Run.lookII 1 T.map_54 rfl rfl rfl) ?_)
        | (refine Goal.quiet rfl (Run.lookI 1 T.map_54 rfl rfl rfl) ?_)
        | (refine Goal.quiet rfl (Run.lookII 2 T.map_54 rfl rfl rfl) ?_)
        | (refine Goal.quiet rfl (Run.lookI 2 T.map_54 rfl rfl rfl) ?_)
        | (refine Goal.quiet rfl (Run.lookII 3 T.map_54 rfl rfl rfl) ?_)
        | (refine Goal.quiet rfl (Run.lookI 3 T.map_54 rfl rfl rfl) ?_)
        | (refine Goal.quiet rfl (Run.lookII 4 T.map_54 rfl rfl rfl) ?_)
        | (refine Goal.quiet rfl (Run.lookI 4 T.map_54 rfl rfl rfl) ?_)
        | (refine Goal.quiet rfl (Run.lookNone T.map_54 rfl rfl) ?_)
        | (refine Goal.loud rfl ?_; refine Loud.putI0 T.map_54 rfl rfl rfl ?_)
        | (refine Goal.loud rfl ?_; refine Loud.putI1 T.map_54 rfl rfl rfl ?_)
        | (refine Goal.loud rfl ?_; refine Loud.putI2 T.map_54 rfl rfl rfl ?_)
        | (refine Goal.loud rfl ?_; refine Loud.putI3 T.map_54 rfl rfl rfl ?_)
        | (refine Goal.loud rfl ?_; refine Loud.putI4 T.map_54 rfl rfl rfl ?_)
        | (apply G.nilCheckP; exact rfl; exact rfl)
        | (refine G.indexAddr1 rfl T.slc_53 T.sz_60 rfl rfl _ rfl (by omega) ?_)
        | (refine G.indexAddr1 rfl T.slc_53 T.sz_60 rfl rfl _ (Int.toNat_of_nonneg (by omega)).symm (by omega) ?_)
        | (refine Goal.loud rfl ?_; refine Loud.store0 rfl rfl (by first | exact T.sz_3 | exact T.sz_52 | exact T.sz_54 | exact T.sz_60) rfl rfl rfl (by first | exact Nat.le_of_ble_eq_true rfl | exact Nat.le_refl _ | decide | (simp; omega)) rfl ?_)
        | (refine Goal.loud rfl ?_; refine Loud.store1 rfl rfl (by first | exact T.sz_3 | exact T.sz_52 | exact T.sz_54 | exact T.sz_60) rfl rfl rfl (by first | exact Nat.le_of_ble_eq_true rfl | exact Nat.le_refl _ | decide | (simp; omega)) rfl ?_)
        | (refine Goal.loud rfl ?_; refine Loud.store2 rfl rfl (by first | exact T.sz_3 | exact T.sz_52 | exact T.sz_54 | exact T.sz_60) rfl rfl rfl (by first | exact Nat.le_of_ble_eq_true rfl | exact Nat.le_refl _ | decide | (simp; omega)) rfl ?_)
        | (refine Goal.loud rfl ?_; refine Loud.store3 rfl rfl (by first | exact T.sz_3 | exact T.sz_52 | exact T.sz_54 | exact T.sz_60) rfl rfl rfl (by first | exact Nat.le_of_ble_eq_true rfl | exact Nat.le_refl _ | decide | (simp; omega)) rfl ?_)
        | (refine Goal.loud rfl ?_; refine Loud.store4 rfl rfl (by first | exact T.sz_3 | exact T.sz_52 | exact T.sz_54 | exact T.sz_60) rfl rfl rfl (by first | exact Nat.le_of_ble_eq_true rfl | exact Nat.le_refl _ | decide | (simp; omega)) rfl ?_)
        | (refine Goal.loud rfl ?_; refine Loud.store5 rfl rfl (by first | exact T.sz_3 | exact T.sz_52 | exact T.sz_54 | exact T.sz_60) rfl rfl rfl (by first | exact Nat.le_of_ble_eq_true rfl | exact Nat.le_refl _ | decide | (simp; omega)) rfl ?_)
        | (refine Goal.loud rfl ?_; refine Loud.store6 rfl rfl (by first | exact T.sz_3 | exact T.sz_52 | exact T.sz_54 | exact T.sz_60) rfl rfl rfl (by first | exact Nat.le_of_ble_eq_true rfl | exact Nat.le_refl _ | decide | (simp; omega)) rfl ?_)
        | (refine Goal.loud rfl ?_; refine Loud.store7 rfl rfl (by first | exact T.sz_3 | exact T.sz_52 | exact T.sz_54 | exact T.sz_60) rfl rfl rfl (by first | exact Nat.le_of_ble_eq_true rfl | exact Nat.le_refl _ | decide | (simp; omega)) rfl ?_))
      all_goals
        refine Goal.done (vs := [_, _]) (by first | exact .inl rfl | exact .inr rfl) Try.results11 ⟨rfl, rfl, trivial⟩ rfl (fun w' H => ⟨_, by rw [if_neg (by decide), if_neg (by decide)]; exact hA0, by rw [if_neg (by decide)], H⟩)
  · by_cases ht : ((0 ≤ time ∧ time ≤ 1073741824) ∧ q.now ≤ time) ∧ E.length < 65536
    · have he : addErr E.length q.now time = 0 := by unfold addErr; rw [if_neg (by omega), if_neg (by omega), if_neg (by omega)]
      rw [he]
      simp only [if_true]
      have hA1 := hA
      obtain ⟨bt, bi, ct, ci, bh, bk, bp, mt, mi, vL, vU, vs, AO, AU, AI, AH, rfl, hL, hU, hI, hH, hT, hD⟩ := hA1
      have hml := hD.len
      rw [hQ.ni] at hml
      refine Goal.enter (args := [.pointer (some ⟨bq, 0, none⟩), .int .i64 time, .int .i64 data]) Try.func11 rfl Try.ntmps11 rfl (hw) ?_
      repeat' (first
        | (refine Goal.loud (o := ⟨some 44, _, _, _, _, _⟩) rfl ?_; refine Loud.makeMap rfl (fun b44 => ?_))
        | (refine Goal.loud (o := ⟨some 45, _, _, _, _, _⟩) rfl ?_; refine Loud.makeMap rfl (fun b45 => ?_))
        | (refine Goal.subF (F' := [(0, .pointer (some ⟨bq, 0, none⟩)), (1, .int .i64 time), (2, .int .i64 data)]) ⟨rfl, rfl, rfl, trivial⟩ (add_tailQ hA hQ ht.2 time data ht.1 hl w _ _ (fun A' w' a b => ⟨A', a, rfl, b⟩)))
        | (apply G.move; exact rfl; exact rfl)
        | (apply G.assign; exact rfl; exact rfl)
        | refine Goal.seq (fun _ _ => ?_)
        | refine Goal.next (by assumption) ?_
        | refine Goal.lnil ?_
        | refine Goal.region ?_
        | refine Goal.skip ?_
        | refine Goal.block ?_
        | refine Goal.exit ?_
        | refine Goal.ret ?_
        | refine Goal.then_exit ?_
        | refine Goal.then_ret ?_
        | refine Goal.inBlock_exit ?_
        | refine Goal.inBlock_normal ?_
        | refine Goal.inBlock_ret ?_
        | refine Goal.inBlock_other rfl ?_
        | (apply Goal.condT; exact rfl)
        | (apply Goal.condF; exact rfl)
        | (refine Goal.condD rfl (fun hc => ?_) (fun hc => ?_) <;> first | (exfalso; omega) | contradiction | skip)
        | refine Goal.condB rfl (fun hc => ?_) (fun hc => ?_)
        | refine Goal.guardT rfl rfl ?_
        | refine Goal.guardF rfl rfl rfl rfl ?_
        | refine Goal.guardU rfl rfl rfl ?_
        | (refine Goal.guardD rfl rfl (fun hc => ?_) (fun hc => ?_) <;> first | (exfalso; omega) | contradiction | skip)
        | refine Goal.guardB rfl rfl (fun hc => ?_) (fun hc => ?_)
        | (apply G.fieldAddr; exact rfl; exact rfl; (first | exact T.fld_56_0 | exact T.fld_56_1 | exact T.fld_56_2 | exact T.fld_56_3 | exact T.fld_56_5 | exact T.fld_56_6))
        | (apply G.load; exact rfl; exact rfl; first | exact LoadOK.one (by first | exact T.one_3 | exact T.one_52 | exact T.one_53 | exact T.one_54 | exact T.one_60) 0 rfl rfl | exact LoadOK.one (by first | exact T.one_3 | exact T.one_52 | exact T.one_53 | exact T.one_54 | exact T.one_60) 1 rfl rfl | exact LoadOK.one (by first | exact T.one_3 | exact T.one_52 | exact T.one_53 | exact T.one_54 | exact T.one_60) 2 rfl rfl | exact LoadOK.one (by first | exact T.one_3 | exact T.one_52 | exact T.one_53 | exact T.one_54 | exact T.one_60) 3 rfl rfl | exact LoadOK.one (by first | exact T.one_3 | exact T.one_52 | exact T.one_53 | exact T.one_54 | exact T.one_60) 4 rfl rfl | exact LoadOK.one (by first | exact T.one_3 | exact T.one_52 | exact T.one_53 | exact T.one_54 | exact T.one_60) 5 rfl rfl | exact LoadOK.one (by first | exact T.one_3 | exact T.one_52 | exact T.one_53 | exact T.one_54 | exact T.one_60) 6 rfl rfl | exact LoadOK.one (by first | exact T.one_3 | exact T.one_52 | exact T.one_53 | exact T.one_54 | exact T.one_60) 7 rfl rfl)
        | (apply G.pickT; exact rfl; exact rfl; exact rfl)
        | (apply G.pickF; exact rfl; exact rfl; exact rfl)
        | (apply G.lss; exact rfl; exact rfl; exact rfl)
        | (apply G.gtr; exact rfl; exact rfl; exact rfl)
        | (apply G.geq; exact rfl; exact rfl; exact rfl)
        | (apply G.eql; exact rfl; exact rfl; exact rfl)
        | (apply G.add; exact rfl; exact rfl; exact rfl; first | exact IntWalk.i64_in _ (by omega) | exact IntWalk.u8_in _ (by omega) | exact IntWalk.u16_in _ (by omega) | exact IntWalk.u32_in _ (by omega) | exact IntWalk.u64_in _ (by omega))
        | (refine Goal.quiet rfl (Run.eqlP (by first | exact T.ptr_24 | exact T.ptr_52) rfl rfl rfl) ?_)
        | (apply G.notT; exact rfl; exact rfl)
        | (apply G.notF; exact rfl; exact rfl)
        | (refine G.notD rfl rfl ?_)
        | (apply G.notB; exact rfl; exact rfl)
        | (apply G.extract; exact rfl; exact rfl; exact rfl)
        | (apply G.build (cs := [_, _]); exact rfl; exact T.lay_62; exact rfl; exact rfl)
        | (refine Goal.quiet rfl (Run.lenM 0 T.map_54 rfl rfl) ?_)
        | (refine Goal.quiet rfl (Run.lenM 1 T.map_54 rfl rfl) ?_)
        | (refine Goal.quiet rfl (Run.lenM 2 T.map_54 rfl rfl) ?_)
        | (refine Goal.quiet rfl (Run.lenM 3 T.map_54 rfl rfl) ?_)
        | (refine Goal.quiet rfl (Run.lenM 4 T.map_54 rfl rfl) ?_)
        | (refine Goal.quiet rfl (Run.lenM0 T.map_54 rfl) ?_)
        | (refine Goal.quiet rfl (Run.lookII 0 T.map_54 rfl rfl rfl) ?_)
        | (refine Goal.quiet rfl (Run.lookI 0 T.map_54 rfl rfl rfl) ?_)
        | (refine Goal.quiet rfl (Run.lookII 1 T.map_54 rfl rfl rfl) ?_)
        | (refine Goal.quiet rfl (Run.lookI 1 T.map_54 rfl rfl rfl) ?_)
        | (refine Goal.quiet rfl (Run.lookII 2 T.map_54 rfl rfl rfl) ?_)
        | (refine Goal.quiet rfl (Run.lookI 2 T.map_54 rfl rfl rfl) ?_)
        | (refine Goal.quiet rfl (Run.lookII 3 T.map_54 rfl rfl rfl) ?_)
        | (refine Goal.quiet rfl (Run.lookI 3 T.map_54 rfl rfl rfl) ?_)
        | (refine Goal.quiet rfl (Run.lookII 4 T.map_54 rfl rfl rfl) ?_)
        | (refine Goal.quiet rfl (Run.lookI 4 T.map_54 rfl rfl rfl) ?_)
        | (refine Goal.quiet rfl (Run.lookNone T.map_54 rfl rfl) ?_)
        | (refine Goal.loud rfl ?_; refine Loud.putI0 T.map_54 rfl rfl rfl ?_)
        | (refine Goal.loud rfl ?_; refine Loud.putI1 T.map_54 rfl rfl rfl ?_)
        | (refine Goal.loud rfl ?_; refine Loud.putI2 T.map_54 rfl rfl rfl ?_)
        | (refine Goal.loud rfl ?_; refine Loud.putI3 T.map_54 rfl rfl rfl ?_)
        | (refine Goal.loud rfl ?_; refine Loud.putI4 T.map_54 rfl rfl rfl ?_)
        | (apply G.nilCheckP; exact rfl; exact rfl)
        | (refine G.indexAddr1 rfl T.slc_53 T.sz_60 rfl rfl _ rfl (by omega) ?_)
        | (refine G.indexAddr1 rfl T.slc_53 T.sz_60 rfl rfl _ (Int.toNat_of_nonneg (by omega)).symm (by omega) ?_)
        | (refine Goal.loud rfl ?_; refine Loud.store0 rfl rfl (by first | exact T.sz_3 | exact T.sz_52 | exact T.sz_54 | exact T.sz_60) rfl rfl rfl (by first | exact Nat.le_of_ble_eq_true rfl | exact Nat.le_refl _ | decide | (simp; omega)) rfl ?_)
        | (refine Goal.loud rfl ?_; refine Loud.store1 rfl rfl (by first | exact T.sz_3 | exact T.sz_52 | exact T.sz_54 | exact T.sz_60) rfl rfl rfl (by first | exact Nat.le_of_ble_eq_true rfl | exact Nat.le_refl _ | decide | (simp; omega)) rfl ?_)
        | (refine Goal.loud rfl ?_; refine Loud.store2 rfl rfl (by first | exact T.sz_3 | exact T.sz_52 | exact T.sz_54 | exact T.sz_60) rfl rfl rfl (by first | exact Nat.le_of_ble_eq_true rfl | exact Nat.le_refl _ | decide | (simp; omega)) rfl ?_)
        | (refine Goal.loud rfl ?_; refine Loud.store3 rfl rfl (by first | exact T.sz_3 | exact T.sz_52 | exact T.sz_54 | exact T.sz_60) rfl rfl rfl (by first | exact Nat.le_of_ble_eq_true rfl | exact Nat.le_refl _ | decide | (simp; omega)) rfl ?_)
        | (refine Goal.loud rfl ?_; refine Loud.store4 rfl rfl (by first | exact T.sz_3 | exact T.sz_52 | exact T.sz_54 | exact T.sz_60) rfl rfl rfl (by first | exact Nat.le_of_ble_eq_true rfl | exact Nat.le_refl _ | decide | (simp; omega)) rfl ?_)
        | (refine Goal.loud rfl ?_; refine Loud.store5 rfl rfl (by first | exact T.sz_3 | exact T.sz_52 | exact T.sz_54 | exact T.sz_60) rfl rfl rfl (by first | exact Nat.le_of_ble_eq_true rfl | exact Nat.le_refl _ | decide | (simp; omega)) rfl ?_)
        | (refine Goal.loud rfl ?_; refine Loud.store6 rfl rfl (by first | exact T.sz_3 | exact T.sz_52 | exact T.sz_54 | exact T.sz_60) rfl rfl rfl (by first | exact Nat.le_of_ble_eq_true rfl | exact Nat.le_refl _ | decide | (simp; omega)) rfl ?_)
        | (refine Goal.loud rfl ?_; refine Loud.store7 rfl rfl (by first | exact T.sz_3 | exact T.sz_52 | exact T.sz_54 | exact T.sz_60) rfl rfl rfl (by first | exact Nat.le_of_ble_eq_true rfl | exact Nat.le_refl _ | decide | (simp; omega)) rfl ?_))
    · have he : addErr E.length q.now time ≠ 0 := by unfold addErr; split <;> (try decide); split <;> (try decide); split <;> (try decide); omega
      have hA1 := hA
      obtain ⟨bt, bi, ct, ci, bh, bk, bp, mt, mi, vL, vU, vs, AO, AU, AI, AH, rfl, hL, hU, hI, hH, hT, hD⟩ := hA1
      have hml := hD.len
      rw [hQ.ni] at hml
      rw [if_neg he, if_neg he, if_neg he]
      unfold addErr
      by_cases h1 : time < 0 ∨ 1073741824 < time
      · rw [if_pos h1]
        refine Goal.enter (args := [.pointer (some ⟨bq, 0, none⟩), .int .i64 time, .int .i64 data]) Try.func11 rfl Try.ntmps11 rfl (hw) ?_
        repeat' (first
          | (refine Goal.loud (o := ⟨some 44, _, _, _, _, _⟩) rfl ?_; refine Loud.makeMap rfl (fun b44 => ?_))
          | (refine Goal.loud (o := ⟨some 45, _, _, _, _, _⟩) rfl ?_; refine Loud.makeMap rfl (fun b45 => ?_))
          | (apply G.move; exact rfl; exact rfl)
          | (apply G.assign; exact rfl; exact rfl)
          | refine Goal.seq (fun _ _ => ?_)
          | refine Goal.next (by assumption) ?_
          | refine Goal.lnil ?_
          | refine Goal.region ?_
          | refine Goal.skip ?_
          | refine Goal.block ?_
          | refine Goal.exit ?_
          | refine Goal.ret ?_
          | refine Goal.then_exit ?_
          | refine Goal.then_ret ?_
          | refine Goal.inBlock_exit ?_
          | refine Goal.inBlock_normal ?_
          | refine Goal.inBlock_ret ?_
          | refine Goal.inBlock_other rfl ?_
          | (apply Goal.condT; exact rfl)
          | (apply Goal.condF; exact rfl)
          | (refine Goal.condD rfl (fun hc => ?_) (fun hc => ?_) <;> first | (exfalso; omega) | contradiction | skip)
          | refine Goal.condB rfl (fun hc => ?_) (fun hc => ?_)
          | refine Goal.guardT rfl rfl ?_
          | refine Goal.guardF rfl rfl rfl rfl ?_
          | refine Goal.guardU rfl rfl rfl ?_
          | (refine Goal.guardD rfl rfl (fun hc => ?_) (fun hc => ?_) <;> first | (exfalso; omega) | contradiction | skip)
          | refine Goal.guardB rfl rfl (fun hc => ?_) (fun hc => ?_)
          | (apply G.fieldAddr; exact rfl; exact rfl; (first | exact T.fld_56_0 | exact T.fld_56_1 | exact T.fld_56_2 | exact T.fld_56_3 | exact T.fld_56_5 | exact T.fld_56_6))
          | (apply G.load; exact rfl; exact rfl; first | exact LoadOK.one (by first | exact T.one_3 | exact T.one_52 | exact T.one_53 | exact T.one_54 | exact T.one_60) 0 rfl rfl | exact LoadOK.one (by first | exact T.one_3 | exact T.one_52 | exact T.one_53 | exact T.one_54 | exact T.one_60) 1 rfl rfl | exact LoadOK.one (by first | exact T.one_3 | exact T.one_52 | exact T.one_53 | exact T.one_54 | exact T.one_60) 2 rfl rfl | exact LoadOK.one (by first | exact T.one_3 | exact T.one_52 | exact T.one_53 | exact T.one_54 | exact T.one_60) 3 rfl rfl | exact LoadOK.one (by first | exact T.one_3 | exact T.one_52 | exact T.one_53 | exact T.one_54 | exact T.one_60) 4 rfl rfl | exact LoadOK.one (by first | exact T.one_3 | exact T.one_52 | exact T.one_53 | exact T.one_54 | exact T.one_60) 5 rfl rfl | exact LoadOK.one (by first | exact T.one_3 | exact T.one_52 | exact T.one_53 | exact T.one_54 | exact T.one_60) 6 rfl rfl | exact LoadOK.one (by first | exact T.one_3 | exact T.one_52 | exact T.one_53 | exact T.one_54 | exact T.one_60) 7 rfl rfl)
          | (apply G.pickT; exact rfl; exact rfl; exact rfl)
          | (apply G.pickF; exact rfl; exact rfl; exact rfl)
          | (apply G.lss; exact rfl; exact rfl; exact rfl)
          | (apply G.gtr; exact rfl; exact rfl; exact rfl)
          | (apply G.geq; exact rfl; exact rfl; exact rfl)
          | (apply G.eql; exact rfl; exact rfl; exact rfl)
          | (apply G.add; exact rfl; exact rfl; exact rfl; first | exact IntWalk.i64_in _ (by omega) | exact IntWalk.u8_in _ (by omega) | exact IntWalk.u16_in _ (by omega) | exact IntWalk.u32_in _ (by omega) | exact IntWalk.u64_in _ (by omega))
          | (refine Goal.quiet rfl (Run.eqlP (by first | exact T.ptr_24 | exact T.ptr_52) rfl rfl rfl) ?_)
          | (apply G.notT; exact rfl; exact rfl)
          | (apply G.notF; exact rfl; exact rfl)
          | (refine G.notD rfl rfl ?_)
          | (apply G.notB; exact rfl; exact rfl)
          | (apply G.extract; exact rfl; exact rfl; exact rfl)
          | (apply G.build (cs := [_, _]); exact rfl; exact T.lay_62; exact rfl; exact rfl)
          | (refine Goal.quiet rfl (Run.lenM 0 T.map_54 rfl rfl) ?_)
          | (refine Goal.quiet rfl (Run.lenM 1 T.map_54 rfl rfl) ?_)
          | (refine Goal.quiet rfl (Run.lenM 2 T.map_54 rfl rfl) ?_)
          | (refine Goal.quiet rfl (Run.lenM 3 T.map_54 rfl rfl) ?_)
          | (refine Goal.quiet rfl (Run.lenM 4 T.map_54 rfl rfl) ?_)
          | (refine Goal.quiet rfl (Run.lenM0 T.map_54 rfl) ?_)
          | (refine Goal.quiet rfl (Run.lookII 0 T.map_54 rfl rfl rfl) ?_)
          | (refine Goal.quiet rfl (Run.lookI 0 T.map_54 rfl rfl rfl) ?_)
          | (refine Goal.quiet rfl (Run.lookII 1 T.map_54 rfl rfl rfl) ?_)
          | (refine Goal.quiet rfl (Run.lookI 1 T.map_54 rfl rfl rfl) ?_)
          | (refine Goal.quiet rfl (Run.lookII 2 T.map_54 rfl rfl rfl) ?_)
          | (refine Goal.quiet rfl (Run.lookI 2 T.map_54 rfl rfl rfl) ?_)
          | (refine Goal.quiet rfl (Run.lookII 3 T.map_54 rfl rfl rfl) ?_)
          | (refine Goal.quiet rfl (Run.lookI 3 T.map_54 rfl rfl rfl) ?_)
          | (refine Goal.quiet rfl (Run.lookII 4 T.map_54 rfl rfl rfl) ?_)
          | (refine Goal.quiet rfl (Run.lookI 4 T.map_54 rfl rfl rfl) ?_)
          | (refine Goal.quiet rfl (Run.lookNone T.map_54 rfl rfl) ?_)
          | (refine Goal.loud rfl ?_; refine Loud.putI0 T.map_54 rfl rfl rfl ?_)
          | (refine Goal.loud rfl ?_; refine Loud.putI1 T.map_54 rfl rfl rfl ?_)
          | (refine Goal.loud rfl ?_; refine Loud.putI2 T.map_54 rfl rfl rfl ?_)
          | (refine Goal.loud rfl ?_; refine Loud.putI3 T.map_54 rfl rfl rfl ?_)
          | (refine Goal.loud rfl ?_; refine Loud.putI4 T.map_54 rfl rfl rfl ?_)
          | (apply G.nilCheckP; exact rfl; exact rfl)
          | (refine G.indexAddr1 rfl T.slc_53 T.sz_60 rfl rfl _ rfl (by omega) ?_)
          | (refine G.indexAddr1 rfl T.slc_53 T.sz_60 rfl rfl _ (Int.toNat_of_nonneg (by omega)).symm (by omega) ?_)
          | (refine Goal.loud rfl ?_; refine Loud.store0 rfl rfl (by first | exact T.sz_3 | exact T.sz_52 | exact T.sz_54 | exact T.sz_60) rfl rfl rfl (by first | exact Nat.le_of_ble_eq_true rfl | exact Nat.le_refl _ | decide | (simp; omega)) rfl ?_)
          | (refine Goal.loud rfl ?_; refine Loud.store1 rfl rfl (by first | exact T.sz_3 | exact T.sz_52 | exact T.sz_54 | exact T.sz_60) rfl rfl rfl (by first | exact Nat.le_of_ble_eq_true rfl | exact Nat.le_refl _ | decide | (simp; omega)) rfl ?_)
          | (refine Goal.loud rfl ?_; refine Loud.store2 rfl rfl (by first | exact T.sz_3 | exact T.sz_52 | exact T.sz_54 | exact T.sz_60) rfl rfl rfl (by first | exact Nat.le_of_ble_eq_true rfl | exact Nat.le_refl _ | decide | (simp; omega)) rfl ?_)
          | (refine Goal.loud rfl ?_; refine Loud.store3 rfl rfl (by first | exact T.sz_3 | exact T.sz_52 | exact T.sz_54 | exact T.sz_60) rfl rfl rfl (by first | exact Nat.le_of_ble_eq_true rfl | exact Nat.le_refl _ | decide | (simp; omega)) rfl ?_)
          | (refine Goal.loud rfl ?_; refine Loud.store4 rfl rfl (by first | exact T.sz_3 | exact T.sz_52 | exact T.sz_54 | exact T.sz_60) rfl rfl rfl (by first | exact Nat.le_of_ble_eq_true rfl | exact Nat.le_refl _ | decide | (simp; omega)) rfl ?_)
          | (refine Goal.loud rfl ?_; refine Loud.store5 rfl rfl (by first | exact T.sz_3 | exact T.sz_52 | exact T.sz_54 | exact T.sz_60) rfl rfl rfl (by first | exact Nat.le_of_ble_eq_true rfl | exact Nat.le_refl _ | decide | (simp; omega)) rfl ?_)
          | (refine Goal.loud rfl ?_; refine Loud.store6 rfl rfl (by first | exact T.sz_3 | exact T.sz_52 | exact T.sz_54 | exact T.sz_60) rfl rfl rfl (by first | exact Nat.le_of_ble_eq_true rfl | exact Nat.le_refl _ | decide | (simp; omega)) rfl ?_)
          | (refine Goal.loud rfl ?_; refine Loud.store7 rfl rfl (by first | exact T.sz_3 | exact T.sz_52 | exact T.sz_54 | exact T.sz_60) rfl rfl rfl (by first | exact Nat.le_of_ble_eq_true rfl | exact Nat.le_refl _ | decide | (simp; omega)) rfl ?_))
        all_goals
          refine Goal.done (vs := [_, _]) (by first | exact .inl rfl | exact .inr rfl) Try.results11 ⟨rfl, rfl, trivial⟩ rfl (fun w' H => ⟨_, hA0, rfl, H⟩)
      · rw [if_neg h1]
        by_cases h2 : time < q.now
        · rw [if_pos h2]
          refine Goal.enter (args := [.pointer (some ⟨bq, 0, none⟩), .int .i64 time, .int .i64 data]) Try.func11 rfl Try.ntmps11 rfl (hw) ?_
          repeat' (first
            | (refine Goal.loud (o := ⟨some 44, _, _, _, _, _⟩) rfl ?_; refine Loud.makeMap rfl (fun b44 => ?_))
            | (refine Goal.loud (o := ⟨some 45, _, _, _, _, _⟩) rfl ?_; refine Loud.makeMap rfl (fun b45 => ?_))
            | (apply G.move; exact rfl; exact rfl)
            | (apply G.assign; exact rfl; exact rfl)
            | refine Goal.seq (fun _ _ => ?_)
            | refine Goal.next (by assumption) ?_
            | refine Goal.lnil ?_
            | refine Goal.region ?_
            | refine Goal.skip ?_
            | refine Goal.block ?_
            | refine Goal.exit ?_
            | refine Goal.ret ?_
            | refine Goal.then_exit ?_
            | refine Goal.then_ret ?_
            | refine Goal.inBlock_exit ?_
            | refine Goal.inBlock_normal ?_
            | refine Goal.inBlock_ret ?_
            | refine Goal.inBlock_other rfl ?_
            | (apply Goal.condT; exact rfl)
            | (apply Goal.condF; exact rfl)
            | (refine Goal.condD rfl (fun hc => ?_) (fun hc => ?_) <;> first | (exfalso; omega) | contradiction | skip)
            | refine Goal.condB rfl (fun hc => ?_) (fun hc => ?_)
            | refine Goal.guardT rfl rfl ?_
            | refine Goal.guardF rfl rfl rfl rfl ?_
            | refine Goal.guardU rfl rfl rfl ?_
            | (refine Goal.guardD rfl rfl (fun hc => ?_) (fun hc => ?_) <;> first | (exfalso; omega) | contradiction | skip)
            | refine Goal.guardB rfl rfl (fun hc => ?_) (fun hc => ?_)
            | (apply G.fieldAddr; exact rfl; exact rfl; (first | exact T.fld_56_0 | exact T.fld_56_1 | exact T.fld_56_2 | exact T.fld_56_3 | exact T.fld_56_5 | exact T.fld_56_6))
            | (apply G.load; exact rfl; exact rfl; first | exact LoadOK.one (by first | exact T.one_3 | exact T.one_52 | exact T.one_53 | exact T.one_54 | exact T.one_60) 0 rfl rfl | exact LoadOK.one (by first | exact T.one_3 | exact T.one_52 | exact T.one_53 | exact T.one_54 | exact T.one_60) 1 rfl rfl | exact LoadOK.one (by first | exact T.one_3 | exact T.one_52 | exact T.one_53 | exact T.one_54 | exact T.one_60) 2 rfl rfl | exact LoadOK.one (by first | exact T.one_3 | exact T.one_52 | exact T.one_53 | exact T.one_54 | exact T.one_60) 3 rfl rfl | exact LoadOK.one (by first | exact T.one_3 | exact T.one_52 | exact T.one_53 | exact T.one_54 | exact T.one_60) 4 rfl rfl | exact LoadOK.one (by first | exact T.one_3 | exact T.one_52 | exact T.one_53 | exact T.one_54 | exact T.one_60) 5 rfl rfl | exact LoadOK.one (by first | exact T.one_3 | exact T.one_52 | exact T.one_53 | exact T.one_54 | exact T.one_60) 6 rfl rfl | exact LoadOK.one (by first | exact T.one_3 | exact T.one_52 | exact T.one_53 | exact T.one_54 | exact T.one_60) 7 rfl rfl)
            | (apply G.pickT; exact rfl; exact rfl; exact rfl)
            | (apply G.pickF; exact rfl; exact rfl; exact rfl)
            | (apply G.lss; exact rfl; exact rfl; exact rfl)
            | (apply G.gtr; exact rfl; exact rfl; exact rfl)
            | (apply G.geq; exact rfl; exact rfl; exact rfl)
            | (apply G.eql; exact rfl; exact rfl; exact rfl)
            | (apply G.add; exact rfl; exact rfl; exact rfl; first | exact IntWalk.i64_in _ (by omega) | exact IntWalk.u8_in _ (by omega) | exact IntWalk.u16_in _ (by omega) | exact IntWalk.u32_in _ (by omega) | exact IntWalk.u64_in _ (by omega))
            | (refine Goal.quiet rfl (Run.eqlP (by first | exact T.ptr_24 | exact T.ptr_52) rfl rfl rfl) ?_)
            | (apply G.notT; exact rfl; exact rfl)
            | (apply G.notF; exact rfl; exact rfl)
            | (refine G.notD rfl rfl ?_)
            | (apply G.notB; exact rfl; exact rfl)
            | (apply G.extract; exact rfl; exact rfl; exact rfl)
            | (apply G.build (cs := [_, _]); exact rfl; exact T.lay_62; exact rfl; exact rfl)
            | (refine Goal.quiet rfl (Run.lenM 0 T.map_54 rfl rfl) ?_)
            | (refine Goal.quiet rfl (Run.lenM 1 T.map_54 rfl rfl) ?_)
            | (refine Goal.quiet rfl (Run.lenM 2 T.map_54 rfl rfl) ?_)
            | (refine Goal.quiet rfl (Run.lenM 3 T.map_54 rfl rfl) ?_)
            | (refine Goal.quiet rfl (Run.lenM 4 T.map_54 rfl rfl) ?_)
            | (refine Goal.quiet rfl (Run.lenM0 T.map_54 rfl) ?_)
            | (refine Goal.quiet rfl (Run.lookII 0 T.map_54 rfl rfl rfl) ?_)
            | (refine Goal.quiet rfl (Run.lookI 0 T.map_54 rfl rfl rfl) ?_)
            | (refine Goal.quiet rfl (Run.lookII 1 T.map_54 rfl rfl rfl) ?_)
            | (refine Goal.quiet rfl (Run.lookI 1 T.map_54 rfl rfl rfl) ?_)
            | (refine Goal.quiet rfl (Run.lookII 2 T.map_54 rfl rfl rfl) ?_)
            | (refine Goal.quiet rfl (Run.lookI 2 T.map_54 rfl rfl rfl) ?_)
            | (refine Goal.quiet rfl (Run.lookII 3 T.map_54 rfl rfl rfl) ?_)
            | (refine Goal.quiet rfl (Run.lookI 3 T.map_54 rfl rfl rfl) ?_)
            | (refine Goal.quiet rfl (Run.lookII 4 T.map_54 rfl rfl rfl) ?_)
            | (refine Goal.quiet rfl (Run.lookI 4 T.map_54 rfl rfl rfl) ?_)
            | (refine Goal.quiet rfl (Run.lookNone T.map_54 rfl rfl) ?_)
            | (refine Goal.loud rfl ?_; refine Loud.putI0 T.map_54 rfl rfl rfl ?_)
            | (refine Goal.loud rfl ?_; refine Loud.putI1 T.map_54 rfl rfl rfl ?_)
            | (refine Goal.loud rfl ?_; refine Loud.putI2 T.map_54 rfl rfl rfl ?_)
            | (refine Goal.loud rfl ?_; refine Loud.putI3 T.map_54 rfl rfl rfl ?_)
            | (refine Goal.loud rfl ?_; refine Loud.putI4 T.map_54 rfl rfl rfl ?_)
            | (apply G.nilCheckP; exact rfl; exact rfl)
            | (refine G.indexAddr1 rfl T.slc_53 T.sz_60 rfl rfl _ rfl (by omega) ?_)
            | (refine G.indexAddr1 rfl T.slc_53 T.sz_60 rfl rfl _ (Int.toNat_of_nonneg (by omega)).symm (by omega) ?_)
            | (refine Goal.loud rfl ?_; refine Loud.store0 rfl rfl (by first | exact T.sz_3 | exact T.sz_52 | exact T.sz_54 | exact T.sz_60) rfl rfl rfl (by first | exact Nat.le_of_ble_eq_true rfl | exact Nat.le_refl _ | decide | (simp; omega)) rfl ?_)
            | (refine Goal.loud rfl ?_; refine Loud.store1 rfl rfl (by first | exact T.sz_3 | exact T.sz_52 | exact T.sz_54 | exact T.sz_60) rfl rfl rfl (by first | exact Nat.le_of_ble_eq_true rfl | exact Nat.le_refl _ | decide | (simp; omega)) rfl ?_)
            | (refine Goal.loud rfl ?_; refine Loud.store2 rfl rfl (by first | exact T.sz_3 | exact T.sz_52 | exact T.sz_54 | exact T.sz_60) rfl rfl rfl (by first | exact Nat.le_of_ble_eq_true rfl | exact Nat.le_refl _ | decide | (simp; omega)) rfl ?_)
            | (refine Goal.loud rfl ?_; refine Loud.store3 rfl rfl (by first | exact T.sz_3 | exact T.sz_52 | exact T.sz_54 | exact T.sz_60) rfl rfl rfl (by first | exact Nat.le_of_ble_eq_true rfl | exact Nat.le_refl _ | decide | (simp; omega)) rfl ?_)
            | (refine Goal.loud rfl ?_; refine Loud.store4 rfl rfl (by first | exact T.sz_3 | exact T.sz_52 | exact T.sz_54 | exact T.sz_60) rfl rfl rfl (by first | exact Nat.le_of_ble_eq_true rfl | exact Nat.le_refl _ | decide | (simp; omega)) rfl ?_)
            | (refine Goal.loud rfl ?_; refine Loud.store5 rfl rfl (by first | exact T.sz_3 | exact T.sz_52 | exact T.sz_54 | exact T.sz_60) rfl rfl rfl (by first | exact Nat.le_of_ble_eq_true rfl | exact Nat.le_refl _ | decide | (simp; omega)) rfl ?_)
            | (refine Goal.loud rfl ?_; refine Loud.store6 rfl rfl (by first | exact T.sz_3 | exact T.sz_52 | exact T.sz_54 | exact T.sz_60) rfl rfl rfl (by first | exact Nat.le_of_ble_eq_true rfl | exact Nat.le_refl _ | decide | (simp; omega)) rfl ?_)
            | (refine Goal.loud rfl ?_; refine Loud.store7 rfl rfl (by first | exact T.sz_3 | exact T.sz_52 | exact T.sz_54 | exact T.sz_60) rfl rfl rfl (by first | exact Nat.le_of_ble_eq_true rfl | exact Nat.le_refl _ | decide | (simp; omega)) rfl ?_))
          all_goals
            refine Goal.done (vs := [_, _]) (by first | exact .inl rfl | exact .inr rfl) Try.results11 ⟨rfl, rfl, trivial⟩ rfl (fun w' H => ⟨_, hA0, rfl, H⟩)
        · rw [if_neg h2, if_pos (by omega)]
          refine Goal.enter (args := [.pointer (some ⟨bq, 0, none⟩), .int .i64 time, .int .i64 data]) Try.func11 rfl Try.ntmps11 rfl (hw) ?_
          repeat' (first
            | (refine Goal.loud (o := ⟨some 44, _, _, _, _, _⟩) rfl ?_; refine Loud.makeMap rfl (fun b44 => ?_))
            | (refine Goal.loud (o := ⟨some 45, _, _, _, _, _⟩) rfl ?_; refine Loud.makeMap rfl (fun b45 => ?_))
            | (apply G.move; exact rfl; exact rfl)
            | (apply G.assign; exact rfl; exact rfl)
            | refine Goal.seq (fun _ _ => ?_)
            | refine Goal.next (by assumption) ?_
            | refine Goal.lnil ?_
            | refine Goal.region ?_
            | refine Goal.skip ?_
            | refine Goal.block ?_
            | refine Goal.exit ?_
            | refine Goal.ret ?_
            | refine Goal.then_exit ?_
            | refine Goal.then_ret ?_
            | refine Goal.inBlock_exit ?_
            | refine Goal.inBlock_normal ?_
            | refine Goal.inBlock_ret ?_
            | refine Goal.inBlock_other rfl ?_
            | (apply Goal.condT; exact rfl)
            | (apply Goal.condF; exact rfl)
            | (refine Goal.condD rfl (fun hc => ?_) (fun hc => ?_) <;> first | (exfalso; omega) | contradiction | skip)
            | refine Goal.condB rfl (fun hc => ?_) (fun hc => ?_)
            | refine Goal.guardT rfl rfl ?_
            | refine Goal.guardF rfl rfl rfl rfl ?_
            | refine Goal.guardU rfl rfl rfl ?_
            | (refine Goal.guardD rfl rfl (fun hc => ?_) (fun hc => ?_) <;> first | (exfalso; omega) | contradiction | skip)
            | refine Goal.guardB rfl rfl (fun hc => ?_) (fun hc => ?_)
            | (apply G.fieldAddr; exact rfl; exact rfl; (first | exact T.fld_56_0 | exact T.fld_56_1 | exact T.fld_56_2 | exact T.fld_56_3 | exact T.fld_56_5 | exact T.fld_56_6))
            | (apply G.load; exact rfl; exact rfl; first | exact LoadOK.one (by first | exact T.one_3 | exact T.one_52 | exact T.one_53 | exact T.one_54 | exact T.one_60) 0 rfl rfl | exact LoadOK.one (by first | exact T.one_3 | exact T.one_52 | exact T.one_53 | exact T.one_54 | exact T.one_60) 1 rfl rfl | exact LoadOK.one (by first | exact T.one_3 | exact T.one_52 | exact T.one_53 | exact T.one_54 | exact T.one_60) 2 rfl rfl | exact LoadOK.one (by first | exact T.one_3 | exact T.one_52 | exact T.one_53 | exact T.one_54 | exact T.one_60) 3 rfl rfl | exact LoadOK.one (by first | exact T.one_3 | exact T.one_52 | exact T.one_53 | exact T.one_54 | exact T.one_60) 4 rfl rfl | exact LoadOK.one (by first | exact T.one_3 | exact T.one_52 | exact T.one_53 | exact T.one_54 | exact T.one_60) 5 rfl rfl | exact LoadOK.one (by first | exact T.one_3 | exact T.one_52 | exact T.one_53 | exact T.one_54 | exact T.one_60) 6 rfl rfl | exact LoadOK.one (by first | exact T.one_3 | exact T.one_52 | exact T.one_53 | exact T.one_54 | exact T.one_60) 7 rfl rfl)
            | (apply G.pickT; exact rfl; exact rfl; exact rfl)
            | (apply G.pickF; exact rfl; exact rfl; exact rfl)
            | (apply G.lss; exact rfl; exact rfl; exact rfl)
            | (apply G.gtr; exact rfl; exact rfl; exact rfl)
            | (apply G.geq; exact rfl; exact rfl; exact rfl)
            | (apply G.eql; exact rfl; exact rfl; exact rfl)
            | (apply G.add; exact rfl; exact rfl; exact rfl; first | exact IntWalk.i64_in _ (by omega) | exact IntWalk.u8_in _ (by omega) | exact IntWalk.u16_in _ (by omega) | exact IntWalk.u32_in _ (by omega) | exact IntWalk.u64_in _ (by omega))
            | (refine Goal.quiet rfl (Run.eqlP (by first | exact T.ptr_24 | exact T.ptr_52) rfl rfl rfl) ?_)
            | (apply G.notT; exact rfl; exact rfl)
            | (apply G.notF; exact rfl; exact rfl)
            | (refine G.notD rfl rfl ?_)
            | (apply G.notB; exact rfl; exact rfl)
            | (apply G.extract; exact rfl; exact rfl; exact rfl)
            | (apply G.build (cs := [_, _]); exact rfl; exact T.lay_62; exact rfl; exact rfl)
            | (refine Goal.quiet rfl (Run.lenM 0 T.map_54 rfl rfl) ?_)
            | (refine Goal.quiet rfl (Run.lenM 1 T.map_54 rfl rfl) ?_)
            | (refine Goal.quiet rfl (Run.lenM 2 T.map_54 rfl rfl) ?_)
            | (refine Goal.quiet rfl (Run.lenM 3 T.map_54 rfl rfl) ?_)
            | (refine Goal.quiet rfl (Run.lenM 4 T.map_54 rfl rfl) ?_)
            | (refine Goal.quiet rfl (Run.lenM0 T.map_54 rfl) ?_)
            | (refine Goal.quiet rfl (Run.lookII 0 T.map_54 rfl rfl rfl) ?_)
            | (refine Goal.quiet rfl (Run.lookI 0 T.map_54 rfl rfl rfl) ?_)
            | (refine Goal.quiet rfl (Run.lookII 1 T.map_54 rfl rfl rfl) ?_)
            | (refine Goal.quiet rfl (Run.lookI 1 T.map_54 rfl rfl rfl) ?_)
            | (refine Goal.quiet rfl (Run.lookII 2 T.map_54 rfl rfl rfl) ?_)
            | (refine Goal.quiet rfl (Run.lookI 2 T.map_54 rfl rfl rfl) ?_)
            | (refine Goal.quiet rfl (Run.lookII 3 T.map_54 rfl rfl rfl) ?_)
            | (refine Goal.quiet rfl (Run.lookI 3 T.map_54 rfl rfl rfl) ?_)
            | (refine Goal.quiet rfl (Run.lookII 4 T.map_54 rfl rfl rfl) ?_)
            | (refine Goal.quiet rfl (Run.lookI 4 T.map_54 rfl rfl rfl) ?_)
            | (refine Goal.quiet rfl (Run.lookNone T.map_54 rfl rfl) ?_)
            | (refine Goal.loud rfl ?_; refine Loud.putI0 T.map_54 rfl rfl rfl ?_)
            | (refine Goal.loud rfl ?_; refine Loud.putI1 T.map_54 rfl rfl rfl ?_)
            | (refine Goal.loud rfl ?_; refine Loud.putI2 T.map_54 rfl rfl rfl ?_)
            | (refine Goal.loud rfl ?_; refine Loud.putI3 T.map_54 rfl rfl rfl ?_)
            | (refine Goal.loud rfl ?_; refine Loud.putI4 T.map_54 rfl rfl rfl ?_)
            | (apply G.nilCheckP; exact rfl; exact rfl)
            | (refine G.indexAddr1 rfl T.slc_53 T.sz_60 rfl rfl _ rfl (by omega) ?_)
            | (refine G.indexAddr1 rfl T.slc_53 T.sz_60 rfl rfl _ (Int.toNat_of_nonneg (by omega)).symm (by omega) ?_)
            | (refine Goal.loud rfl ?_; refine Loud.store0 rfl rfl (by first | exact T.sz_3 | exact T.sz_52 | exact T.sz_54 | exact T.sz_60) rfl rfl rfl (by first | exact Nat.le_of_ble_eq_true rfl | exact Nat.le_refl _ | decide | (simp; omega)) rfl ?_)
            | (refine Goal.loud rfl ?_; refine Loud.store1 rfl rfl (by first | exact T.sz_3 | exact T.sz_52 | exact T.sz_54 | exact T.sz_60) rfl rfl rfl (by first | exact Nat.le_of_ble_eq_true rfl | exact Nat.le_refl _ | decide | (simp; omega)) rfl ?_)
            | (refine Goal.loud rfl ?_; refine Loud.store2 rfl rfl (by first | exact T.sz_3 | exact T.sz_52 | exact T.sz_54 | exact T.sz_60) rfl rfl rfl (by first | exact Nat.le_of_ble_eq_true rfl | exact Nat.le_refl _ | decide | (simp; omega)) rfl ?_)
            | (refine Goal.loud rfl ?_; refine Loud.store3 rfl rfl (by first | exact T.sz_3 | exact T.sz_52 | exact T.sz_54 | exact T.sz_60) rfl rfl rfl (by first | exact Nat.le_of_ble_eq_true rfl | exact Nat.le_refl _ | decide | (simp; omega)) rfl ?_)
            | (refine Goal.loud rfl ?_; refine Loud.store4 rfl rfl (by first | exact T.sz_3 | exact T.sz_52 | exact T.sz_54 | exact T.sz_60) rfl rfl rfl (by first | exact Nat.le_of_ble_eq_true rfl | exact Nat.le_refl _ | decide | (simp; omega)) rfl ?_)
            | (refine Goal.loud rfl ?_; refine Loud.store5 rfl rfl (by first | exact T.sz_3 | exact T.sz_52 | exact T.sz_54 | exact T.sz_60) rfl rfl rfl (by first | exact Nat.le_of_ble_eq_true rfl | exact Nat.le_refl _ | decide | (simp; omega)) rfl ?_)
            | (refine Goal.loud rfl ?_; refine Loud.store6 rfl rfl (by first | exact T.sz_3 | exact T.sz_52 | exact T.sz_54 | exact T.sz_60) rfl rfl rfl (by first | exact Nat.le_of_ble_eq_true rfl | exact Nat.le_refl _ | decide | (simp; omega)) rfl ?_)
            | (refine Goal.loud rfl ?_; refine Loud.store7 rfl rfl (by first | exact T.sz_3 | exact T.sz_52 | exact T.sz_54 | exact T.sz_60) rfl rfl rfl (by first | exact Nat.le_of_ble_eq_true rfl | exact Nat.le_refl _ | decide | (simp; omega)) rfl ?_))
          all_goals
            refine Goal.done (vs := [_, _]) (by first | exact .inl rfl | exact .inr rfl) Try.results11 ⟨rfl, rfl, trivial⟩ rfl (fun w' H => ⟨_, hA0, rfl, H⟩)
/-- The first event, or none. -/
theorem nextQ (hA : QM bq E now last A) :
    MCalls Try.prog 12 [.pointer (some ⟨bq, 0, none⟩)] A
      (fun x : NQ => (x.ok = false ∧ x.k = 0 ∧ x.d = 0 ∧ E = [] ∧ QM bq E now last x.A) ∨ (x.ok = true ∧ ∃ E1 e E2, IsFirst E E1 e E2 ∧ x.k = e.time ∧ x.d = e.data ∧ QM bq (E1 ++ E2) e.time last x.A))
      (fun x => .tuple #[.int .i64 x.k, .int .i64 x.d, .bool x.ok]) (fun x => x.A) := by
  have hA0 := hA
  rcases hA with ⟨rfl, rfl, rfl, rfl⟩ | ⟨q, hQ, rfl, rfl, hE, hA⟩
  · refine .mk fun w hw => ?_
    refine Goal.enter (args := [.pointer (some ⟨bq, 0, none⟩)]) Try.func12 rfl Try.ntmps12 rfl (hw) ?_
    repeat' (first
      | (refine Goal.loud (o := ⟨some 11, _, _, _, _, _⟩) rfl ?_; refine Loud.callE ([]) (first_fresh bq) rfl rfl rfl rfl T.bod_23 (fun _ h => h) ?_; rintro ⟨⟩ -)
      | (refine Goal.loud (o := ⟨some 6, _, _, _, _, _⟩) rfl ?_; refine Loud.allocA rfl T.inf_62 (fun b6 => ?_))
      | (apply G.move; exact rfl; exact rfl)
      | (apply G.assign; exact rfl; exact rfl)
      | refine Goal.seq (fun _ _ => ?_)
      | refine Goal.next (by assumption) ?_
      | refine Goal.lnil ?_
      | refine Goal.region ?_
      | refine Goal.skip ?_
      | refine Goal.block ?_
      | refine Goal.exit ?_
      | refine Goal.ret ?_
      | refine Goal.then_exit ?_
      | refine Goal.then_ret ?_
      | refine Goal.inBlock_exit ?_
      | refine Goal.inBlock_normal ?_
      | refine Goal.inBlock_ret ?_
      | refine Goal.inBlock_other rfl ?_
      | (apply Goal.condT; exact rfl)
      | (apply Goal.condF; exact rfl)
      | (refine Goal.condD rfl (fun hc => ?_) (fun hc => ?_) <;> first | (exfalso; omega) | contradiction | skip)
      | refine Goal.condB rfl (fun hc => ?_) (fun hc => ?_)
      | (apply G.fieldAddr; exact rfl; exact rfl; (first | exact T.fld_56_0 | exact T.fld_56_3 | exact T.fld_56_6 | exact T.fld_62_0 | exact T.fld_62_1))
      | (apply G.load; exact rfl; exact rfl; first | exact LoadOK.one (by first | exact T.one_3 | exact T.one_53 | exact T.one_54 | exact T.one_60) 0 rfl rfl | exact LoadOK.one (by first | exact T.one_3 | exact T.one_53 | exact T.one_54 | exact T.one_60) 1 rfl rfl | exact LoadOK.one (by first | exact T.one_3 | exact T.one_53 | exact T.one_54 | exact T.one_60) 2 rfl rfl | exact LoadOK.one (by first | exact T.one_3 | exact T.one_53 | exact T.one_54 | exact T.one_60) 3 rfl rfl | exact LoadOK.one (by first | exact T.one_3 | exact T.one_53 | exact T.one_54 | exact T.one_60) 4 rfl rfl | exact LoadOK.one (by first | exact T.one_3 | exact T.one_53 | exact T.one_54 | exact T.one_60) 5 rfl rfl | exact LoadOK.one (by first | exact T.one_3 | exact T.one_53 | exact T.one_54 | exact T.one_60) 6 rfl rfl | exact LoadOK.one (by first | exact T.one_3 | exact T.one_53 | exact T.one_54 | exact T.one_60) 7 rfl rfl | exact LoadOK.agg (vs := [_, _]) T.agg_62 0 rfl rfl ⟨rfl, rfl, trivial⟩ | exact LoadOK.agg (vs := [_, _]) T.agg_62 1 rfl rfl ⟨rfl, rfl, trivial⟩ | exact LoadOK.agg (vs := [_, _]) T.agg_62 2 rfl rfl ⟨rfl, rfl, trivial⟩ | exact LoadOK.agg (vs := [_, _]) T.agg_62 3 rfl rfl ⟨rfl, rfl, trivial⟩ | exact LoadOK.agg (vs := [_, _]) T.agg_62 4 rfl rfl ⟨rfl, rfl, trivial⟩ | exact LoadOK.agg (vs := [_, _]) T.agg_62 5 rfl rfl ⟨rfl, rfl, trivial⟩ | exact LoadOK.agg (vs := [_, _]) T.agg_62 6 rfl rfl ⟨rfl, rfl, trivial⟩ | exact LoadOK.agg (vs := [_, _]) T.agg_62 7 rfl rfl ⟨rfl, rfl, trivial⟩)
      | (apply G.eql; exact rfl; exact rfl; exact rfl)
      | (refine Goal.quiet rfl (Run.eqlP T.ptr_24 rfl rfl rfl) ?_)
      | (apply G.notT; exact rfl; exact rfl)
      | (apply G.notF; exact rfl; exact rfl)
      | (refine G.notD rfl rfl ?_)
      | (apply G.notB; exact rfl; exact rfl)
      | (apply G.extract; exact rfl; exact rfl; exact rfl)
      | (apply G.len; exact rfl; exact rfl; exact T.slc_60)
      | (refine Goal.loud rfl ?_; refine Loud.delI0 T.map_54 rfl rfl ?_)
      | (refine Goal.loud rfl ?_; refine Loud.delI1 T.map_54 rfl rfl ?_)
      | (refine Goal.loud rfl ?_; refine Loud.delI2 T.map_54 rfl rfl ?_)
      | (refine Goal.loud rfl ?_; refine Loud.delI3 T.map_54 rfl rfl ?_)
      | (refine Goal.loud rfl ?_; refine Loud.delI4 T.map_54 rfl rfl ?_)
      | (apply G.nilCheckP; exact rfl; exact rfl)
      | (refine Goal.quiet rfl (Run.sliceH T.slc_60 T.sz_62 rfl rfl _ rfl (by omega)) ?_)
      | (refine Goal.quiet rfl (Run.sliceH T.slc_60 T.sz_62 rfl rfl _ (Int.toNat_of_nonneg (by omega)).symm (by omega)) ?_)
      | (refine Goal.quiet rfl (Run.sliceL T.slc_60 T.sz_62 rfl rfl 1 rfl (by omega)) ?_)
      | (refine Goal.quiet rfl (Run.sliceL T.slc_60 T.sz_62 rfl rfl _ (Int.toNat_of_nonneg (by omega)).symm (by omega)) ?_)
      | (refine G.indexAddr1 rfl (by first | exact T.slc_53 | exact T.slc_60) T.sz_60 rfl rfl _ rfl (by omega) ?_)
      | (refine G.indexAddr1 rfl (by first | exact T.slc_53 | exact T.slc_60) T.sz_60 rfl rfl _ (Int.toNat_of_nonneg (by omega)).symm (by omega) ?_)
      | (refine G.indexAddr rfl (by first | exact T.slc_53 | exact T.slc_60) T.sz_62 rfl rfl _ rfl (by omega) ?_)
      | (refine G.indexAddr rfl (by first | exact T.slc_53 | exact T.slc_60) T.sz_62 rfl rfl _ (Int.toNat_of_nonneg (by omega)).symm (by omega) ?_)
      | (refine Goal.loud rfl ?_; refine Loud.store0 rfl rfl (by first | exact T.sz_3 | exact T.sz_60 | exact T.sz_62) rfl rfl rfl (by first | exact Nat.le_of_ble_eq_true rfl | exact Nat.le_refl _ | decide | (simp; omega)) rfl ?_)
      | (refine Goal.loud rfl ?_; refine Loud.store1 rfl rfl (by first | exact T.sz_3 | exact T.sz_60 | exact T.sz_62) rfl rfl rfl (by first | exact Nat.le_of_ble_eq_true rfl | exact Nat.le_refl _ | decide | (simp; omega)) rfl ?_)
      | (refine Goal.loud rfl ?_; refine Loud.store2 rfl rfl (by first | exact T.sz_3 | exact T.sz_60 | exact T.sz_62) rfl rfl rfl (by first | exact Nat.le_of_ble_eq_true rfl | exact Nat.le_refl _ | decide | (simp; omega)) rfl ?_)
      | (refine Goal.loud rfl ?_; refine Loud.store3 rfl rfl (by first | exact T.sz_3 | exact T.sz_60 | exact T.sz_62) rfl rfl rfl (by first | exact Nat.le_of_ble_eq_true rfl | exact Nat.le_refl _ | decide | (simp; omega)) rfl ?_)
      | (refine Goal.loud rfl ?_; refine Loud.store4 rfl rfl (by first | exact T.sz_3 | exact T.sz_60 | exact T.sz_62) rfl rfl rfl (by first | exact Nat.le_of_ble_eq_true rfl | exact Nat.le_refl _ | decide | (simp; omega)) rfl ?_)
      | (refine Goal.loud rfl ?_; refine Loud.store5 rfl rfl (by first | exact T.sz_3 | exact T.sz_60 | exact T.sz_62) rfl rfl rfl (by first | exact Nat.le_of_ble_eq_true rfl | exact Nat.le_refl _ | decide | (simp; omega)) rfl ?_)
      | (refine Goal.loud rfl ?_; refine Loud.store6 rfl rfl (by first | exact T.sz_3 | exact T.sz_60 | exact T.sz_62) rfl rfl rfl (by first | exact Nat.le_of_ble_eq_true rfl | exact Nat.le_refl _ | decide | (simp; omega)) rfl ?_)
      | (refine Goal.loud rfl ?_; refine Loud.store7 rfl rfl (by first | exact T.sz_3 | exact T.sz_60 | exact T.sz_62) rfl rfl rfl (by first | exact Nat.le_of_ble_eq_true rfl | exact Nat.le_refl _ | decide | (simp; omega)) rfl ?_))
    refine Goal.done (vs := [_, _, _]) (by first | exact .inl rfl | exact .inr rfl) Try.results12 ⟨rfl, rfl, rfl, trivial⟩ rfl (fun w' H => ⟨⟨0, 0, false, _⟩, .inl ⟨rfl, rfl, rfl, rfl, hA0⟩, rfl, H⟩)
  · exact next_ok hA hQ hE
theorem peekQ (hA : QM bq E now last A) :
    MCalls Try.prog 19 [.pointer (some ⟨bq, 0, none⟩)] A
      (fun x : NQ => QM bq E now last x.A ∧ ((x.ok = false ∧ x.k = 0 ∧ E = []) ∨ (x.ok = true ∧ ∃ E1 e E2, IsFirst E E1 e E2 ∧ x.k = e.time)))
      (fun x => .tuple #[.int .i64 x.k, .bool x.ok]) (fun x => x.A) := by
  have hA0 := hA
  rcases hA with ⟨rfl, rfl, rfl, rfl⟩ | ⟨q, hQ, rfl, rfl, hE, hA⟩
  · refine .mk fun w hw => ?_
    refine Goal.enter (args := [.pointer (some ⟨bq, 0, none⟩)]) Try.func19 rfl Try.ntmps19 rfl (hw) ?_
    repeat' (first
      | (refine Goal.loud (o := ⟨some 8, _, _, _, _, _⟩) rfl ?_; refine Loud.callE ([]) (first_fresh bq) rfl rfl rfl rfl T.bod_23 (fun _ h => h) ?_; rintro ⟨⟩ -)
      | (apply G.move; exact rfl; exact rfl)
      | (apply G.assign; exact rfl; exact rfl)
      | refine Goal.seq (fun _ _ => ?_)
      | refine Goal.next (by assumption) ?_
      | refine Goal.lnil ?_
      | refine Goal.region ?_
      | refine Goal.skip ?_
      | refine Goal.block ?_
      | refine Goal.exit ?_
      | refine Goal.ret ?_
      | refine Goal.then_exit ?_
      | refine Goal.then_ret ?_
      | refine Goal.inBlock_exit ?_
      | refine Goal.inBlock_normal ?_
      | refine Goal.inBlock_ret ?_
      | refine Goal.inBlock_other rfl ?_
      | (apply Goal.condT; exact rfl)
      | (apply Goal.condF; exact rfl)
      | (refine Goal.condD rfl (fun hc => ?_) (fun hc => ?_) <;> first | (exfalso; omega) | contradiction | skip)
      | refine Goal.condB rfl (fun hc => ?_) (fun hc => ?_)
      | (apply G.eql; exact rfl; exact rfl; exact rfl)
      | (refine Goal.quiet rfl (Run.eqlP T.ptr_24 rfl rfl rfl) ?_)
      | (apply G.extract; exact rfl; exact rfl; exact rfl))
    refine Goal.done (vs := [_, _]) (by first | exact .inl rfl | exact .inr rfl) Try.results19 ⟨rfl, rfl, trivial⟩ rfl (fun w' H => ⟨⟨0, 0, false, _⟩, ⟨hA0, .inl ⟨rfl, rfl, rfl⟩⟩, rfl, H⟩)
  · refine .mk fun w hw => ?_
    refine Goal.enter (args := [.pointer (some ⟨bq, 0, none⟩)]) Try.func19 rfl Try.ntmps19 rfl (hw) ?_
    repeat' (first
      | (refine Goal.loud (o := ⟨some 8, _, _, _, _, _⟩) rfl ?_; refine Loud.callE ([]) (first_ok hA) rfl rfl rfl rfl T.bod_23 (fun _ h => h) ?_; rintro ⟨i, k, ok, A1⟩ ⟨hp, h1⟩; dsimp only at hp h1 ⊢)
      | (apply G.move; exact rfl; exact rfl)
      | (apply G.assign; exact rfl; exact rfl)
      | refine Goal.seq (fun _ _ => ?_)
      | refine Goal.next (by assumption) ?_
      | refine Goal.lnil ?_
      | refine Goal.region ?_
      | refine Goal.skip ?_
      | refine Goal.block ?_
      | refine Goal.exit ?_
      | refine Goal.ret ?_
      | refine Goal.then_exit ?_
      | refine Goal.then_ret ?_
      | refine Goal.inBlock_exit ?_
      | refine Goal.inBlock_normal ?_
      | refine Goal.inBlock_ret ?_
      | refine Goal.inBlock_other rfl ?_
      | (apply Goal.condT; exact rfl)
      | (apply Goal.condF; exact rfl)
      | (refine Goal.condD rfl (fun hc => ?_) (fun hc => ?_) <;> first | (exfalso; omega) | contradiction | skip)
      | refine Goal.condB rfl (fun hc => ?_) (fun hc => ?_)
      | (apply G.eql; exact rfl; exact rfl; exact rfl)
      | (refine Goal.quiet rfl (Run.eqlP T.ptr_24 rfl rfl rfl) ?_)
      | (apply G.extract; exact rfl; exact rfl; exact rfl))
    refine Goal.done (vs := [_, _]) (by first | exact .inl rfl | exact .inr rfl) Try.results19 ⟨rfl, rfl, trivial⟩ rfl (fun w' H => ⟨⟨k, 0, ok, A1⟩, ⟨.inr ⟨q, hQ, rfl, rfl, hE, h1⟩, ?_⟩, rfl, H⟩)
    dsimp only
    rcases id hp with ⟨rfl, rfl, rfl, hno⟩ | ⟨rfl, _⟩
    · exact .inl ⟨rfl, rfl, hQ.empty hno⟩
    · obtain ⟨E1, e, E2, hF, rfl, _, _⟩ := hQ.first hp
      exact .inr ⟨rfl, E1, e, E2, hF, rfl⟩
theorem cancelQ (hA : QM bq E now last A) (id : Int) :
    MCalls Try.prog 14 [.pointer (some ⟨bq, 0, none⟩), .int .i64 id] A
      (fun A' : List Blk => QM bq (without E id) now last A') (fun _ => .int .i64 (if hasId E id then 0 else 8)) (fun A' => A') := by
  have hA0 := hA
  rcases hA with ⟨rfl, rfl, rfl, rfl⟩ | ⟨q, hQ, rfl, rfl, hE, hA⟩
  · refine .mk fun w hw => ?_
    refine Goal.enter (args := [.pointer (some ⟨bq, 0, none⟩), .int .i64 id]) Try.func14 rfl Try.ntmps14 rfl (hw) ?_
    repeat' (first
      | (refine Goal.drawAll (id := 3) 11 T.mixed ?_; all_goals ((refine Goal.takeP (listed' := #[true, false, false, false, false, false, false, false, false, false, false]) 0 ⟨rfl, by kernel_rfl, by kernel_rfl, by kernel_rfl, by kernel_rfl⟩ rfl (fun _ _ _ _ h => h) (by intro _; exact Run.move rfl) ?_)); all_goals ((refine Goal.takeP (listed' := #[true, true, false, false, false, false, false, false, false, false, false]) 1 ⟨rfl, by kernel_rfl, by kernel_rfl, by kernel_rfl, by kernel_rfl⟩ rfl (fun _ _ _ _ h => h) (by intro _; exact Run.nilCheckP rfl) ?_)); all_goals ((refine Goal.takeP (listed' := #[true, true, true, false, false, false, false, false, false, false, false]) 2 ⟨rfl, by kernel_rfl, by kernel_rfl, by kernel_rfl, by kernel_rfl⟩ rfl (fun _ _ _ _ h => h) (by intro _; exact Run.fieldAddr T.fld_56_6 rfl) ?_)); all_goals ((refine Goal.take (listed' := #[true, true, true, true, false, false, false, false, false, false, false]) 3 ⟨rfl, by kernel_rfl, by kernel_rfl, by kernel_rfl, by kernel_rfl, by kernel_rfl⟩ rfl (by (first | exact fun _ h => h | exact fun _ h => h.sub (.cons _ (.refl _)) | exact fun _ h => h.sub (.cons _ (.cons _ (.refl _))) | exact fun _ h => h.sub (.cons _ (.cons _ (.cons _ (.refl _)))) | exact fun _ h => h.drop | exact fun _ h => h.sub (List.sublist_append_left _ _) | exact fun _ h => by simpa only [List.append_eq, List.append_assoc, List.cons_append, List.nil_append, List.append_nil] using h)) (fun _ _ _ _ h => h) (by (apply Run.load; exact rfl; first | exact LoadOK.one T.one_54 0 rfl rfl | exact LoadOK.one T.one_54 1 rfl rfl | exact LoadOK.one T.one_54 2 rfl rfl | exact LoadOK.one T.one_54 3 rfl rfl | exact LoadOK.one T.one_54 4 rfl rfl | exact LoadOK.one T.one_54 5 rfl rfl | exact LoadOK.one T.one_54 6 rfl rfl | exact LoadOK.one T.one_54 7 rfl rfl)) ?_)); all_goals ((refine Goal.take (listed' := #[true, true, true, true, true, false, false, false, false, false, false]) 4 ⟨rfl, by kernel_rfl, by kernel_rfl, by kernel_rfl, by kernel_rfl, by kernel_rfl⟩ rfl (by (first | exact fun _ h => h | exact fun _ h => h.sub (.cons _ (.refl _)) | exact fun _ h => h.sub (.cons _ (.cons _ (.refl _))) | exact fun _ h => h.sub (.cons _ (.cons _ (.cons _ (.refl _)))) | exact fun _ h => h.drop | exact fun _ h => h.sub (List.sublist_append_left _ _) | exact fun _ h => by simpa only [List.append_eq, List.append_assoc, List.cons_append, List.nil_append, List.append_nil] using h)) (fun _ _ _ _ h => h) (by (apply Run.load; exact rfl; first | exact LoadOK.one T.one_3 0 rfl rfl | exact LoadOK.one T.one_3 1 rfl rfl | exact LoadOK.one T.one_3 2 rfl rfl | exact LoadOK.one T.one_3 3 rfl rfl | exact LoadOK.one T.one_3 4 rfl rfl | exact LoadOK.one T.one_3 5 rfl rfl | exact LoadOK.one T.one_3 6 rfl rfl | exact LoadOK.one T.one_3 7 rfl rfl)) ?_)); all_goals ((refine Goal.take (listed' := #[true, true, true, true, true, true, false, false, false, false, false]) 5 ⟨rfl, by kernel_rfl, by kernel_rfl, by kernel_rfl, by kernel_rfl, by kernel_rfl⟩ rfl (by (first | exact fun _ h => h | exact fun _ h => h.sub (.cons _ (.refl _)) | exact fun _ h => h.sub (.cons _ (.cons _ (.refl _))) | exact fun _ h => h.sub (.cons _ (.cons _ (.cons _ (.refl _)))) | exact fun _ h => h.drop | exact fun _ h => h.sub (List.sublist_append_left _ _) | exact fun _ h => by simpa only [List.append_eq, List.append_assoc, List.cons_append, List.nil_append, List.append_nil] using h)) (fun _ _ _ _ h => h) (by first | exact Run.lookII 0 T.map_54 rfl rfl rfl | exact Run.lookI 0 T.map_54 rfl rfl rfl | exact Run.lookII 1 T.map_54 rfl rfl rfl | exact Run.lookI 1 T.map_54 rfl rfl rfl | exact Run.lookII 2 T.map_54 rfl rfl rfl | exact Run.lookI 2 T.map_54 rfl rfl rfl | exact Run.lookII 3 T.map_54 rfl rfl rfl | exact Run.lookI 3 T.map_54 rfl rfl rfl | exact Run.lookII 4 T.map_54 rfl rfl rfl | exact Run.lookI 4 T.map_54 rfl rfl rfl | exact Run.lookNone T.map_54 rfl rfl) ?_)); all_goals ((refine Goal.takeP (listed' := #[true, true, true, true, true, true, true, false, false, false, false]) 6 ⟨rfl, by kernel_rfl, by kernel_rfl, by kernel_rfl, by kernel_rfl⟩ rfl (fun _ _ _ _ h => h) (by intro _; exact Run.move rfl) ?_)); all_goals ((refine Goal.takeP (listed' := #[true, true, true, true, true, true, true, true, false, false, false]) 7 ⟨rfl, by kernel_rfl, by kernel_rfl, by kernel_rfl, by kernel_rfl⟩ rfl (fun _ _ _ _ h => h) (by intro _; exact Run.extract rfl rfl) ?_)); all_goals ((refine Goal.takeP (listed' := #[true, true, true, true, true, true, true, true, true, false, false]) 8 ⟨rfl, by kernel_rfl, by kernel_rfl, by kernel_rfl, by kernel_rfl⟩ rfl (fun _ _ _ _ h => h) (by intro _; exact Run.extract rfl rfl) ?_)); all_goals ((refine Goal.takeP (listed' := #[true, true, true, true, true, true, true, true, true, true, false]) 9 ⟨rfl, by kernel_rfl, by kernel_rfl, by kernel_rfl, by kernel_rfl⟩ rfl (fun _ _ _ _ h => h) (by intro _; exact Run.assign rfl) ?_)); all_goals ((refine Goal.takeP (listed' := #[true, true, true, true, true, true, true, true, true, true, true]) 10 ⟨rfl, by kernel_rfl, by kernel_rfl, by kernel_rfl, by kernel_rfl⟩ rfl (fun _ _ _ _ h => h) (by intro _; exact Run.assign rfl) ?_)); all_goals (refine Goal.allUp (by kernel_rfl) ?_))
      | (refine Goal.loud (o := ⟨some 3, _, _, _, _, _⟩) rfl ?_; first | refine Loud.boxA rfl rfl (fun b3 => ?_) | refine Loud.box1 rfl rfl rfl (fun b3 => ?_))
      | (apply G.move; exact rfl; exact rfl)
      | (apply G.assign; exact rfl; exact rfl)
      | refine Goal.seq (fun _ _ => ?_)
      | refine Goal.next (by assumption) ?_
      | refine Goal.lnil ?_
      | refine Goal.region ?_
      | refine Goal.skip ?_
      | refine Goal.block ?_
      | refine Goal.exit ?_
      | refine Goal.ret ?_
      | refine Goal.then_exit ?_
      | refine Goal.then_ret ?_
      | refine Goal.inBlock_exit ?_
      | refine Goal.inBlock_normal ?_
      | refine Goal.inBlock_ret ?_
      | refine Goal.inBlock_other rfl ?_
      | (apply Goal.condT; exact rfl)
      | (apply Goal.condF; exact rfl)
      | (refine Goal.condD rfl (fun hc => ?_) (fun hc => ?_) <;> first | (exfalso; omega) | contradiction | skip)
      | refine Goal.condB rfl (fun hc => ?_) (fun hc => ?_)
      | (apply G.fieldAddr; exact rfl; exact rfl; (first | exact T.fld_56_3 | exact T.fld_56_5 | exact T.fld_56_6))
      | (apply G.load; exact rfl; exact rfl; first | exact LoadOK.one (by first | exact T.one_3 | exact T.one_53 | exact T.one_54 | exact T.one_60) 0 rfl rfl | exact LoadOK.one (by first | exact T.one_3 | exact T.one_53 | exact T.one_54 | exact T.one_60) 1 rfl rfl | exact LoadOK.one (by first | exact T.one_3 | exact T.one_53 | exact T.one_54 | exact T.one_60) 2 rfl rfl | exact LoadOK.one (by first | exact T.one_3 | exact T.one_53 | exact T.one_54 | exact T.one_60) 3 rfl rfl | exact LoadOK.one (by first | exact T.one_3 | exact T.one_53 | exact T.one_54 | exact T.one_60) 4 rfl rfl | exact LoadOK.one (by first | exact T.one_3 | exact T.one_53 | exact T.one_54 | exact T.one_60) 5 rfl rfl | exact LoadOK.one (by first | exact T.one_3 | exact T.one_53 | exact T.one_54 | exact T.one_60) 6 rfl rfl | exact LoadOK.one (by first | exact T.one_3 | exact T.one_53 | exact T.one_54 | exact T.one_60) 7 rfl rfl)
      | (apply G.eql; exact rfl; exact rfl; exact rfl)
      | (refine Goal.quiet rfl (Run.eqlP T.ptr_24 rfl rfl rfl) ?_)
      | (apply G.notT; exact rfl; exact rfl)
      | (apply G.notF; exact rfl; exact rfl)
      | (refine G.notD rfl rfl ?_)
      | (apply G.notB; exact rfl; exact rfl)
      | (apply G.extract; exact rfl; exact rfl; exact rfl)
      | (apply G.len; exact rfl; exact rfl; exact T.slc_60)
      | (refine Goal.quiet rfl (Run.lookII 0 T.map_54 rfl rfl rfl) ?_)
      | (refine Goal.quiet rfl (Run.lookI 0 T.map_54 rfl rfl rfl) ?_)
      | (refine Goal.quiet rfl (Run.lookII 1 T.map_54 rfl rfl rfl) ?_)
      | (refine Goal.quiet rfl (Run.lookI 1 T.map_54 rfl rfl rfl) ?_)
      | (refine Goal.quiet rfl (Run.lookII 2 T.map_54 rfl rfl rfl) ?_)
      | (refine Goal.quiet rfl (Run.lookI 2 T.map_54 rfl rfl rfl) ?_)
      | (refine Goal.quiet rfl (Run.lookII 3 T.map_54 rfl rfl rfl) ?_)
      | (refine Goal.quiet rfl (Run.lookI 3 T.map_54 rfl rfl rfl) ?_)
      | (refine Goal.quiet rfl (Run.lookII 4 T.map_54 rfl rfl rfl) ?_)
      | (refine Goal.quiet rfl (Run.lookI 4 T.map_54 rfl rfl rfl) ?_)
      | (refine Goal.quiet rfl (Run.lookNone T.map_54 rfl rfl) ?_)
      | (refine Goal.loud rfl ?_; refine Loud.delI0 T.map_54 rfl rfl ?_)
      | (refine Goal.loud rfl ?_; refine Loud.delI1 T.map_54 rfl rfl ?_)
      | (refine Goal.loud rfl ?_; refine Loud.delI2 T.map_54 rfl rfl ?_)
      | (refine Goal.loud rfl ?_; refine Loud.delI3 T.map_54 rfl rfl ?_)
      | (refine Goal.loud rfl ?_; refine Loud.delI4 T.map_54 rfl rfl ?_)
      | (apply G.nilCheckP; exact rfl; exact rfl)
      | (apply G.makeFunc; exact rfl; exact rfl; exact rfl)
      | (refine G.indexAddr1 rfl T.slc_53 T.sz_60 rfl rfl _ rfl (by omega) ?_)
      | (refine G.indexAddr1 rfl T.slc_53 T.sz_60 rfl rfl _ (Int.toNat_of_nonneg (by omega)).symm (by omega) ?_)
      | (refine Goal.loud rfl ?_; refine Loud.store0 rfl rfl T.sz_60 rfl rfl rfl (by first | exact Nat.le_of_ble_eq_true rfl | exact Nat.le_refl _ | decide | (simp; omega)) rfl ?_)
      | (refine Goal.loud rfl ?_; refine Loud.store1 rfl rfl T.sz_60 rfl rfl rfl (by first | exact Nat.le_of_ble_eq_true rfl | exact Nat.le_refl _ | decide | (simp; omega)) rfl ?_)
      | (refine Goal.loud rfl ?_; refine Loud.store2 rfl rfl T.sz_60 rfl rfl rfl (by first | exact Nat.le_of_ble_eq_true rfl | exact Nat.le_refl _ | decide | (simp; omega)) rfl ?_)
      | (refine Goal.loud rfl ?_; refine Loud.store3 rfl rfl T.sz_60 rfl rfl rfl (by first | exact Nat.le_of_ble_eq_true rfl | exact Nat.le_refl _ | decide | (simp; omega)) rfl ?_)
      | (refine Goal.loud rfl ?_; refine Loud.store4 rfl rfl T.sz_60 rfl rfl rfl (by first | exact Nat.le_of_ble_eq_true rfl | exact Nat.le_refl _ | decide | (simp; omega)) rfl ?_)
      | (refine Goal.loud rfl ?_; refine Loud.store5 rfl rfl T.sz_60 rfl rfl rfl (by first | exact Nat.le_of_ble_eq_true rfl | exact Nat.le_refl _ | decide | (simp; omega)) rfl ?_)
      | (refine Goal.loud rfl ?_; refine Loud.store6 rfl rfl T.sz_60 rfl rfl rfl (by first | exact Nat.le_of_ble_eq_true rfl | exact Nat.le_refl _ | decide | (simp; omega)) rfl ?_)
      | (refine Goal.loud rfl ?_; refine Loud.store7 rfl rfl T.sz_60 rfl rfl rfl (by first | exact Nat.le_of_ble_eq_true rfl | exact Nat.le_refl _ | decide | (simp; omega)) rfl ?_))
    refine Goal.done (vs := [_]) (by first | exact .inl rfl | exact .inr rfl) Try.results14 ⟨rfl, trivial⟩ rfl (fun w' H => ⟨_, hA0, rfl, St.drop1 H⟩)
  · exact cancel_ok hA hQ hE id
theorem lenQ (hA : QM bq E now last A) : MCalls Try.prog 13 [.pointer (some ⟨bq, 0, none⟩)] A (fun _ : Unit => True) (fun _ => .int .i64 E.length) (fun _ => A) := by
  rcases hA with ⟨rfl, rfl, rfl, rfl⟩ | ⟨q, hQ, rfl, rfl, hE, hA⟩
  · refine .mk fun w hw => ?_
    refine Goal.enter (args := [.pointer (some ⟨bq, 0, none⟩)]) Try.func13 rfl Try.ntmps13 rfl (hw) ?_
    repeat' (first
      | (apply G.move; exact rfl; exact rfl)
      | (apply G.assign; exact rfl; exact rfl)
      | refine Goal.seq (fun _ _ => ?_)
      | refine Goal.next (by assumption) ?_
      | refine Goal.lnil ?_
      | refine Goal.region ?_
      | refine Goal.skip ?_
      | refine Goal.block ?_
      | refine Goal.exit ?_
      | refine Goal.ret ?_
      | refine Goal.then_exit ?_
      | refine Goal.then_ret ?_
      | refine Goal.inBlock_exit ?_
      | refine Goal.inBlock_normal ?_
      | refine Goal.inBlock_ret ?_
      | refine Goal.inBlock_other rfl ?_
      | (apply Goal.condT; exact rfl)
      | (apply Goal.condF; exact rfl)
      | (refine Goal.condD rfl (fun hc => ?_) (fun hc => ?_) <;> first | (exfalso; omega) | contradiction | skip)
      | refine Goal.condB rfl (fun hc => ?_) (fun hc => ?_)
      | (apply G.fieldAddr; exact rfl; exact rfl; exact T.fld_56_6)
      | (apply G.load; exact rfl; exact rfl; first | exact LoadOK.one T.one_54 0 rfl rfl | exact LoadOK.one T.one_54 1 rfl rfl | exact LoadOK.one T.one_54 2 rfl rfl | exact LoadOK.one T.one_54 3 rfl rfl | exact LoadOK.one T.one_54 4 rfl rfl | exact LoadOK.one T.one_54 5 rfl rfl | exact LoadOK.one T.one_54 6 rfl rfl | exact LoadOK.one T.one_54 7 rfl rfl)
      | (apply G.eql; exact rfl; exact rfl; exact rfl)
      | (refine Goal.quiet rfl (Run.eqlP T.ptr_24 rfl rfl rfl) ?_)
      | (refine Goal.quiet rfl (Run.lenM 0 T.map_54 rfl rfl) ?_)
      | (refine Goal.quiet rfl (Run.lenM 1 T.map_54 rfl rfl) ?_)
      | (refine Goal.quiet rfl (Run.lenM 2 T.map_54 rfl rfl) ?_)
      | (refine Goal.quiet rfl (Run.lenM 3 T.map_54 rfl rfl) ?_)
      | (refine Goal.quiet rfl (Run.lenM 4 T.map_54 rfl rfl) ?_)
      | (refine Goal.quiet rfl (Run.lenM0 T.map_54 rfl) ?_)
      | (apply G.nilCheckP; exact rfl; exact rfl))
    refine Goal.done (vs := [_]) (by first | exact .inl rfl | exact .inr rfl) Try.results13 ⟨rfl, trivial⟩ rfl (fun w' H => ⟨(), trivial, rfl, H⟩)
  · have := len_ok hA
    rwa [hQ.ni] at this
theorem nowQ (hA : QM bq E now last A) : MCalls Try.prog 15 [.pointer (some ⟨bq, 0, none⟩)] A (fun _ : Unit => True) (fun _ => .int .i64 now) (fun _ => A) := by
  rcases hA with ⟨rfl, rfl, rfl, rfl⟩ | ⟨q, hQ, rfl, rfl, hE, hA⟩
  · refine .mk fun w hw => ?_
    refine Goal.enter (args := [.pointer (some ⟨bq, 0, none⟩)]) Try.func15 rfl Try.ntmps15 rfl (hw) ?_
    repeat' (first
      | (apply G.move; exact rfl; exact rfl)
      | (apply G.assign; exact rfl; exact rfl)
      | refine Goal.seq (fun _ _ => ?_)
      | refine Goal.next (by assumption) ?_
      | refine Goal.lnil ?_
      | refine Goal.region ?_
      | refine Goal.skip ?_
      | refine Goal.block ?_
      | refine Goal.exit ?_
      | refine Goal.ret ?_
      | refine Goal.then_exit ?_
      | refine Goal.then_ret ?_
      | refine Goal.inBlock_exit ?_
      | refine Goal.inBlock_normal ?_
      | refine Goal.inBlock_ret ?_
      | refine Goal.inBlock_other rfl ?_
      | (apply Goal.condT; exact rfl)
      | (apply Goal.condF; exact rfl)
      | (refine Goal.condD rfl (fun hc => ?_) (fun hc => ?_) <;> first | (exfalso; omega) | contradiction | skip)
      | refine Goal.condB rfl (fun hc => ?_) (fun hc => ?_)
      | (apply G.fieldAddr; exact rfl; exact rfl; exact T.fld_56_0)
      | (apply G.load; exact rfl; exact rfl; first | exact LoadOK.one T.one_3 0 rfl rfl | exact LoadOK.one T.one_3 1 rfl rfl | exact LoadOK.one T.one_3 2 rfl rfl | exact LoadOK.one T.one_3 3 rfl rfl | exact LoadOK.one T.one_3 4 rfl rfl | exact LoadOK.one T.one_3 5 rfl rfl | exact LoadOK.one T.one_3 6 rfl rfl | exact LoadOK.one T.one_3 7 rfl rfl)
      | (apply G.eql; exact rfl; exact rfl; exact rfl)
      | (refine Goal.quiet rfl (Run.eqlP T.ptr_24 rfl rfl rfl) ?_)
      | (apply G.nilCheckP; exact rfl; exact rfl))
    refine Goal.done (vs := [_]) (by first | exact .inl rfl | exact .inr rfl) Try.results15 ⟨rfl, trivial⟩ rfl (fun w' H => ⟨(), trivial, rfl, H⟩)
  · exact now_ok hA
structure QX where
  (bq : Nat) (A : List Blk)
theorem newQ (w : World) : Calls Try.prog 10 #[] w fun e w' => ∃ x : QX, QM x.bq [] 0 0 x.A ∧ e = .returned (.pointer (some ⟨x.bq, 0, none⟩)) ∧ St w [] w' x.A := by
  refine Goal.enter (args := []) Try.func10 rfl Try.ntmps10 rfl (St.nil w) ?_
  repeat' (first
    | (refine Goal.loud (o := ⟨some 2, _, _, _, _, _⟩) rfl ?_; first | refine Loud.boxA rfl rfl (fun b2 => ?_) | refine Loud.box1 rfl rfl rfl (fun b2 => ?_))
    | (apply G.assign; exact rfl; exact rfl)
    | refine Goal.seq (fun _ _ => ?_)
    | refine Goal.next (by assumption) ?_
    | refine Goal.lnil ?_
    | refine Goal.region ?_
    | refine Goal.skip ?_
    | refine Goal.block ?_
    | refine Goal.exit ?_
    | refine Goal.ret ?_
    | refine Goal.then_exit ?_
    | refine Goal.then_ret ?_
    | refine Goal.inBlock_exit ?_
    | refine Goal.inBlock_normal ?_
    | refine Goal.inBlock_ret ?_
    | refine Goal.inBlock_other rfl ?_
    | (apply Goal.condT; exact rfl)
    | (apply Goal.condF; exact rfl)
    | (refine Goal.condD rfl (fun hc => ?_) (fun hc => ?_) <;> first | (exfalso; omega) | contradiction | skip)
    | refine Goal.condB rfl (fun hc => ?_) (fun hc => ?_)
    | (apply G.build (cs := [_, _, _, _, _, _, _]); exact rfl; exact T.lay_56; exact rfl; exact rfl))
  refine Goal.done (vs := [_]) (by first | exact .inl rfl | exact .inr rfl) Try.results10 ⟨rfl, trivial⟩ rfl (fun w' H => ⟨⟨b2, _⟩, .inl ⟨rfl, rfl, rfl, rfl⟩, rfl, H⟩)
/-! A nil queue. -/
theorem add_nil (time data : Int) (w : World) : Calls Try.prog 11 #[.pointer none, .int .i64 time, .int .i64 data] w fun e w' => e = .returned (.tuple #[.int .i64 0, .int .i64 7]) ∧ Mod [] w w' := by
  refine Goal.enter (args := [.pointer none, .int .i64 time, .int .i64 data]) Try.func11 rfl Try.ntmps11 rfl (St.nil w) ?_
  repeat' (first
    | (refine Goal.loud (o := ⟨some 44, _, _, _, _, _⟩) rfl ?_; refine Loud.makeMap rfl (fun b44 => ?_))
    | (refine Goal.loud (o := ⟨some 45, _, _, _, _, _⟩) rfl ?_; refine Loud.makeMap rfl (fun b45 => ?_))
    | (apply G.move; exact rfl; exact rfl)
    | (apply G.assign; exact rfl; exact rfl)
    | refine Goal.seq (fun _ _ => ?_)
    | refine Goal.next (by assumption) ?_
    | refine Goal.lnil ?_
    | refine Goal.region ?_
    | refine Goal.skip ?_
    | refine Goal.block ?_
    | refine Goal.exit ?_
    | refine Goal.ret ?_
    | refine Goal.then_exit ?_
    | refine Goal.then_ret ?_
    | refine Goal.inBlock_exit ?_
    | refine Goal.inBlock_normal ?_
    | refine Goal.inBlock_ret ?_
    | refine Goal.inBlock_other rfl ?_
    | (apply Goal.condT; exact rfl)
    | (apply Goal.condF; exact rfl)
    | (refine Goal.condD rfl (fun hc => ?_) (fun hc => ?_) <;> first | (exfalso; omega) | contradiction | skip)
    | refine Goal.condB rfl (fun hc => ?_) (fun hc => ?_)
    | refine Goal.guardT rfl rfl ?_
    | refine Goal.guardF rfl rfl rfl rfl ?_
    | refine Goal.guardU rfl rfl rfl ?_
    | (refine Goal.guardD rfl rfl (fun hc => ?_) (fun hc => ?_) <;> first | (exfalso; omega) | contradiction | skip)
    | refine Goal.guardB rfl rfl (fun hc => ?_) (fun hc => ?_)
    | (apply G.fieldAddr; exact rfl; exact rfl; (first | exact T.fld_56_0 | exact T.fld_56_1 | exact T.fld_56_2 | exact T.fld_56_3 | exact T.fld_56_5 | exact T.fld_56_6))
    | (apply G.load; exact rfl; exact rfl; first | exact LoadOK.one (by first | exact T.one_3 | exact T.one_52 | exact T.one_53 | exact T.one_54 | exact T.one_60) 0 rfl rfl | exact LoadOK.one (by first | exact T.one_3 | exact T.one_52 | exact T.one_53 | exact T.one_54 | exact T.one_60) 1 rfl rfl | exact LoadOK.one (by first | exact T.one_3 | exact T.one_52 | exact T.one_53 | exact T.one_54 | exact T.one_60) 2 rfl rfl | exact LoadOK.one (by first | exact T.one_3 | exact T.one_52 | exact T.one_53 | exact T.one_54 | exact T.one_60) 3 rfl rfl | exact LoadOK.one (by first | exact T.one_3 | exact T.one_52 | exact T.one_53 | exact T.one_54 | exact T.one_60) 4 rfl rfl | exact LoadOK.one (by first | exact T.one_3 | exact T.one_52 | exact T.one_53 | exact T.one_54 | exact T.one_60) 5 rfl rfl | exact LoadOK.one (by first | exact T.one_3 | exact T.one_52 | exact T.one_53 | exact T.one_54 | exact T.one_60) 6 rfl rfl | exact LoadOK.one (by first | exact T.one_3 | exact T.one_52 | exact T.one_53 | exact T.one_54 | exact T.one_60) 7 rfl rfl)
    | (apply G.pickT; exact rfl; exact rfl; exact rfl)
    | (apply G.pickF; exact rfl; exact rfl; exact rfl)
    | (apply G.lss; exact rfl; exact rfl; exact rfl)
    | (apply G.gtr; exact rfl; exact rfl; exact rfl)
    | (apply G.geq; exact rfl; exact rfl; exact rfl)
    | (apply G.eql; exact rfl; exact rfl; exact rfl)
    | (apply G.add; exact rfl; exact rfl; exact rfl; first | exact IntWalk.i64_in _ (by omega) | exact IntWalk.u8_in _ (by omega) | exact IntWalk.u16_in _ (by omega) | exact IntWalk.u32_in _ (by omega) | exact IntWalk.u64_in _ (by omega))
    | (refine Goal.quiet rfl (Run.eqlP (by first | exact T.ptr_24 | exact T.ptr_52) rfl rfl rfl) ?_)
    | (apply G.notT; exact rfl; exact rfl)
    | (apply G.notF; exact rfl; exact rfl)
    | (refine G.notD rfl rfl ?_)
    | (apply G.notB; exact rfl; exact rfl)
    | (apply G.extract; exact rfl; exact rfl; exact rfl)
    | (apply G.build (cs := [_, _]); exact rfl; exact T.lay_62; exact rfl; exact rfl)
    | (refine Goal.quiet rfl (Run.lenM 0 T.map_54 rfl rfl) ?_)
    | (refine Goal.quiet rfl (Run.lenM 1 T.map_54 rfl rfl) ?_)
    | (refine Goal.quiet rfl (Run.lenM 2 T.map_54 rfl rfl) ?_)
    | (refine Goal.quiet rfl (Run.lenM 3 T.map_54 rfl rfl) ?_)
    | (refine Goal.quiet rfl (Run.lenM 4 T.map_54 rfl rfl) ?_)
    | (refine Goal.quiet rfl (Run.lenM0 T.map_54 rfl) ?_)
    | (refine Goal.quiet rfl (Run.lookII 0 T.map_54 rfl rfl rfl) ?_)
    | (refine Goal.quiet rfl (Run.lookI 0 T.map_54 rfl rfl rfl) ?_)
    | (refine Goal.quiet rfl (Run.lookII 1 T.map_54 rfl rfl rfl) ?_)
    | (refine Goal.quiet rfl (Run.lookI 1 T.map_54 rfl rfl rfl) ?_)
    | (refine Goal.quiet rfl (Run.lookII 2 T.map_54 rfl rfl rfl) ?_)
    | (refine Goal.quiet rfl (Run.lookI 2 T.map_54 rfl rfl rfl) ?_)
    | (refine Goal.quiet rfl (Run.lookII 3 T.map_54 rfl rfl rfl) ?_)
    | (refine Goal.quiet rfl (Run.lookI 3 T.map_54 rfl rfl rfl) ?_)
    | (refine Goal.quiet rfl (Run.lookII 4 T.map_54 rfl rfl rfl) ?_)
    | (refine Goal.quiet rfl (Run.lookI 4 T.map_54 rfl rfl rfl) ?_)
    | (refine Goal.quiet rfl (Run.lookNone T.map_54 rfl rfl) ?_)
    | (refine Goal.loud rfl ?_; refine Loud.putI0 T.map_54 rfl rfl rfl ?_)
    | (refine Goal.loud rfl ?_; refine Loud.putI1 T.map_54 rfl rfl rfl ?_)
    | (refine Goal.loud rfl ?_; refine Loud.putI2 T.map_54 rfl rfl rfl ?_)
    | (refine Goal.loud rfl ?_; refine Loud.putI3 T.map_54 rfl rfl rfl ?_)
    | (refine Goal.loud rfl ?_; refine Loud.putI4 T.map_54 rfl rfl rfl ?_)
    | (apply G.nilCheckP; exact rfl; exact rfl)
    | (refine G.indexAddr1 rfl T.slc_53 T.sz_60 rfl rfl _ rfl (by omega) ?_)
    | (refine G.indexAddr1 rfl T.slc_53 T.sz_60 rfl rfl _ (Int.toNat_of_nonneg (by omega)).symm (by omega) ?_)
    | (refine Goal.loud rfl ?_; refine Loud.store0 rfl rfl (by first | exact T.sz_3 | exact T.sz_52 | exact T.sz_54 | exact T.sz_60) rfl rfl rfl (by first | exact Nat.le_of_ble_eq_true rfl | exact Nat.le_refl _ | decide | (simp; omega)) rfl ?_)
    | (refine Goal.loud rfl ?_; refine Loud.store1 rfl rfl (by first | exact T.sz_3 | exact T.sz_52 | exact T.sz_54 | exact T.sz_60) rfl rfl rfl (by first | exact Nat.le_of_ble_eq_true rfl | exact Nat.le_refl _ | decide | (simp; omega)) rfl ?_)
    | (refine Goal.loud rfl ?_; refine Loud.store2 rfl rfl (by first | exact T.sz_3 | exact T.sz_52 | exact T.sz_54 | exact T.sz_60) rfl rfl rfl (by first | exact Nat.le_of_ble_eq_true rfl | exact Nat.le_refl _ | decide | (simp; omega)) rfl ?_)
    | (refine Goal.loud rfl ?_; refine Loud.store3 rfl rfl (by first | exact T.sz_3 | exact T.sz_52 | exact T.sz_54 | exact T.sz_60) rfl rfl rfl (by first | exact Nat.le_of_ble_eq_true rfl | exact Nat.le_refl _ | decide | (simp; omega)) rfl ?_)
    | (refine Goal.loud rfl ?_; refine Loud.store4 rfl rfl (by first | exact T.sz_3 | exact T.sz_52 | exact T.sz_54 | exact T.sz_60) rfl rfl rfl (by first | exact Nat.le_of_ble_eq_true rfl | exact Nat.le_refl _ | decide | (simp; omega)) rfl ?_)
    | (refine Goal.loud rfl ?_; refine Loud.store5 rfl rfl (by first | exact T.sz_3 | exact T.sz_52 | exact T.sz_54 | exact T.sz_60) rfl rfl rfl (by first | exact Nat.le_of_ble_eq_true rfl | exact Nat.le_refl _ | decide | (simp; omega)) rfl ?_)
    | (refine Goal.loud rfl ?_; refine Loud.store6 rfl rfl (by first | exact T.sz_3 | exact T.sz_52 | exact T.sz_54 | exact T.sz_60) rfl rfl rfl (by first | exact Nat.le_of_ble_eq_true rfl | exact Nat.le_refl _ | decide | (simp; omega)) rfl ?_)
    | (refine Goal.loud rfl ?_; refine Loud.store7 rfl rfl (by first | exact T.sz_3 | exact T.sz_52 | exact T.sz_54 | exact T.sz_60) rfl rfl rfl (by first | exact Nat.le_of_ble_eq_true rfl | exact Nat.le_refl _ | decide | (simp; omega)) rfl ?_))
  refine Goal.done (vs := [_, _]) (by first | exact .inl rfl | exact .inr rfl) Try.results11 ⟨rfl, rfl, trivial⟩ rfl (fun w' H => ⟨rfl, H.mod⟩)
theorem next_nil (w : World) : Calls Try.prog 12 #[.pointer none] w fun e w' => e = .returned (.tuple #[.int .i64 0, .int .i64 0, .bool false]) ∧ Mod [] w w' := by
  refine Goal.enter (args := [.pointer none]) Try.func12 rfl Try.ntmps12 rfl (St.nil w) ?_
  repeat' (first
    | (refine Goal.loud (o := ⟨some 6, _, _, _, _, _⟩) rfl ?_; refine Loud.allocA rfl T.inf_62 (fun b6 => ?_))
    | (apply G.move; exact rfl; exact rfl)
    | (apply G.assign; exact rfl; exact rfl)
    | refine Goal.seq (fun _ _ => ?_)
    | refine Goal.next (by assumption) ?_
    | refine Goal.lnil ?_
    | refine Goal.region ?_
    | refine Goal.skip ?_
    | refine Goal.block ?_
    | refine Goal.exit ?_
    | refine Goal.ret ?_
    | refine Goal.then_exit ?_
    | refine Goal.then_ret ?_
    | refine Goal.inBlock_exit ?_
    | refine Goal.inBlock_normal ?_
    | refine Goal.inBlock_ret ?_
    | refine Goal.inBlock_other rfl ?_
    | (apply Goal.condT; exact rfl)
    | (apply Goal.condF; exact rfl)
    | (refine Goal.condD rfl (fun hc => ?_) (fun hc => ?_) <;> first | (exfalso; omega) | contradiction | skip)
    | refine Goal.condB rfl (fun hc => ?_) (fun hc => ?_)
    | (apply G.fieldAddr; exact rfl; exact rfl; (first | exact T.fld_56_0 | exact T.fld_56_3 | exact T.fld_56_6 | exact T.fld_62_0 | exact T.fld_62_1))
    | (apply G.load; exact rfl; exact rfl; first | exact LoadOK.one (by first | exact T.one_3 | exact T.one_53 | exact T.one_54 | exact T.one_60) 0 rfl rfl | exact LoadOK.one (by first | exact T.one_3 | exact T.one_53 | exact T.one_54 | exact T.one_60) 1 rfl rfl | exact LoadOK.one (by first | exact T.one_3 | exact T.one_53 | exact T.one_54 | exact T.one_60) 2 rfl rfl | exact LoadOK.one (by first | exact T.one_3 | exact T.one_53 | exact T.one_54 | exact T.one_60) 3 rfl rfl | exact LoadOK.one (by first | exact T.one_3 | exact T.one_53 | exact T.one_54 | exact T.one_60) 4 rfl rfl | exact LoadOK.one (by first | exact T.one_3 | exact T.one_53 | exact T.one_54 | exact T.one_60) 5 rfl rfl | exact LoadOK.one (by first | exact T.one_3 | exact T.one_53 | exact T.one_54 | exact T.one_60) 6 rfl rfl | exact LoadOK.one (by first | exact T.one_3 | exact T.one_53 | exact T.one_54 | exact T.one_60) 7 rfl rfl | exact LoadOK.agg (vs := [_, _]) T.agg_62 0 rfl rfl ⟨rfl, rfl, trivial⟩ | exact LoadOK.agg (vs := [_, _]) T.agg_62 1 rfl rfl ⟨rfl, rfl, trivial⟩ | exact LoadOK.agg (vs := [_, _]) T.agg_62 2 rfl rfl ⟨rfl, rfl, trivial⟩ | exact LoadOK.agg (vs := [_, _]) T.agg_62 3 rfl rfl ⟨rfl, rfl, trivial⟩ | exact LoadOK.agg (vs := [_, _]) T.agg_62 4 rfl rfl ⟨rfl, rfl, trivial⟩ | exact LoadOK.agg (vs := [_, _]) T.agg_62 5 rfl rfl ⟨rfl, rfl, trivial⟩ | exact LoadOK.agg (vs := [_, _]) T.agg_62 6 rfl rfl ⟨rfl, rfl, trivial⟩ | exact LoadOK.agg (vs := [_, _]) T.agg_62 7 rfl rfl ⟨rfl, rfl, trivial⟩)
    | (apply G.eql; exact rfl; exact rfl; exact rfl)
    | (refine Goal.quiet rfl (Run.eqlP T.ptr_24 rfl rfl rfl) ?_)
    | (apply G.notT; exact rfl; exact rfl)
    | (apply G.notF; exact rfl; exact rfl)
    | (refine G.notD rfl rfl ?_)
    | (apply G.notB; exact rfl; exact rfl)
    | (apply G.extract; exact rfl; exact rfl; exact rfl)
    | (apply G.len; exact rfl; exact rfl; exact T.slc_60)
    | (refine Goal.loud rfl ?_; refine Loud.delI0 T.map_54 rfl rfl ?_)
    | (refine Goal.loud rfl ?_; refine Loud.delI1 T.map_54 rfl rfl ?_)
    | (refine Goal.loud rfl ?_; refine Loud.delI2 T.map_54 rfl rfl ?_)
    | (refine Goal.loud rfl ?_; refine Loud.delI3 T.map_54 rfl rfl ?_)
    | (refine Goal.loud rfl ?_; refine Loud.delI4 T.map_54 rfl rfl ?_)
    | (apply G.nilCheckP; exact rfl; exact rfl)
    | (refine Goal.quiet rfl (Run.sliceH T.slc_60 T.sz_62 rfl rfl _ rfl (by omega)) ?_)
    | (refine Goal.quiet rfl (Run.sliceH T.slc_60 T.sz_62 rfl rfl _ (Int.toNat_of_nonneg (by omega)).symm (by omega)) ?_)
    | (refine Goal.quiet rfl (Run.sliceL T.slc_60 T.sz_62 rfl rfl 1 rfl (by omega)) ?_)
    | (refine Goal.quiet rfl (Run.sliceL T.slc_60 T.sz_62 rfl rfl _ (Int.toNat_of_nonneg (by omega)).symm (by omega)) ?_)
    | (refine G.indexAddr1 rfl (by first | exact T.slc_53 | exact T.slc_60) T.sz_60 rfl rfl _ rfl (by omega) ?_)
    | (refine G.indexAddr1 rfl (by first | exact T.slc_53 | exact T.slc_60) T.sz_60 rfl rfl _ (Int.toNat_of_nonneg (by omega)).symm (by omega) ?_)
    | (refine G.indexAddr rfl (by first | exact T.slc_53 | exact T.slc_60) T.sz_62 rfl rfl _ rfl (by omega) ?_)
    | (refine G.indexAddr rfl (by first | exact T.slc_53 | exact T.slc_60) T.sz_62 rfl rfl _ (Int.toNat_of_nonneg (by omega)).symm (by omega) ?_)
    | (refine Goal.loud rfl ?_; refine Loud.store0 rfl rfl (by first | exact T.sz_3 | exact T.sz_60 | exact T.sz_62) rfl rfl rfl (by first | exact Nat.le_of_ble_eq_true rfl | exact Nat.le_refl _ | decide | (simp; omega)) rfl ?_)
    | (refine Goal.loud rfl ?_; refine Loud.store1 rfl rfl (by first | exact T.sz_3 | exact T.sz_60 | exact T.sz_62) rfl rfl rfl (by first | exact Nat.le_of_ble_eq_true rfl | exact Nat.le_refl _ | decide | (simp; omega)) rfl ?_)
    | (refine Goal.loud rfl ?_; refine Loud.store2 rfl rfl (by first | exact T.sz_3 | exact T.sz_60 | exact T.sz_62) rfl rfl rfl (by first | exact Nat.le_of_ble_eq_true rfl | exact Nat.le_refl _ | decide | (simp; omega)) rfl ?_)
    | (refine Goal.loud rfl ?_; refine Loud.store3 rfl rfl (by first | exact T.sz_3 | exact T.sz_60 | exact T.sz_62) rfl rfl rfl (by first | exact Nat.le_of_ble_eq_true rfl | exact Nat.le_refl _ | decide | (simp; omega)) rfl ?_)
    | (refine Goal.loud rfl ?_; refine Loud.store4 rfl rfl (by first | exact T.sz_3 | exact T.sz_60 | exact T.sz_62) rfl rfl rfl (by first | exact Nat.le_of_ble_eq_true rfl | exact Nat.le_refl _ | decide | (simp; omega)) rfl ?_)
    | (refine Goal.loud rfl ?_; refine Loud.store5 rfl rfl (by first | exact T.sz_3 | exact T.sz_60 | exact T.sz_62) rfl rfl rfl (by first | exact Nat.le_of_ble_eq_true rfl | exact Nat.le_refl _ | decide | (simp; omega)) rfl ?_)
    | (refine Goal.loud rfl ?_; refine Loud.store6 rfl rfl (by first | exact T.sz_3 | exact T.sz_60 | exact T.sz_62) rfl rfl rfl (by first | exact Nat.le_of_ble_eq_true rfl | exact Nat.le_refl _ | decide | (simp; omega)) rfl ?_)
    | (refine Goal.loud rfl ?_; refine Loud.store7 rfl rfl (by first | exact T.sz_3 | exact T.sz_60 | exact T.sz_62) rfl rfl rfl (by first | exact Nat.le_of_ble_eq_true rfl | exact Nat.le_refl _ | decide | (simp; omega)) rfl ?_))
  refine Goal.done (vs := [_, _, _]) (by first | exact .inl rfl | exact .inr rfl) Try.results12 ⟨rfl, rfl, rfl, trivial⟩ rfl (fun w' H => ⟨rfl, H.mod⟩)
theorem peek_nil (w : World) : Calls Try.prog 19 #[.pointer none] w fun e w' => e = .returned (.tuple #[.int .i64 0, .bool false]) ∧ Mod [] w w' := by
  refine Goal.enter (args := [.pointer none]) Try.func19 rfl Try.ntmps19 rfl (St.nil w) ?_
  repeat' (first
    | (apply G.move; exact rfl; exact rfl)
    | (apply G.assign; exact rfl; exact rfl)
    | refine Goal.seq (fun _ _ => ?_)
    | refine Goal.next (by assumption) ?_
    | refine Goal.lnil ?_
    | refine Goal.region ?_
    | refine Goal.skip ?_
    | refine Goal.block ?_
    | refine Goal.exit ?_
    | refine Goal.ret ?_
    | refine Goal.then_exit ?_
    | refine Goal.then_ret ?_
    | refine Goal.inBlock_exit ?_
    | refine Goal.inBlock_normal ?_
    | refine Goal.inBlock_ret ?_
    | refine Goal.inBlock_other rfl ?_
    | (apply Goal.condT; exact rfl)
    | (apply Goal.condF; exact rfl)
    | (refine Goal.condD rfl (fun hc => ?_) (fun hc => ?_) <;> first | (exfalso; omega) | contradiction | skip)
    | refine Goal.condB rfl (fun hc => ?_) (fun hc => ?_)
    | (apply G.eql; exact rfl; exact rfl; exact rfl)
    | (refine Goal.quiet rfl (Run.eqlP T.ptr_24 rfl rfl rfl) ?_)
    | (apply G.extract; exact rfl; exact rfl; exact rfl))
  refine Goal.done (vs := [_, _]) (by first | exact .inl rfl | exact .inr rfl) Try.results19 ⟨rfl, rfl, trivial⟩ rfl (fun w' H => ⟨rfl, H.mod⟩)
theorem cancel_nil (id : Int) (w : World) : Calls Try.prog 14 #[.pointer none, .int .i64 id] w fun e w' => e = .returned (.int .i64 7) ∧ Mod [] w w' := by
  refine Goal.enter (args := [.pointer none, .int .i64 id]) Try.func14 rfl Try.ntmps14 rfl (St.nil w) ?_
  repeat' (first
    | (refine Goal.loud (o := ⟨some 3, _, _, _, _, _⟩) rfl ?_; first | refine Loud.boxA rfl rfl (fun b3 => ?_) | refine Loud.box1 rfl rfl rfl (fun b3 => ?_))
    | (apply G.move; exact rfl; exact rfl)
    | (apply G.assign; exact rfl; exact rfl)
    | refine Goal.seq (fun _ _ => ?_)
    | refine Goal.next (by assumption) ?_
    | refine Goal.lnil ?_
    | refine Goal.region ?_
    | refine Goal.skip ?_
    | refine Goal.block ?_
    | refine Goal.exit ?_
    | refine Goal.ret ?_
    | refine Goal.then_exit ?_
    | refine Goal.then_ret ?_
    | refine Goal.inBlock_exit ?_
    | refine Goal.inBlock_normal ?_
    | refine Goal.inBlock_ret ?_
    | refine Goal.inBlock_other rfl ?_
    | (apply Goal.condT; exact rfl)
    | (apply Goal.condF; exact rfl)
    | (refine Goal.condD rfl (fun hc => ?_) (fun hc => ?_) <;> first | (exfalso; omega) | contradiction | skip)
    | refine Goal.condB rfl (fun hc => ?_) (fun hc => ?_)
    | (apply G.fieldAddr; exact rfl; exact rfl; (first | exact T.fld_56_3 | exact T.fld_56_5 | exact T.fld_56_6))
    | (apply G.load; exact rfl; exact rfl; first | exact LoadOK.one (by first | exact T.one_3 | exact T.one_53 | exact T.one_54 | exact T.one_60) 0 rfl rfl | exact LoadOK.one (by first | exact T.one_3 | exact T.one_53 | exact T.one_54 | exact T.one_60) 1 rfl rfl | exact LoadOK.one (by first | exact T.one_3 | exact T.one_53 | exact T.one_54 | exact T.one_60) 2 rfl rfl | exact LoadOK.one (by first | exact T.one_3 | exact T.one_53 | exact T.one_54 | exact T.one_60) 3 rfl rfl | exact LoadOK.one (by first | exact T.one_3 | exact T.one_53 | exact T.one_54 | exact T.one_60) 4 rfl rfl | exact LoadOK.one (by first | exact T.one_3 | exact T.one_53 | exact T.one_54 | exact T.one_60) 5 rfl rfl | exact LoadOK.one (by first | exact T.one_3 | exact T.one_53 | exact T.one_54 | exact T.one_60) 6 rfl rfl | exact LoadOK.one (by first | exact T.one_3 | exact T.one_53 | exact T.one_54 | exact T.one_60) 7 rfl rfl)
    | (apply G.eql; exact rfl; exact rfl; exact rfl)
    | (refine Goal.quiet rfl (Run.eqlP T.ptr_24 rfl rfl rfl) ?_)
    | (apply G.notT; exact rfl; exact rfl)
    | (apply G.notF; exact rfl; exact rfl)
    | (refine G.notD rfl rfl ?_)
    | (apply G.notB; exact rfl; exact rfl)
    | (apply G.extract; exact rfl; exact rfl; exact rfl)
    | (apply G.len; exact rfl; exact rfl; exact T.slc_60)
    | (refine Goal.quiet rfl (Run.lookII 0 T.map_54 rfl rfl rfl) ?_)
    | (refine Goal.quiet rfl (Run.lookI 0 T.map_54 rfl rfl rfl) ?_)
    | (refine Goal.quiet rfl (Run.lookII 1 T.map_54 rfl rfl rfl) ?_)
    | (refine Goal.quiet rfl (Run.lookI 1 T.map_54 rfl rfl rfl) ?_)
    | (refine Goal.quiet rfl (Run.lookII 2 T.map_54 rfl rfl rfl) ?_)
    | (refine Goal.quiet rfl (Run.lookI 2 T.map_54 rfl rfl rfl) ?_)
    | (refine Goal.quiet rfl (Run.lookII 3 T.map_54 rfl rfl rfl) ?_)
    | (refine Goal.quiet rfl (Run.lookI 3 T.map_54 rfl rfl rfl) ?_)
    | (refine Goal.quiet rfl (Run.lookII 4 T.map_54 rfl rfl rfl) ?_)
    | (refine Goal.quiet rfl (Run.lookI 4 T.map_54 rfl rfl rfl) ?_)
    | (refine Goal.quiet rfl (Run.lookNone T.map_54 rfl rfl) ?_)
    | (refine Goal.loud rfl ?_; refine Loud.delI0 T.map_54 rfl rfl ?_)
    | (refine Goal.loud rfl ?_; refine Loud.delI1 T.map_54 rfl rfl ?_)
    | (refine Goal.loud rfl ?_; refine Loud.delI2 T.map_54 rfl rfl ?_)
    | (refine Goal.loud rfl ?_; refine Loud.delI3 T.map_54 rfl rfl ?_)
    | (refine Goal.loud rfl ?_; refine Loud.delI4 T.map_54 rfl rfl ?_)
    | (apply G.nilCheckP; exact rfl; exact rfl)
    | (apply G.makeFunc; exact rfl; exact rfl; exact rfl)
    | (refine G.indexAddr1 rfl T.slc_53 T.sz_60 rfl rfl _ rfl (by omega) ?_)
    | (refine G.indexAddr1 rfl T.slc_53 T.sz_60 rfl rfl _ (Int.toNat_of_nonneg (by omega)).symm (by omega) ?_)
    | (refine Goal.loud rfl ?_; refine Loud.store0 rfl rfl T.sz_60 rfl rfl rfl (by first | exact Nat.le_of_ble_eq_true rfl | exact Nat.le_refl _ | decide | (simp; omega)) rfl ?_)
    | (refine Goal.loud rfl ?_; refine Loud.store1 rfl rfl T.sz_60 rfl rfl rfl (by first | exact Nat.le_of_ble_eq_true rfl | exact Nat.le_refl _ | decide | (simp; omega)) rfl ?_)
    | (refine Goal.loud rfl ?_; refine Loud.store2 rfl rfl T.sz_60 rfl rfl rfl (by first | exact Nat.le_of_ble_eq_true rfl | exact Nat.le_refl _ | decide | (simp; omega)) rfl ?_)
    | (refine Goal.loud rfl ?_; refine Loud.store3 rfl rfl T.sz_60 rfl rfl rfl (by first | exact Nat.le_of_ble_eq_true rfl | exact Nat.le_refl _ | decide | (simp; omega)) rfl ?_)
    | (refine Goal.loud rfl ?_; refine Loud.store4 rfl rfl T.sz_60 rfl rfl rfl (by first | exact Nat.le_of_ble_eq_true rfl | exact Nat.le_refl _ | decide | (simp; omega)) rfl ?_)
    | (refine Goal.loud rfl ?_; refine Loud.store5 rfl rfl T.sz_60 rfl rfl rfl (by first | exact Nat.le_of_ble_eq_true rfl | exact Nat.le_refl _ | decide | (simp; omega)) rfl ?_)
    | (refine Goal.loud rfl ?_; refine Loud.store6 rfl rfl T.sz_60 rfl rfl rfl (by first | exact Nat.le_of_ble_eq_true rfl | exact Nat.le_refl _ | decide | (simp; omega)) rfl ?_)
    | (refine Goal.loud rfl ?_; refine Loud.store7 rfl rfl T.sz_60 rfl rfl rfl (by first | exact Nat.le_of_ble_eq_true rfl | exact Nat.le_refl _ | decide | (simp; omega)) rfl ?_))
  refine Goal.done (vs := [_]) (by first | exact .inl rfl | exact .inr rfl) Try.results14 ⟨rfl, trivial⟩ rfl (fun w' H => ⟨rfl, H.mod⟩)
theorem len_nil (w : World) : Calls Try.prog 13 #[.pointer none] w fun e w' => e = .returned (.int .i64 0) ∧ Mod [] w w' := by
  refine Goal.enter (args := [.pointer none]) Try.func13 rfl Try.ntmps13 rfl (St.nil w) ?_
  repeat' (first
    | (apply G.move; exact rfl; exact rfl)
    | (apply G.assign; exact rfl; exact rfl)
    | refine Goal.seq (fun _ _ => ?_)
    | refine Goal.next (by assumption) ?_
    | refine Goal.lnil ?_
    | refine Goal.region ?_
    | refine Goal.skip ?_
    | refine Goal.block ?_
    | refine Goal.exit ?_
    | refine Goal.ret ?_
    | refine Goal.then_exit ?_
    | refine Goal.then_ret ?_
    | refine Goal.inBlock_exit ?_
    | refine Goal.inBlock_normal ?_
    | refine Goal.inBlock_ret ?_
    | refine Goal.inBlock_other rfl ?_
    | (apply Goal.condT; exact rfl)
    | (apply Goal.condF; exact rfl)
    | (refine Goal.condD rfl (fun hc => ?_) (fun hc => ?_) <;> first | (exfalso; omega) | contradiction | skip)
    | refine Goal.condB rfl (fun hc => ?_) (fun hc => ?_)
    | (apply G.fieldAddr; exact rfl; exact rfl; exact T.fld_56_6)
    | (apply G.load; exact rfl; exact rfl; first | exact LoadOK.one T.one_54 0 rfl rfl | exact LoadOK.one T.one_54 1 rfl rfl | exact LoadOK.one T.one_54 2 rfl rfl | exact LoadOK.one T.one_54 3 rfl rfl | exact LoadOK.one T.one_54 4 rfl rfl | exact LoadOK.one T.one_54 5 rfl rfl | exact LoadOK.one T.one_54 6 rfl rfl | exact LoadOK.one T.one_54 7 rfl rfl)
    | (apply G.eql; exact rfl; exact rfl; exact rfl)
    | (refine Goal.quiet rfl (Run.eqlP T.ptr_24 rfl rfl rfl) ?_)
    | (refine Goal.quiet rfl (Run.lenM 0 T.map_54 rfl rfl) ?_)
    | (refine Goal.quiet rfl (Run.lenM 1 T.map_54 rfl rfl) ?_)
    | (refine Goal.quiet rfl (Run.lenM 2 T.map_54 rfl rfl) ?_)
    | (refine Goal.quiet rfl (Run.lenM 3 T.map_54 rfl rfl) ?_)
    | (refine Goal.quiet rfl (Run.lenM 4 T.map_54 rfl rfl) ?_)
    | (refine Goal.quiet rfl (Run.lenM0 T.map_54 rfl) ?_)
    | (apply G.nilCheckP; exact rfl; exact rfl))
  refine Goal.done (vs := [_]) (by first | exact .inl rfl | exact .inr rfl) Try.results13 ⟨rfl, trivial⟩ rfl (fun w' H => ⟨rfl, H.mod⟩)
theorem now_nil (w : World) : Calls Try.prog 15 #[.pointer none] w fun e w' => e = .returned (.int .i64 0) ∧ Mod [] w w' := by
  refine Goal.enter (args := [.pointer none]) Try.func15 rfl Try.ntmps15 rfl (St.nil w) ?_
  repeat' (first
    | (apply G.move; exact rfl; exact rfl)
    | (apply G.assign; exact rfl; exact rfl)
    | refine Goal.seq (fun _ _ => ?_)
    | refine Goal.next (by assumption) ?_
    | refine Goal.lnil ?_
    | refine Goal.region ?_
    | refine Goal.skip ?_
    | refine Goal.block ?_
    | refine Goal.exit ?_
    | refine Goal.ret ?_
    | refine Goal.then_exit ?_
    | refine Goal.then_ret ?_
    | refine Goal.inBlock_exit ?_
    | refine Goal.inBlock_normal ?_
    | refine Goal.inBlock_ret ?_
    | refine Goal.inBlock_other rfl ?_
    | (apply Goal.condT; exact rfl)
    | (apply Goal.condF; exact rfl)
    | (refine Goal.condD rfl (fun hc => ?_) (fun hc => ?_) <;> first | (exfalso; omega) | contradiction | skip)
    | refine Goal.condB rfl (fun hc => ?_) (fun hc => ?_)
    | (apply G.fieldAddr; exact rfl; exact rfl; exact T.fld_56_0)
    | (apply G.load; exact rfl; exact rfl; first | exact LoadOK.one T.one_3 0 rfl rfl | exact LoadOK.one T.one_3 1 rfl rfl | exact LoadOK.one T.one_3 2 rfl rfl | exact LoadOK.one T.one_3 3 rfl rfl | exact LoadOK.one T.one_3 4 rfl rfl | exact LoadOK.one T.one_3 5 rfl rfl | exact LoadOK.one T.one_3 6 rfl rfl | exact LoadOK.one T.one_3 7 rfl rfl)
    | (apply G.eql; exact rfl; exact rfl; exact rfl)
    | (refine Goal.quiet rfl (Run.eqlP T.ptr_24 rfl rfl rfl) ?_)
    | (apply G.nilCheckP; exact rfl; exact rfl))
  refine Goal.done (vs := [_]) (by first | exact .inl rfl | exact .inr rfl) Try.results15 ⟨rfl, trivial⟩ rfl (fun w' H => ⟨rfl, H.mod⟩)
end
end Go.Proofs.Ytcekjnfdgbeekaa
