/- The document's queue. -/
import Derived.Test.YtcekjnfdgbeekaaEvX
namespace Go.Proofs.Ytcekjnfdgbeekaa
open Go.Wf
set_option linter.unusedVariables false
instance : Inhabited Evt := ⟨⟨0, 0, 0⟩⟩
def evc (e : Evt) : List Value := [.int .i64 e.id, .int .i64 e.time, .int .i64 e.data]
theorem evc_len (e : Evt) : (evc e).length = 3 := rfl
theorem evc_one (e : Evt) : (evc e).all Value.oneCell' = true := rfl
/-- The document's queue holds these events. -/
def DqM (br : Nat) (E : List Evt) (now last : Int) (A : List Blk) : Prop := ∃ (v : Value) (AE : List Blk),
  A = (br, .cells #[v, .int .i64 last, .int .i64 now] 45) :: AE ∧ Sl v 67 3 E.length (Els evc E) AE
section
variable {α : Type} {f : α → List Value} {w : World} {ad : Option Addr} {E0 m cap : Nat} {l : List α} {A : List Blk}
/-- s[:i] of a list that is at hand. -/
theorem RdE.front (hf : ∀ a, (f a).length = m) (hA : Sl (.slice ad l.length cap) E0 m l.length (Els f l) A) (ho : Own w A) {i : Nat} (hi : i ≤ l.length) (c : Nat) : RdE w (.slice ad i c) m ((l.take i).map f) := by
  obtain ⟨ad', cap', e, h⟩ := RdE.of_sl hf hA ho
  injection e with e1 e2 e3
  subst e1 e3
  refine ⟨ad, c, by rw [List.length_map, List.length_take, Nat.min_eq_left hi], fun k es hk => ?_⟩
  refine h k es ?_
  rw [List.getElem?_map] at hk ⊢
  rw [List.getElem?_take] at hk
  split at hk
  · exact hk
  · cases hk
/-- s[j:] of a list that is at hand. -/
theorem RdE.back {b : Nat} (hf : ∀ a, (f a).length = m) (hA : Sl (.slice (some ⟨b, 0, none⟩) l.length cap) E0 m l.length (Els f l) A) (ho : Own w A) {j : Nat} (hj : j ≤ l.length) (c : Nat) :
    RdE w (.slice (some ⟨b, if cap = j then 0 else 0 + j * m, none⟩) (l.length - j) c) m ((l.drop j).map f) := by
  obtain ⟨ad', cap', e, h⟩ := RdE.of_sl hf hA ho
  injection e with e1 e2 e3
  subst e1 e3
  refine ⟨_, c, by rw [List.length_map, List.length_drop], fun k es hk => ?_⟩
  have hk2 : (l.map f)[j + k]? = some es := by
    rw [List.getElem?_map] at hk ⊢
    rwa [List.getElem?_drop] at hk
  obtain ⟨h1, b', o, h2, h3⟩ := h (j + k) es hk2
  injection h2 with h2
  injection h2 with h4 h5 _
  subst h4 h5
  refine ⟨h1, b, if cap = j then 0 else 0 + j * m, rfl, fun q u hq => ?_⟩
  have hlt : j + k < l.length := by
    have := (List.getElem?_eq_some_iff.1 hk2).1
    simpa using this
  have hcap : cap ≠ j := by
    rcases hA with ⟨h, _⟩ | ⟨b2, r2, c2, hv, _, _, _, hle⟩
    · cases h
    · injection hv with _ _ hv
      omega
  rw [if_neg hcap, Nat.zero_add]
  have := h3 q u hq
  rw [Nat.zero_add, Nat.add_mul] at this
  exact this
end
section
variable {br : Nat} {E : List Evt} {now last : Int} {A : List Blk}
set_option maxHeartbeats 4000000 in
theorem daddQ (hA : DqM br E now last A) (time data : Int) (hE : E.length ≤ 65536) (hl : 0 ≤ last ∧ last ≤ 1099511627776) :
    MCalls Try.prog 16 [.pointer (some ⟨br, 0, none⟩), .int .i64 time, .int .i64 data] A
      (fun A' : List Blk => DqM br (if addErr E.length now time = 0 then E ++ [⟨last + 1, time, data⟩] else E) now (if addErr E.length now time = 0 then last + 1 else last) A')
      (fun _ => .tuple #[.int .i64 (if addErr E.length now time = 0 then last + 1 else 0), .int .i64 (addErr E.length now time)]) (fun A' => A') := .mk fun w hw => by
  have hA0 := hA
  obtain ⟨v, AE, rfl, hS⟩ := hA
  obtain ⟨ad, cap, rfl⟩ := hS.shape
  unfold addErr at *
  by_cases h1 : time < 0 ∨ 1073741824 < time
  · simp only [if_pos h1]
    rw [if_neg (by decide), if_neg (by decide), if_neg (by decide)]
    refine Goal.enter (args := [.pointer (some ⟨br, 0, none⟩), .int .i64 time, .int .i64 data]) Try.func16 rfl Try.ntmps16 rfl (hw) ?_
    repeat' (first
      | (apply G.move; exact rfl; exact rfl)
      | (apply G.assign; exact rfl; exact rfl)
      | refine Goal.seq (fun _ _ => ?_)
      | refine Goal.next (by assumption) ?_
      | refine Goal.lnil ?_
      | refine Goal.region ?_
      | refine Goal.skip ?_
      | refine Goal.block ?_
      | refine Goal.exit ?_
      | refine Goal.ret ?_
      | refine Goal.then_exit ?_
      | refine Goal.then_ret ?_
      | refine Goal.inBlock_exit ?_
      | refine Goal.inBlock_normal ?_
      | refine Goal.inBlock_ret ?_
      | refine Goal.inBlock_other rfl ?_
      | (apply Goal.condT; exact rfl)
      | (apply Goal.condF; exact rfl)
      | (refine Goal.condD rfl (fun hc => ?_) (fun hc => ?_) <;> first | (exfalso; omega) | contradiction | skip)
      | refine Goal.condB rfl (fun hc => ?_) (fun hc => ?_)
      | refine Goal.guardT rfl rfl ?_
      | refine Goal.guardF rfl rfl rfl rfl ?_
      | refine Goal.guardU rfl rfl rfl ?_
      | (refine Goal.guardD rfl rfl (fun hc => ?_) (fun hc => ?_) <;> first | (exfalso; omega) | contradiction | skip)
      | refine Goal.guardB rfl rfl (fun hc => ?_) (fun hc => ?_)
      | (apply G.fieldAddr; exact rfl; exact rfl; (first | exact T.fld_45_0 | exact T.fld_45_1 | exact T.fld_45_2))
      | (apply G.load; exact rfl; exact rfl; first | exact LoadOK.one (by first | exact T.one_3 | exact T.one_43) 0 rfl rfl | exact LoadOK.one (by first | exact T.one_3 | exact T.one_43) 1 rfl rfl | exact LoadOK.one (by first | exact T.one_3 | exact T.one_43) 2 rfl rfl | exact LoadOK.one (by first | exact T.one_3 | exact T.one_43) 3 rfl rfl | exact LoadOK.one (by first | exact T.one_3 | exact T.one_43) 4 rfl rfl | exact LoadOK.one (by first | exact T.one_3 | exact T.one_43) 5 rfl rfl | exact LoadOK.one (by first | exact T.one_3 | exact T.one_43) 6 rfl rfl | exact LoadOK.one (by first | exact T.one_3 | exact T.one_43) 7 rfl rfl)
      | (apply G.pickT; exact rfl; exact rfl; exact rfl)
      | (apply G.pickF; exact rfl; exact rfl; exact rfl)
      | (apply G.lss; exact rfl; exact rfl; exact rfl)
      | (apply G.gtr; exact rfl; exact rfl; exact rfl)
      | (apply G.geq; exact rfl; exact rfl; exact rfl)
      | (apply G.add; exact rfl; exact rfl; exact rfl; first | exact IntWalk.i64_in _ (by omega) | exact IntWalk.u8_in _ (by omega) | exact IntWalk.u16_in _ (by omega) | exact IntWalk.u32_in _ (by omega) | exact IntWalk.u64_in _ (by omega))
      | (apply G.build (cs := [_, _, _]); exact rfl; exact T.lay_67; exact rfl; exact rfl)
      | (apply G.len; exact rfl; exact rfl; exact T.slc_43)
      | (apply G.nilCheckP; exact rfl; exact rfl)
      | (refine Goal.loud rfl ?_; refine Loud.store0 rfl rfl (by first | exact T.sz_3 | exact T.sz_43) rfl rfl rfl (by first | exact Nat.le_of_ble_eq_true rfl | exact Nat.le_refl _ | decide | (simp; omega)) rfl ?_)
      | (refine Goal.loud rfl ?_; refine Loud.store1 rfl rfl (by first | exact T.sz_3 | exact T.sz_43) rfl rfl rfl (by first | exact Nat.le_of_ble_eq_true rfl | exact Nat.le_refl _ | decide | (simp; omega)) rfl ?_)
      | (refine Goal.loud rfl ?_; refine Loud.store2 rfl rfl (by first | exact T.sz_3 | exact T.sz_43) rfl rfl rfl (by first | exact Nat.le_of_ble_eq_true rfl | exact Nat.le_refl _ | decide | (simp; omega)) rfl ?_)
      | (refine Goal.loud rfl ?_; refine Loud.store3 rfl rfl (by first | exact T.sz_3 | exact T.sz_43) rfl rfl rfl (by first | exact Nat.le_of_ble_eq_true rfl | exact Nat.le_refl _ | decide | (simp; omega)) rfl ?_)
      | (refine Goal.loud rfl ?_; refine Loud.store4 rfl rfl (by first | exact T.sz_3 | exact T.sz_43) rfl rfl rfl (by first | exact Nat.le_of_ble_eq_true rfl | exact Nat.le_refl _ | decide | (simp; omega)) rfl ?_)
      | (refine Goal.loud rfl ?_; refine Loud.store5 rfl rfl (by first | exact T.sz_3 | exact T.sz_43) rfl rfl rfl (by first | exact Nat.le_of_ble_eq_true rfl | exact Nat.le_refl _ | decide | (simp; omega)) rfl ?_)
      | (refine Goal.loud rfl ?_; refine Loud.store6 rfl rfl (by first | exact T.sz_3 | exact T.sz_43) rfl rfl rfl (by first | exact Nat.le_of_ble_eq_true rfl | exact Nat.le_refl _ | decide | (simp; omega)) rfl ?_)
      | (refine Goal.loud rfl ?_; refine Loud.store7 rfl rfl (by first | exact T.sz_3 | exact T.sz_43) rfl rfl rfl (by first | exact Nat.le_of_ble_eq_true rfl | exact Nat.le_refl _ | decide | (simp; omega)) rfl ?_))
    all_goals
      refine Goal.done (vs := [_, _]) (by first | exact .inl rfl | exact .inr rfl) Try.results16 ⟨rfl, rfl, trivial⟩ rfl (fun w' H => ⟨_, hA0, rfl, H⟩)
  · simp only [if_neg h1]
    by_cases h2 : time < now
    · simp only [if_pos h2]
      rw [if_neg (by decide), if_neg (by decide), if_neg (by decide)]
      refine Goal.enter (args := [.pointer (some ⟨br, 0, none⟩), .int .i64 time, .int .i64 data]) Try.func16 rfl Try.ntmps16 rfl (hw) ?_
      repeat' (first
        | (apply G.move; exact rfl; exact rfl)
        | (apply G.assign; exact rfl; exact rfl)
        | refine Goal.seq (fun _ _ => ?_)
        | refine Goal.next (by assumption) ?_
        | refine Goal.lnil ?_
        | refine Goal.region ?_
        | refine Goal.skip ?_
        | refine Goal.block ?_
        | refine Goal.exit ?_
        | refine Goal.ret ?_
        | refine Goal.then_exit ?_
        | refine Goal.then_ret ?_
        | refine Goal.inBlock_exit ?_
        | refine Goal.inBlock_normal ?_
        | refine Goal.inBlock_ret ?_
        | refine Goal.inBlock_other rfl ?_
        | (apply Goal.condT; exact rfl)
        | (apply Goal.condF; exact rfl)
        | (refine Goal.condD rfl (fun hc => ?_) (fun hc => ?_) <;> first | (exfalso; omega) | contradiction | skip)
        | refine Goal.condB rfl (fun hc => ?_) (fun hc => ?_)
        | refine Goal.guardT rfl rfl ?_
        | refine Goal.guardF rfl rfl rfl rfl ?_
        | refine Goal.guardU rfl rfl rfl ?_
        | (refine Goal.guardD rfl rfl (fun hc => ?_) (fun hc => ?_) <;> first | (exfalso; omega) | contradiction | skip)
        | refine Goal.guardB rfl rfl (fun hc => ?_) (fun hc => ?_)
        | (apply G.fieldAddr; exact rfl; exact rfl; (first | exact T.fld_45_0 | exact T.fld_45_1 | exact T.fld_45_2))
        | (apply G.load; exact rfl; exact rfl; first | exact LoadOK.one (by first | exact T.one_3 | exact T.one_43) 0 rfl rfl | exact LoadOK.one (by first | exact T.one_3 | exact T.one_43) 1 rfl rfl | exact LoadOK.one (by first | exact T.one_3 | exact T.one_43) 2 rfl rfl | exact LoadOK.one (by first | exact T.one_3 | exact T.one_43) 3 rfl rfl | exact LoadOK.one (by first | exact T.one_3 | exact T.one_43) 4 rfl rfl | exact LoadOK.one (by first | exact T.one_3 | exact T.one_43) 5 rfl rfl | exact LoadOK.one (by first | exact T.one_3 | exact T.one_43) 6 rfl rfl | exact LoadOK.one (by first | exact T.one_3 | exact T.one_43) 7 rfl rfl)
        | (apply G.pickT; exact rfl; exact rfl; exact rfl)
        | (apply G.pickF; exact rfl; exact rfl; exact rfl)
        | (apply G.lss; exact rfl; exact rfl; exact rfl)
        | (apply G.gtr; exact rfl; exact rfl; exact rfl)
        | (apply G.geq; exact rfl; exact rfl; exact rfl)
        | (apply G.add; exact rfl; exact rfl; exact rfl; first | exact IntWalk.i64_in _ (by omega) | exact IntWalk.u8_in _ (by omega) | exact IntWalk.u16_in _ (by omega) | exact IntWalk.u32_in _ (by omega) | exact IntWalk.u64_in _ (by omega))
        | (apply G.build (cs := [_, _, _]); exact rfl; exact T.lay_67; exact rfl; exact rfl)
        | (apply G.len; exact rfl; exact rfl; exact T.slc_43)
        | (apply G.nilCheckP; exact rfl; exact rfl)
        | (refine Goal.loud rfl ?_; refine Loud.store0 rfl rfl (by first | exact T.sz_3 | exact T.sz_43) rfl rfl rfl (by first | exact Nat.le_of_ble_eq_true rfl | exact Nat.le_refl _ | decide | (simp; omega)) rfl ?_)
        | (refine Goal.loud rfl ?_; refine Loud.store1 rfl rfl (by first | exact T.sz_3 | exact T.sz_43) rfl rfl rfl (by first | exact Nat.le_of_ble_eq_true rfl | exact Nat.le_refl _ | decide | (simp; omega)) rfl ?_)
        | (refine Goal.loud rfl ?_; refine Loud.store2 rfl rfl (by first | exact T.sz_3 | exact T.sz_43) rfl rfl rfl (by first | exact Nat.le_of_ble_eq_true rfl | exact Nat.le_refl _ | decide | (simp; omega)) rfl ?_)
        | (refine Goal.loud rfl ?_; refine Loud.store3 rfl rfl (by first | exact T.sz_3 | exact T.sz_43) rfl rfl rfl (by first | exact Nat.le_of_ble_eq_true rfl | exact Nat.le_refl _ | decide | (simp; omega)) rfl ?_)
        | (refine Goal.loud rfl ?_; refine Loud.store4 rfl rfl (by first | exact T.sz_3 | exact T.sz_43) rfl rfl rfl (by first | exact Nat.le_of_ble_eq_true rfl | exact Nat.le_refl _ | decide | (simp; omega)) rfl ?_)
        | (refine Goal.loud rfl ?_; refine Loud.store5 rfl rfl (by first | exact T.sz_3 | exact T.sz_43) rfl rfl rfl (by first | exact Nat.le_of_ble_eq_true rfl | exact Nat.le_refl _ | decide | (simp; omega)) rfl ?_)
        | (refine Goal.loud rfl ?_; refine Loud.store6 rfl rfl (by first | exact T.sz_3 | exact T.sz_43) rfl rfl rfl (by first | exact Nat.le_of_ble_eq_true rfl | exact Nat.le_refl _ | decide | (simp; omega)) rfl ?_)
        | (refine Goal.loud rfl ?_; refine Loud.store7 rfl rfl (by first | exact T.sz_3 | exact T.sz_43) rfl rfl rfl (by first | exact Nat.le_of_ble_eq_true rfl | exact Nat.le_refl _ | decide | (simp; omega)) rfl ?_))
      all_goals
        refine Goal.done (vs := [_, _]) (by first | exact .inl rfl | exact .inr rfl) Try.results16 ⟨rfl, rfl, trivial⟩ rfl (fun w' H => ⟨_, hA0, rfl, H⟩)
    · simp only [if_neg h2]
      by_cases h3 : 65536 ≤ E.length
      · simp only [if_pos h3]
        rw [if_neg (by decide), if_neg (by decide), if_neg (by decide)]
        refine Goal.enter (args := [.pointer (some ⟨br, 0, none⟩), .int .i64 time, .int .i64 data]) Try.func16 rfl Try.ntmps16 rfl (hw) ?_
        repeat' (first
          | (apply G.move; exact rfl; exact rfl)
          | (apply G.assign; exact rfl; exact rfl)
          | refine Goal.seq (fun _ _ => ?_)
          | refine Goal.next (by assumption) ?_
          | refine Goal.lnil ?_
          | refine Goal.region ?_
          | refine Goal.skip ?_
          | refine Goal.block ?_
          | refine Goal.exit ?_
          | refine Goal.ret ?_
          | refine Goal.then_exit ?_
          | refine Goal.then_ret ?_
          | refine Goal.inBlock_exit ?_
          | refine Goal.inBlock_normal ?_
          | refine Goal.inBlock_ret ?_
          | refine Goal.inBlock_other rfl ?_
          | (apply Goal.condT; exact rfl)
          | (apply Goal.condF; exact rfl)
          | (refine Goal.condD rfl (fun hc => ?_) (fun hc => ?_) <;> first | (exfalso; omega) | contradiction | skip)
          | refine Goal.condB rfl (fun hc => ?_) (fun hc => ?_)
          | refine Goal.guardT rfl rfl ?_
          | refine Goal.guardF rfl rfl rfl rfl ?_
          | refine Goal.guardU rfl rfl rfl ?_
          | (refine Goal.guardD rfl rfl (fun hc => ?_) (fun hc => ?_) <;> first | (exfalso; omega) | contradiction | skip)
          | refine Goal.guardB rfl rfl (fun hc => ?_) (fun hc => ?_)
          | (apply G.fieldAddr; exact rfl; exact rfl; (first | exact T.fld_45_0 | exact T.fld_45_1 | exact T.fld_45_2))
          | (apply G.load; exact rfl; exact rfl; first | exact LoadOK.one (by first | exact T.one_3 | exact T.one_43) 0 rfl rfl | exact LoadOK.one (by first | exact T.one_3 | exact T.one_43) 1 rfl rfl | exact LoadOK.one (by first | exact T.one_3 | exact T.one_43) 2 rfl rfl | exact LoadOK.one (by first | exact T.one_3 | exact T.one_43) 3 rfl rfl | exact LoadOK.one (by first | exact T.one_3 | exact T.one_43) 4 rfl rfl | exact LoadOK.one (by first | exact T.one_3 | exact T.one_43) 5 rfl rfl | exact LoadOK.one (by first | exact T.one_3 | exact T.one_43) 6 rfl rfl | exact LoadOK.one (by first | exact T.one_3 | exact T.one_43) 7 rfl rfl)
          | (apply G.pickT; exact rfl; exact rfl; exact rfl)
          | (apply G.pickF; exact rfl; exact rfl; exact rfl)
          | (apply G.lss; exact rfl; exact rfl; exact rfl)
          | (apply G.gtr; exact rfl; exact rfl; exact rfl)
          | (apply G.geq; exact rfl; exact rfl; exact rfl)
          | (apply G.add; exact rfl; exact rfl; exact rfl; first | exact IntWalk.i64_in _ (by omega) | exact IntWalk.u8_in _ (by omega) | exact IntWalk.u16_in _ (by omega) | exact IntWalk.u32_in _ (by omega) | exact IntWalk.u64_in _ (by omega))
          | (apply G.build (cs := [_, _, _]); exact rfl; exact T.lay_67; exact rfl; exact rfl)
          | (apply G.len; exact rfl; exact rfl; exact T.slc_43)
          | (apply G.nilCheckP; exact rfl; exact rfl)
          | (refine Goal.loud rfl ?_; refine Loud.store0 rfl rfl (by first | exact T.sz_3 | exact T.sz_43) rfl rfl rfl (by first | exact Nat.le_of_ble_eq_true rfl | exact Nat.le_refl _ | decide | (simp; omega)) rfl ?_)
          | (refine Goal.loud rfl ?_; refine Loud.store1 rfl rfl (by first | exact T.sz_3 | exact T.sz_43) rfl rfl rfl (by first | exact Nat.le_of_ble_eq_true rfl | exact Nat.le_refl _ | decide | (simp; omega)) rfl ?_)
          | (refine Goal.loud rfl ?_; refine Loud.store2 rfl rfl (by first | exact T.sz_3 | exact T.sz_43) rfl rfl rfl (by first | exact Nat.le_of_ble_eq_true rfl | exact Nat.le_refl _ | decide | (simp; omega)) rfl ?_)
          | (refine Goal.loud rfl ?_; refine Loud.store3 rfl rfl (by first | exact T.sz_3 | exact T.sz_43) rfl rfl rfl (by first | exact Nat.le_of_ble_eq_true rfl | exact Nat.le_refl _ | decide | (simp; omega)) rfl ?_)
          | (refine Goal.loud rfl ?_; refine Loud.store4 rfl rfl (by first | exact T.sz_3 | exact T.sz_43) rfl rfl rfl (by first | exact Nat.le_of_ble_eq_true rfl | exact Nat.le_refl _ | decide | (simp; omega)) rfl ?_)
          | (refine Goal.loud rfl ?_; refine Loud.store5 rfl rfl (by first | exact T.sz_3 | exact T.sz_43) rfl rfl rfl (by first | exact Nat.le_of_ble_eq_true rfl | exact Nat.le_refl _ | decide | (simp; omega)) rfl ?_)
          | (refine Goal.loud rfl ?_; refine Loud.store6 rfl rfl (by first | exact T.sz_3 | exact T.sz_43) rfl rfl rfl (by first | exact Nat.le_of_ble_eq_true rfl | exact Nat.le_refl _ | decide | (simp; omega)) rfl ?_)
          | (refine Goal.loud rfl ?_; refine Loud.store7 rfl rfl (by first | exact T.sz_3 | exact T.sz_43) rfl rfl rfl (by first | exact Nat.le_of_ble_eq_true rfl | exact Nat.le_refl _ | decide | (simp; omega)) rfl ?_))
        all_goals
          refine Goal.done (vs := [_, _]) (by first | exact .inl rfl | exact .inr rfl) Try.results16 ⟨rfl, rfl, trivial⟩ rfl (fun w' H => ⟨_, hA0, rfl, H⟩)
      · simp only [if_neg h3, if_true]
        refine Goal.enter (args := [.pointer (some ⟨br, 0, none⟩), .int .i64 time, .int .i64 data]) Try.func16 rfl Try.ntmps16 rfl (hw) ?_
        repeat' (first
          | (refine Goal.drawHd (id := 8) 16 T.mixed ?_; all_goals ((refine Goal.takeP (listed' := #[true, false, false, false, false, false, false, false, false, false, false, false, false, false, false, false, false]) 0 ⟨rfl, by kernel_rfl, by kernel_rfl, by kernel_rfl, by kernel_rfl⟩ rfl (fun _ _ _ _ h => h) (by intro _; exact Run.move rfl) ?_)); all_goals ((refine Goal.takeP (listed' := #[true, true, false, false, false, false, false, false, false, false, false, false, false, false, false, false, false]) 1 ⟨rfl, by kernel_rfl, by kernel_rfl, by kernel_rfl, by kernel_rfl⟩ rfl (fun _ _ _ _ h => h) (by intro _; exact Run.move rfl) ?_)); all_goals ((refine Goal.takeP (listed' := #[true, true, true, false, false, false, false, false, false, false, false, false, false, false, false, false, false]) 2 ⟨rfl, by kernel_rfl, by kernel_rfl, by kernel_rfl, by kernel_rfl⟩ rfl (fun _ _ _ _ h => h) (by intro _; exact Run.nilCheckP rfl) ?_)); all_goals ((refine Goal.takeP (listed' := #[true, true, true, true, false, false, false, false, false, false, false, false, false, false, false, false, false]) 3 ⟨rfl, by kernel_rfl, by kernel_rfl, by kernel_rfl, by kernel_rfl⟩ rfl (fun _ _ _ _ h => h) (by intro _; exact Run.fieldAddr T.fld_45_0 rfl) ?_)); all_goals ((refine Goal.takeP (listed' := #[true, true, true, true, false, true, false, false, false, false, false, false, false, false, false, false, false]) 5 ⟨rfl, by kernel_rfl, by kernel_rfl, by kernel_rfl, by kernel_rfl⟩ rfl (fun _ _ _ _ h => h) (by intro _; exact Run.move rfl) ?_)); all_goals ((refine Goal.takeP (listed' := #[true, true, true, true, false, true, true, false, false, false, false, false, false, false, false, false, false]) 6 ⟨rfl, by kernel_rfl, by kernel_rfl, by kernel_rfl, by kernel_rfl⟩ rfl (fun _ _ _ _ h => h) (by intro _; exact Run.nilCheckP rfl) ?_)); all_goals ((refine Goal.takeP (listed' := #[true, true, true, true, false, true, true, true, false, false, false, false, false, false, false, false, false]) 7 ⟨rfl, by kernel_rfl, by kernel_rfl, by kernel_rfl, by kernel_rfl⟩ rfl (fun _ _ _ _ h => h) (by intro _; exact Run.fieldAddr T.fld_45_1 rfl) ?_)); all_goals ((refine Goal.takeP (listed' := #[true, true, true, true, false, true, true, true, false, true, false, false, false, false, false, false, false]) 9 ⟨rfl, by kernel_rfl, by kernel_rfl, by kernel_rfl, by kernel_rfl⟩ rfl (fun _ _ _ _ h => h) (by intro _; exact Run.move rfl) ?_)); all_goals ((refine Goal.takeP (listed' := #[true, true, true, true, false, true, true, true, false, true, true, false, false, false, false, false, false]) 10 ⟨rfl, by kernel_rfl, by kernel_rfl, by kernel_rfl, by kernel_rfl⟩ rfl (fun _ _ _ _ h => h) (by intro _; exact Run.move rfl) ?_)); all_goals ((refine Goal.take (listed' := #[true, true, true, true, true, true, true, true, false, true, true, false, false, false, false, false, false]) 4 ⟨rfl, by kernel_rfl, by kernel_rfl, by kernel_rfl, by kernel_rfl, by kernel_rfl⟩ rfl (by (first | exact fun _ h => h.sub (List.Sublist.cons_cons _ (List.nil_sublist _)) | exact fun _ h => h.sub (.cons _ (List.Sublist.cons_cons _ (List.nil_sublist _))) | exact fun _ h => h.sub (.cons _ (.refl _)) | exact fun _ h => h.sub (.cons _ (.cons _ (.refl _))) | exact fun _ h => h.sub (.cons _ (.cons _ (.cons _ (.refl _)))) | exact fun _ h => h.drop | exact fun _ h => h.sub (List.sublist_append_left _ _) | exact fun _ h => by simpa only [List.append_eq, List.append_assoc, List.cons_append, List.nil_append, List.append_nil] using h)) (fun _ _ _ _ h => h) (by (apply Run.load; exact rfl; first | exact LoadOK.one T.one_43 0 rfl rfl | exact LoadOK.one T.one_43 1 rfl rfl | exact LoadOK.one T.one_43 2 rfl rfl | exact LoadOK.one T.one_43 3 rfl rfl | exact LoadOK.one T.one_43 4 rfl rfl | exact LoadOK.one T.one_43 5 rfl rfl | exact LoadOK.one T.one_43 6 rfl rfl | exact LoadOK.one T.one_43 7 rfl rfl)) ?_)); all_goals ((refine Goal.take (listed' := #[true, true, true, true, true, true, true, true, true, true, true, false, false, false, false, false, false]) 8 ⟨rfl, by kernel_rfl, by kernel_rfl, by kernel_rfl, by kernel_rfl, by kernel_rfl⟩ rfl (by (first | exact fun _ h => h.sub (List.Sublist.cons_cons _ (List.nil_sublist _)) | exact fun _ h => h.sub (.cons _ (List.Sublist.cons_cons _ (List.nil_sublist _))) | exact fun _ h => h.sub (.cons _ (.refl _)) | exact fun _ h => h.sub (.cons _ (.cons _ (.refl _))) | exact fun _ h => h.sub (.cons _ (.cons _ (.cons _ (.refl _)))) | exact fun _ h => h.drop | exact fun _ h => h.sub (List.sublist_append_left _ _) | exact fun _ h => by simpa only [List.append_eq, List.append_assoc, List.cons_append, List.nil_append, List.append_nil] using h)) (fun _ _ _ _ h => h) (by (apply Run.load; exact rfl; first | exact LoadOK.one T.one_3 0 rfl rfl | exact LoadOK.one T.one_3 1 rfl rfl | exact LoadOK.one T.one_3 2 rfl rfl | exact LoadOK.one T.one_3 3 rfl rfl | exact LoadOK.one T.one_3 4 rfl rfl | exact LoadOK.one T.one_3 5 rfl rfl | exact LoadOK.one T.one_3 6 rfl rfl | exact LoadOK.one T.one_3 7 rfl rfl)) ?_)); all_goals ((refine Goal.takeP (listed' := #[true, true, true, true, true, true, true, true, true, true, true, true, false, false, false, false, false]) 11 ⟨rfl, by kernel_rfl, by kernel_rfl, by kernel_rfl, by kernel_rfl⟩ rfl (fun _ _ _ _ h => h) (by intro _; exact Run.build (cs := [_, _, _]) T.lay_67 rfl rfl) ?_)); all_goals (refine Goal.ready1 (i := 12) (by kernel_rfl) ?_); all_goals ((refine Goal.up (i := 12) (listed' := #[true, true, true, true, true, true, true, true, true, true, true, true, true, false, false, false, false]) rfl (by kernel_rfl) ?_; (refine Loud.buildSlice (cs := [_, _, _]) rfl T.slc_43 T.inf_67 rfl rfl (by decide) rfl rfl rfl (fun b48 => ?_)); first | refine Goal.tail rfl ?_ | refine Goal.kept (by (first | exact fun _ h => h.sub (List.Sublist.cons_cons _ (List.nil_sublist _)) | exact fun _ h => h.sub (.cons _ (List.Sublist.cons_cons _ (List.nil_sublist _))) | exact fun _ h => h.sub (.cons _ (.refl _)) | exact fun _ h => h.sub (.cons _ (.cons _ (.refl _))) | exact fun _ h => h.sub (.cons _ (.cons _ (.cons _ (.refl _)))) | exact fun _ h => h.drop | exact fun _ h => h.sub (List.sublist_append_left _ _) | exact fun _ h => by simpa only [List.append_eq, List.append_assoc, List.cons_append, List.nil_append, List.append_nil] using h)) ?_)); all_goals (refine Goal.ready1 (i := 13) (by kernel_rfl) ?_); all_goals ((refine Goal.up (i := 13) (listed' := #[true, true, true, true, true, true, true, true, true, true, true, true, true, true, false, false, false]) rfl (by kernel_rfl) ?_; (refine Loud.appendT rfl T.slc_43 T.inf_67 rfl [_] rfl hS rfl rfl rfl rfl (by omega) (by omega) ?_; intro v2 A2 hA2; obtain ⟨ad2, cap2, rfl⟩ := hA2.shape); first | refine Goal.tail rfl ?_ | refine Goal.kept (by (first | exact fun _ h => h.sub (List.Sublist.cons_cons _ (List.nil_sublist _)) | exact fun _ h => h.sub (.cons _ (List.Sublist.cons_cons _ (List.nil_sublist _))) | exact fun _ h => h.sub (.cons _ (.refl _)) | exact fun _ h => h.sub (.cons _ (.cons _ (.refl _))) | exact fun _ h => h.sub (.cons _ (.cons _ (.cons _ (.refl _)))) | exact fun _ h => h.drop | exact fun _ h => h.sub (List.sublist_append_left _ _) | exact fun _ h => by simpa only [List.append_eq, List.append_assoc, List.cons_append, List.nil_append, List.append_nil] using h)) ?_)); all_goals ((refine Goal.takeP (listed' := #[true, true, true, true, true, true, true, true, true, true, true, true, true, true, true, false, false]) 14 ⟨rfl, by kernel_rfl, by kernel_rfl, by kernel_rfl, by kernel_rfl⟩ rfl (fun _ _ _ _ h => h) (by intro _; exact Run.nilCheckP rfl) ?_)); all_goals ((refine Goal.takeP (listed' := #[true, true, true, true, true, true, true, true, true, true, true, true, true, true, true, true, false]) 15 ⟨rfl, by kernel_rfl, by kernel_rfl, by kernel_rfl, by kernel_rfl⟩ rfl (fun _ _ _ _ h => h) (by intro _; exact Run.fieldAddr T.fld_45_0 rfl) ?_)); all_goals (refine Goal.ready1 (i := 16) (by kernel_rfl) ?_); all_goals ((refine Goal.up (i := 16) (listed' := #[true, true, true, true, true, true, true, true, true, true, true, true, true, true, true, true, true]) rfl (by kernel_rfl) ?_; (first | refine Loud.store0 rfl rfl T.sz_43 rfl rfl rfl (by first | exact Nat.le_of_ble_eq_true rfl | exact Nat.le_refl _ | decide | (simp; omega)) rfl ?_ | refine Loud.store1 rfl rfl T.sz_43 rfl rfl rfl (by first | exact Nat.le_of_ble_eq_true rfl | exact Nat.le_refl _ | decide | (simp; omega)) rfl ?_ | refine Loud.store2 rfl rfl T.sz_43 rfl rfl rfl (by first | exact Nat.le_of_ble_eq_true rfl | exact Nat.le_refl _ | decide | (simp; omega)) rfl ?_ | refine Loud.store3 rfl rfl T.sz_43 rfl rfl rfl (by first | exact Nat.le_of_ble_eq_true rfl | exact Nat.le_refl _ | decide | (simp; omega)) rfl ?_ | refine Loud.store4 rfl rfl T.sz_43 rfl rfl rfl (by first | exact Nat.le_of_ble_eq_true rfl | exact Nat.le_refl _ | decide | (simp; omega)) rfl ?_ | refine Loud.store5 rfl rfl T.sz_43 rfl rfl rfl (by first | exact Nat.le_of_ble_eq_true rfl | exact Nat.le_refl _ | decide | (simp; omega)) rfl ?_ | refine Loud.store6 rfl rfl T.sz_43 rfl rfl rfl (by first | exact Nat.le_of_ble_eq_true rfl | exact Nat.le_refl _ | decide | (simp; omega)) rfl ?_ | refine Loud.store7 rfl rfl T.sz_43 rfl rfl rfl (by first | exact Nat.le_of_ble_eq_true rfl | exact Nat.le_refl _ | decide | (simp; omega)) rfl ?_); first | refine Goal.tail rfl ?_ | refine Goal.kept (by (first | exact fun _ h => h.sub (List.Sublist.cons_cons _ (List.nil_sublist _)) | exact fun _ h => h.sub (.cons _ (List.Sublist.cons_cons _ (List.nil_sublist _))) | exact fun _ h => h.sub (.cons _ (.refl _)) | exact fun _ h => h.sub (.cons _ (.cons _ (.refl _))) | exact fun _ h => h.sub (.cons _ (.cons _ (.cons _ (.refl _)))) | exact fun _ h => h.drop | exact fun _ h => h.sub (List.sublist_append_left _ _) | exact fun _ h => by simpa only [List.append_eq, List.append_assoc, List.cons_append, List.nil_append, List.append_nil] using h)) ?_)); all_goals (refine Goal.allUp (by kernel_rfl) ?_))
          | (refine Goal.loud (o := ⟨some 49, _, _, _, _, _⟩) rfl ?_; refine Loud.appendT rfl T.slc_43 T.inf_67 rfl [_] rfl hS rfl rfl rfl rfl (by omega) (by omega) ?_; intro v2 A2 hA2; obtain ⟨ad2, cap2, rfl⟩ := hA2.shape)
          | (apply G.move; exact rfl; exact rfl)
          | (apply G.assign; exact rfl; exact rfl)
          | refine Goal.seq (fun _ _ => ?_)
          | refine Goal.next (by assumption) ?_
          | refine Goal.lnil ?_
          | refine Goal.region ?_
          | refine Goal.skip ?_
          | refine Goal.block ?_
          | refine Goal.exit ?_
          | refine Goal.ret ?_
          | refine Goal.then_exit ?_
          | refine Goal.then_ret ?_
          | refine Goal.inBlock_exit ?_
          | refine Goal.inBlock_normal ?_
          | refine Goal.inBlock_ret ?_
          | refine Goal.inBlock_other rfl ?_
          | (apply Goal.condT; exact rfl)
          | (apply Goal.condF; exact rfl)
          | (refine Goal.condD rfl (fun hc => ?_) (fun hc => ?_) <;> first | (exfalso; omega) | contradiction | skip)
          | refine Goal.condB rfl (fun hc => ?_) (fun hc => ?_)
          | refine Goal.guardT rfl rfl ?_
          | refine Goal.guardF rfl rfl rfl rfl ?_
          | refine Goal.guardU rfl rfl rfl ?_
          | (refine Goal.guardD rfl rfl (fun hc => ?_) (fun hc => ?_) <;> first | (exfalso; omega) | contradiction | skip)
          | refine Goal.guardB rfl rfl (fun hc => ?_) (fun hc => ?_)
          | (apply G.fieldAddr; exact rfl; exact rfl; (first | exact T.fld_45_0 | exact T.fld_45_1 | exact T.fld_45_2))
          | (apply G.load; exact rfl; exact rfl; first | exact LoadOK.one (by first | exact T.one_3 | exact T.one_43) 0 rfl rfl | exact LoadOK.one (by first | exact T.one_3 | exact T.one_43) 1 rfl rfl | exact LoadOK.one (by first | exact T.one_3 | exact T.one_43) 2 rfl rfl | exact LoadOK.one (by first | exact T.one_3 | exact T.one_43) 3 rfl rfl | exact LoadOK.one (by first | exact T.one_3 | exact T.one_43) 4 rfl rfl | exact LoadOK.one (by first | exact T.one_3 | exact T.one_43) 5 rfl rfl | exact LoadOK.one (by first | exact T.one_3 | exact T.one_43) 6 rfl rfl | exact LoadOK.one (by first | exact T.one_3 | exact T.one_43) 7 rfl rfl)
          | (apply G.pickT; exact rfl; exact rfl; exact rfl)
          | (apply G.pickF; exact rfl; exact rfl; exact rfl)
          | (apply G.lss; exact rfl; exact rfl; exact rfl)
          | (apply G.gtr; exact rfl; exact rfl; exact rfl)
          | (apply G.geq; exact rfl; exact rfl; exact rfl)
          | (apply G.add; exact rfl; exact rfl; exact rfl; first | exact IntWalk.i64_in _ (by omega) | exact IntWalk.u8_in _ (by omega) | exact IntWalk.u16_in _ (by omega) | exact IntWalk.u32_in _ (by omega) | exact IntWalk.u64_in _ (by omega))
          | (apply G.build (cs := [_, _, _]); exact rfl; exact T.lay_67; exact rfl; exact rfl)
          | (apply G.len; exact rfl; exact rfl; exact T.slc_43)
          | (apply G.nilCheckP; exact rfl; exact rfl)
          | (refine Goal.loud rfl ?_; refine Loud.store0 rfl rfl (by first | exact T.sz_3 | exact T.sz_43) rfl rfl rfl (by first | exact Nat.le_of_ble_eq_true rfl | exact Nat.le_refl _ | decide | (simp; omega)) rfl ?_)
          | (refine Goal.loud rfl ?_; refine Loud.store1 rfl rfl (by first | exact T.sz_3 | exact T.sz_43) rfl rfl rfl (by first | exact Nat.le_of_ble_eq_true rfl | exact Nat.le_refl _ | decide | (simp; omega)) rfl ?_)
          | (refine Goal.loud rfl ?_; refine Loud.store2 rfl rfl (by first | exact T.sz_3 | exact T.sz_43) rfl rfl rfl (by first | exact Nat.le_of_ble_eq_true rfl | exact Nat.le_refl _ | decide | (simp; omega)) rfl ?_)
          | (refine Goal.loud rfl ?_; refine Loud.store3 rfl rfl (by first | exact T.sz_3 | exact T.sz_43) rfl rfl rfl (by first | exact Nat.le_of_ble_eq_true rfl | exact Nat.le_refl _ | decide | (simp; omega)) rfl ?_)
          | (refine Goal.loud rfl ?_; refine Loud.store4 rfl rfl (by first | exact T.sz_3 | exact T.sz_43) rfl rfl rfl (by first | exact Nat.le_of_ble_eq_true rfl | exact Nat.le_refl _ | decide | (simp; omega)) rfl ?_)
          | (refine Goal.loud rfl ?_; refine Loud.store5 rfl rfl (by first | exact T.sz_3 | exact T.sz_43) rfl rfl rfl (by first | exact Nat.le_of_ble_eq_true rfl | exact Nat.le_refl _ | decide | (simp; omega)) rfl ?_)
          | (refine Goal.loud rfl ?_; refine Loud.store6 rfl rfl (by first | exact T.sz_3 | exact T.sz_43) rfl rfl rfl (by first | exact Nat.le_of_ble_eq_true rfl | exact Nat.le_refl _ | decide | (simp; omega)) rfl ?_)
          | (refine Goal.loud rfl ?_; refine Loud.store7 rfl rfl (by first | exact T.sz_3 | exact T.sz_43) rfl rfl rfl (by first | exact Nat.le_of_ble_eq_true rfl | exact Nat.le_refl _ | decide | (simp; omega)) rfl ?_))
        refine Goal.done (vs := [_, _]) (by first | exact .inl rfl | exact .inr rfl) Try.results16 ⟨rfl, rfl, trivial⟩ rfl (fun w' H => ⟨_, ⟨_, A2, rfl, by rw [List.length_append, Els_one]; exact hA2⟩, rfl, H⟩)
/-- drop -/
theorem ddropQ (hA : DqM br E now last A) (hE : E.length ≤ 65536) (i : Int) (hi : 0 ≤ i ∧ i < E.length) :
    MCalls Try.prog 28 [.pointer (some ⟨br, 0, none⟩), .int .i64 i] A
      (fun A' : List Blk => DqM br (E.take i.toNat ++ E.drop (i.toNat + 1)) now last A') (fun _ => .tuple #[]) (fun A' => A') := .mk fun w hw => by
  obtain ⟨v, AE, rfl, hS⟩ := hA
  obtain ⟨b, rest, cap, rfl, rfl, h1, h2, h3⟩ := hS.pos (by omega)
  have hS0 : Sl (.slice (some ⟨b, 0, none⟩) E.length cap) 67 3 E.length (Els evc E) [(b, .cells (Els evc E ++ rest).toArray 67)] := Sl.mk h1 h2 h3
  refine Goal.enter (args := [.pointer (some ⟨br, 0, none⟩), .int .i64 i]) Try.func28 rfl Try.ntmps28 rfl (hw) ?_
  repeat' (first
    | (refine Goal.drawAll (id := 0) 19 T.mixed ?_; all_goals ((refine Goal.takeP (listed' := #[true, false, false, false, false, false, false, false, false, false, false, false, false, false, false, false, false, false, false, false]) 0 ⟨rfl, by kernel_rfl, by kernel_rfl, by kernel_rfl, by kernel_rfl⟩ rfl (fun _ _ _ _ h => h) (by intro _; exact Run.move rfl) ?_)); all_goals ((refine Goal.takeP (listed' := #[true, false, true, false, false, false, false, false, false, false, false, false, false, false, false, false, false, false, false, false]) 2 ⟨rfl, by kernel_rfl, by kernel_rfl, by kernel_rfl, by kernel_rfl⟩ rfl (fun _ _ _ _ h => h) (by intro _; exact Run.move rfl) ?_)); all_goals ((refine Goal.takeP (listed' := #[true, false, true, true, false, false, false, false, false, false, false, false, false, false, false, false, false, false, false, false]) 3 ⟨rfl, by kernel_rfl, by kernel_rfl, by kernel_rfl, by kernel_rfl⟩ rfl (fun _ _ _ _ h => h) (by intro _; exact Run.nilCheckP rfl) ?_)); all_goals ((refine Goal.takeP (listed' := #[true, false, true, true, true, false, false, false, false, false, false, false, false, false, false, false, false, false, false, false]) 4 ⟨rfl, by kernel_rfl, by kernel_rfl, by kernel_rfl, by kernel_rfl⟩ rfl (fun _ _ _ _ h => h) (by intro _; exact Run.fieldAddr T.fld_45_0 rfl) ?_)); all_goals ((refine Goal.takeP (listed' := #[true, false, true, true, true, false, true, false, false, false, false, false, false, false, false, false, false, false, false, false]) 6 ⟨rfl, by kernel_rfl, by kernel_rfl, by kernel_rfl, by kernel_rfl⟩ rfl (fun _ _ _ _ h => h) (by intro _; exact Run.move rfl) ?_)); all_goals ((refine Goal.takeP (listed' := #[true, false, true, true, true, false, true, false, false, true, false, false, false, false, false, false, false, false, false, false]) 9 ⟨rfl, by kernel_rfl, by kernel_rfl, by kernel_rfl, by kernel_rfl⟩ rfl (fun _ _ _ _ h => h) (by intro _; exact Run.move rfl) ?_)); all_goals ((refine Goal.takeP (listed' := #[true, false, true, true, true, false, true, false, false, true, true, false, false, false, false, false, false, false, false, false]) 10 ⟨rfl, by kernel_rfl, by kernel_rfl, by kernel_rfl, by kernel_rfl⟩ rfl (fun _ _ _ _ h => h) (by intro _; exact Run.nilCheckP rfl) ?_)); all_goals ((refine Goal.takeP (listed' := #[true, false, true, true, true, false, true, false, false, true, true, true, false, false, false, false, false, false, false, false]) 11 ⟨rfl, by kernel_rfl, by kernel_rfl, by kernel_rfl, by kernel_rfl⟩ rfl (fun _ _ _ _ h => h) (by intro _; exact Run.fieldAddr T.fld_45_0 rfl) ?_)); all_goals ((refine Goal.takeP (listed' := #[true, false, true, true, true, false, true, false, false, true, true, true, false, true, false, false, false, false, false, false]) 13 ⟨rfl, by kernel_rfl, by kernel_rfl, by kernel_rfl, by kernel_rfl⟩ rfl (fun _ _ _ _ h => h) (by intro _; exact Run.move rfl) ?_)); all_goals ((refine Goal.takeP (listed' := #[true, false, true, true, true, false, true, false, false, true, true, true, false, true, true, false, false, false, false, false]) 14 ⟨rfl, by kernel_rfl, by kernel_rfl, by kernel_rfl, by kernel_rfl⟩ rfl (fun _ _ _ _ h => h) (by intro _; (apply Run.add; exact rfl; exact rfl; exact IntWalk.i64_in _ (by omega))) ?_)); all_goals ((refine Goal.take (listed' := #[true, false, true, true, true, true, true, false, false, true, true, true, false, true, true, false, false, false, false, false]) 5 ⟨rfl, by kernel_rfl, by kernel_rfl, by kernel_rfl, by kernel_rfl, by kernel_rfl⟩ rfl (by (first | exact fun _ h => h | exact fun _ h => h.sub (.cons _ (.refl _)) | exact fun _ h => h.sub (.cons _ (.cons _ (.refl _))) | exact fun _ h => h.sub (.cons _ (.cons _ (.cons _ (.refl _)))) | exact fun _ h => h.drop | exact fun _ h => h.sub (List.sublist_append_left _ _) | exact fun _ h => by simpa only [List.append_eq, List.append_assoc, List.cons_append, List.nil_append, List.append_nil] using h)) (fun _ _ _ _ h => h) (by (apply Run.load; exact rfl; first | exact LoadOK.one T.one_43 0 rfl rfl | exact LoadOK.one T.one_43 1 rfl rfl | exact LoadOK.one T.one_43 2 rfl rfl | exact LoadOK.one T.one_43 3 rfl rfl | exact LoadOK.one T.one_43 4 rfl rfl | exact LoadOK.one T.one_43 5 rfl rfl | exact LoadOK.one T.one_43 6 rfl rfl | exact LoadOK.one T.one_43 7 rfl rfl)) ?_)); all_goals ((refine Goal.takeP (listed' := #[true, false, true, true, true, true, true, true, false, true, true, true, false, true, true, false, false, false, false, false]) 7 ⟨rfl, by kernel_rfl, by kernel_rfl, by kernel_rfl, by kernel_rfl⟩ rfl (fun _ _ _ _ h => h) (by intro _; first | exact Run.sliceH T.slc_43 T.sz_67 rfl rfl _ rfl (by omega) | exact Run.sliceH T.slc_43 T.sz_67 rfl rfl _ (Int.toNat_of_nonneg (by omega)).symm (by omega)) ?_)); all_goals ((refine Goal.take (listed' := #[true, false, true, true, true, true, true, true, false, true, true, true, true, true, true, false, false, false, false, false]) 12 ⟨rfl, by kernel_rfl, by kernel_rfl, by kernel_rfl, by kernel_rfl, by kernel_rfl⟩ rfl (by (first | exact fun _ h => h | exact fun _ h => h.sub (.cons _ (.refl _)) | exact fun _ h => h.sub (.cons _ (.cons _ (.refl _))) | exact fun _ h => h.sub (.cons _ (.cons _ (.cons _ (.refl _)))) | exact fun _ h => h.drop | exact fun _ h => h.sub (List.sublist_append_left _ _) | exact fun _ h => by simpa only [List.append_eq, List.append_assoc, List.cons_append, List.nil_append, List.append_nil] using h)) (fun _ _ _ _ h => h) (by (apply Run.load; exact rfl; first | exact LoadOK.one T.one_43 0 rfl rfl | exact LoadOK.one T.one_43 1 rfl rfl | exact LoadOK.one T.one_43 2 rfl rfl | exact LoadOK.one T.one_43 3 rfl rfl | exact LoadOK.one T.one_43 4 rfl rfl | exact LoadOK.one T.one_43 5 rfl rfl | exact LoadOK.one T.one_43 6 rfl rfl | exact LoadOK.one T.one_43 7 rfl rfl)) ?_)); all_goals ((refine Goal.takeP (listed' := #[true, false, true, true, true, true, true, true, false, true, true, true, true, true, true, true, false, false, false, false]) 15 ⟨rfl, by kernel_rfl, by kernel_rfl, by kernel_rfl, by kernel_rfl⟩ rfl (fun _ _ _ _ h => h) (by intro _; first | exact Run.sliceL T.slc_43 T.sz_67 rfl rfl 1 rfl (by omega) | exact Run.sliceL T.slc_43 T.sz_67 rfl rfl _ (Int.toNat_of_nonneg (by omega)).symm (by omega)) ?_)); all_goals (refine Goal.ready1 (i := 1) (by kernel_rfl) ?_); all_goals ((refine Goal.up (i := 1) (listed' := #[true, true, true, true, true, true, true, true, false, true, true, true, true, true, true, true, false, false, false, false]) rfl (by kernel_rfl) ?_; (refine Loud.buildSlice (cs := []) rfl T.slc_43 T.inf_67 rfl rfl (by decide) rfl rfl rfl (fun b5 => ?_)); first | refine Goal.tail rfl ?_ | refine Goal.kept (by (first | exact fun _ h => h | exact fun _ h => h.sub (.cons _ (.refl _)) | exact fun _ h => h.sub (.cons _ (.cons _ (.refl _))) | exact fun _ h => h.sub (.cons _ (.cons _ (.cons _ (.refl _)))) | exact fun _ h => h.drop | exact fun _ h => h.sub (List.sublist_append_left _ _) | exact fun _ h => by simpa only [List.append_eq, List.append_assoc, List.cons_append, List.nil_append, List.append_nil] using h)) ?_)); all_goals (refine Goal.ready1 (i := 8) (by kernel_rfl) ?_); all_goals ((refine Goal.up (i := 8) (listed' := #[true, true, true, true, true, true, true, true, true, true, true, true, true, true, true, true, false, false, false, false]) rfl (by kernel_rfl) ?_; (refine Loud.appendRdE (l := E.take i.toNat) (f := evc) rfl T.slc_43 T.inf_67 rfl (by decide) evc_len evc_one rfl (Sl.full (n := 0) (vs := []) rfl) rfl (by rw [List.length_take]; omega) (by rw [List.length_take]; omega) (fun w hw => RdE.front evc_len hS0 (Own.mk fun p hp => hw.get (by simp at hp; subst hp; simp)) (by omega) _) (fun _ h => h) ?_; intro v2 A2 hA2); first | refine Goal.tail rfl ?_ | refine Goal.kept (by (first | exact fun _ h => h | exact fun _ h => h.sub (.cons _ (.refl _)) | exact fun _ h => h.sub (.cons _ (.cons _ (.refl _))) | exact fun _ h => h.sub (.cons _ (.cons _ (.cons _ (.refl _)))) | exact fun _ h => h.drop | exact fun _ h => h.sub (List.sublist_append_left _ _) | exact fun _ h => by simpa only [List.append_eq, List.append_assoc, List.cons_append, List.nil_append, List.append_nil] using h)) ?_)); all_goals (refine Goal.ready1 (i := 16) (by kernel_rfl) ?_); all_goals ((refine Goal.up (i := 16) (listed' := #[true, true, true, true, true, true, true, true, true, true, true, true, true, true, true, true, true, false, false, false]) rfl (by kernel_rfl) ?_; (refine Loud.appendRdE (l := E.drop (i + 1).toNat) (f := evc) rfl T.slc_43 T.inf_67 rfl (by decide) evc_len evc_one rfl hA2 rfl (by rw [List.length_take, List.length_drop]; omega) (by rw [List.length_take, List.length_drop]; omega) (fun w hw => RdE.back (j := (i + 1).toNat) evc_len hS0 (Own.mk fun p hp => hw.get (by simp at hp; subst hp; simp)) (by omega) _) (fun _ h => h) ?_; intro v3 A3 hA3; obtain ⟨ad3, cap3, rfl⟩ := hA3.shape; refine Goal.subL (fun _ h => h.swapR) ?_); first | refine Goal.tail rfl ?_ | refine Goal.kept (by (first | exact fun _ h => h | exact fun _ h => h.sub (.cons _ (.refl _)) | exact fun _ h => h.sub (.cons _ (.cons _ (.refl _))) | exact fun _ h => h.sub (.cons _ (.cons _ (.cons _ (.refl _)))) | exact fun _ h => h.drop | exact fun _ h => h.sub (List.sublist_append_left _ _) | exact fun _ h => by simpa only [List.append_eq, List.append_assoc, List.cons_append, List.nil_append, List.append_nil] using h)) ?_)); all_goals ((refine Goal.takeP (listed' := #[true, true, true, true, true, true, true, true, true, true, true, true, true, true, true, true, true, true, false, false]) 17 ⟨rfl, by kernel_rfl, by kernel_rfl, by kernel_rfl, by kernel_rfl⟩ rfl (fun _ _ _ _ h => h) (by intro _; exact Run.nilCheckP rfl) ?_)); all_goals ((refine Goal.takeP (listed' := #[true, true, true, true, true, true, true, true, true, true, true, true, true, true, true, true, true, true, true, false]) 18 ⟨rfl, by kernel_rfl, by kernel_rfl, by kernel_rfl, by kernel_rfl⟩ rfl (fun _ _ _ _ h => h) (by intro _; exact Run.fieldAddr T.fld_45_0 rfl) ?_)); all_goals (refine Goal.ready1 (i := 19) (by kernel_rfl) ?_); all_goals ((refine Goal.up (i := 19) (listed' := #[true, true, true, true, true, true, true, true, true, true, true, true, true, true, true, true, true, true, true, true]) rfl (by kernel_rfl) ?_; (first | refine Loud.store0 rfl rfl T.sz_43 rfl rfl rfl (by first | exact Nat.le_of_ble_eq_true rfl | exact Nat.le_refl _ | decide | (simp; omega)) rfl ?_ | refine Loud.store1 rfl rfl T.sz_43 rfl rfl rfl (by first | exact Nat.le_of_ble_eq_true rfl | exact Nat.le_refl _ | decide | (simp; omega)) rfl ?_ | refine Loud.store2 rfl rfl T.sz_43 rfl rfl rfl (by first | exact Nat.le_of_ble_eq_true rfl | exact Nat.le_refl _ | decide | (simp; omega)) rfl ?_ | refine Loud.store3 rfl rfl T.sz_43 rfl rfl rfl (by first | exact Nat.le_of_ble_eq_true rfl | exact Nat.le_refl _ | decide | (simp; omega)) rfl ?_ | refine Loud.store4 rfl rfl T.sz_43 rfl rfl rfl (by first | exact Nat.le_of_ble_eq_true rfl | exact Nat.le_refl _ | decide | (simp; omega)) rfl ?_ | refine Loud.store5 rfl rfl T.sz_43 rfl rfl rfl (by first | exact Nat.le_of_ble_eq_true rfl | exact Nat.le_refl _ | decide | (simp; omega)) rfl ?_ | refine Loud.store6 rfl rfl T.sz_43 rfl rfl rfl (by first | exact Nat.le_of_ble_eq_true rfl | exact Nat.le_refl _ | decide | (simp; omega)) rfl ?_ | refine Loud.store7 rfl rfl T.sz_43 rfl rfl rfl (by first | exact Nat.le_of_ble_eq_true rfl | exact Nat.le_refl _ | decide | (simp; omega)) rfl ?_); first | refine Goal.tail rfl ?_ | refine Goal.kept (by (first | exact fun _ h => h | exact fun _ h => h.sub (.cons _ (.refl _)) | exact fun _ h => h.sub (.cons _ (.cons _ (.refl _))) | exact fun _ h => h.sub (.cons _ (.cons _ (.cons _ (.refl _)))) | exact fun _ h => h.drop | exact fun _ h => h.sub (List.sublist_append_left _ _) | exact fun _ h => by simpa only [List.append_eq, List.append_assoc, List.cons_append, List.nil_append, List.append_nil] using h)) ?_)); all_goals (refine Goal.allUp (by kernel_rfl) ?_))
    | (refine Goal.loud (o := ⟨some 12, _, _, _, _, _⟩) rfl ?_; refine Loud.appendRdE (l := E.take i.toNat) (f := evc) rfl T.slc_43 T.inf_67 rfl (by decide) evc_len evc_one rfl (Sl.full (n := 0) (vs := []) rfl) rfl (by rw [List.length_take]; omega) (by rw [List.length_take]; omega) (fun w hw => RdE.front evc_len hS0 (Own.mk fun p hp => hw.get (by simp at hp; subst hp; simp)) (by omega) _) (fun _ h => h) ?_; intro v2 A2 hA2)
    | (refine Goal.loud (o := ⟨some 20, _, _, _, _, _⟩) rfl ?_; refine Loud.appendRdE (l := E.drop (i + 1).toNat) (f := evc) rfl T.slc_43 T.inf_67 rfl (by decide) evc_len evc_one rfl hA2 rfl (by rw [List.length_take, List.length_drop]; omega) (by rw [List.length_take, List.length_drop]; omega) (fun w hw => RdE.back (j := (i + 1).toNat) evc_len hS0 (Own.mk fun p hp => hw.get (by simp at hp; subst hp; simp)) (by omega) _) (fun _ h => h) ?_; intro v3 A3 hA3; obtain ⟨ad3, cap3, rfl⟩ := hA3.shape; refine Goal.subL (fun _ h => h.swapR) ?_)
    | (apply G.move; exact rfl; exact rfl)
    | refine Goal.seq (fun _ _ => ?_)
    | refine Goal.next (by assumption) ?_
    | refine Goal.lnil ?_
    | refine Goal.region ?_
    | refine Goal.skip ?_
    | refine Goal.block ?_
    | refine Goal.exit ?_
    | refine Goal.ret ?_
    | refine Goal.then_exit ?_
    | refine Goal.then_ret ?_
    | refine Goal.inBlock_exit ?_
    | refine Goal.inBlock_normal ?_
    | refine Goal.inBlock_ret ?_
    | refine Goal.inBlock_other rfl ?_
    | (apply Goal.condT; exact rfl)
    | (apply Goal.condF; exact rfl)
    | (refine Goal.condD rfl (fun hc => ?_) (fun hc => ?_) <;> first | (exfalso; omega) | contradiction | skip)
    | refine Goal.condB rfl (fun hc => ?_) (fun hc => ?_)
    | (apply G.fieldAddr; exact rfl; exact rfl; exact T.fld_45_0)
    | (apply G.load; exact rfl; exact rfl; first | exact LoadOK.one T.one_43 0 rfl rfl | exact LoadOK.one T.one_43 1 rfl rfl | exact LoadOK.one T.one_43 2 rfl rfl | exact LoadOK.one T.one_43 3 rfl rfl | exact LoadOK.one T.one_43 4 rfl rfl | exact LoadOK.one T.one_43 5 rfl rfl | exact LoadOK.one T.one_43 6 rfl rfl | exact LoadOK.one T.one_43 7 rfl rfl)
    | (apply G.add; exact rfl; exact rfl; exact rfl; first | exact IntWalk.i64_in _ (by omega) | exact IntWalk.u8_in _ (by omega) | exact IntWalk.u16_in _ (by omega) | exact IntWalk.u32_in _ (by omega) | exact IntWalk.u64_in _ (by omega))
    | (apply G.nilCheckP; exact rfl; exact rfl)
    | (refine Goal.quiet rfl (Run.sliceH T.slc_43 T.sz_67 rfl rfl _ rfl (by omega)) ?_)
    | (refine Goal.quiet rfl (Run.sliceH T.slc_43 T.sz_67 rfl rfl _ (Int.toNat_of_nonneg (by omega)).symm (by omega)) ?_)
    | (refine Goal.quiet rfl (Run.sliceL T.slc_43 T.sz_67 rfl rfl 1 rfl (by omega)) ?_)
    | (refine Goal.quiet rfl (Run.sliceL T.slc_43 T.sz_67 rfl rfl _ (Int.toNat_of_nonneg (by omega)).symm (by omega)) ?_)
    | (refine Goal.loud rfl ?_; refine Loud.store0 rfl rfl T.sz_43 rfl rfl rfl (by first | exact Nat.le_of_ble_eq_true rfl | exact Nat.le_refl _ | decide | (simp; omega)) rfl ?_)
    | (refine Goal.loud rfl ?_; refine Loud.store1 rfl rfl T.sz_43 rfl rfl rfl (by first | exact Nat.le_of_ble_eq_true rfl | exact Nat.le_refl _ | decide | (simp; omega)) rfl ?_)
    | (refine Goal.loud rfl ?_; refine Loud.store2 rfl rfl T.sz_43 rfl rfl rfl (by first | exact Nat.le_of_ble_eq_true rfl | exact Nat.le_refl _ | decide | (simp; omega)) rfl ?_)
    | (refine Goal.loud rfl ?_; refine Loud.store3 rfl rfl T.sz_43 rfl rfl rfl (by first | exact Nat.le_of_ble_eq_true rfl | exact Nat.le_refl _ | decide | (simp; omega)) rfl ?_)
    | (refine Goal.loud rfl ?_; refine Loud.store4 rfl rfl T.sz_43 rfl rfl rfl (by first | exact Nat.le_of_ble_eq_true rfl | exact Nat.le_refl _ | decide | (simp; omega)) rfl ?_)
    | (refine Goal.loud rfl ?_; refine Loud.store5 rfl rfl T.sz_43 rfl rfl rfl (by first | exact Nat.le_of_ble_eq_true rfl | exact Nat.le_refl _ | decide | (simp; omega)) rfl ?_)
    | (refine Goal.loud rfl ?_; refine Loud.store6 rfl rfl T.sz_43 rfl rfl rfl (by first | exact Nat.le_of_ble_eq_true rfl | exact Nat.le_refl _ | decide | (simp; omega)) rfl ?_)
    | (refine Goal.loud rfl ?_; refine Loud.store7 rfl rfl T.sz_43 rfl rfl rfl (by first | exact Nat.le_of_ble_eq_true rfl | exact Nat.le_refl _ | decide | (simp; omega)) rfl ?_))
  have hl : (E.take i.toNat ++ E.drop (i + 1).toNat).length = 0 + (E.take i.toNat).length + (E.drop (i + 1).toNat).length := by rw [List.length_append]; omega
  refine Goal.done (vs := []) (by first | exact .inl rfl | exact .inr rfl) Try.results28 trivial rfl (fun w' H => ⟨_, ⟨_, A3, rfl, by rw [show i.toNat + 1 = (i + 1).toNat by omega, hl, Els_app]; exact hA3⟩, rfl, H.sub (List.Sublist.cons_cons _ (List.sublist_cons_self _ _))⟩)
theorem take_drop_split {α : Type} {l : List α} {i : Nat} (h : i < l.length) : l = l.take i ++ l[i] :: l.drop (i + 1) := by
  rw [List.getElem_cons_drop, List.take_append_drop]
/-- The first one, by its place. -/
def Best (E : List Evt) (k : Int) (b : Int) : Prop := (b = -1 ∧ k = 0) ∨ (0 ≤ b ∧ b < k ∧ (∀ j : Int, 0 ≤ j → j < b → (el E b).time < (el E j).time) ∧ ∀ j : Int, b < j → j < k → (el E b).time ≤ (el E j).time)
theorem Best.first {b : Int} (h : Best E E.length b) : (b = -1 ∧ E = []) ∨ (0 ≤ b ∧ b < E.length ∧ IsFirst E (E.take b.toNat) (el E b) (E.drop (b.toNat + 1))) := by
  rcases h with ⟨h, h0⟩ | ⟨h0, h1, h2, h3⟩
  · exact .inl ⟨h, List.length_eq_zero_iff.1 (by omega)⟩
  · refine .inr ⟨h0, h1, by rw [el_get ⟨h0, h1⟩]; exact take_drop_split (by omega), fun a ha => ?_, fun a ha => ?_⟩
    · obtain ⟨j, hj, rfl⟩ := List.getElem_of_mem ha
      rw [List.length_take] at hj
      have := h2 j (by omega) (by omega)
      rw [el_get (i := (j : Int)) (by omega)] at this
      rw [List.getElem_take]
      exact this
    · obtain ⟨j, hj, rfl⟩ := List.getElem_of_mem ha
      rw [List.length_drop] at hj
      have := h3 (b.toNat + 1 + j : Nat) (by omega) (by omega)
      rw [el_get (i := ((b.toNat + 1 + j : Nat) : Int)) (by omega)] at this
      rw [List.getElem_drop]
      exact this
structure FX where
  (k b : Int)
set_option maxHeartbeats 4000000 in
theorem dfirstQ (hA : DqM br E now last A) (hE : E.length ≤ 65536) :
    MCalls Try.prog 27 [.pointer (some ⟨br, 0, none⟩)] A
      (fun b : Int => Best E E.length b) (fun b => .int .i64 b) (fun _ => A) := .mk fun w hw => by
  obtain ⟨v, AE, rfl, hS⟩ := hA
  obtain ⟨ad, cap, rfl⟩ := hS.shape
  refine Goal.enter (args := [.pointer (some ⟨br, 0, none⟩)]) Try.func27 rfl Try.ntmps27 rfl (hw) ?_
  repeat' (first
    | (apply G.move; exact rfl; exact rfl)
    | (apply G.assign; exact rfl; exact rfl)
    | refine Goal.seq (fun _ _ => ?_)
    | refine Goal.next (by assumption) ?_
    | refine Goal.lnil ?_
    | refine Goal.region ?_
    | refine Goal.skip ?_
    | refine Goal.block ?_
    | refine Goal.exit ?_
    | refine Goal.ret ?_
    | refine Goal.then_exit ?_
    | refine Goal.then_ret ?_
    | refine Goal.inBlock_exit ?_
    | refine Goal.inBlock_normal ?_
    | refine Goal.inBlock_ret ?_
    | refine Goal.inBlock_other rfl ?_
    | (apply Goal.condT; exact rfl)
    | (apply Goal.condF; exact rfl)
    | (refine Goal.condD rfl (fun hc => ?_) (fun hc => ?_) <;> first | (exfalso; omega) | contradiction | skip)
    | refine Goal.condB rfl (fun hc => ?_) (fun hc => ?_)
    | refine Goal.guardT rfl rfl ?_
    | refine Goal.guardF rfl rfl rfl rfl ?_
    | refine Goal.guardU rfl rfl rfl ?_
    | (refine Goal.guardD rfl rfl (fun hc => ?_) (fun hc => ?_) <;> first | (exfalso; omega) | contradiction | skip)
    | refine Goal.guardB rfl rfl (fun hc => ?_) (fun hc => ?_)
    | (apply G.fieldAddr; exact rfl; exact rfl; (first | exact T.fld_45_0 | exact T.fld_67_1))
    | (apply G.load; exact rfl; exact rfl; first | exact LoadOK.one (by first | exact T.one_3 | exact T.one_43) 0 rfl rfl | exact LoadOK.one (by first | exact T.one_3 | exact T.one_43) 1 rfl rfl | exact LoadOK.one (by first | exact T.one_3 | exact T.one_43) 2 rfl rfl | exact LoadOK.one (by first | exact T.one_3 | exact T.one_43) 3 rfl rfl | exact LoadOK.one (by first | exact T.one_3 | exact T.one_43) 4 rfl rfl | exact LoadOK.one (by first | exact T.one_3 | exact T.one_43) 5 rfl rfl | exact LoadOK.one (by first | exact T.one_3 | exact T.one_43) 6 rfl rfl | exact LoadOK.one (by first | exact T.one_3 | exact T.one_43) 7 rfl rfl)
    | (apply G.pickT; exact rfl; exact rfl; exact rfl)
    | (apply G.pickF; exact rfl; exact rfl; exact rfl)
    | (apply G.lss; exact rfl; exact rfl; exact rfl)
    | (apply G.add; exact rfl; exact rfl; exact rfl; first | exact IntWalk.i64_in _ (by omega) | exact IntWalk.u8_in _ (by omega) | exact IntWalk.u16_in _ (by omega) | exact IntWalk.u32_in _ (by omega) | exact IntWalk.u64_in _ (by omega))
    | (apply G.len; exact rfl; exact rfl; exact T.slc_43)
    | (apply G.nilCheckP; exact rfl; exact rfl)
    | (refine G.indexAddr rfl T.slc_43 T.sz_67 rfl rfl _ rfl (by omega) ?_)
    | (refine G.indexAddr rfl T.slc_43 T.sz_67 rfl rfl _ (Int.toNat_of_nonneg (by omega)).symm (by omega) ?_))
  refine Goal.loopP (X := FX) (fun x => [(0, .pointer (some ⟨br, 0, none⟩)), (3, .int .i64 x.b), (4, .int .i64 x.k)]) (fun _ => (br, .cells #[.slice ad E.length cap, .int .i64 last, .int .i64 now] 45) :: AE)
    (fun x => (0 ≤ x.k ∧ x.k ≤ E.length) ∧ Best E x.k x.b) (fun x => (E.length - x.k).toNat) ⟨0, -1⟩ ⟨rfl, rfl, rfl, trivial⟩ (fun _ h => h) ⟨by dsimp only; omega, .inl ⟨rfl, rfl⟩⟩ ?_
  rintro ⟨k, b⟩ ⟨hk, hb⟩
  dsimp only at hk hb ⊢
  by_cases h : k < E.length
  · obtain ⟨be, rest, cp, hv, rfl, h1, h2, h3⟩ := hS.pos (by omega)
    injection hv with hv _ hv2
    subst hv hv2
    rcases hb with ⟨rfl, rfl⟩ | ⟨b0, b1, b2, b3⟩
    · skip
      repeat' (first
        | (refine Goal.drawAll (id := 5) 21 T.mixed ?_; all_goals ((refine Goal.takeP (listed' := #[true, false, false, false, false, false, false, false, false, false, false, false, false, false, false, false, false, false, false, false, false]) 0 ⟨rfl, by kernel_rfl, by kernel_rfl, by kernel_rfl, by kernel_rfl⟩ rfl (fun _ _ _ _ h => h) (by intro _; exact Run.move rfl) ?_)); all_goals ((refine Goal.takeP (listed' := #[true, true, false, false, false, false, false, false, false, false, false, false, false, false, false, false, false, false, false, false, false]) 1 ⟨rfl, by kernel_rfl, by kernel_rfl, by kernel_rfl, by kernel_rfl⟩ rfl (fun _ _ _ _ h => h) (by intro _; first | exact Run.lss rfl rfl) ?_)); all_goals ((refine Goal.takeP (listed' := #[true, true, true, false, false, false, false, false, false, false, false, false, false, false, false, false, false, false, false, false, false]) 2 ⟨rfl, by kernel_rfl, by kernel_rfl, by kernel_rfl, by kernel_rfl⟩ rfl (fun _ _ _ _ h => h) (by intro _; exact Run.move rfl) ?_)); all_goals (first | (refine Goal.bdec 16 rfl (fun hc => ?_) (fun hc => ?_) <;> first | (exfalso; omega) | contradiction | skip) | skip); all_goals (first | (refine Goal.takePT (listed' := #[true, true, true, true, false, false, false, false, false, false, false, false, false, false, false, false, false, false, false, false, false]) 3 ⟨rfl, by kernel_rfl, by kernel_rfl, by kernel_rfl, by kernel_rfl⟩ rfl rfl rfl (fun _ _ _ _ h => h) (by intro _; exact Run.move rfl) ?_) | (refine Goal.takePF (listed' := #[true, true, true, true, false, false, false, false, false, false, false, false, false, false, false, false, false, false, false, false, false]) 3 ⟨rfl, by kernel_rfl, by kernel_rfl, by kernel_rfl, by kernel_rfl⟩ rfl rfl rfl rfl (fun _ _ _ _ h => h) ?_) | (refine Goal.takePU (listed' := #[true, true, true, true, false, false, false, false, false, false, false, false, false, false, false, false, false, false, false, false, false]) 3 ⟨rfl, by kernel_rfl, by kernel_rfl, by kernel_rfl, by kernel_rfl⟩ rfl rfl rfl (fun _ _ _ _ h => h) ?_)); all_goals (first | (refine Goal.takePT (listed' := #[true, true, true, true, true, false, false, false, false, false, false, false, false, false, false, false, false, false, false, false, false]) 4 ⟨rfl, by kernel_rfl, by kernel_rfl, by kernel_rfl, by kernel_rfl⟩ rfl rfl rfl (fun _ _ _ _ h => h) (by intro _; exact Run.nilCheckP rfl) ?_) | (refine Goal.takePF (listed' := #[true, true, true, true, true, false, false, false, false, false, false, false, false, false, false, false, false, false, false, false, false]) 4 ⟨rfl, by kernel_rfl, by kernel_rfl, by kernel_rfl, by kernel_rfl⟩ rfl rfl rfl rfl (fun _ _ _ _ h => h) ?_) | (refine Goal.takePU (listed' := #[true, true, true, true, true, false, false, false, false, false, false, false, false, false, false, false, false, false, false, false, false]) 4 ⟨rfl, by kernel_rfl, by kernel_rfl, by kernel_rfl, by kernel_rfl⟩ rfl rfl rfl (fun _ _ _ _ h => h) ?_)); all_goals (first | (refine Goal.takePT (listed' := #[true, true, true, true, true, true, false, false, false, false, false, false, false, false, false, false, false, false, false, false, false]) 5 ⟨rfl, by kernel_rfl, by kernel_rfl, by kernel_rfl, by kernel_rfl⟩ rfl rfl rfl (fun _ _ _ _ h => h) (by intro _; exact Run.fieldAddr T.fld_45_0 rfl) ?_) | (refine Goal.takePF (listed' := #[true, true, true, true, true, true, false, false, false, false, false, false, false, false, false, false, false, false, false, false, false]) 5 ⟨rfl, by kernel_rfl, by kernel_rfl, by kernel_rfl, by kernel_rfl⟩ rfl rfl rfl rfl (fun _ _ _ _ h => h) ?_) | (refine Goal.takePU (listed' := #[true, true, true, true, true, true, false, false, false, false, false, false, false, false, false, false, false, false, false, false, false]) 5 ⟨rfl, by kernel_rfl, by kernel_rfl, by kernel_rfl, by kernel_rfl⟩ rfl rfl rfl (fun _ _ _ _ h => h) ?_)); all_goals (first | (refine Goal.takePT (listed' := #[true, true, true, true, true, true, false, true, false, false, false, false, false, false, false, false, false, false, false, false, false]) 7 ⟨rfl, by kernel_rfl, by kernel_rfl, by kernel_rfl, by kernel_rfl⟩ rfl rfl rfl (fun _ _ _ _ h => h) (by intro _; exact Run.move rfl) ?_) | (refine Goal.takePF (listed' := #[true, true, true, true, true, true, false, true, false, false, false, false, false, false, false, false, false, false, false, false, false]) 7 ⟨rfl, by kernel_rfl, by kernel_rfl, by kernel_rfl, by kernel_rfl⟩ rfl rfl rfl rfl (fun _ _ _ _ h => h) ?_) | (refine Goal.takePU (listed' := #[true, true, true, true, true, true, false, true, false, false, false, false, false, false, false, false, false, false, false, false, false]) 7 ⟨rfl, by kernel_rfl, by kernel_rfl, by kernel_rfl, by kernel_rfl⟩ rfl rfl rfl (fun _ _ _ _ h => h) ?_)); all_goals (first | (refine Goal.takePT (listed' := #[true, true, true, true, true, true, false, true, false, false, false, true, false, false, false, false, false, false, false, false, false]) 11 ⟨rfl, by kernel_rfl, by kernel_rfl, by kernel_rfl, by kernel_rfl⟩ rfl rfl rfl (fun _ _ _ _ h => h) (by intro _; exact Run.move rfl) ?_) | (refine Goal.takePF (listed' := #[true, true, true, true, true, true, false, true, false, false, false, true, false, false, false, false, false, false, false, false, false]) 11 ⟨rfl, by kernel_rfl, by kernel_rfl, by kernel_rfl, by kernel_rfl⟩ rfl rfl rfl rfl (fun _ _ _ _ h => h) ?_) | (refine Goal.takePU (listed' := #[true, true, true, true, true, true, false, true, false, false, false, true, false, false, false, false, false, false, false, false, false]) 11 ⟨rfl, by kernel_rfl, by kernel_rfl, by kernel_rfl, by kernel_rfl⟩ rfl rfl rfl (fun _ _ _ _ h => h) ?_)); all_goals (first | (refine Goal.takePT (listed' := #[true, true, true, true, true, true, false, true, false, false, false, true, true, false, false, false, false, false, false, false, false]) 12 ⟨rfl, by kernel_rfl, by kernel_rfl, by kernel_rfl, by kernel_rfl⟩ rfl rfl rfl (fun _ _ _ _ h => h) (by intro _; exact Run.nilCheckP rfl) ?_) | (refine Goal.takePF (listed' := #[true, true, true, true, true, true, false, true, false, false, false, true, true, false, false, false, false, false, false, false, false]) 12 ⟨rfl, by kernel_rfl, by kernel_rfl, by kernel_rfl, by kernel_rfl⟩ rfl rfl rfl rfl (fun _ _ _ _ h => h) ?_) | (refine Goal.takePU (listed' := #[true, true, true, true, true, true, false, true, false, false, false, true, true, false, false, false, false, false, false, false, false]) 12 ⟨rfl, by kernel_rfl, by kernel_rfl, by kernel_rfl, by kernel_rfl⟩ rfl rfl rfl (fun _ _ _ _ h => h) ?_)); all_goals (first | (refine Goal.takePT (listed' := #[true, true, true, true, true, true, false, true, false, false, false, true, true, true, false, false, false, false, false, false, false]) 13 ⟨rfl, by kernel_rfl, by kernel_rfl, by kernel_rfl, by kernel_rfl⟩ rfl rfl rfl (fun _ _ _ _ h => h) (by intro _; exact Run.fieldAddr T.fld_45_0 rfl) ?_) | (refine Goal.takePF (listed' := #[true, true, true, true, true, true, false, true, false, false, false, true, true, true, false, false, false, false, false, false, false]) 13 ⟨rfl, by kernel_rfl, by kernel_rfl, by kernel_rfl, by kernel_rfl⟩ rfl rfl rfl rfl (fun _ _ _ _ h => h) ?_) | (refine Goal.takePU (listed' := #[true, true, true, true, true, true, false, true, false, false, false, true, true, true, false, false, false, false, false, false, false]) 13 ⟨rfl, by kernel_rfl, by kernel_rfl, by kernel_rfl, by kernel_rfl⟩ rfl rfl rfl (fun _ _ _ _ h => h) ?_)); all_goals (first | (refine Goal.takePT (listed' := #[true, true, true, true, true, true, false, true, false, false, false, true, true, true, false, true, false, false, false, false, false]) 15 ⟨rfl, by kernel_rfl, by kernel_rfl, by kernel_rfl, by kernel_rfl⟩ rfl rfl rfl (fun _ _ _ _ h => h) (by intro _; exact Run.move rfl) ?_) | (refine Goal.takePF (listed' := #[true, true, true, true, true, true, false, true, false, false, false, true, true, true, false, true, false, false, false, false, false]) 15 ⟨rfl, by kernel_rfl, by kernel_rfl, by kernel_rfl, by kernel_rfl⟩ rfl rfl rfl rfl (fun _ _ _ _ h => h) ?_) | (refine Goal.takePU (listed' := #[true, true, true, true, true, true, false, true, false, false, false, true, true, true, false, true, false, false, false, false, false]) 15 ⟨rfl, by kernel_rfl, by kernel_rfl, by kernel_rfl, by kernel_rfl⟩ rfl rfl rfl (fun _ _ _ _ h => h) ?_)); all_goals (first | (refine Goal.takeT (listed' := #[true, true, true, true, true, true, true, true, false, false, false, true, true, true, false, true, false, false, false, false, false]) 6 ⟨rfl, by kernel_rfl, by kernel_rfl, by kernel_rfl, by kernel_rfl, by kernel_rfl⟩ rfl rfl rfl (by (first | exact fun _ h => h | exact fun _ h => h.sub (.cons _ (.refl _)) | exact fun _ h => h.sub (.cons _ (.cons _ (.refl _))) | exact fun _ h => h.sub (.cons _ (.cons _ (.cons _ (.refl _)))) | exact fun _ h => h.drop | exact fun _ h => h.sub (List.sublist_append_left _ _) | exact fun _ h => by simpa only [List.append_eq, List.append_assoc, List.cons_append, List.nil_append, List.append_nil] using h)) (fun _ _ _ _ h => h) (by (apply Run.load; exact rfl; first | exact LoadOK.one T.one_43 0 rfl rfl | exact LoadOK.one T.one_43 1 rfl rfl | exact LoadOK.one T.one_43 2 rfl rfl | exact LoadOK.one T.one_43 3 rfl rfl | exact LoadOK.one T.one_43 4 rfl rfl | exact LoadOK.one T.one_43 5 rfl rfl | exact LoadOK.one T.one_43 6 rfl rfl | exact LoadOK.one T.one_43 7 rfl rfl)) ?_) | (refine Goal.takeF (listed' := #[true, true, true, true, true, true, true, true, false, false, false, true, true, true, false, true, false, false, false, false, false]) 6 ⟨rfl, by kernel_rfl, by kernel_rfl, by kernel_rfl, by kernel_rfl, by kernel_rfl⟩ rfl rfl rfl rfl (by (first | exact fun _ h => h | exact fun _ h => h.sub (.cons _ (.refl _)) | exact fun _ h => h.sub (.cons _ (.cons _ (.refl _))) | exact fun _ h => h.sub (.cons _ (.cons _ (.cons _ (.refl _)))) | exact fun _ h => h.drop | exact fun _ h => h.sub (List.sublist_append_left _ _) | exact fun _ h => by simpa only [List.append_eq, List.append_assoc, List.cons_append, List.nil_append, List.append_nil] using h)) (fun _ _ _ _ h => h) ?_) | (refine Goal.takePU (listed' := #[true, true, true, true, true, true, true, true, false, false, false, true, true, true, false, true, false, false, false, false, false]) 6 ⟨rfl, by kernel_rfl, by kernel_rfl, by kernel_rfl, by kernel_rfl⟩ rfl rfl rfl (fun _ _ _ _ h => h) ?_)); all_goals (first | (refine Goal.takePT (listed' := #[true, true, true, true, true, true, true, true, true, false, false, true, true, true, false, true, false, false, false, false, false]) 8 ⟨rfl, by kernel_rfl, by kernel_rfl, by kernel_rfl, by kernel_rfl⟩ rfl rfl rfl (fun _ _ _ _ h => h) (by intro _; first | exact Run.indexAddr T.slc_43 T.sz_67 rfl rfl rfl (by omega) | exact Run.indexAddr T.slc_43 T.sz_67 rfl rfl (Int.toNat_of_nonneg (by omega)).symm (by omega)) ?_) | (refine Goal.takePF (listed' := #[true, true, true, true, true, true, true, true, true, false, false, true, true, true, false, true, false, false, false, false, false]) 8 ⟨rfl, by kernel_rfl, by kernel_rfl, by kernel_rfl, by kernel_rfl⟩ rfl rfl rfl rfl (fun _ _ _ _ h => h) ?_) | (refine Goal.takePU (listed' := #[true, true, true, true, true, true, true, true, true, false, false, true, true, true, false, true, false, false, false, false, false]) 8 ⟨rfl, by kernel_rfl, by kernel_rfl, by kernel_rfl, by kernel_rfl⟩ rfl rfl rfl (fun _ _ _ _ h => h) ?_)); all_goals (first | (refine Goal.takePT (listed' := #[true, true, true, true, true, true, true, true, true, true, false, true, true, true, false, true, false, false, false, false, false]) 9 ⟨rfl, by kernel_rfl, by kernel_rfl, by kernel_rfl, by kernel_rfl⟩ rfl rfl rfl (fun _ _ _ _ h => h) (by intro _; exact Run.fieldAddr T.fld_67_1 rfl) ?_) | (refine Goal.takePF (listed' := #[true, true, true, true, true, true, true, true, true, true, false, true, true, true, false, true, false, false, false, false, false]) 9 ⟨rfl, by kernel_rfl, by kernel_rfl, by kernel_rfl, by kernel_rfl⟩ rfl rfl rfl rfl (fun _ _ _ _ h => h) ?_) | (refine Goal.takePU (listed' := #[true, true, true, true, true, true, true, true, true, true, false, true, true, true, false, true, false, false, false, false, false]) 9 ⟨rfl, by kernel_rfl, by kernel_rfl, by kernel_rfl, by kernel_rfl⟩ rfl rfl rfl (fun _ _ _ _ h => h) ?_)); all_goals (first | (refine Goal.takeT (listed' := #[true, true, true, true, true, true, true, true, true, true, true, true, true, true, false, true, false, false, false, false, false]) 10 ⟨rfl, by kernel_rfl, by kernel_rfl, by kernel_rfl, by kernel_rfl, by kernel_rfl⟩ rfl rfl rfl (by (first | exact fun _ h => h | exact fun _ h => h.sub (.cons _ (.refl _)) | exact fun _ h => h.sub (.cons _ (.cons _ (.refl _))) | exact fun _ h => h.sub (.cons _ (.cons _ (.cons _ (.refl _)))) | exact fun _ h => h.drop | exact fun _ h => h.sub (List.sublist_append_left _ _) | exact fun _ h => by simpa only [List.append_eq, List.append_assoc, List.cons_append, List.nil_append, List.append_nil] using h)) (fun _ _ _ _ h => h) (by (apply Run.load; exact rfl; first | exact LoadOK.one T.one_3 0 rfl rfl | exact LoadOK.one T.one_3 1 rfl rfl | exact LoadOK.one T.one_3 2 rfl rfl | exact LoadOK.one T.one_3 3 rfl rfl | exact LoadOK.one T.one_3 4 rfl rfl | exact LoadOK.one T.one_3 5 rfl rfl | exact LoadOK.one T.one_3 6 rfl rfl | exact LoadOK.one T.one_3 7 rfl rfl)) ?_) | (refine Goal.takeF (listed' := #[true, true, true, true, true, true, true, true, true, true, true, true, true, true, false, true, false, false, false, false, false]) 10 ⟨rfl, by kernel_rfl, by kernel_rfl, by kernel_rfl, by kernel_rfl, by kernel_rfl⟩ rfl rfl rfl rfl (by (first | exact fun _ h => h | exact fun _ h => h.sub (.cons _ (.refl _)) | exact fun _ h => h.sub (.cons _ (.cons _ (.refl _))) | exact fun _ h => h.sub (.cons _ (.cons _ (.cons _ (.refl _)))) | exact fun _ h => h.drop | exact fun _ h => h.sub (List.sublist_append_left _ _) | exact fun _ h => by simpa only [List.append_eq, List.append_assoc, List.cons_append, List.nil_append, List.append_nil] using h)) (fun _ _ _ _ h => h) ?_) | (refine Goal.takePU (listed' := #[true, true, true, true, true, true, true, true, true, true, true, true, true, true, false, true, false, false, false, false, false]) 10 ⟨rfl, by kernel_rfl, by kernel_rfl, by kernel_rfl, by kernel_rfl⟩ rfl rfl rfl (fun _ _ _ _ h => h) ?_)); all_goals (first | (refine Goal.takeT (listed' := #[true, true, true, true, true, true, true, true, true, true, true, true, true, true, true, true, false, false, false, false, false]) 14 ⟨rfl, by kernel_rfl, by kernel_rfl, by kernel_rfl, by kernel_rfl, by kernel_rfl⟩ rfl rfl rfl (by (first | exact fun _ h => h | exact fun _ h => h.sub (.cons _ (.refl _)) | exact fun _ h => h.sub (.cons _ (.cons _ (.refl _))) | exact fun _ h => h.sub (.cons _ (.cons _ (.cons _ (.refl _)))) | exact fun _ h => h.drop | exact fun _ h => h.sub (List.sublist_append_left _ _) | exact fun _ h => by simpa only [List.append_eq, List.append_assoc, List.cons_append, List.nil_append, List.append_nil] using h)) (fun _ _ _ _ h => h) (by (apply Run.load; exact rfl; first | exact LoadOK.one T.one_43 0 rfl rfl | exact LoadOK.one T.one_43 1 rfl rfl | exact LoadOK.one T.one_43 2 rfl rfl | exact LoadOK.one T.one_43 3 rfl rfl | exact LoadOK.one T.one_43 4 rfl rfl | exact LoadOK.one T.one_43 5 rfl rfl | exact LoadOK.one T.one_43 6 rfl rfl | exact LoadOK.one T.one_43 7 rfl rfl)) ?_) | (refine Goal.takeF (listed' := #[true, true, true, true, true, true, true, true, true, true, true, true, true, true, true, true, false, false, false, false, false]) 14 ⟨rfl, by kernel_rfl, by kernel_rfl, by kernel_rfl, by kernel_rfl, by kernel_rfl⟩ rfl rfl rfl rfl (by (first | exact fun _ h => h | exact fun _ h => h.sub (.cons _ (.refl _)) | exact fun _ h => h.sub (.cons _ (.cons _ (.refl _))) | exact fun _ h => h.sub (.cons _ (.cons _ (.cons _ (.refl _)))) | exact fun _ h => h.drop | exact fun _ h => h.sub (List.sublist_append_left _ _) | exact fun _ h => by simpa only [List.append_eq, List.append_assoc, List.cons_append, List.nil_append, List.append_nil] using h)) (fun _ _ _ _ h => h) ?_) | (refine Goal.takePU (listed' := #[true, true, true, true, true, true, true, true, true, true, true, true, true, true, true, true, false, false, false, false, false]) 14 ⟨rfl, by kernel_rfl, by kernel_rfl, by kernel_rfl, by kernel_rfl⟩ rfl rfl rfl (fun _ _ _ _ h => h) ?_)); all_goals (first | (refine Goal.takePT (listed' := #[true, true, true, true, true, true, true, true, true, true, true, true, true, true, true, true, true, false, false, false, false]) 16 ⟨rfl, by kernel_rfl, by kernel_rfl, by kernel_rfl, by kernel_rfl⟩ rfl rfl rfl (fun _ _ _ _ h => h) (by intro _; first | exact Run.indexAddr T.slc_43 T.sz_67 rfl rfl rfl (by omega) | exact Run.indexAddr T.slc_43 T.sz_67 rfl rfl (Int.toNat_of_nonneg (by omega)).symm (by omega)) ?_) | (refine Goal.takePF (listed' := #[true, true, true, true, true, true, true, true, true, true, true, true, true, true, true, true, true, false, false, false, false]) 16 ⟨rfl, by kernel_rfl, by kernel_rfl, by kernel_rfl, by kernel_rfl⟩ rfl rfl rfl rfl (fun _ _ _ _ h => h) ?_) | (refine Goal.takePU (listed' := #[true, true, true, true, true, true, true, true, true, true, true, true, true, true, true, true, true, false, false, false, false]) 16 ⟨rfl, by kernel_rfl, by kernel_rfl, by kernel_rfl, by kernel_rfl⟩ rfl rfl rfl (fun _ _ _ _ h => h) ?_)); all_goals (first | (refine Goal.takePT (listed' := #[true, true, true, true, true, true, true, true, true, true, true, true, true, true, true, true, true, true, false, false, false]) 17 ⟨rfl, by kernel_rfl, by kernel_rfl, by kernel_rfl, by kernel_rfl⟩ rfl rfl rfl (fun _ _ _ _ h => h) (by intro _; exact Run.fieldAddr T.fld_67_1 rfl) ?_) | (refine Goal.takePF (listed' := #[true, true, true, true, true, true, true, true, true, true, true, true, true, true, true, true, true, true, false, false, false]) 17 ⟨rfl, by kernel_rfl, by kernel_rfl, by kernel_rfl, by kernel_rfl⟩ rfl rfl rfl rfl (fun _ _ _ _ h => h) ?_) | (refine Goal.takePU (listed' := #[true, true, true, true, true, true, true, true, true, true, true, true, true, true, true, true, true, true, false, false, false]) 17 ⟨rfl, by kernel_rfl, by kernel_rfl, by kernel_rfl, by kernel_rfl⟩ rfl rfl rfl (fun _ _ _ _ h => h) ?_)); all_goals (first | (refine Goal.takeT (listed' := #[true, true, true, true, true, true, true, true, true, true, true, true, true, true, true, true, true, true, true, false, false]) 18 ⟨rfl, by kernel_rfl, by kernel_rfl, by kernel_rfl, by kernel_rfl, by kernel_rfl⟩ rfl rfl rfl (by (first | exact fun _ h => h | exact fun _ h => h.sub (.cons _ (.refl _)) | exact fun _ h => h.sub (.cons _ (.cons _ (.refl _))) | exact fun _ h => h.sub (.cons _ (.cons _ (.cons _ (.refl _)))) | exact fun _ h => h.drop | exact fun _ h => h.sub (List.sublist_append_left _ _) | exact fun _ h => by simpa only [List.append_eq, List.append_assoc, List.cons_append, List.nil_append, List.append_nil] using h)) (fun _ _ _ _ h => h) (by (apply Run.load; exact rfl; first | exact LoadOK.one T.one_3 0 rfl rfl | exact LoadOK.one T.one_3 1 rfl rfl | exact LoadOK.one T.one_3 2 rfl rfl | exact LoadOK.one T.one_3 3 rfl rfl | exact LoadOK.one T.one_3 4 rfl rfl | exact LoadOK.one T.one_3 5 rfl rfl | exact LoadOK.one T.one_3 6 rfl rfl | exact LoadOK.one T.one_3 7 rfl rfl)) ?_) | (refine Goal.takeF (listed' := #[true, true, true, true, true, true, true, true, true, true, true, true, true, true, true, true, true, true, true, false, false]) 18 ⟨rfl, by kernel_rfl, by kernel_rfl, by kernel_rfl, by kernel_rfl, by kernel_rfl⟩ rfl rfl rfl rfl (by (first | exact fun _ h => h | exact fun _ h => h.sub (.cons _ (.refl _)) | exact fun _ h => h.sub (.cons _ (.cons _ (.refl _))) | exact fun _ h => h.sub (.cons _ (.cons _ (.cons _ (.refl _)))) | exact fun _ h => h.drop | exact fun _ h => h.sub (List.sublist_append_left _ _) | exact fun _ h => by simpa only [List.append_eq, List.append_assoc, List.cons_append, List.nil_append, List.append_nil] using h)) (fun _ _ _ _ h => h) ?_) | (refine Goal.takePU (listed' := #[true, true, true, true, true, true, true, true, true, true, true, true, true, true, true, true, true, true, true, false, false]) 18 ⟨rfl, by kernel_rfl, by kernel_rfl, by kernel_rfl, by kernel_rfl⟩ rfl rfl rfl (fun _ _ _ _ h => h) ?_)); all_goals (first | (refine Goal.takePT (listed' := #[true, true, true, true, true, true, true, true, true, true, true, true, true, true, true, true, true, true, true, true, false]) 19 ⟨rfl, by kernel_rfl, by kernel_rfl, by kernel_rfl, by kernel_rfl⟩ rfl rfl rfl (fun _ _ _ _ h => h) (by intro _; first | exact Run.lss rfl rfl) ?_) | (refine Goal.takePF (listed' := #[true, true, true, true, true, true, true, true, true, true, true, true, true, true, true, true, true, true, true, true, false]) 19 ⟨rfl, by kernel_rfl, by kernel_rfl, by kernel_rfl, by kernel_rfl⟩ rfl rfl rfl rfl (fun _ _ _ _ h => h) ?_) | (refine Goal.takePU (listed' := #[true, true, true, true, true, true, true, true, true, true, true, true, true, true, true, true, true, true, true, true, false]) 19 ⟨rfl, by kernel_rfl, by kernel_rfl, by kernel_rfl, by kernel_rfl⟩ rfl rfl rfl (fun _ _ _ _ h => h) ?_)); all_goals ((refine Goal.takeP (listed' := #[true, true, true, true, true, true, true, true, true, true, true, true, true, true, true, true, true, true, true, true, true]) 20 ⟨rfl, by kernel_rfl, by kernel_rfl, by kernel_rfl, by kernel_rfl⟩ rfl (fun _ _ _ _ h => h) (by intro _; first | exact Run.pickT rfl rfl | exact Run.pickF rfl rfl) ?_)); all_goals (refine Goal.allUp (by kernel_rfl) ?_))
        | (apply G.move; exact rfl; exact rfl)
        | (apply G.assign; exact rfl; exact rfl)
        | refine Goal.seq (fun _ _ => ?_)
        | refine Goal.next (by assumption) ?_
        | refine Goal.lnil ?_
        | refine Goal.region ?_
        | refine Goal.skip ?_
        | refine Goal.block ?_
        | refine Goal.exit ?_
        | refine Goal.ret ?_
        | refine Goal.then_exit ?_
        | refine Goal.then_ret ?_
        | refine Goal.inBlock_exit ?_
        | refine Goal.inBlock_normal ?_
        | refine Goal.inBlock_ret ?_
        | refine Goal.inBlock_other rfl ?_
        | (apply Goal.condT; exact rfl)
        | (apply Goal.condF; exact rfl)
        | (refine Goal.condD rfl (fun hc => ?_) (fun hc => ?_) <;> first | (exfalso; omega) | contradiction | skip)
        | refine Goal.condB rfl (fun hc => ?_) (fun hc => ?_)
        | refine Goal.guardT rfl rfl ?_
        | refine Goal.guardF rfl rfl rfl rfl ?_
        | refine Goal.guardU rfl rfl rfl ?_
        | (refine Goal.guardD rfl rfl (fun hc => ?_) (fun hc => ?_) <;> first | (exfalso; omega) | contradiction | skip)
        | refine Goal.guardB rfl rfl (fun hc => ?_) (fun hc => ?_)
        | (apply G.fieldAddr; exact rfl; exact rfl; (first | exact T.fld_45_0 | exact T.fld_67_1))
        | (apply G.load; exact rfl; exact rfl; first | exact LoadOK.one (by first | exact T.one_3 | exact T.one_43) 0 rfl rfl | exact LoadOK.one (by first | exact T.one_3 | exact T.one_43) 1 rfl rfl | exact LoadOK.one (by first | exact T.one_3 | exact T.one_43) 2 rfl rfl | exact LoadOK.one (by first | exact T.one_3 | exact T.one_43) 3 rfl rfl | exact LoadOK.one (by first | exact T.one_3 | exact T.one_43) 4 rfl rfl | exact LoadOK.one (by first | exact T.one_3 | exact T.one_43) 5 rfl rfl | exact LoadOK.one (by first | exact T.one_3 | exact T.one_43) 6 rfl rfl | exact LoadOK.one (by first | exact T.one_3 | exact T.one_43) 7 rfl rfl)
        | (apply G.pickT; exact rfl; exact rfl; exact rfl)
        | (apply G.pickF; exact rfl; exact rfl; exact rfl)
        | (apply G.lss; exact rfl; exact rfl; exact rfl)
        | (apply G.add; exact rfl; exact rfl; exact rfl; first | exact IntWalk.i64_in _ (by omega) | exact IntWalk.u8_in _ (by omega) | exact IntWalk.u16_in _ (by omega) | exact IntWalk.u32_in _ (by omega) | exact IntWalk.u64_in _ (by omega))
        | (apply G.len; exact rfl; exact rfl; exact T.slc_43)
        | (apply G.nilCheckP; exact rfl; exact rfl)
        | (refine G.indexAddr rfl T.slc_43 T.sz_67 rfl rfl _ rfl (by omega) ?_)
        | (refine G.indexAddr rfl T.slc_43 T.sz_67 rfl rfl _ (Int.toNat_of_nonneg (by omega)).symm (by omega) ?_))
      refine Goal.again ⟨1, 0⟩ ⟨by dsimp only; omega, .inr ⟨by decide, by decide, fun j j0 j1 => by dsimp only at j1; omega, fun j j0 j1 => by dsimp only at j0 j1; omega⟩⟩ (by dsimp only; omega) ⟨rfl, rfl, rfl, trivial⟩ (fun _ h => h)
    · skip
      repeat' (first
        | (refine Goal.drawAll (id := 5) 21 T.mixed ?_; all_goals ((refine Goal.takeP (listed' := #[true, false, false, false, false, false, false, false, false, false, false, false, false, false, false, false, false, false, false, false, false]) 0 ⟨rfl, by kernel_rfl, by kernel_rfl, by kernel_rfl, by kernel_rfl⟩ rfl (fun _ _ _ _ h => h) (by intro _; exact Run.move rfl) ?_)); all_goals ((refine Goal.takeP (listed' := #[true, true, false, false, false, false, false, false, false, false, false, false, false, false, false, false, false, false, false, false, false]) 1 ⟨rfl, by kernel_rfl, by kernel_rfl, by kernel_rfl, by kernel_rfl⟩ rfl (fun _ _ _ _ h => h) (by intro _; first | exact Run.lss rfl rfl) ?_)); all_goals ((refine Goal.takeP (listed' := #[true, true, true, false, false, false, false, false, false, false, false, false, false, false, false, false, false, false, false, false, false]) 2 ⟨rfl, by kernel_rfl, by kernel_rfl, by kernel_rfl, by kernel_rfl⟩ rfl (fun _ _ _ _ h => h) (by intro _; exact Run.move rfl) ?_)); all_goals (first | (refine Goal.bdec 16 rfl (fun hc => ?_) (fun hc => ?_) <;> first | (exfalso; omega) | contradiction | skip) | skip); all_goals (first | (refine Goal.takePT (listed' := #[true, true, true, true, false, false, false, false, false, false, false, false, false, false, false, false, false, false, false, false, false]) 3 ⟨rfl, by kernel_rfl, by kernel_rfl, by kernel_rfl, by kernel_rfl⟩ rfl rfl rfl (fun _ _ _ _ h => h) (by intro _; exact Run.move rfl) ?_) | (refine Goal.takePF (listed' := #[true, true, true, true, false, false, false, false, false, false, false, false, false, false, false, false, false, false, false, false, false]) 3 ⟨rfl, by kernel_rfl, by kernel_rfl, by kernel_rfl, by kernel_rfl⟩ rfl rfl rfl rfl (fun _ _ _ _ h => h) ?_) | (refine Goal.takePU (listed' := #[true, true, true, true, false, false, false, false, false, false, false, false, false, false, false, false, false, false, false, false, false]) 3 ⟨rfl, by kernel_rfl, by kernel_rfl, by kernel_rfl, by kernel_rfl⟩ rfl rfl rfl (fun _ _ _ _ h => h) ?_)); all_goals (first | (refine Goal.takePT (listed' := #[true, true, true, true, true, false, false, false, false, false, false, false, false, false, false, false, false, false, false, false, false]) 4 ⟨rfl, by kernel_rfl, by kernel_rfl, by kernel_rfl, by kernel_rfl⟩ rfl rfl rfl (fun _ _ _ _ h => h) (by intro _; exact Run.nilCheckP rfl) ?_) | (refine Goal.takePF (listed' := #[true, true, true, true, true, false, false, false, false, false, false, false, false, false, false, false, false, false, false, false, false]) 4 ⟨rfl, by kernel_rfl, by kernel_rfl, by kernel_rfl, by kernel_rfl⟩ rfl rfl rfl rfl (fun _ _ _ _ h => h) ?_) | (refine Goal.takePU (listed' := #[true, true, true, true, true, false, false, false, false, false, false, false, false, false, false, false, false, false, false, false, false]) 4 ⟨rfl, by kernel_rfl, by kernel_rfl, by kernel_rfl, by kernel_rfl⟩ rfl rfl rfl (fun _ _ _ _ h => h) ?_)); all_goals (first | (refine Goal.takePT (listed' := #[true, true, true, true, true, true, false, false, false, false, false, false, false, false, false, false, false, false, false, false, false]) 5 ⟨rfl, by kernel_rfl, by kernel_rfl, by kernel_rfl, by kernel_rfl⟩ rfl rfl rfl (fun _ _ _ _ h => h) (by intro _; exact Run.fieldAddr T.fld_45_0 rfl) ?_) | (refine Goal.takePF (listed' := #[true, true, true, true, true, true, false, false, false, false, false, false, false, false, false, false, false, false, false, false, false]) 5 ⟨rfl, by kernel_rfl, by kernel_rfl, by kernel_rfl, by kernel_rfl⟩ rfl rfl rfl rfl (fun _ _ _ _ h => h) ?_) | (refine Goal.takePU (listed' := #[true, true, true, true, true, true, false, false, false, false, false, false, false, false, false, false, false, false, false, false, false]) 5 ⟨rfl, by kernel_rfl, by kernel_rfl, by kernel_rfl, by kernel_rfl⟩ rfl rfl rfl (fun _ _ _ _ h => h) ?_)); all_goals (first | (refine Goal.takePT (listed' := #[true, true, true, true, true, true, false, true, false, false, false, false, false, false, false, false, false, false, false, false, false]) 7 ⟨rfl, by kernel_rfl, by kernel_rfl, by kernel_rfl, by kernel_rfl⟩ rfl rfl rfl (fun _ _ _ _ h => h) (by intro _; exact Run.move rfl) ?_) | (refine Goal.takePF (listed' := #[true, true, true, true, true, true, false, true, false, false, false, false, false, false, false, false, false, false, false, false, false]) 7 ⟨rfl, by kernel_rfl, by kernel_rfl, by kernel_rfl, by kernel_rfl⟩ rfl rfl rfl rfl (fun _ _ _ _ h => h) ?_) | (refine Goal.takePU (listed' := #[true, true, true, true, true, true, false, true, false, false, false, false, false, false, false, false, false, false, false, false, false]) 7 ⟨rfl, by kernel_rfl, by kernel_rfl, by kernel_rfl, by kernel_rfl⟩ rfl rfl rfl (fun _ _ _ _ h => h) ?_)); all_goals (first | (refine Goal.takePT (listed' := #[true, true, true, true, true, true, false, true, false, false, false, true, false, false, false, false, false, false, false, false, false]) 11 ⟨rfl, by kernel_rfl, by kernel_rfl, by kernel_rfl, by kernel_rfl⟩ rfl rfl rfl (fun _ _ _ _ h => h) (by intro _; exact Run.move rfl) ?_) | (refine Goal.takePF (listed' := #[true, true, true, true, true, true, false, true, false, false, false, true, false, false, false, false, false, false, false, false, false]) 11 ⟨rfl, by kernel_rfl, by kernel_rfl, by kernel_rfl, by kernel_rfl⟩ rfl rfl rfl rfl (fun _ _ _ _ h => h) ?_) | (refine Goal.takePU (listed' := #[true, true, true, true, true, true, false, true, false, false, false, true, false, false, false, false, false, false, false, false, false]) 11 ⟨rfl, by kernel_rfl, by kernel_rfl, by kernel_rfl, by kernel_rfl⟩ rfl rfl rfl (fun _ _ _ _ h => h) ?_)); all_goals (first | (refine Goal.takePT (listed' := #[true, true, true, true, true, true, false, true, false, false, false, true, true, false, false, false, false, false, false, false, false]) 12 ⟨rfl, by kernel_rfl, by kernel_rfl, by kernel_rfl, by kernel_rfl⟩ rfl rfl rfl (fun _ _ _ _ h => h) (by intro _; exact Run.nilCheckP rfl) ?_) | (refine Goal.takePF (listed' := #[true, true, true, true, true, true, false, true, false, false, false, true, true, false, false, false, false, false, false, false, false]) 12 ⟨rfl, by kernel_rfl, by kernel_rfl, by kernel_rfl, by kernel_rfl⟩ rfl rfl rfl rfl (fun _ _ _ _ h => h) ?_) | (refine Goal.takePU (listed' := #[true, true, true, true, true, true, false, true, false, false, false, true, true, false, false, false, false, false, false, false, false]) 12 ⟨rfl, by kernel_rfl, by kernel_rfl, by kernel_rfl, by kernel_rfl⟩ rfl rfl rfl (fun _ _ _ _ h => h) ?_)); all_goals (first | (refine Goal.takePT (listed' := #[true, true, true, true, true, true, false, true, false, false, false, true, true, true, false, false, false, false, false, false, false]) 13 ⟨rfl, by kernel_rfl, by kernel_rfl, by kernel_rfl, by kernel_rfl⟩ rfl rfl rfl (fun _ _ _ _ h => h) (by intro _; exact Run.fieldAddr T.fld_45_0 rfl) ?_) | (refine Goal.takePF (listed' := #[true, true, true, true, true, true, false, true, false, false, false, true, true, true, false, false, false, false, false, false, false]) 13 ⟨rfl, by kernel_rfl, by kernel_rfl, by kernel_rfl, by kernel_rfl⟩ rfl rfl rfl rfl (fun _ _ _ _ h => h) ?_) | (refine Goal.takePU (listed' := #[true, true, true, true, true, true, false, true, false, false, false, true, true, true, false, false, false, false, false, false, false]) 13 ⟨rfl, by kernel_rfl, by kernel_rfl, by kernel_rfl, by kernel_rfl⟩ rfl rfl rfl (fun _ _ _ _ h => h) ?_)); all_goals (first | (refine Goal.takePT (listed' := #[true, true, true, true, true, true, false, true, false, false, false, true, true, true, false, true, false, false, false, false, false]) 15 ⟨rfl, by kernel_rfl, by kernel_rfl, by kernel_rfl, by kernel_rfl⟩ rfl rfl rfl (fun _ _ _ _ h => h) (by intro _; exact Run.move rfl) ?_) | (refine Goal.takePF (listed' := #[true, true, true, true, true, true, false, true, false, false, false, true, true, true, false, true, false, false, false, false, false]) 15 ⟨rfl, by kernel_rfl, by kernel_rfl, by kernel_rfl, by kernel_rfl⟩ rfl rfl rfl rfl (fun _ _ _ _ h => h) ?_) | (refine Goal.takePU (listed' := #[true, true, true, true, true, true, false, true, false, false, false, true, true, true, false, true, false, false, false, false, false]) 15 ⟨rfl, by kernel_rfl, by kernel_rfl, by kernel_rfl, by kernel_rfl⟩ rfl rfl rfl (fun _ _ _ _ h => h) ?_)); all_goals (first | (refine Goal.takeT (listed' := #[true, true, true, true, true, true, true, true, false, false, false, true, true, true, false, true, false, false, false, false, false]) 6 ⟨rfl, by kernel_rfl, by kernel_rfl, by kernel_rfl, by kernel_rfl, by kernel_rfl⟩ rfl rfl rfl (by (first | exact fun _ h => h | exact fun _ h => h.sub (.cons _ (.refl _)) | exact fun _ h => h.sub (.cons _ (.cons _ (.refl _))) | exact fun _ h => h.sub (.cons _ (.cons _ (.cons _ (.refl _)))) | exact fun _ h => h.drop | exact fun _ h => h.sub (List.sublist_append_left _ _) | exact fun _ h => by simpa only [List.append_eq, List.append_assoc, List.cons_append, List.nil_append, List.append_nil] using h)) (fun _ _ _ _ h => h) (by (apply Run.load; exact rfl; first | exact LoadOK.elFM (fz := (0, 0)) (b := be) (f := evc) (l := E) (rest := rest) (E := 67) (i := k) T.one_3 1 evc_len (by simp) (by omega) rfl | exact LoadOK.elFM (fz := (0, 0)) (b := be) (f := evc) (l := E) (rest := rest) (E := 67) (i := b) T.one_3 1 evc_len (by simp) (by omega) rfl | exact LoadOK.one T.one_43 0 rfl rfl | exact LoadOK.one T.one_43 1 rfl rfl | exact LoadOK.one T.one_43 2 rfl rfl | exact LoadOK.one T.one_43 3 rfl rfl | exact LoadOK.one T.one_43 4 rfl rfl | exact LoadOK.one T.one_43 5 rfl rfl | exact LoadOK.one T.one_43 6 rfl rfl | exact LoadOK.one T.one_43 7 rfl rfl)) ?_) | (refine Goal.takeF (listed' := #[true, true, true, true, true, true, true, true, false, false, false, true, true, true, false, true, false, false, false, false, false]) 6 ⟨rfl, by kernel_rfl, by kernel_rfl, by kernel_rfl, by kernel_rfl, by kernel_rfl⟩ rfl rfl rfl rfl (by (first | exact fun _ h => h | exact fun _ h => h.sub (.cons _ (.refl _)) | exact fun _ h => h.sub (.cons _ (.cons _ (.refl _))) | exact fun _ h => h.sub (.cons _ (.cons _ (.cons _ (.refl _)))) | exact fun _ h => h.drop | exact fun _ h => h.sub (List.sublist_append_left _ _) | exact fun _ h => by simpa only [List.append_eq, List.append_assoc, List.cons_append, List.nil_append, List.append_nil] using h)) (fun _ _ _ _ h => h) ?_) | (refine Goal.takePU (listed' := #[true, true, true, true, true, true, true, true, false, false, false, true, true, true, false, true, false, false, false, false, false]) 6 ⟨rfl, by kernel_rfl, by kernel_rfl, by kernel_rfl, by kernel_rfl⟩ rfl rfl rfl (fun _ _ _ _ h => h) ?_)); all_goals (first | (refine Goal.takePT (listed' := #[true, true, true, true, true, true, true, true, true, false, false, true, true, true, false, true, false, false, false, false, false]) 8 ⟨rfl, by kernel_rfl, by kernel_rfl, by kernel_rfl, by kernel_rfl⟩ rfl rfl rfl (fun _ _ _ _ h => h) (by intro _; first | exact Run.indexAddr T.slc_43 T.sz_67 rfl rfl rfl (by omega) | exact Run.indexAddr T.slc_43 T.sz_67 rfl rfl (Int.toNat_of_nonneg (by omega)).symm (by omega)) ?_) | (refine Goal.takePF (listed' := #[true, true, true, true, true, true, true, true, true, false, false, true, true, true, false, true, false, false, false, false, false]) 8 ⟨rfl, by kernel_rfl, by kernel_rfl, by kernel_rfl, by kernel_rfl⟩ rfl rfl rfl rfl (fun _ _ _ _ h => h) ?_) | (refine Goal.takePU (listed' := #[true, true, true, true, true, true, true, true, true, false, false, true, true, true, false, true, false, false, false, false, false]) 8 ⟨rfl, by kernel_rfl, by kernel_rfl, by kernel_rfl, by kernel_rfl⟩ rfl rfl rfl (fun _ _ _ _ h => h) ?_)); all_goals (first | (refine Goal.takePT (listed' := #[true, true, true, true, true, true, true, true, true, true, false, true, true, true, false, true, false, false, false, false, false]) 9 ⟨rfl, by kernel_rfl, by kernel_rfl, by kernel_rfl, by kernel_rfl⟩ rfl rfl rfl (fun _ _ _ _ h => h) (by intro _; exact Run.fieldAddr T.fld_67_1 rfl) ?_) | (refine Goal.takePF (listed' := #[true, true, true, true, true, true, true, true, true, true, false, true, true, true, false, true, false, false, false, false, false]) 9 ⟨rfl, by kernel_rfl, by kernel_rfl, by kernel_rfl, by kernel_rfl⟩ rfl rfl rfl rfl (fun _ _ _ _ h => h) ?_) | (refine Goal.takePU (listed' := #[true, true, true, true, true, true, true, true, true, true, false, true, true, true, false, true, false, false, false, false, false]) 9 ⟨rfl, by kernel_rfl, by kernel_rfl, by kernel_rfl, by kernel_rfl⟩ rfl rfl rfl (fun _ _ _ _ h => h) ?_)); all_goals (first | (refine Goal.takeT (listed' := #[true, true, true, true, true, true, true, true, true, true, true, true, true, true, false, true, false, false, false, false, false]) 10 ⟨rfl, by kernel_rfl, by kernel_rfl, by kernel_rfl, by kernel_rfl, by kernel_rfl⟩ rfl rfl rfl (by (first | exact fun _ h => h | exact fun _ h => h.sub (.cons _ (.refl _)) | exact fun _ h => h.sub (.cons _ (.cons _ (.refl _))) | exact fun _ h => h.sub (.cons _ (.cons _ (.cons _ (.refl _)))) | exact fun _ h => h.drop | exact fun _ h => h.sub (List.sublist_append_left _ _) | exact fun _ h => by simpa only [List.append_eq, List.append_assoc, List.cons_append, List.nil_append, List.append_nil] using h)) (fun _ _ _ _ h => h) (by (apply Run.load; exact rfl; first | exact LoadOK.elFM (fz := (0, 0)) (b := be) (f := evc) (l := E) (rest := rest) (E := 67) (i := k) T.one_3 1 evc_len (by simp) (by omega) rfl | exact LoadOK.elFM (fz := (0, 0)) (b := be) (f := evc) (l := E) (rest := rest) (E := 67) (i := b) T.one_3 1 evc_len (by simp) (by omega) rfl | exact LoadOK.one T.one_3 0 rfl rfl | exact LoadOK.one T.one_3 1 rfl rfl | exact LoadOK.one T.one_3 2 rfl rfl | exact LoadOK.one T.one_3 3 rfl rfl | exact LoadOK.one T.one_3 4 rfl rfl | exact LoadOK.one T.one_3 5 rfl rfl | exact LoadOK.one T.one_3 6 rfl rfl | exact LoadOK.one T.one_3 7 rfl rfl)) ?_) | (refine Goal.takeF (listed' := #[true, true, true, true, true, true, true, true, true, true, true, true, true, true, false, true, false, false, false, false, false]) 10 ⟨rfl, by kernel_rfl, by kernel_rfl, by kernel_rfl, by kernel_rfl, by kernel_rfl⟩ rfl rfl rfl rfl (by (first | exact fun _ h => h | exact fun _ h => h.sub (.cons _ (.refl _)) | exact fun _ h => h.sub (.cons _ (.cons _ (.refl _))) | exact fun _ h => h.sub (.cons _ (.cons _ (.cons _ (.refl _)))) | exact fun _ h => h.drop | exact fun _ h => h.sub (List.sublist_append_left _ _) | exact fun _ h => by simpa only [List.append_eq, List.append_assoc, List.cons_append, List.nil_append, List.append_nil] using h)) (fun _ _ _ _ h => h) ?_) | (refine Goal.takePU (listed' := #[true, true, true, true, true, true, true, true, true, true, true, true, true, true, false, true, false, false, false, false, false]) 10 ⟨rfl, by kernel_rfl, by kernel_rfl, by kernel_rfl, by kernel_rfl⟩ rfl rfl rfl (fun _ _ _ _ h => h) ?_)); all_goals (first | (refine Goal.takeT (listed' := #[true, true, true, true, true, true, true, true, true, true, true, true, true, true, true, true, false, false, false, false, false]) 14 ⟨rfl, by kernel_rfl, by kernel_rfl, by kernel_rfl, by kernel_rfl, by kernel_rfl⟩ rfl rfl rfl (by (first | exact fun _ h => h | exact fun _ h => h.sub (.cons _ (.refl _)) | exact fun _ h => h.sub (.cons _ (.cons _ (.refl _))) | exact fun _ h => h.sub (.cons _ (.cons _ (.cons _ (.refl _)))) | exact fun _ h => h.drop | exact fun _ h => h.sub (List.sublist_append_left _ _) | exact fun _ h => by simpa only [List.append_eq, List.append_assoc, List.cons_append, List.nil_append, List.append_nil] using h)) (fun _ _ _ _ h => h) (by (apply Run.load; exact rfl; first | exact LoadOK.elFM (fz := (0, 0)) (b := be) (f := evc) (l := E) (rest := rest) (E := 67) (i := k) T.one_3 1 evc_len (by simp) (by omega) rfl | exact LoadOK.elFM (fz := (0, 0)) (b := be) (f := evc) (l := E) (rest := rest) (E := 67) (i := b) T.one_3 1 evc_len (by simp) (by omega) rfl | exact LoadOK.one T.one_43 0 rfl rfl | exact LoadOK.one T.one_43 1 rfl rfl | exact LoadOK.one T.one_43 2 rfl rfl | exact LoadOK.one T.one_43 3 rfl rfl | exact LoadOK.one T.one_43 4 rfl rfl | exact LoadOK.one T.one_43 5 rfl rfl | exact LoadOK.one T.one_43 6 rfl rfl | exact LoadOK.one T.one_43 7 rfl rfl)) ?_) | (refine Goal.takeF (listed' := #[true, true, true, true, true, true, true, true, true, true, true, true, true, true, true, true, false, false, false, false, false]) 14 ⟨rfl, by kernel_rfl, by kernel_rfl, by kernel_rfl, by kernel_rfl, by kernel_rfl⟩ rfl rfl rfl rfl (by (first | exact fun _ h => h | exact fun _ h => h.sub (.cons _ (.refl _)) | exact fun _ h => h.sub (.cons _ (.cons _ (.refl _))) | exact fun _ h => h.sub (.cons _ (.cons _ (.cons _ (.refl _)))) | exact fun _ h => h.drop | exact fun _ h => h.sub (List.sublist_append_left _ _) | exact fun _ h => by simpa only [List.append_eq, List.append_assoc, List.cons_append, List.nil_append, List.append_nil] using h)) (fun _ _ _ _ h => h) ?_) | (refine Goal.takePU (listed' := #[true, true, true, true, true, true, true, true, true, true, true, true, true, true, true, true, false, false, false, false, false]) 14 ⟨rfl, by kernel_rfl, by kernel_rfl, by kernel_rfl, by kernel_rfl⟩ rfl rfl rfl (fun _ _ _ _ h => h) ?_)); all_goals (first | (refine Goal.takePT (listed' := #[true, true, true, true, true, true, true, true, true, true, true, true, true, true, true, true, true, false, false, false, false]) 16 ⟨rfl, by kernel_rfl, by kernel_rfl, by kernel_rfl, by kernel_rfl⟩ rfl rfl rfl (fun _ _ _ _ h => h) (by intro _; first | exact Run.indexAddr T.slc_43 T.sz_67 rfl rfl rfl (by omega) | exact Run.indexAddr T.slc_43 T.sz_67 rfl rfl (Int.toNat_of_nonneg (by omega)).symm (by omega)) ?_) | (refine Goal.takePF (listed' := #[true, true, true, true, true, true, true, true, true, true, true, true, true, true, true, true, true, false, false, false, false]) 16 ⟨rfl, by kernel_rfl, by kernel_rfl, by kernel_rfl, by kernel_rfl⟩ rfl rfl rfl rfl (fun _ _ _ _ h => h) ?_) | (refine Goal.takePU (listed' := #[true, true, true, true, true, true, true, true, true, true, true, true, true, true, true, true, true, false, false, false, false]) 16 ⟨rfl, by kernel_rfl, by kernel_rfl, by kernel_rfl, by kernel_rfl⟩ rfl rfl rfl (fun _ _ _ _ h => h) ?_)); all_goals (first | (refine Goal.takePT (listed' := #[true, true, true, true, true, true, true, true, true, true, true, true, true, true, true, true, true, true, false, false, false]) 17 ⟨rfl, by kernel_rfl, by kernel_rfl, by kernel_rfl, by kernel_rfl⟩ rfl rfl rfl (fun _ _ _ _ h => h) (by intro _; exact Run.fieldAddr T.fld_67_1 rfl) ?_) | (refine Goal.takePF (listed' := #[true, true, true, true, true, true, true, true, true, true, true, true, true, true, true, true, true, true, false, false, false]) 17 ⟨rfl, by kernel_rfl, by kernel_rfl, by kernel_rfl, by kernel_rfl⟩ rfl rfl rfl rfl (fun _ _ _ _ h => h) ?_) | (refine Goal.takePU (listed' := #[true, true, true, true, true, true, true, true, true, true, true, true, true, true, true, true, true, true, false, false, false]) 17 ⟨rfl, by kernel_rfl, by kernel_rfl, by kernel_rfl, by kernel_rfl⟩ rfl rfl rfl (fun _ _ _ _ h => h) ?_)); all_goals (first | (refine Goal.takeT (listed' := #[true, true, true, true, true, true, true, true, true, true, true, true, true, true, true, true, true, true, true, false, false]) 18 ⟨rfl, by kernel_rfl, by kernel_rfl, by kernel_rfl, by kernel_rfl, by kernel_rfl⟩ rfl rfl rfl (by (first | exact fun _ h => h | exact fun _ h => h.sub (.cons _ (.refl _)) | exact fun _ h => h.sub (.cons _ (.cons _ (.refl _))) | exact fun _ h => h.sub (.cons _ (.cons _ (.cons _ (.refl _)))) | exact fun _ h => h.drop | exact fun _ h => h.sub (List.sublist_append_left _ _) | exact fun _ h => by simpa only [List.append_eq, List.append_assoc, List.cons_append, List.nil_append, List.append_nil] using h)) (fun _ _ _ _ h => h) (by (apply Run.load; exact rfl; first | exact LoadOK.elFM (fz := (0, 0)) (b := be) (f := evc) (l := E) (rest := rest) (E := 67) (i := k) T.one_3 1 evc_len (by simp) (by omega) rfl | exact LoadOK.elFM (fz := (0, 0)) (b := be) (f := evc) (l := E) (rest := rest) (E := 67) (i := b) T.one_3 1 evc_len (by simp) (by omega) rfl | exact LoadOK.one T.one_3 0 rfl rfl | exact LoadOK.one T.one_3 1 rfl rfl | exact LoadOK.one T.one_3 2 rfl rfl | exact LoadOK.one T.one_3 3 rfl rfl | exact LoadOK.one T.one_3 4 rfl rfl | exact LoadOK.one T.one_3 5 rfl rfl | exact LoadOK.one T.one_3 6 rfl rfl | exact LoadOK.one T.one_3 7 rfl rfl)) ?_) | (refine Goal.takeF (listed' := #[true, true, true, true, true, true, true, true, true, true, true, true, true, true, true, true, true, true, true, false, false]) 18 ⟨rfl, by kernel_rfl, by kernel_rfl, by kernel_rfl, by kernel_rfl, by kernel_rfl⟩ rfl rfl rfl rfl (by (first | exact fun _ h => h | exact fun _ h => h.sub (.cons _ (.refl _)) | exact fun _ h => h.sub (.cons _ (.cons _ (.refl _))) | exact fun _ h => h.sub (.cons _ (.cons _ (.cons _ (.refl _)))) | exact fun _ h => h.drop | exact fun _ h => h.sub (List.sublist_append_left _ _) | exact fun _ h => by simpa only [List.append_eq, List.append_assoc, List.cons_append, List.nil_append, List.append_nil] using h)) (fun _ _ _ _ h => h) ?_) | (refine Goal.takePU (listed' := #[true, true, true, true, true, true, true, true, true, true, true, true, true, true, true, true, true, true, true, false, false]) 18 ⟨rfl, by kernel_rfl, by kernel_rfl, by kernel_rfl, by kernel_rfl⟩ rfl rfl rfl (fun _ _ _ _ h => h) ?_)); all_goals (first | (refine Goal.takePT (listed' := #[true, true, true, true, true, true, true, true, true, true, true, true, true, true, true, true, true, true, true, true, false]) 19 ⟨rfl, by kernel_rfl, by kernel_rfl, by kernel_rfl, by kernel_rfl⟩ rfl rfl rfl (fun _ _ _ _ h => h) (by intro _; first | exact Run.lss rfl rfl) ?_) | (refine Goal.takePF (listed' := #[true, true, true, true, true, true, true, true, true, true, true, true, true, true, true, true, true, true, true, true, false]) 19 ⟨rfl, by kernel_rfl, by kernel_rfl, by kernel_rfl, by kernel_rfl⟩ rfl rfl rfl rfl (fun _ _ _ _ h => h) ?_) | (refine Goal.takePU (listed' := #[true, true, true, true, true, true, true, true, true, true, true, true, true, true, true, true, true, true, true, true, false]) 19 ⟨rfl, by kernel_rfl, by kernel_rfl, by kernel_rfl, by kernel_rfl⟩ rfl rfl rfl (fun _ _ _ _ h => h) ?_)); all_goals ((refine Goal.takeP (listed' := #[true, true, true, true, true, true, true, true, true, true, true, true, true, true, true, true, true, true, true, true, true]) 20 ⟨rfl, by kernel_rfl, by kernel_rfl, by kernel_rfl, by kernel_rfl⟩ rfl (fun _ _ _ _ h => h) (by intro _; first | exact Run.pickT rfl rfl | exact Run.pickF rfl rfl) ?_)); all_goals (refine Goal.allUp (by kernel_rfl) ?_))
        | (apply G.move; exact rfl; exact rfl)
        | (apply G.assign; exact rfl; exact rfl)
        | refine Goal.seq (fun _ _ => ?_)
        | refine Goal.next (by assumption) ?_
        | refine Goal.lnil ?_
        | refine Goal.region ?_
        | refine Goal.skip ?_
        | refine Goal.block ?_
        | refine Goal.exit ?_
        | refine Goal.ret ?_
        | refine Goal.then_exit ?_
        | refine Goal.then_ret ?_
        | refine Goal.inBlock_exit ?_
        | refine Goal.inBlock_normal ?_
        | refine Goal.inBlock_ret ?_
        | refine Goal.inBlock_other rfl ?_
        | (apply Goal.condT; exact rfl)
        | (apply Goal.condF; exact rfl)
        | (refine Goal.condD rfl (fun hc => ?_) (fun hc => ?_) <;> first | (exfalso; omega) | contradiction | skip)
        | refine Goal.condB rfl (fun hc => ?_) (fun hc => ?_)
        | refine Goal.guardT rfl rfl ?_
        | refine Goal.guardF rfl rfl rfl rfl ?_
        | refine Goal.guardU rfl rfl rfl ?_
        | (refine Goal.guardD rfl rfl (fun hc => ?_) (fun hc => ?_) <;> first | (exfalso; omega) | contradiction | skip)
        | refine Goal.guardB rfl rfl (fun hc => ?_) (fun hc => ?_)
        | (apply G.fieldAddr; exact rfl; exact rfl; (first | exact T.fld_45_0 | exact T.fld_67_1))
        | (apply G.load; exact rfl; exact rfl; first | exact LoadOK.elFM (fz := (0, 0)) (b := be) (f := evc) (l := E) (rest := rest) (E := 67) (i := k) T.one_3 1 evc_len (by simp) (by omega) rfl | exact LoadOK.elFM (fz := (0, 0)) (b := be) (f := evc) (l := E) (rest := rest) (E := 67) (i := b) T.one_3 1 evc_len (by simp) (by omega) rfl | exact LoadOK.one (by first | exact T.one_3 | exact T.one_43) 0 rfl rfl | exact LoadOK.one (by first | exact T.one_3 | exact T.one_43) 1 rfl rfl | exact LoadOK.one (by first | exact T.one_3 | exact T.one_43) 2 rfl rfl | exact LoadOK.one (by first | exact T.one_3 | exact T.one_43) 3 rfl rfl | exact LoadOK.one (by first | exact T.one_3 | exact T.one_43) 4 rfl rfl | exact LoadOK.one (by first | exact T.one_3 | exact T.one_43) 5 rfl rfl | exact LoadOK.one (by first | exact T.one_3 | exact T.one_43) 6 rfl rfl | exact LoadOK.one (by first | exact T.one_3 | exact T.one_43) 7 rfl rfl)
        | (apply G.pickT; exact rfl; exact rfl; exact rfl)
        | (apply G.pickF; exact rfl; exact rfl; exact rfl)
        | (apply G.lss; exact rfl; exact rfl; exact rfl)
        | (apply G.add; exact rfl; exact rfl; exact rfl; first | exact IntWalk.i64_in _ (by omega) | exact IntWalk.u8_in _ (by omega) | exact IntWalk.u16_in _ (by omega) | exact IntWalk.u32_in _ (by omega) | exact IntWalk.u64_in _ (by omega))
        | (apply G.len; exact rfl; exact rfl; exact T.slc_43)
        | (apply G.nilCheckP; exact rfl; exact rfl)
        | (refine G.indexAddr rfl T.slc_43 T.sz_67 rfl rfl _ rfl (by omega) ?_)
        | (refine G.indexAddr rfl T.slc_43 T.sz_67 rfl rfl _ (Int.toNat_of_nonneg (by omega)).symm (by omega) ?_))
      · refine Goal.again ⟨k + 1, k⟩ ⟨by dsimp only; omega, .inr ⟨hk.1, by dsimp only; omega, fun j j0 j1 => ?_, fun j j0 j1 => by dsimp only at j0 j1; omega⟩⟩ (by dsimp only; omega) ⟨rfl, rfl, rfl, trivial⟩ (fun _ h => h)
        dsimp only at j1 ⊢
        rcases Int.lt_trichotomy j b with e | e | e
        · have := b2 j j0 e; omega
        · subst e; omega
        · have := b3 j e j1; omega
      · refine Goal.again ⟨k + 1, b⟩ ⟨by dsimp only; omega, .inr ⟨b0, by dsimp only; omega, b2, fun j j0 j1 => ?_⟩⟩ (by dsimp only; omega) ⟨rfl, rfl, rfl, trivial⟩ (fun _ h => h)
        dsimp only at j0 j1 ⊢
        by_cases e : j = k
        · subst e; omega
        · exact b3 j j0 (by omega)
  · obtain hkl : k = E.length := by omega
    subst hkl
    repeat' (first
      | (apply G.move; exact rfl; exact rfl)
      | (apply G.assign; exact rfl; exact rfl)
      | refine Goal.seq (fun _ _ => ?_)
      | refine Goal.next (by assumption) ?_
      | refine Goal.lnil ?_
      | refine Goal.region ?_
      | refine Goal.skip ?_
      | refine Goal.block ?_
      | refine Goal.exit ?_
      | refine Goal.ret ?_
      | refine Goal.then_exit ?_
      | refine Goal.then_ret ?_
      | refine Goal.inBlock_exit ?_
      | refine Goal.inBlock_normal ?_
      | refine Goal.inBlock_ret ?_
      | refine Goal.inBlock_other rfl ?_
      | (apply Goal.condT; exact rfl)
      | (apply Goal.condF; exact rfl)
      | (refine Goal.condD rfl (fun hc => ?_) (fun hc => ?_) <;> first | (exfalso; omega) | contradiction | skip)
      | refine Goal.condB rfl (fun hc => ?_) (fun hc => ?_)
      | refine Goal.guardT rfl rfl ?_
      | refine Goal.guardF rfl rfl rfl rfl ?_
      | refine Goal.guardU rfl rfl rfl ?_
      | (refine Goal.guardD rfl rfl (fun hc => ?_) (fun hc => ?_) <;> first | (exfalso; omega) | contradiction | skip)
      | refine Goal.guardB rfl rfl (fun hc => ?_) (fun hc => ?_)
      | (apply G.fieldAddr; exact rfl; exact rfl; (first | exact T.fld_45_0 | exact T.fld_67_1))
      | (apply G.load; exact rfl; exact rfl; first | exact LoadOK.one (by first | exact T.one_3 | exact T.one_43) 0 rfl rfl | exact LoadOK.one (by first | exact T.one_3 | exact T.one_43) 1 rfl rfl | exact LoadOK.one (by first | exact T.one_3 | exact T.one_43) 2 rfl rfl | exact LoadOK.one (by first | exact T.one_3 | exact T.one_43) 3 rfl rfl | exact LoadOK.one (by first | exact T.one_3 | exact T.one_43) 4 rfl rfl | exact LoadOK.one (by first | exact T.one_3 | exact T.one_43) 5 rfl rfl | exact LoadOK.one (by first | exact T.one_3 | exact T.one_43) 6 rfl rfl | exact LoadOK.one (by first | exact T.one_3 | exact T.one_43) 7 rfl rfl)
      | (apply G.pickT; exact rfl; exact rfl; exact rfl)
      | (apply G.pickF; exact rfl; exact rfl; exact rfl)
      | (apply G.lss; exact rfl; exact rfl; exact rfl)
      | (apply G.add; exact rfl; exact rfl; exact rfl; first | exact IntWalk.i64_in _ (by omega) | exact IntWalk.u8_in _ (by omega) | exact IntWalk.u16_in _ (by omega) | exact IntWalk.u32_in _ (by omega) | exact IntWalk.u64_in _ (by omega))
      | (apply G.len; exact rfl; exact rfl; exact T.slc_43)
      | (apply G.nilCheckP; exact rfl; exact rfl)
      | (refine G.indexAddr rfl T.slc_43 T.sz_67 rfl rfl _ rfl (by omega) ?_)
      | (refine G.indexAddr rfl T.slc_43 T.sz_67 rfl rfl _ (Int.toNat_of_nonneg (by omega)).symm (by omega) ?_))
    refine Goal.done (vs := [_]) (by first | exact .inl rfl | exact .inr rfl) Try.results27 ⟨rfl, trivial⟩ rfl (fun w' H => ⟨b, hb, rfl, H⟩)
theorem dpeekQ (hA : DqM br E now last A) (hE : E.length ≤ 65536) :
    MCalls Try.prog 20 [.pointer (some ⟨br, 0, none⟩)] A
      (fun x : NQ => x.A = A ∧ ((x.ok = false ∧ x.k = 0 ∧ E = []) ∨ (x.ok = true ∧ ∃ E1 e E2, IsFirst E E1 e E2 ∧ x.k = e.time)))
      (fun x => .tuple #[.int .i64 x.k, .bool x.ok]) (fun x => x.A) := .mk fun w hw => by
  have hA0 := hA
  obtain ⟨v, AE, rfl, hS⟩ := hA
  obtain ⟨ad, cap, rfl⟩ := hS.shape
  refine Goal.enter (args := [.pointer (some ⟨br, 0, none⟩)]) Try.func20 rfl Try.ntmps20 rfl (hw) ?_
  repeat' (first
    | (refine Goal.loud (o := ⟨some 6, _, _, _, _, _⟩) rfl ?_; refine Loud.callE ([]) (dfirstQ hA0 hE) rfl rfl rfl rfl T.bod_27 (fun _ h => h) ?_; intro b hb)
    | (apply G.move; exact rfl; exact rfl)
    | (apply G.assign; exact rfl; exact rfl)
    | refine Goal.seq (fun _ _ => ?_)
    | refine Goal.next (by assumption) ?_
    | refine Goal.lnil ?_
    | refine Goal.region ?_
    | refine Goal.skip ?_
    | refine Goal.block ?_
    | refine Goal.exit ?_
    | refine Goal.ret ?_
    | refine Goal.then_exit ?_
    | refine Goal.then_ret ?_
    | refine Goal.inBlock_exit ?_
    | refine Goal.inBlock_normal ?_
    | refine Goal.inBlock_ret ?_
    | refine Goal.inBlock_other rfl ?_
    | (apply Goal.condT; exact rfl)
    | (apply Goal.condF; exact rfl)
    | (refine Goal.condD rfl (fun hc => ?_) (fun hc => ?_) <;> first | (exfalso; omega) | contradiction | skip)
    | refine Goal.condB rfl (fun hc => ?_) (fun hc => ?_)
    | (apply G.fieldAddr; exact rfl; exact rfl; (first | exact T.fld_45_0 | exact T.fld_67_1))
    | (apply G.load; exact rfl; exact rfl; first | exact LoadOK.one (by first | exact T.one_3 | exact T.one_43) 0 rfl rfl | exact LoadOK.one (by first | exact T.one_3 | exact T.one_43) 1 rfl rfl | exact LoadOK.one (by first | exact T.one_3 | exact T.one_43) 2 rfl rfl | exact LoadOK.one (by first | exact T.one_3 | exact T.one_43) 3 rfl rfl | exact LoadOK.one (by first | exact T.one_3 | exact T.one_43) 4 rfl rfl | exact LoadOK.one (by first | exact T.one_3 | exact T.one_43) 5 rfl rfl | exact LoadOK.one (by first | exact T.one_3 | exact T.one_43) 6 rfl rfl | exact LoadOK.one (by first | exact T.one_3 | exact T.one_43) 7 rfl rfl)
    | (apply G.lss; exact rfl; exact rfl; exact rfl)
    | (apply G.nilCheckP; exact rfl; exact rfl)
    | (refine G.indexAddr rfl T.slc_43 T.sz_67 rfl rfl _ rfl (by omega) ?_)
    | (refine G.indexAddr rfl T.slc_43 T.sz_67 rfl rfl _ (Int.toNat_of_nonneg (by omega)).symm (by omega) ?_))
  · rcases hb.first with ⟨_, h0⟩ | ⟨h0, _⟩
    · refine Goal.done (vs := [_, _]) (by first | exact .inl rfl | exact .inr rfl) Try.results20 ⟨rfl, rfl, trivial⟩ rfl (fun w' H => ⟨⟨0, 0, false, _⟩, ⟨rfl, .inl ⟨rfl, rfl, h0⟩⟩, rfl, H⟩)
    · omega
  · rcases hb.first with ⟨h0, _⟩ | ⟨h0, h1, hF⟩
    · omega
    · obtain ⟨be, rest, cp, hv, rfl, h4, h2, h3⟩ := hS.pos (by omega)
      injection hv with hv _ hv2
      subst hv hv2
      repeat' (first
        | (apply G.move; exact rfl; exact rfl)
        | (apply G.assign; exact rfl; exact rfl)
        | refine Goal.seq (fun _ _ => ?_)
        | refine Goal.next (by assumption) ?_
        | refine Goal.lnil ?_
        | refine Goal.region ?_
        | refine Goal.skip ?_
        | refine Goal.block ?_
        | refine Goal.exit ?_
        | refine Goal.ret ?_
        | refine Goal.then_exit ?_
        | refine Goal.then_ret ?_
        | refine Goal.inBlock_exit ?_
        | refine Goal.inBlock_normal ?_
        | refine Goal.inBlock_ret ?_
        | refine Goal.inBlock_other rfl ?_
        | (apply Goal.condT; exact rfl)
        | (apply Goal.condF; exact rfl)
        | (refine Goal.condD rfl (fun hc => ?_) (fun hc => ?_) <;> first | (exfalso; omega) | contradiction | skip)
        | refine Goal.condB rfl (fun hc => ?_) (fun hc => ?_)
        | (apply G.fieldAddr; exact rfl; exact rfl; (first | exact T.fld_45_0 | exact T.fld_67_1))
        | (apply G.load; exact rfl; exact rfl; first | exact LoadOK.elFM (fz := (0, 0)) (b := be) (f := evc) (l := E) (rest := rest) (E := 67) (i := b) T.one_3 1 evc_len (by simp) (by omega) rfl | exact LoadOK.one (by first | exact T.one_3 | exact T.one_43) 0 rfl rfl | exact LoadOK.one (by first | exact T.one_3 | exact T.one_43) 1 rfl rfl | exact LoadOK.one (by first | exact T.one_3 | exact T.one_43) 2 rfl rfl | exact LoadOK.one (by first | exact T.one_3 | exact T.one_43) 3 rfl rfl | exact LoadOK.one (by first | exact T.one_3 | exact T.one_43) 4 rfl rfl | exact LoadOK.one (by first | exact T.one_3 | exact T.one_43) 5 rfl rfl | exact LoadOK.one (by first | exact T.one_3 | exact T.one_43) 6 rfl rfl | exact LoadOK.one (by first | exact T.one_3 | exact T.one_43) 7 rfl rfl)
        | (apply G.lss; exact rfl; exact rfl; exact rfl)
        | (apply G.nilCheckP; exact rfl; exact rfl)
        | (refine G.indexAddr rfl T.slc_43 T.sz_67 rfl rfl _ rfl (by omega) ?_)
        | (refine G.indexAddr rfl T.slc_43 T.sz_67 rfl rfl _ (Int.toNat_of_nonneg (by omega)).symm (by omega) ?_))
      refine Goal.done (vs := [_, _]) (by first | exact .inl rfl | exact .inr rfl) Try.results20 ⟨rfl, rfl, trivial⟩ rfl (fun w' H => ⟨⟨_, 0, true, _⟩, ⟨rfl, .inr ⟨rfl, _, _, _, hF, rfl⟩⟩, rfl, H⟩)
set_option maxHeartbeats 4000000 in
theorem dnextQ (hA : DqM br E now last A) (hE : E.length ≤ 65536) :
    MCalls Try.prog 17 [.pointer (some ⟨br, 0, none⟩)] A
      (fun x : NQ => (x.ok = false ∧ x.k = 0 ∧ x.d = 0 ∧ E = [] ∧ DqM br E now last x.A) ∨ (x.ok = true ∧ ∃ E1 e E2, IsFirst E E1 e E2 ∧ x.k = e.time ∧ x.d = e.data ∧ DqM br (E1 ++ E2) e.time last x.A))
      (fun x => .tuple #[.int .i64 x.k, .int .i64 x.d, .bool x.ok]) (fun x => x.A) := .mk fun w hw => by
  have hA0 := hA
  obtain ⟨v, AE, rfl, hS⟩ := hA
  obtain ⟨ad, cap, rfl⟩ := hS.shape
  refine Goal.enter (args := [.pointer (some ⟨br, 0, none⟩)]) Try.func17 rfl Try.ntmps17 rfl (hw) ?_
  repeat' (first
    | (refine Goal.loud (o := ⟨some 8, _, _, _, _, _⟩) rfl ?_; refine Loud.callE ([]) (dfirstQ hA0 hE) rfl rfl rfl rfl T.bod_27 (fun _ h => h) ?_; intro b hb)
    | (refine Goal.loud (o := ⟨some 6, _, _, _, _, _⟩) rfl ?_; refine Loud.allocA rfl T.inf_67 (fun b6 => ?_))
    | (apply G.move; exact rfl; exact rfl)
    | (apply G.assign; exact rfl; exact rfl)
    | refine Goal.seq (fun _ _ => ?_)
    | refine Goal.next (by assumption) ?_
    | refine Goal.lnil ?_
    | refine Goal.region ?_
    | refine Goal.skip ?_
    | refine Goal.block ?_
    | refine Goal.exit ?_
    | refine Goal.ret ?_
    | refine Goal.then_exit ?_
    | refine Goal.then_ret ?_
    | refine Goal.inBlock_exit ?_
    | refine Goal.inBlock_normal ?_
    | refine Goal.inBlock_ret ?_
    | refine Goal.inBlock_other rfl ?_
    | (apply Goal.condT; exact rfl)
    | (apply Goal.condF; exact rfl)
    | (refine Goal.condD rfl (fun hc => ?_) (fun hc => ?_) <;> first | (exfalso; omega) | contradiction | skip)
    | refine Goal.condB rfl (fun hc => ?_) (fun hc => ?_)
    | (apply G.fieldAddr; exact rfl; exact rfl; (first | exact T.fld_45_0 | exact T.fld_45_2 | exact T.fld_67_1 | exact T.fld_67_2))
    | (apply G.load; exact rfl; exact rfl; first | exact LoadOK.one (by first | exact T.one_3 | exact T.one_43) 0 rfl rfl | exact LoadOK.one (by first | exact T.one_3 | exact T.one_43) 1 rfl rfl | exact LoadOK.one (by first | exact T.one_3 | exact T.one_43) 2 rfl rfl | exact LoadOK.one (by first | exact T.one_3 | exact T.one_43) 3 rfl rfl | exact LoadOK.one (by first | exact T.one_3 | exact T.one_43) 4 rfl rfl | exact LoadOK.one (by first | exact T.one_3 | exact T.one_43) 5 rfl rfl | exact LoadOK.one (by first | exact T.one_3 | exact T.one_43) 6 rfl rfl | exact LoadOK.one (by first | exact T.one_3 | exact T.one_43) 7 rfl rfl | exact LoadOK.agg (vs := [_, _, _]) T.agg_67 0 rfl rfl ⟨rfl, rfl, rfl, trivial⟩ | exact LoadOK.agg (vs := [_, _, _]) T.agg_67 1 rfl rfl ⟨rfl, rfl, rfl, trivial⟩ | exact LoadOK.agg (vs := [_, _, _]) T.agg_67 2 rfl rfl ⟨rfl, rfl, rfl, trivial⟩ | exact LoadOK.agg (vs := [_, _, _]) T.agg_67 3 rfl rfl ⟨rfl, rfl, rfl, trivial⟩ | exact LoadOK.agg (vs := [_, _, _]) T.agg_67 4 rfl rfl ⟨rfl, rfl, rfl, trivial⟩ | exact LoadOK.agg (vs := [_, _, _]) T.agg_67 5 rfl rfl ⟨rfl, rfl, rfl, trivial⟩ | exact LoadOK.agg (vs := [_, _, _]) T.agg_67 6 rfl rfl ⟨rfl, rfl, rfl, trivial⟩ | exact LoadOK.agg (vs := [_, _, _]) T.agg_67 7 rfl rfl ⟨rfl, rfl, rfl, trivial⟩)
    | (apply G.lss; exact rfl; exact rfl; exact rfl)
    | (apply G.nilCheckP; exact rfl; exact rfl)
    | (refine G.indexAddr rfl T.slc_43 T.sz_67 rfl rfl _ rfl (by omega) ?_)
    | (refine G.indexAddr rfl T.slc_43 T.sz_67 rfl rfl _ (Int.toNat_of_nonneg (by omega)).symm (by omega) ?_)
    | (refine Goal.loud rfl ?_; refine Loud.store0 rfl rfl (by first | exact T.sz_3 | exact T.sz_67) rfl rfl rfl (by first | exact Nat.le_of_ble_eq_true rfl | exact Nat.le_refl _ | decide | (simp; omega)) rfl ?_)
    | (refine Goal.loud rfl ?_; refine Loud.store1 rfl rfl (by first | exact T.sz_3 | exact T.sz_67) rfl rfl rfl (by first | exact Nat.le_of_ble_eq_true rfl | exact Nat.le_refl _ | decide | (simp; omega)) rfl ?_)
    | (refine Goal.loud rfl ?_; refine Loud.store2 rfl rfl (by first | exact T.sz_3 | exact T.sz_67) rfl rfl rfl (by first | exact Nat.le_of_ble_eq_true rfl | exact Nat.le_refl _ | decide | (simp; omega)) rfl ?_)
    | (refine Goal.loud rfl ?_; refine Loud.store3 rfl rfl (by first | exact T.sz_3 | exact T.sz_67) rfl rfl rfl (by first | exact Nat.le_of_ble_eq_true rfl | exact Nat.le_refl _ | decide | (simp; omega)) rfl ?_)
    | (refine Goal.loud rfl ?_; refine Loud.store4 rfl rfl (by first | exact T.sz_3 | exact T.sz_67) rfl rfl rfl (by first | exact Nat.le_of_ble_eq_true rfl | exact Nat.le_refl _ | decide | (simp; omega)) rfl ?_)
    | (refine Goal.loud rfl ?_; refine Loud.store5 rfl rfl (by first | exact T.sz_3 | exact T.sz_67) rfl rfl rfl (by first | exact Nat.le_of_ble_eq_true rfl | exact Nat.le_refl _ | decide | (simp; omega)) rfl ?_)
    | (refine Goal.loud rfl ?_; refine Loud.store6 rfl rfl (by first | exact T.sz_3 | exact T.sz_67) rfl rfl rfl (by first | exact Nat.le_of_ble_eq_true rfl | exact Nat.le_refl _ | decide | (simp; omega)) rfl ?_)
    | (refine Goal.loud rfl ?_; refine Loud.store7 rfl rfl (by first | exact T.sz_3 | exact T.sz_67) rfl rfl rfl (by first | exact Nat.le_of_ble_eq_true rfl | exact Nat.le_refl _ | decide | (simp; omega)) rfl ?_))
  · rcases hb.first with ⟨_, h0⟩ | ⟨h0, _⟩
    · refine Goal.done (vs := [_, _, _]) (by first | exact .inl rfl | exact .inr rfl) Try.results17 ⟨rfl, rfl, rfl, trivial⟩ rfl (fun w' H => ⟨⟨0, 0, false, _⟩, .inl ⟨rfl, rfl, rfl, h0, hA0⟩, rfl, H⟩)
    · omega
  · rcases hb.first with ⟨h0, _⟩ | ⟨h0, h1, hF⟩
    · omega
    · obtain ⟨be, rest, cp, hv, rfl, h4, h2, h3⟩ := hS.pos (by omega)
      injection hv with hv _ hv2
      subst hv hv2
      repeat' (first
        | (refine Goal.drawAll (id := 7) 7 T.mixed ?_; all_goals ((refine Goal.takeP (listed' := #[true, false, false, false, false, false, false]) 0 ⟨rfl, by kernel_rfl, by kernel_rfl, by kernel_rfl, by kernel_rfl⟩ rfl (fun _ _ _ _ h => h) (by intro _; exact Run.fieldAddr T.fld_67_1 rfl) ?_)); all_goals ((refine Goal.takeP (listed' := #[true, false, true, false, false, false, false]) 2 ⟨rfl, by kernel_rfl, by kernel_rfl, by kernel_rfl, by kernel_rfl⟩ rfl (fun _ _ _ _ h => h) (by intro _; exact Run.fieldAddr T.fld_67_2 rfl) ?_)); all_goals ((refine Goal.take (listed' := #[true, true, true, false, false, false, false]) 1 ⟨rfl, by kernel_rfl, by kernel_rfl, by kernel_rfl, by kernel_rfl, by kernel_rfl⟩ rfl (by (first | exact fun _ h => h | exact fun _ h => h.sub (.cons _ (.refl _)) | exact fun _ h => h.sub (.cons _ (.cons _ (.refl _))) | exact fun _ h => h.sub (.cons _ (.cons _ (.cons _ (.refl _)))) | exact fun _ h => h.drop | exact fun _ h => h.sub (List.sublist_append_left _ _) | exact fun _ h => by simpa only [List.append_eq, List.append_assoc, List.cons_append, List.nil_append, List.append_nil] using h)) (fun _ _ _ _ h => h) (by (apply Run.load; exact rfl; first | exact LoadOK.elM (fz := (0, 0)) (b := be) (f := evc) (l := E) (rest := rest) (E := 67) (i := b) T.agg_67 evc_len (by simp) (by omega) | exact LoadOK.one T.one_3 0 rfl rfl | exact LoadOK.one T.one_3 1 rfl rfl | exact LoadOK.one T.one_3 2 rfl rfl | exact LoadOK.one T.one_3 3 rfl rfl | exact LoadOK.one T.one_3 4 rfl rfl | exact LoadOK.one T.one_3 5 rfl rfl | exact LoadOK.one T.one_3 6 rfl rfl | exact LoadOK.one T.one_3 7 rfl rfl)) ?_)); all_goals ((refine Goal.takeP (listed' := #[true, true, true, false, true, false, false]) 4 ⟨rfl, by kernel_rfl, by kernel_rfl, by kernel_rfl, by kernel_rfl⟩ rfl (fun _ _ _ _ h => h) (by intro _; exact Run.assign rfl) ?_)); all_goals ((refine Goal.take (listed' := #[true, true, true, true, true, false, false]) 3 ⟨rfl, by kernel_rfl, by kernel_rfl, by kernel_rfl, by kernel_rfl, by kernel_rfl⟩ rfl (by (first | exact fun _ h => h | exact fun _ h => h.sub (.cons _ (.refl _)) | exact fun _ h => h.sub (.cons _ (.cons _ (.refl _))) | exact fun _ h => h.sub (.cons _ (.cons _ (.cons _ (.refl _)))) | exact fun _ h => h.drop | exact fun _ h => h.sub (List.sublist_append_left _ _) | exact fun _ h => by simpa only [List.append_eq, List.append_assoc, List.cons_append, List.nil_append, List.append_nil] using h)) (fun _ _ _ _ h => h) (by (apply Run.load; exact rfl; first | exact LoadOK.elM (fz := (0, 0)) (b := be) (f := evc) (l := E) (rest := rest) (E := 67) (i := b) T.agg_67 evc_len (by simp) (by omega) | exact LoadOK.one T.one_3 0 rfl rfl | exact LoadOK.one T.one_3 1 rfl rfl | exact LoadOK.one T.one_3 2 rfl rfl | exact LoadOK.one T.one_3 3 rfl rfl | exact LoadOK.one T.one_3 4 rfl rfl | exact LoadOK.one T.one_3 5 rfl rfl | exact LoadOK.one T.one_3 6 rfl rfl | exact LoadOK.one T.one_3 7 rfl rfl)) ?_)); all_goals ((refine Goal.takeP (listed' := #[true, true, true, true, true, true, false]) 5 ⟨rfl, by kernel_rfl, by kernel_rfl, by kernel_rfl, by kernel_rfl⟩ rfl (fun _ _ _ _ h => h) (by intro _; exact Run.assign rfl) ?_)); all_goals ((refine Goal.takeP (listed' := #[true, true, true, true, true, true, true]) 6 ⟨rfl, by kernel_rfl, by kernel_rfl, by kernel_rfl, by kernel_rfl⟩ rfl (fun _ _ _ _ h => h) (by intro _; exact Run.assign rfl) ?_)); all_goals (refine Goal.allUp (by kernel_rfl) ?_))
        | (refine Goal.loud (o := ⟨some 20, _, _, _, _, _⟩) rfl ?_; refine Loud.callE ([_]) (ddropQ hA0 hE b ⟨h0, h1⟩) rfl rfl rfl rfl T.bod_28 (fun _ h => h) ?_; rintro A2 ⟨v2, AE2, rfl, hS2⟩; obtain ⟨ad2, cap2, rfl⟩ := hS2.shape)
        | (refine Goal.loud (o := ⟨some 6, _, _, _, _, _⟩) rfl ?_; refine Loud.allocA rfl T.inf_67 (fun b6 => ?_))
        | (apply G.move; exact rfl; exact rfl)
        | (apply G.assign; exact rfl; exact rfl)
        | refine Goal.seq (fun _ _ => ?_)
        | refine Goal.next (by assumption) ?_
        | refine Goal.lnil ?_
        | refine Goal.region ?_
        | refine Goal.skip ?_
        | refine Goal.block ?_
        | refine Goal.exit ?_
        | refine Goal.ret ?_
        | refine Goal.then_exit ?_
        | refine Goal.then_ret ?_
        | refine Goal.inBlock_exit ?_
        | refine Goal.inBlock_normal ?_
        | refine Goal.inBlock_ret ?_
        | refine Goal.inBlock_other rfl ?_
        | (apply Goal.condT; exact rfl)
        | (apply Goal.condF; exact rfl)
        | (refine Goal.condD rfl (fun hc => ?_) (fun hc => ?_) <;> first | (exfalso; omega) | contradiction | skip)
        | refine Goal.condB rfl (fun hc => ?_) (fun hc => ?_)
        | (apply G.fieldAddr; exact rfl; exact rfl; (first | exact T.fld_45_0 | exact T.fld_45_2 | exact T.fld_67_1 | exact T.fld_67_2))
        | (apply G.load; exact rfl; exact rfl; first | exact LoadOK.elM (fz := (0, 0)) (b := be) (f := evc) (l := E) (rest := rest) (E := 67) (i := b) T.agg_67 evc_len (by simp) (by omega) | exact LoadOK.one (by first | exact T.one_3 | exact T.one_43) 0 rfl rfl | exact LoadOK.one (by first | exact T.one_3 | exact T.one_43) 1 rfl rfl | exact LoadOK.one (by first | exact T.one_3 | exact T.one_43) 2 rfl rfl | exact LoadOK.one (by first | exact T.one_3 | exact T.one_43) 3 rfl rfl | exact LoadOK.one (by first | exact T.one_3 | exact T.one_43) 4 rfl rfl | exact LoadOK.one (by first | exact T.one_3 | exact T.one_43) 5 rfl rfl | exact LoadOK.one (by first | exact T.one_3 | exact T.one_43) 6 rfl rfl | exact LoadOK.one (by first | exact T.one_3 | exact T.one_43) 7 rfl rfl | exact LoadOK.agg (vs := [_, _, _]) T.agg_67 0 rfl rfl ⟨rfl, rfl, rfl, trivial⟩ | exact LoadOK.agg (vs := [_, _, _]) T.agg_67 1 rfl rfl ⟨rfl, rfl, rfl, trivial⟩ | exact LoadOK.agg (vs := [_, _, _]) T.agg_67 2 rfl rfl ⟨rfl, rfl, rfl, trivial⟩ | exact LoadOK.agg (vs := [_, _, _]) T.agg_67 3 rfl rfl ⟨rfl, rfl, rfl, trivial⟩ | exact LoadOK.agg (vs := [_, _, _]) T.agg_67 4 rfl rfl ⟨rfl, rfl, rfl, trivial⟩ | exact LoadOK.agg (vs := [_, _, _]) T.agg_67 5 rfl rfl ⟨rfl, rfl, rfl, trivial⟩ | exact LoadOK.agg (vs := [_, _, _]) T.agg_67 6 rfl rfl ⟨rfl, rfl, rfl, trivial⟩ | exact LoadOK.agg (vs := [_, _, _]) T.agg_67 7 rfl rfl ⟨rfl, rfl, rfl, trivial⟩)
        | (apply G.lss; exact rfl; exact rfl; exact rfl)
        | (apply G.nilCheckP; exact rfl; exact rfl)
        | (refine G.indexAddr rfl T.slc_43 T.sz_67 rfl rfl _ rfl (by omega) ?_)
        | (refine G.indexAddr rfl T.slc_43 T.sz_67 rfl rfl _ (Int.toNat_of_nonneg (by omega)).symm (by omega) ?_)
        | (refine Goal.loud rfl ?_; refine Loud.store0 rfl rfl (by first | exact T.sz_3 | exact T.sz_67) rfl rfl rfl (by first | exact Nat.le_of_ble_eq_true rfl | exact Nat.le_refl _ | decide | (simp; omega)) rfl ?_)
        | (refine Goal.loud rfl ?_; refine Loud.store1 rfl rfl (by first | exact T.sz_3 | exact T.sz_67) rfl rfl rfl (by first | exact Nat.le_of_ble_eq_true rfl | exact Nat.le_refl _ | decide | (simp; omega)) rfl ?_)
        | (refine Goal.loud rfl ?_; refine Loud.store2 rfl rfl (by first | exact T.sz_3 | exact T.sz_67) rfl rfl rfl (by first | exact Nat.le_of_ble_eq_true rfl | exact Nat.le_refl _ | decide | (simp; omega)) rfl ?_)
        | (refine Goal.loud rfl ?_; refine Loud.store3 rfl rfl (by first | exact T.sz_3 | exact T.sz_67) rfl rfl rfl (by first | exact Nat.le_of_ble_eq_true rfl | exact Nat.le_refl _ | decide | (simp; omega)) rfl ?_)
        | (refine Goal.loud rfl ?_; refine Loud.store4 rfl rfl (by first | exact T.sz_3 | exact T.sz_67) rfl rfl rfl (by first | exact Nat.le_of_ble_eq_true rfl | exact Nat.le_refl _ | decide | (simp; omega)) rfl ?_)
        | (refine Goal.loud rfl ?_; refine Loud.store5 rfl rfl (by first | exact T.sz_3 | exact T.sz_67) rfl rfl rfl (by first | exact Nat.le_of_ble_eq_true rfl | exact Nat.le_refl _ | decide | (simp; omega)) rfl ?_)
        | (refine Goal.loud rfl ?_; refine Loud.store6 rfl rfl (by first | exact T.sz_3 | exact T.sz_67) rfl rfl rfl (by first | exact Nat.le_of_ble_eq_true rfl | exact Nat.le_refl _ | decide | (simp; omega)) rfl ?_)
        | (refine Goal.loud rfl ?_; refine Loud.store7 rfl rfl (by first | exact T.sz_3 | exact T.sz_67) rfl rfl rfl (by first | exact Nat.le_of_ble_eq_true rfl | exact Nat.le_refl _ | decide | (simp; omega)) rfl ?_))
      refine Goal.done (vs := [_, _, _]) (by first | exact .inl rfl | exact .inr rfl) Try.results17 ⟨rfl, rfl, rfl, trivial⟩ rfl (fun w' H => ⟨⟨_, _, true, _⟩, .inr ⟨rfl, _, _, _, hF, rfl, rfl, ⟨_, AE2, rfl, hS2⟩⟩, rfl, St.drop1 H⟩)
theorem without_at {E1 E2 : List Evt} {e : Evt} (hs : (E1 ++ e :: E2).Pairwise fun a b => a.id < b.id) : without (E1 ++ e :: E2) e.id = E1 ++ E2 ∧ hasId (E1 ++ e :: E2) e.id = true := by
  have hso := List.pairwise_append.1 hs
  have hso2 := List.pairwise_cons.1 hso.2.1
  have hne : ∀ x ∈ E1 ++ E2, x.id ≠ e.id := fun x hx => by
    rcases List.mem_append.1 hx with hx | hx
    · have := hso.2.2 x hx e (by simp); omega
    · have := hso2.1 x hx; omega
  refine ⟨?_, by unfold hasId; simp⟩
  unfold without
  rw [List.filter_append, List.filter_cons_of_neg (by simp)]
  rw [List.filter_eq_self.2 (fun x hx => by simpa using hne x (by simp [hx])), List.filter_eq_self.2 (fun x hx => by simpa using hne x (by simp [hx]))]
structure CXI where
  (i : Int)
set_option maxHeartbeats 4000000 in
theorem dcancelQ (hA : DqM br E now last A) (hE : E.length ≤ 65536) (hso : E.Pairwise fun a b => a.id < b.id) (id : Int) :
    MCalls Try.prog 18 [.pointer (some ⟨br, 0, none⟩), .int .i64 id] A
      (fun A' : List Blk => DqM br (without E id) now last A') (fun _ => .int .i64 (if hasId E id then 0 else 8)) (fun A' => A') := .mk fun w hw => by
  have hA0 := hA
  obtain ⟨v, AE, rfl, hS⟩ := hA
  obtain ⟨ad, cap, rfl⟩ := hS.shape
  refine Goal.enter (args := [.pointer (some ⟨br, 0, none⟩), .int .i64 id]) Try.func18 rfl Try.ntmps18 rfl (hw) ?_
  repeat' (first
    | (apply G.move; exact rfl; exact rfl)
    | (apply G.assign; exact rfl; exact rfl)
    | refine Goal.seq (fun _ _ => ?_)
    | refine Goal.next (by assumption) ?_
    | refine Goal.lnil ?_
    | refine Goal.region ?_
    | refine Goal.skip ?_
    | refine Goal.block ?_
    | refine Goal.exit ?_
    | refine Goal.ret ?_
    | refine Goal.then_exit ?_
    | refine Goal.then_ret ?_
    | refine Goal.inBlock_exit ?_
    | refine Goal.inBlock_normal ?_
    | refine Goal.inBlock_ret ?_
    | refine Goal.inBlock_other rfl ?_
    | (apply Goal.condT; exact rfl)
    | (apply Goal.condF; exact rfl)
    | (refine Goal.condD rfl (fun hc => ?_) (fun hc => ?_) <;> first | (exfalso; omega) | contradiction | skip)
    | refine Goal.condB rfl (fun hc => ?_) (fun hc => ?_)
    | (apply G.fieldAddr; exact rfl; exact rfl; (first | exact T.fld_45_0 | exact T.fld_67_0))
    | (apply G.load; exact rfl; exact rfl; first | exact LoadOK.one (by first | exact T.one_3 | exact T.one_43) 0 rfl rfl | exact LoadOK.one (by first | exact T.one_3 | exact T.one_43) 1 rfl rfl | exact LoadOK.one (by first | exact T.one_3 | exact T.one_43) 2 rfl rfl | exact LoadOK.one (by first | exact T.one_3 | exact T.one_43) 3 rfl rfl | exact LoadOK.one (by first | exact T.one_3 | exact T.one_43) 4 rfl rfl | exact LoadOK.one (by first | exact T.one_3 | exact T.one_43) 5 rfl rfl | exact LoadOK.one (by first | exact T.one_3 | exact T.one_43) 6 rfl rfl | exact LoadOK.one (by first | exact T.one_3 | exact T.one_43) 7 rfl rfl)
    | (apply G.lss; exact rfl; exact rfl; exact rfl)
    | (apply G.eql; exact rfl; exact rfl; exact rfl)
    | (apply G.add; exact rfl; exact rfl; exact rfl; first | exact IntWalk.i64_in _ (by omega) | exact IntWalk.u8_in _ (by omega) | exact IntWalk.u16_in _ (by omega) | exact IntWalk.u32_in _ (by omega) | exact IntWalk.u64_in _ (by omega))
    | (apply G.len; exact rfl; exact rfl; exact T.slc_43)
    | (apply G.nilCheckP; exact rfl; exact rfl)
    | (refine G.indexAddr rfl T.slc_43 T.sz_67 rfl rfl _ rfl (by omega) ?_)
    | (refine G.indexAddr rfl T.slc_43 T.sz_67 rfl rfl _ (Int.toNat_of_nonneg (by omega)).symm (by omega) ?_))
  refine Goal.loopP (X := Int) (fun x => [(0, .pointer (some ⟨br, 0, none⟩)), (1, .int .i64 id), (5, .int .i64 x)]) (fun _ => (br, .cells #[.slice ad E.length cap, .int .i64 last, .int .i64 now] 45) :: AE)
    (fun x => (0 ≤ x ∧ x ≤ E.length) ∧ ∀ j : Int, 0 ≤ j → j < x → (el E j).id ≠ id) (fun x => (E.length - x).toNat) 0 ⟨rfl, rfl, rfl, trivial⟩ (fun _ h => h) ⟨by omega, fun j j0 j1 => by omega⟩ ?_
  rintro k ⟨hk, hn⟩
  by_cases h : k < E.length
  · obtain ⟨be, rest, cp, hv, rfl, h1, h2, h3⟩ := hS.pos (by omega)
    injection hv with hv _ hv2
    subst hv hv2
    repeat' (first
      | (refine Goal.loud (o := ⟨some 27, _, _, _, _, _⟩) rfl ?_; refine Loud.callE ([]) (ddropQ hA0 hE k ⟨hk.1, h⟩) rfl rfl rfl rfl T.bod_28 (fun _ h => h) ?_; intro A2 hA2)
      | (apply G.move; exact rfl; exact rfl)
      | (apply G.assign; exact rfl; exact rfl)
      | refine Goal.seq (fun _ _ => ?_)
      | refine Goal.next (by assumption) ?_
      | refine Goal.lnil ?_
      | refine Goal.region ?_
      | refine Goal.skip ?_
      | refine Goal.block ?_
      | refine Goal.exit ?_
      | refine Goal.ret ?_
      | refine Goal.then_exit ?_
      | refine Goal.then_ret ?_
      | refine Goal.inBlock_exit ?_
      | refine Goal.inBlock_normal ?_
      | refine Goal.inBlock_ret ?_
      | refine Goal.inBlock_other rfl ?_
      | (apply Goal.condT; exact rfl)
      | (apply Goal.condF; exact rfl)
      | (refine Goal.condD rfl (fun hc => ?_) (fun hc => ?_) <;> first | (exfalso; omega) | contradiction | skip)
      | refine Goal.condB rfl (fun hc => ?_) (fun hc => ?_)
      | (apply G.fieldAddr; exact rfl; exact rfl; (first | exact T.fld_45_0 | exact T.fld_67_0))
      | (apply G.load; exact rfl; exact rfl; first | exact LoadOK.elFM (fz := (0, 0)) (b := be) (f := evc) (l := E) (rest := rest) (E := 67) (i := k) T.one_3 0 evc_len (by simp) (by omega) rfl | exact LoadOK.one (by first | exact T.one_3 | exact T.one_43) 0 rfl rfl | exact LoadOK.one (by first | exact T.one_3 | exact T.one_43) 1 rfl rfl | exact LoadOK.one (by first | exact T.one_3 | exact T.one_43) 2 rfl rfl | exact LoadOK.one (by first | exact T.one_3 | exact T.one_43) 3 rfl rfl | exact LoadOK.one (by first | exact T.one_3 | exact T.one_43) 4 rfl rfl | exact LoadOK.one (by first | exact T.one_3 | exact T.one_43) 5 rfl rfl | exact LoadOK.one (by first | exact T.one_3 | exact T.one_43) 6 rfl rfl | exact LoadOK.one (by first | exact T.one_3 | exact T.one_43) 7 rfl rfl)
      | (apply G.lss; exact rfl; exact rfl; exact rfl)
      | (apply G.eql; exact rfl; exact rfl; exact rfl)
      | (apply G.add; exact rfl; exact rfl; exact rfl; first | exact IntWalk.i64_in _ (by omega) | exact IntWalk.u8_in _ (by omega) | exact IntWalk.u16_in _ (by omega) | exact IntWalk.u32_in _ (by omega) | exact IntWalk.u64_in _ (by omega))
      | (apply G.len; exact rfl; exact rfl; exact T.slc_43)
      | (apply G.nilCheckP; exact rfl; exact rfl)
      | (refine G.indexAddr rfl T.slc_43 T.sz_67 rfl rfl _ rfl (by omega) ?_)
      | (refine G.indexAddr rfl T.slc_43 T.sz_67 rfl rfl _ (Int.toNat_of_nonneg (by omega)).symm (by omega) ?_))
    · have hsp := take_drop_split (l := E) (i := k.toNat) (by omega)
      rw [← el_get (l := E) (i := k) ⟨hk.1, h⟩] at hsp
      rw [hsp] at hso
      obtain ⟨e1, e2⟩ := without_at hso
      rw [← hsp, hc] at e1 e2
      refine Goal.done (vs := [_]) (by first | exact .inl rfl | exact .inr rfl) Try.results18 ⟨rfl, trivial⟩ rfl (fun w' H => ⟨A2, by rw [e1]; exact hA2, by rw [e2]; rfl, H⟩)
    · refine Goal.again (k + 1) ⟨by omega, fun j j0 j1 => ?_⟩ (by omega) ⟨rfl, rfl, rfl, trivial⟩ (fun _ h => h)
      by_cases e : j = k
      · rw [e]; exact hc
      · exact hn j j0 (by omega)
  · obtain hkl : k = E.length := by omega
    subst hkl
    have hnot : ∀ e ∈ E, e.id ≠ id := fun e he => by
      obtain ⟨j, hj, rfl⟩ := List.getElem_of_mem he
      have := hn j (by omega) (by omega)
      rwa [el_get (i := (j : Int)) (by omega)] at this
    have e1 : without E id = E := List.filter_eq_self.2 fun e he => by simpa using hnot e he
    have e2 : hasId E id = false := List.any_eq_false.2 fun e he => by simpa using hnot e he
    repeat' (first
      | (apply G.move; exact rfl; exact rfl)
      | (apply G.assign; exact rfl; exact rfl)
      | refine Goal.seq (fun _ _ => ?_)
      | refine Goal.next (by assumption) ?_
      | refine Goal.lnil ?_
      | refine Goal.region ?_
      | refine Goal.skip ?_
      | refine Goal.block ?_
      | refine Goal.exit ?_
      | refine Goal.ret ?_
      | refine Goal.then_exit ?_
      | refine Goal.then_ret ?_
      | refine Goal.inBlock_exit ?_
      | refine Goal.inBlock_normal ?_
      | refine Goal.inBlock_ret ?_
      | refine Goal.inBlock_other rfl ?_
      | (apply Goal.condT; exact rfl)
      | (apply Goal.condF; exact rfl)
      | (refine Goal.condD rfl (fun hc => ?_) (fun hc => ?_) <;> first | (exfalso; omega) | contradiction | skip)
      | refine Goal.condB rfl (fun hc => ?_) (fun hc => ?_)
      | (apply G.fieldAddr; exact rfl; exact rfl; (first | exact T.fld_45_0 | exact T.fld_67_0))
      | (apply G.load; exact rfl; exact rfl; first | exact LoadOK.one (by first | exact T.one_3 | exact T.one_43) 0 rfl rfl | exact LoadOK.one (by first | exact T.one_3 | exact T.one_43) 1 rfl rfl | exact LoadOK.one (by first | exact T.one_3 | exact T.one_43) 2 rfl rfl | exact LoadOK.one (by first | exact T.one_3 | exact T.one_43) 3 rfl rfl | exact LoadOK.one (by first | exact T.one_3 | exact T.one_43) 4 rfl rfl | exact LoadOK.one (by first | exact T.one_3 | exact T.one_43) 5 rfl rfl | exact LoadOK.one (by first | exact T.one_3 | exact T.one_43) 6 rfl rfl | exact LoadOK.one (by first | exact T.one_3 | exact T.one_43) 7 rfl rfl)
      | (apply G.lss; exact rfl; exact rfl; exact rfl)
      | (apply G.eql; exact rfl; exact rfl; exact rfl)
      | (apply G.add; exact rfl; exact rfl; exact rfl; first | exact IntWalk.i64_in _ (by omega) | exact IntWalk.u8_in _ (by omega) | exact IntWalk.u16_in _ (by omega) | exact IntWalk.u32_in _ (by omega) | exact IntWalk.u64_in _ (by omega))
      | (apply G.len; exact rfl; exact rfl; exact T.slc_43)
      | (apply G.nilCheckP; exact rfl; exact rfl)
      | (refine G.indexAddr rfl T.slc_43 T.sz_67 rfl rfl _ rfl (by omega) ?_)
      | (refine G.indexAddr rfl T.slc_43 T.sz_67 rfl rfl _ (Int.toNat_of_nonneg (by omega)).symm (by omega) ?_))
    refine Goal.done (vs := [_]) (by first | exact .inl rfl | exact .inr rfl) Try.results18 ⟨rfl, trivial⟩ rfl (fun w' H => ⟨_, by rw [e1]; exact hA0, by rw [e2]; rfl, H⟩)
end
end Go.Proofs.Ytcekjnfdgbeekaa
