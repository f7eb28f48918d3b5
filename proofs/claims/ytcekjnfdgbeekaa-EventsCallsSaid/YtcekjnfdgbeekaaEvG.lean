/- The queue of events: the library's IndexFunc and DeleteFunc, by their predicate's contract. -/
import Derived.Test.YtcekjnfdgbeekaaEvF
import Derived.Test.YtcekjnfdgbeekaaCore7
namespace Go.Proofs.Ytcekjnfdgbeekaa
open Go.Wf
set_option linter.unusedVariables false
/-- A predicate on events, and what it needs to know. -/
def Pred (f : FuncId) (cs : List Value) (Ac : List Blk) (p : Int × Int → Bool) : Prop :=
  ∀ x : Int × Int, MCalls Try.prog f (.agg (pr x).toArray :: cs) Ac (fun _ : Unit => True) (fun _ => .bool (p x)) (fun _ => Ac)
theorem isId_ok (b : Nat) (id : Int) : Pred 26 [.pointer (some ⟨b, 0, none⟩)] [(b, .cells #[.int .i64 id] 3)] (fun x => decide (x.1 = id)) := fun x => .mk fun w hw => by
  refine Goal.enter (args := [.agg (pr x).toArray, .pointer (some ⟨b, 0, none⟩)]) Try.func26 rfl Try.ntmps26 rfl (hw) ?_
  repeat' (first
    | (refine Goal.loud (o := ⟨some 2, _, _, _, _, _⟩) rfl ?_; first | refine Loud.boxA rfl rfl (fun b2 => ?_) | refine Loud.box1 rfl rfl rfl (fun b2 => ?_))
    | (apply G.assign; exact rfl; exact rfl)
    | refine Goal.seq (fun _ _ => ?_)
    | refine Goal.next (by assumption) ?_
    | refine Goal.lnil ?_
    | refine Goal.region ?_
    | refine Goal.skip ?_
    | refine Goal.block ?_
    | refine Goal.exit ?_
    | refine Goal.ret ?_
    | refine Goal.then_exit ?_
    | refine Goal.then_ret ?_
    | refine Goal.inBlock_exit ?_
    | refine Goal.inBlock_normal ?_
    | refine Goal.inBlock_ret ?_
    | refine Goal.inBlock_other rfl ?_
    | (apply Goal.condT; exact rfl)
    | (apply Goal.condF; exact rfl)
    | (refine Goal.condD rfl (fun hc => ?_) (fun hc => ?_) <;> first | (exfalso; omega) | contradiction | skip)
    | refine Goal.condB rfl (fun hc => ?_) (fun hc => ?_)
    | (apply G.fieldAddr; exact rfl; exact rfl; exact T.fld_62_0)
    | (apply G.load; exact rfl; exact rfl; first | exact LoadOK.one T.one_3 0 rfl rfl | exact LoadOK.one T.one_3 1 rfl rfl | exact LoadOK.one T.one_3 2 rfl rfl | exact LoadOK.one T.one_3 3 rfl rfl | exact LoadOK.one T.one_3 4 rfl rfl | exact LoadOK.one T.one_3 5 rfl rfl | exact LoadOK.one T.one_3 6 rfl rfl | exact LoadOK.one T.one_3 7 rfl rfl)
    | (apply G.eql; exact rfl; exact rfl; exact rfl))
  refine Goal.done (vs := [_]) (by first | exact .inl rfl | exact .inr rfl) Try.results26 ⟨rfl, trivial⟩ rfl (fun w' H => ⟨(), trivial, rfl, St.drop1 H⟩)
section
variable {f : FuncId} {cs : List Value} {Ac : List Blk} {p : Int × Int → Bool} {l : List (Int × Int)} {b cap : Nat} {st rest : List Value}
def Found (p : Int × Int → Bool) (l : List (Int × Int)) (r : Int) : Prop := (r = -1 ∧ ∀ k : Int, 0 ≤ k → k < l.length → p (el l k) = false) ∨ (0 ≤ r ∧ r < l.length ∧ p (el l r) = true ∧ ∀ k : Int, 0 ≤ k → k < r → p (el l k) = false)
set_option maxHeartbeats 2000000 in
theorem index_ok (hb : Bod Try.prog f) (hcl : Pred f cs Ac p) (hl : l.length ≤ 1048576) :
    MCalls Try.prog 32 [.slice (some ⟨b, st.length, none⟩) l.length cap, .func (.func f) #[] cs.toArray] ((b, .cells (st ++ (Els pr l ++ rest)).toArray 62) :: Ac) (fun r : Int => Found p l r) (fun r => .int .i64 r) (fun _ => (b, .cells (st ++ (Els pr l ++ rest)).toArray 62) :: Ac) := .mk fun w hw => by
  refine Goal.enter (args := [.slice (some ⟨b, st.length, none⟩) l.length cap, .func (.func f) #[] cs.toArray]) Try.func32 rfl Try.ntmps32 rfl (hw) ?_
  repeat' (first
    | (apply G.move; exact rfl; exact rfl)
    | (apply G.assign; exact rfl; exact rfl)
    | refine Goal.seq (fun _ _ => ?_)
    | refine Goal.next (by assumption) ?_
    | refine Goal.lnil ?_
    | refine Goal.region ?_
    | refine Goal.skip ?_
    | refine Goal.block ?_
    | refine Goal.exit ?_
    | refine Goal.ret ?_
    | refine Goal.then_exit ?_
    | refine Goal.then_ret ?_
    | refine Goal.inBlock_exit ?_
    | refine Goal.inBlock_normal ?_
    | refine Goal.inBlock_ret ?_
    | refine Goal.inBlock_other rfl ?_
    | (apply Goal.condT; exact rfl)
    | (apply Goal.condF; exact rfl)
    | (refine Goal.condD rfl (fun hc => ?_) (fun hc => ?_) <;> first | (exfalso; omega) | contradiction | skip)
    | refine Goal.condB rfl (fun hc => ?_) (fun hc => ?_)
    | (apply G.load; exact rfl; exact rfl; first | exact LoadOK.agg (vs := [_, _]) T.agg_62 0 rfl rfl ⟨rfl, rfl, trivial⟩ | exact LoadOK.agg (vs := [_, _]) T.agg_62 1 rfl rfl ⟨rfl, rfl, trivial⟩ | exact LoadOK.agg (vs := [_, _]) T.agg_62 2 rfl rfl ⟨rfl, rfl, trivial⟩ | exact LoadOK.agg (vs := [_, _]) T.agg_62 3 rfl rfl ⟨rfl, rfl, trivial⟩ | exact LoadOK.agg (vs := [_, _]) T.agg_62 4 rfl rfl ⟨rfl, rfl, trivial⟩ | exact LoadOK.agg (vs := [_, _]) T.agg_62 5 rfl rfl ⟨rfl, rfl, trivial⟩ | exact LoadOK.agg (vs := [_, _]) T.agg_62 6 rfl rfl ⟨rfl, rfl, trivial⟩ | exact LoadOK.agg (vs := [_, _]) T.agg_62 7 rfl rfl ⟨rfl, rfl, trivial⟩)
    | (apply G.lss; exact rfl; exact rfl; exact rfl)
    | (apply G.add; exact rfl; exact rfl; exact rfl; first | exact IntWalk.i64_in _ (by omega) | exact IntWalk.u8_in _ (by omega) | exact IntWalk.u16_in _ (by omega) | exact IntWalk.u32_in _ (by omega) | exact IntWalk.u64_in _ (by omega))
    | (apply G.len; exact rfl; exact rfl; exact T.slc_60)
    | (refine G.indexAddr rfl T.slc_60 T.sz_62 rfl rfl _ rfl (by omega) ?_)
    | (refine G.indexAddr rfl T.slc_60 T.sz_62 rfl rfl _ (Int.toNat_of_nonneg (by omega)).symm (by omega) ?_))
  refine Goal.loopP (X := Int) (fun x => [(0, .slice (some ⟨b, st.length, none⟩) l.length cap), (1, .func (.func f) #[] cs.toArray), (7, .int .i64 l.length), (8, .int .i64 x)]) (fun _ => (b, .cells (st ++ (Els pr l ++ rest)).toArray 62) :: Ac)
    (fun x => (0 ≤ x ∧ x ≤ l.length) ∧ ∀ k : Int, 0 ≤ k → k < x → p (el l k) = false) (fun x => (l.length - x).toNat) 0 ⟨rfl, rfl, rfl, rfl, trivial⟩ (fun _ h => h) ⟨by omega, fun k k0 k1 => by omega⟩ ?_
  rintro j ⟨hj, hn⟩
  by_cases h : j < l.length
  · cases hq : p (el l j)
    · skip
      repeat' (first
        | (refine Goal.loud (o := ⟨some 16, _, _, _, _, _⟩) rfl ?_; refine Loud.callM [_] (A := Ac) (G := []) (hcl (el l j)) rfl rfl rfl (by simp) hb (fun _ h => by simpa using h) ?_; rintro ⟨⟩ -; rw [hq])
        | (apply G.move; exact rfl; exact rfl)
        | (apply G.assign; exact rfl; exact rfl)
        | refine Goal.seq (fun _ _ => ?_)
        | refine Goal.next (by assumption) ?_
        | refine Goal.lnil ?_
        | refine Goal.region ?_
        | refine Goal.skip ?_
        | refine Goal.block ?_
        | refine Goal.exit ?_
        | refine Goal.ret ?_
        | refine Goal.then_exit ?_
        | refine Goal.then_ret ?_
        | refine Goal.inBlock_exit ?_
        | refine Goal.inBlock_normal ?_
        | refine Goal.inBlock_ret ?_
        | refine Goal.inBlock_other rfl ?_
        | (apply Goal.condT; exact rfl)
        | (apply Goal.condF; exact rfl)
        | (refine Goal.condD rfl (fun hc => ?_) (fun hc => ?_) <;> first | (exfalso; omega) | contradiction | skip)
        | refine Goal.condB rfl (fun hc => ?_) (fun hc => ?_)
        | (apply G.load; exact rfl; exact rfl; first | exact LoadOK.elO (b := b) (l := l) (i := j) (f := pr) (st := st) (rest := rest) (E := 62) T.agg_62 pr_len (by simp) (by omega) | exact LoadOK.agg (vs := [_, _]) T.agg_62 0 rfl rfl ⟨rfl, rfl, trivial⟩ | exact LoadOK.agg (vs := [_, _]) T.agg_62 1 rfl rfl ⟨rfl, rfl, trivial⟩ | exact LoadOK.agg (vs := [_, _]) T.agg_62 2 rfl rfl ⟨rfl, rfl, trivial⟩ | exact LoadOK.agg (vs := [_, _]) T.agg_62 3 rfl rfl ⟨rfl, rfl, trivial⟩ | exact LoadOK.agg (vs := [_, _]) T.agg_62 4 rfl rfl ⟨rfl, rfl, trivial⟩ | exact LoadOK.agg (vs := [_, _]) T.agg_62 5 rfl rfl ⟨rfl, rfl, trivial⟩ | exact LoadOK.agg (vs := [_, _]) T.agg_62 6 rfl rfl ⟨rfl, rfl, trivial⟩ | exact LoadOK.agg (vs := [_, _]) T.agg_62 7 rfl rfl ⟨rfl, rfl, trivial⟩)
        | (apply G.lss; exact rfl; exact rfl; exact rfl)
        | (apply G.add; exact rfl; exact rfl; exact rfl; first | exact IntWalk.i64_in _ (by omega) | exact IntWalk.u8_in _ (by omega) | exact IntWalk.u16_in _ (by omega) | exact IntWalk.u32_in _ (by omega) | exact IntWalk.u64_in _ (by omega))
        | (apply G.len; exact rfl; exact rfl; exact T.slc_60)
        | (refine G.indexAddr rfl T.slc_60 T.sz_62 rfl rfl _ rfl (by omega) ?_)
        | (refine G.indexAddr rfl T.slc_60 T.sz_62 rfl rfl _ (Int.toNat_of_nonneg (by omega)).symm (by omega) ?_))
      refine Goal.again (j + 1) ⟨by omega, fun k k0 k1 => ?_⟩ (by omega) ⟨rfl, rfl, rfl, rfl, trivial⟩ (fun _ h => by simpa using h)
      by_cases e : k = j
      · rw [e, hq]
      · exact hn k k0 (by omega)
    · skip
      repeat' (first
        | (refine Goal.loud (o := ⟨some 16, _, _, _, _, _⟩) rfl ?_; refine Loud.callM [_] (A := Ac) (G := []) (hcl (el l j)) rfl rfl rfl (by simp) hb (fun _ h => by simpa using h) ?_; rintro ⟨⟩ -; rw [hq])
        | (apply G.move; exact rfl; exact rfl)
        | (apply G.assign; exact rfl; exact rfl)
        | refine Goal.seq (fun _ _ => ?_)
        | refine Goal.next (by assumption) ?_
        | refine Goal.lnil ?_
        | refine Goal.region ?_
        | refine Goal.skip ?_
        | refine Goal.block ?_
        | refine Goal.exit ?_
        | refine Goal.ret ?_
        | refine Goal.then_exit ?_
        | refine Goal.then_ret ?_
        | refine Goal.inBlock_exit ?_
        | refine Goal.inBlock_normal ?_
        | refine Goal.inBlock_ret ?_
        | refine Goal.inBlock_other rfl ?_
        | (apply Goal.condT; exact rfl)
        | (apply Goal.condF; exact rfl)
        | (refine Goal.condD rfl (fun hc => ?_) (fun hc => ?_) <;> first | (exfalso; omega) | contradiction | skip)
        | refine Goal.condB rfl (fun hc => ?_) (fun hc => ?_)
        | (apply G.load; exact rfl; exact rfl; first | exact LoadOK.elO (b := b) (l := l) (i := j) (f := pr) (st := st) (rest := rest) (E := 62) T.agg_62 pr_len (by simp) (by omega) | exact LoadOK.agg (vs := [_, _]) T.agg_62 0 rfl rfl ⟨rfl, rfl, trivial⟩ | exact LoadOK.agg (vs := [_, _]) T.agg_62 1 rfl rfl ⟨rfl, rfl, trivial⟩ | exact LoadOK.agg (vs := [_, _]) T.agg_62 2 rfl rfl ⟨rfl, rfl, trivial⟩ | exact LoadOK.agg (vs := [_, _]) T.agg_62 3 rfl rfl ⟨rfl, rfl, trivial⟩ | exact LoadOK.agg (vs := [_, _]) T.agg_62 4 rfl rfl ⟨rfl, rfl, trivial⟩ | exact LoadOK.agg (vs := [_, _]) T.agg_62 5 rfl rfl ⟨rfl, rfl, trivial⟩ | exact LoadOK.agg (vs := [_, _]) T.agg_62 6 rfl rfl ⟨rfl, rfl, trivial⟩ | exact LoadOK.agg (vs := [_, _]) T.agg_62 7 rfl rfl ⟨rfl, rfl, trivial⟩)
        | (apply G.lss; exact rfl; exact rfl; exact rfl)
        | (apply G.add; exact rfl; exact rfl; exact rfl; first | exact IntWalk.i64_in _ (by omega) | exact IntWalk.u8_in _ (by omega) | exact IntWalk.u16_in _ (by omega) | exact IntWalk.u32_in _ (by omega) | exact IntWalk.u64_in _ (by omega))
        | (apply G.len; exact rfl; exact rfl; exact T.slc_60)
        | (refine G.indexAddr rfl T.slc_60 T.sz_62 rfl rfl _ rfl (by omega) ?_)
        | (refine G.indexAddr rfl T.slc_60 T.sz_62 rfl rfl _ (Int.toNat_of_nonneg (by omega)).symm (by omega) ?_))
      refine Goal.done (vs := [_]) (by first | exact .inl rfl | exact .inr rfl) Try.results32 ⟨rfl, trivial⟩ rfl (fun w' H => ⟨j, .inr ⟨hj.1, h, hq, hn⟩, rfl, by simpa using H⟩)
  · obtain rfl : j = l.length := by omega
    repeat' (first
      | (apply G.move; exact rfl; exact rfl)
      | (apply G.assign; exact rfl; exact rfl)
      | refine Goal.seq (fun _ _ => ?_)
      | refine Goal.next (by assumption) ?_
      | refine Goal.lnil ?_
      | refine Goal.region ?_
      | refine Goal.skip ?_
      | refine Goal.block ?_
      | refine Goal.exit ?_
      | refine Goal.ret ?_
      | refine Goal.then_exit ?_
      | refine Goal.then_ret ?_
      | refine Goal.inBlock_exit ?_
      | refine Goal.inBlock_normal ?_
      | refine Goal.inBlock_ret ?_
      | refine Goal.inBlock_other rfl ?_
      | (apply Goal.condT; exact rfl)
      | (apply Goal.condF; exact rfl)
      | (refine Goal.condD rfl (fun hc => ?_) (fun hc => ?_) <;> first | (exfalso; omega) | contradiction | skip)
      | refine Goal.condB rfl (fun hc => ?_) (fun hc => ?_)
      | (apply G.load; exact rfl; exact rfl; first | exact LoadOK.agg (vs := [_, _]) T.agg_62 0 rfl rfl ⟨rfl, rfl, trivial⟩ | exact LoadOK.agg (vs := [_, _]) T.agg_62 1 rfl rfl ⟨rfl, rfl, trivial⟩ | exact LoadOK.agg (vs := [_, _]) T.agg_62 2 rfl rfl ⟨rfl, rfl, trivial⟩ | exact LoadOK.agg (vs := [_, _]) T.agg_62 3 rfl rfl ⟨rfl, rfl, trivial⟩ | exact LoadOK.agg (vs := [_, _]) T.agg_62 4 rfl rfl ⟨rfl, rfl, trivial⟩ | exact LoadOK.agg (vs := [_, _]) T.agg_62 5 rfl rfl ⟨rfl, rfl, trivial⟩ | exact LoadOK.agg (vs := [_, _]) T.agg_62 6 rfl rfl ⟨rfl, rfl, trivial⟩ | exact LoadOK.agg (vs := [_, _]) T.agg_62 7 rfl rfl ⟨rfl, rfl, trivial⟩)
      | (apply G.lss; exact rfl; exact rfl; exact rfl)
      | (apply G.add; exact rfl; exact rfl; exact rfl; first | exact IntWalk.i64_in _ (by omega) | exact IntWalk.u8_in _ (by omega) | exact IntWalk.u16_in _ (by omega) | exact IntWalk.u32_in _ (by omega) | exact IntWalk.u64_in _ (by omega))
      | (apply G.len; exact rfl; exact rfl; exact T.slc_60)
      | (refine G.indexAddr rfl T.slc_60 T.sz_62 rfl rfl _ rfl (by omega) ?_)
      | (refine G.indexAddr rfl T.slc_60 T.sz_62 rfl rfl _ (Int.toNat_of_nonneg (by omega)).symm (by omega) ?_))
    refine Goal.done (vs := [_]) (by first | exact .inl rfl | exact .inr rfl) Try.results32 ⟨rfl, trivial⟩ rfl (fun w' H => ⟨-1, .inl ⟨rfl, hn⟩, rfl, H⟩)
/-- Reading at j, writing at i. -/
structure DI where
  (i j : Int) (m : List (Int × Int))
def outs (p : Int × Int → Bool) (l : List (Int × Int)) : List (Int × Int) := l.filter fun x => !p x
theorem take_succ_el {l : List (Int × Int)} {j : Int} (h : 0 ≤ j ∧ j < l.length) : l.take (j + 1).toNat = l.take j.toNat ++ [el l j] := by
  rw [show (j + 1).toNat = j.toNat + 1 by omega, List.take_succ_eq_append_getElem (by omega), el_get h]
theorem outs_none {p : Int × Int → Bool} : ∀ {l : List (Int × Int)}, (∀ k : Int, 0 ≤ k → k < l.length → p (el l k) = false) → outs p l = l := fun {l} h => by
  unfold outs
  rw [List.filter_eq_self]
  intro x hx
  obtain ⟨i, hi, rfl⟩ := List.getElem_of_mem hx
  have := h i (by omega) (by omega)
  rw [el_get (by omega)] at this
  simpa using this
set_option maxHeartbeats 4000000 in
theorem delete_ok (hb : Bod Try.prog f) (hcl : Pred f cs Ac p) (hl : l.length ≤ 1048576) (hcp : l.length * 2 + rest.length = cap * 2) :
    MCalls Try.prog 25 [.slice (some ⟨b, st.length, none⟩) l.length cap, .func (.func f) #[] cs.toArray] ((b, .cells (st ++ (Els pr l ++ rest)).toArray 62) :: Ac)
      (fun A' : List Blk => ∃ c, A' = c :: Ac ∧ SlO (.slice (some ⟨b, st.length, none⟩) (outs p l).length cap) 62 2 (outs p l).length (Els pr (outs p l)) [c]) (fun _ => .slice (some ⟨b, st.length, none⟩) (outs p l).length cap) (fun A' => A') := .mk fun w hw => by
  refine Goal.enter (args := [.slice (some ⟨b, st.length, none⟩) l.length cap, .func (.func f) #[] cs.toArray]) Try.func25 rfl Try.ntmps25 rfl (hw) ?_
  repeat' (first
    | (refine Goal.loud (o := ⟨some 10, _, _, _, _, _⟩) rfl ?_; refine Loud.callE ([]) (index_ok hb hcl hl) rfl rfl rfl rfl T.bod_32 (fun _ h => h) ?_; intro r hr)
    | (refine Goal.loud (o := ⟨some 7, _, _, _, _, _⟩) rfl ?_; refine Loud.allocA rfl T.inf_62 (fun b7 => ?_))
    | (apply G.move; exact rfl; exact rfl)
    | (apply G.assign; exact rfl; exact rfl)
    | refine Goal.seq (fun _ _ => ?_)
    | refine Goal.next (by assumption) ?_
    | refine Goal.lnil ?_
    | refine Goal.region ?_
    | refine Goal.skip ?_
    | refine Goal.block ?_
    | refine Goal.exit ?_
    | refine Goal.ret ?_
    | refine Goal.then_exit ?_
    | refine Goal.then_ret ?_
    | refine Goal.inBlock_exit ?_
    | refine Goal.inBlock_normal ?_
    | refine Goal.inBlock_ret ?_
    | refine Goal.inBlock_other rfl ?_
    | (apply Goal.condT; exact rfl)
    | (apply Goal.condF; exact rfl)
    | (refine Goal.condD rfl (fun hc => ?_) (fun hc => ?_) <;> first | (exfalso; omega) | contradiction | skip)
    | refine Goal.condB rfl (fun hc => ?_) (fun hc => ?_)
    | (apply G.load; exact rfl; exact rfl; first | exact LoadOK.agg (vs := [_, _]) T.agg_62 0 rfl rfl ⟨rfl, rfl, trivial⟩ | exact LoadOK.agg (vs := [_, _]) T.agg_62 1 rfl rfl ⟨rfl, rfl, trivial⟩ | exact LoadOK.agg (vs := [_, _]) T.agg_62 2 rfl rfl ⟨rfl, rfl, trivial⟩ | exact LoadOK.agg (vs := [_, _]) T.agg_62 3 rfl rfl ⟨rfl, rfl, trivial⟩ | exact LoadOK.agg (vs := [_, _]) T.agg_62 4 rfl rfl ⟨rfl, rfl, trivial⟩ | exact LoadOK.agg (vs := [_, _]) T.agg_62 5 rfl rfl ⟨rfl, rfl, trivial⟩ | exact LoadOK.agg (vs := [_, _]) T.agg_62 6 rfl rfl ⟨rfl, rfl, trivial⟩ | exact LoadOK.agg (vs := [_, _]) T.agg_62 7 rfl rfl ⟨rfl, rfl, trivial⟩)
    | (apply G.lss; exact rfl; exact rfl; exact rfl)
    | (apply G.eql; exact rfl; exact rfl; exact rfl)
    | (apply G.add; exact rfl; exact rfl; exact rfl; first | exact IntWalk.i64_in _ (by omega) | exact IntWalk.u8_in _ (by omega) | exact IntWalk.u16_in _ (by omega) | exact IntWalk.u32_in _ (by omega) | exact IntWalk.u64_in _ (by omega))
    | (apply G.notT; exact rfl; exact rfl)
    | (apply G.notF; exact rfl; exact rfl)
    | (refine G.notD rfl rfl ?_)
    | (apply G.notB; exact rfl; exact rfl)
    | (apply G.len; exact rfl; exact rfl; exact T.slc_60)
    | (refine Goal.quiet rfl (Run.sliceH T.slc_60 T.sz_62 rfl rfl _ rfl (by omega)) ?_)
    | (refine Goal.quiet rfl (Run.sliceH T.slc_60 T.sz_62 rfl rfl _ (Int.toNat_of_nonneg (by omega)).symm (by omega)) ?_)
    | (refine Goal.quiet rfl (Run.sliceL T.slc_60 T.sz_62 rfl rfl 1 rfl (by omega)) ?_)
    | (refine Goal.quiet rfl (Run.sliceL T.slc_60 T.sz_62 rfl rfl _ (Int.toNat_of_nonneg (by omega)).symm (by omega)) ?_)
    | (refine G.indexAddr rfl T.slc_60 T.sz_62 rfl rfl _ rfl (by omega) ?_)
    | (refine G.indexAddr rfl T.slc_60 T.sz_62 rfl rfl _ (Int.toNat_of_nonneg (by omega)).symm (by omega) ?_)
    | (refine Goal.loud rfl ?_; refine Loud.store0 rfl rfl T.sz_62 rfl rfl rfl (by first | exact Nat.le_of_ble_eq_true rfl | exact Nat.le_refl _ | decide | (simp; omega)) rfl ?_)
    | (refine Goal.loud rfl ?_; refine Loud.store1 rfl rfl T.sz_62 rfl rfl rfl (by first | exact Nat.le_of_ble_eq_true rfl | exact Nat.le_refl _ | decide | (simp; omega)) rfl ?_)
    | (refine Goal.loud rfl ?_; refine Loud.store2 rfl rfl T.sz_62 rfl rfl rfl (by first | exact Nat.le_of_ble_eq_true rfl | exact Nat.le_refl _ | decide | (simp; omega)) rfl ?_)
    | (refine Goal.loud rfl ?_; refine Loud.store3 rfl rfl T.sz_62 rfl rfl rfl (by first | exact Nat.le_of_ble_eq_true rfl | exact Nat.le_refl _ | decide | (simp; omega)) rfl ?_)
    | (refine Goal.loud rfl ?_; refine Loud.store4 rfl rfl T.sz_62 rfl rfl rfl (by first | exact Nat.le_of_ble_eq_true rfl | exact Nat.le_refl _ | decide | (simp; omega)) rfl ?_)
    | (refine Goal.loud rfl ?_; refine Loud.store5 rfl rfl T.sz_62 rfl rfl rfl (by first | exact Nat.le_of_ble_eq_true rfl | exact Nat.le_refl _ | decide | (simp; omega)) rfl ?_)
    | (refine Goal.loud rfl ?_; refine Loud.store6 rfl rfl T.sz_62 rfl rfl rfl (by first | exact Nat.le_of_ble_eq_true rfl | exact Nat.le_refl _ | decide | (simp; omega)) rfl ?_)
    | (refine Goal.loud rfl ?_; refine Loud.store7 rfl rfl T.sz_62 rfl rfl rfl (by first | exact Nat.le_of_ble_eq_true rfl | exact Nat.le_refl _ | decide | (simp; omega)) rfl ?_))
  · rcases hr with ⟨hr, hn⟩ | ⟨h0, _⟩
    · have e := outs_none hn
      refine Goal.done (vs := [_]) (by first | exact .inl rfl | exact .inr rfl) Try.results25 ⟨rfl, trivial⟩ rfl (fun w' H => ⟨_, ⟨_, rfl, by rw [e]; exact SlO.mk (Els_len pr_len l) (by rw [Els_len pr_len]; exact hcp) (by omega)⟩, by rw [e], H⟩)
    · omega
  · rcases hr with ⟨hr, hn⟩ | ⟨h0, h1, h2, h3⟩
    · exact absurd hr hc
    · skip
      repeat' (first
        | (refine Goal.loud (o := ⟨some 7, _, _, _, _, _⟩) rfl ?_; refine Loud.allocA rfl T.inf_62 (fun b7 => ?_))
        | (apply G.move; exact rfl; exact rfl)
        | (apply G.assign; exact rfl; exact rfl)
        | refine Goal.seq (fun _ _ => ?_)
        | refine Goal.next (by assumption) ?_
        | refine Goal.lnil ?_
        | refine Goal.region ?_
        | refine Goal.skip ?_
        | refine Goal.block ?_
        | refine Goal.exit ?_
        | refine Goal.ret ?_
        | refine Goal.then_exit ?_
        | refine Goal.then_ret ?_
        | refine Goal.inBlock_exit ?_
        | refine Goal.inBlock_normal ?_
        | refine Goal.inBlock_ret ?_
        | refine Goal.inBlock_other rfl ?_
        | (apply Goal.condT; exact rfl)
        | (apply Goal.condF; exact rfl)
        | (refine Goal.condD rfl (fun hc => ?_) (fun hc => ?_) <;> first | (exfalso; omega) | contradiction | skip)
        | refine Goal.condB rfl (fun hc => ?_) (fun hc => ?_)
        | (apply G.load; exact rfl; exact rfl; first | exact LoadOK.agg (vs := [_, _]) T.agg_62 0 rfl rfl ⟨rfl, rfl, trivial⟩ | exact LoadOK.agg (vs := [_, _]) T.agg_62 1 rfl rfl ⟨rfl, rfl, trivial⟩ | exact LoadOK.agg (vs := [_, _]) T.agg_62 2 rfl rfl ⟨rfl, rfl, trivial⟩ | exact LoadOK.agg (vs := [_, _]) T.agg_62 3 rfl rfl ⟨rfl, rfl, trivial⟩ | exact LoadOK.agg (vs := [_, _]) T.agg_62 4 rfl rfl ⟨rfl, rfl, trivial⟩ | exact LoadOK.agg (vs := [_, _]) T.agg_62 5 rfl rfl ⟨rfl, rfl, trivial⟩ | exact LoadOK.agg (vs := [_, _]) T.agg_62 6 rfl rfl ⟨rfl, rfl, trivial⟩ | exact LoadOK.agg (vs := [_, _]) T.agg_62 7 rfl rfl ⟨rfl, rfl, trivial⟩)
        | (apply G.lss; exact rfl; exact rfl; exact rfl)
        | (apply G.eql; exact rfl; exact rfl; exact rfl)
        | (apply G.add; exact rfl; exact rfl; exact rfl; first | exact IntWalk.i64_in _ (by omega) | exact IntWalk.u8_in _ (by omega) | exact IntWalk.u16_in _ (by omega) | exact IntWalk.u32_in _ (by omega) | exact IntWalk.u64_in _ (by omega))
        | (apply G.notT; exact rfl; exact rfl)
        | (apply G.notF; exact rfl; exact rfl)
        | (refine G.notD rfl rfl ?_)
        | (apply G.notB; exact rfl; exact rfl)
        | (apply G.len; exact rfl; exact rfl; exact T.slc_60)
        | (refine Goal.quiet rfl (Run.sliceH T.slc_60 T.sz_62 rfl rfl _ rfl (by omega)) ?_)
        | (refine Goal.quiet rfl (Run.sliceH T.slc_60 T.sz_62 rfl rfl _ (Int.toNat_of_nonneg (by omega)).symm (by omega)) ?_)
        | (refine Goal.quiet rfl (Run.sliceL T.slc_60 T.sz_62 rfl rfl 1 rfl (by omega)) ?_)
        | (refine Goal.quiet rfl (Run.sliceL T.slc_60 T.sz_62 rfl rfl _ (Int.toNat_of_nonneg (by omega)).symm (by omega)) ?_)
        | (refine G.indexAddr rfl T.slc_60 T.sz_62 rfl rfl _ rfl (by omega) ?_)
        | (refine G.indexAddr rfl T.slc_60 T.sz_62 rfl rfl _ (Int.toNat_of_nonneg (by omega)).symm (by omega) ?_)
        | (refine Goal.loud rfl ?_; refine Loud.store0 rfl rfl T.sz_62 rfl rfl rfl (by first | exact Nat.le_of_ble_eq_true rfl | exact Nat.le_refl _ | decide | (simp; omega)) rfl ?_)
        | (refine Goal.loud rfl ?_; refine Loud.store1 rfl rfl T.sz_62 rfl rfl rfl (by first | exact Nat.le_of_ble_eq_true rfl | exact Nat.le_refl _ | decide | (simp; omega)) rfl ?_)
        | (refine Goal.loud rfl ?_; refine Loud.store2 rfl rfl T.sz_62 rfl rfl rfl (by first | exact Nat.le_of_ble_eq_true rfl | exact Nat.le_refl _ | decide | (simp; omega)) rfl ?_)
        | (refine Goal.loud rfl ?_; refine Loud.store3 rfl rfl T.sz_62 rfl rfl rfl (by first | exact Nat.le_of_ble_eq_true rfl | exact Nat.le_refl _ | decide | (simp; omega)) rfl ?_)
        | (refine Goal.loud rfl ?_; refine Loud.store4 rfl rfl T.sz_62 rfl rfl rfl (by first | exact Nat.le_of_ble_eq_true rfl | exact Nat.le_refl _ | decide | (simp; omega)) rfl ?_)
        | (refine Goal.loud rfl ?_; refine Loud.store5 rfl rfl T.sz_62 rfl rfl rfl (by first | exact Nat.le_of_ble_eq_true rfl | exact Nat.le_refl _ | decide | (simp; omega)) rfl ?_)
        | (refine Goal.loud rfl ?_; refine Loud.store6 rfl rfl T.sz_62 rfl rfl rfl (by first | exact Nat.le_of_ble_eq_true rfl | exact Nat.le_refl _ | decide | (simp; omega)) rfl ?_)
        | (refine Goal.loud rfl ?_; refine Loud.store7 rfl rfl T.sz_62 rfl rfl rfl (by first | exact Nat.le_of_ble_eq_true rfl | exact Nat.le_refl _ | decide | (simp; omega)) rfl ?_))
      refine Goal.loopP (X := DI) (fun x => [(0, .slice (some ⟨b, st.length, none⟩) l.length cap), (1, .func (.func f) #[] cs.toArray), (5, .int .i64 x.i), (6, .int .i64 x.j)]) (fun x => (b, .cells (st ++ (Els pr x.m ++ rest)).toArray 62) :: Ac)
        (fun x => (0 ≤ x.i ∧ x.i < x.j ∧ x.j ≤ l.length ∧ x.m.length = l.length) ∧ x.m.take x.i.toNat = outs p (l.take x.j.toNat) ∧ x.m.drop x.j.toNat = l.drop x.j.toNat) (fun x => (l.length - x.j).toNat) ⟨r, r + 1, l⟩ ⟨rfl, rfl, rfl, rfl, trivial⟩ (fun _ h => h) ⟨by dsimp only; omega, ?_, rfl⟩ ?_
      · dsimp only
        rw [take_succ_el (by omega)]
        unfold outs
        rw [List.filter_append, List.filter_cons_of_neg (by simp [h2])]
        rw [List.filter_nil, List.append_nil]
        refine (outs_none fun k k0 k1 => ?_).symm
        rw [List.length_take] at k1
        have := h3 k k0 (by omega)
        rw [el_get (by omega)] at this
        rw [el_get (by rw [List.length_take]; omega), List.getElem_take]
        exact this
      · rintro ⟨i, j, m⟩ ⟨⟨g0, g1, g2, g3⟩, gt, gd⟩
        dsimp only at g0 g1 g2 g3 gt gd ⊢
        by_cases h : j < l.length
        · have hel : el m j = el l j := by
            rw [el_get (by omega), el_get (by omega)]
            have := congrArg (·[0]?) gd
            simp only [List.getElem?_drop, Nat.add_zero] at this
            rw [List.getElem?_eq_getElem (by omega), List.getElem?_eq_getElem (by omega)] at this
            exact Option.some.inj this
          have hdr : ∀ m' : List (Int × Int), m'.drop j.toNat = l.drop j.toNat → m'.drop (j + 1).toNat = l.drop (j + 1).toNat := fun m' hm' => by
            rw [show (j + 1).toNat = j.toNat + 1 by omega, ← List.drop_drop, ← List.drop_drop, hm']
          cases hq : p (el l j)
          · skip
            repeat' (first
              | (refine Goal.loud (o := ⟨some 28, _, _, _, _, _⟩) rfl ?_; refine Loud.callM [_, _] (A := Ac) (G := []) (hcl (el m j)) rfl (by rfl) (by rfl) (by simp [pr]) hb (fun _ h => by simpa using h) ?_; rintro ⟨⟩ -; rw [hel, hq])
              | (refine Goal.loud (o := ⟨some 7, _, _, _, _, _⟩) rfl ?_; refine Loud.allocA rfl T.inf_62 (fun b7 => ?_))
              | (refine Goal.loud rfl ?_; refine Loud.store1 rfl rfl T.sz_62 rfl rfl rfl (by rw [List.size_toArray, List.length_append, List.length_append, Els_len pr_len]; omega) (wr_elO (f := pr) (x := el l j) pr_len (by omega)) ?_)
              | (apply G.move; exact rfl; exact rfl)
              | (apply G.assign; exact rfl; exact rfl)
              | refine Goal.seq (fun _ _ => ?_)
              | refine Goal.next (by assumption) ?_
              | refine Goal.lnil ?_
              | refine Goal.region ?_
              | refine Goal.skip ?_
              | refine Goal.block ?_
              | refine Goal.exit ?_
              | refine Goal.ret ?_
              | refine Goal.then_exit ?_
              | refine Goal.then_ret ?_
              | refine Goal.inBlock_exit ?_
              | refine Goal.inBlock_normal ?_
              | refine Goal.inBlock_ret ?_
              | refine Goal.inBlock_other rfl ?_
              | (apply Goal.condT; exact rfl)
              | (apply Goal.condF; exact rfl)
              | (refine Goal.condD rfl (fun hc => ?_) (fun hc => ?_) <;> first | (exfalso; omega) | contradiction | skip)
              | refine Goal.condB rfl (fun hc => ?_) (fun hc => ?_)
              | (apply G.load; exact rfl; exact rfl; first | exact LoadOK.elO (b := b) (l := m) (i := j) (f := pr) (st := st) (rest := rest) (E := 62) T.agg_62 pr_len (by simp) (by omega) | exact LoadOK.agg (vs := [_, _]) T.agg_62 0 rfl rfl ⟨rfl, rfl, trivial⟩ | exact LoadOK.agg (vs := [_, _]) T.agg_62 1 rfl rfl ⟨rfl, rfl, trivial⟩ | exact LoadOK.agg (vs := [_, _]) T.agg_62 2 rfl rfl ⟨rfl, rfl, trivial⟩ | exact LoadOK.agg (vs := [_, _]) T.agg_62 3 rfl rfl ⟨rfl, rfl, trivial⟩ | exact LoadOK.agg (vs := [_, _]) T.agg_62 4 rfl rfl ⟨rfl, rfl, trivial⟩ | exact LoadOK.agg (vs := [_, _]) T.agg_62 5 rfl rfl ⟨rfl, rfl, trivial⟩ | exact LoadOK.agg (vs := [_, _]) T.agg_62 6 rfl rfl ⟨rfl, rfl, trivial⟩ | exact LoadOK.agg (vs := [_, _]) T.agg_62 7 rfl rfl ⟨rfl, rfl, trivial⟩)
              | (apply G.lss; exact rfl; exact rfl; exact rfl)
              | (apply G.eql; exact rfl; exact rfl; exact rfl)
              | (apply G.add; exact rfl; exact rfl; exact rfl; first | exact IntWalk.i64_in _ (by omega) | exact IntWalk.u8_in _ (by omega) | exact IntWalk.u16_in _ (by omega) | exact IntWalk.u32_in _ (by omega) | exact IntWalk.u64_in _ (by omega))
              | (apply G.notT; exact rfl; exact rfl)
              | (apply G.notF; exact rfl; exact rfl)
              | (refine G.notD rfl rfl ?_)
              | (apply G.notB; exact rfl; exact rfl)
              | (apply G.len; exact rfl; exact rfl; exact T.slc_60)
              | (refine Goal.quiet rfl (Run.sliceH T.slc_60 T.sz_62 rfl rfl _ rfl (by omega)) ?_)
              | (refine Goal.quiet rfl (Run.sliceH T.slc_60 T.sz_62 rfl rfl _ (Int.toNat_of_nonneg (by omega)).symm (by omega)) ?_)
              | (refine Goal.quiet rfl (Run.sliceL T.slc_60 T.sz_62 rfl rfl 1 rfl (by omega)) ?_)
              | (refine Goal.quiet rfl (Run.sliceL T.slc_60 T.sz_62 rfl rfl _ (Int.toNat_of_nonneg (by omega)).symm (by omega)) ?_)
              | (refine G.indexAddr rfl T.slc_60 T.sz_62 rfl rfl _ rfl (by omega) ?_)
              | (refine G.indexAddr rfl T.slc_60 T.sz_62 rfl rfl _ (Int.toNat_of_nonneg (by omega)).symm (by omega) ?_)
              | (refine Goal.loud rfl ?_; refine Loud.store0 rfl rfl T.sz_62 rfl rfl rfl (by first | exact Nat.le_of_ble_eq_true rfl | exact Nat.le_refl _ | decide | (simp; omega)) rfl ?_)
              | (refine Goal.loud rfl ?_; refine Loud.store1 rfl rfl T.sz_62 rfl rfl rfl (by first | exact Nat.le_of_ble_eq_true rfl | exact Nat.le_refl _ | decide | (simp; omega)) rfl ?_)
              | (refine Goal.loud rfl ?_; refine Loud.store2 rfl rfl T.sz_62 rfl rfl rfl (by first | exact Nat.le_of_ble_eq_true rfl | exact Nat.le_refl _ | decide | (simp; omega)) rfl ?_)
              | (refine Goal.loud rfl ?_; refine Loud.store3 rfl rfl T.sz_62 rfl rfl rfl (by first | exact Nat.le_of_ble_eq_true rfl | exact Nat.le_refl _ | decide | (simp; omega)) rfl ?_)
              | (refine Goal.loud rfl ?_; refine Loud.store4 rfl rfl T.sz_62 rfl rfl rfl (by first | exact Nat.le_of_ble_eq_true rfl | exact Nat.le_refl _ | decide | (simp; omega)) rfl ?_)
              | (refine Goal.loud rfl ?_; refine Loud.store5 rfl rfl T.sz_62 rfl rfl rfl (by first | exact Nat.le_of_ble_eq_true rfl | exact Nat.le_refl _ | decide | (simp; omega)) rfl ?_)
              | (refine Goal.loud rfl ?_; refine Loud.store6 rfl rfl T.sz_62 rfl rfl rfl (by first | exact Nat.le_of_ble_eq_true rfl | exact Nat.le_refl _ | decide | (simp; omega)) rfl ?_)
              | (refine Goal.loud rfl ?_; refine Loud.store7 rfl rfl T.sz_62 rfl rfl rfl (by first | exact Nat.le_of_ble_eq_true rfl | exact Nat.le_refl _ | decide | (simp; omega)) rfl ?_))
            refine Goal.again ⟨i + 1, j + 1, m.set i.toNat (el l j)⟩ ⟨by dsimp only; rw [List.length_set]; omega, ?_, ?_⟩ (by dsimp only; omega) ⟨rfl, rfl, rfl, rfl, trivial⟩ (fun _ h => by simpa using St.drop1 h)
            · dsimp only
              rw [take_succ_el (by rw [List.length_set]; omega), take_succ_el (by omega), el_set (by omega) (by omega), if_pos rfl, List.take_set_of_le (by omega), gt]
              unfold outs
              rw [List.filter_append, List.filter_cons_of_pos (by simp [hq])]
              rfl
            · dsimp only
              refine hdr _ ?_
              rw [List.drop_set_of_lt (by omega), gd]
          · skip
            repeat' (first
              | (refine Goal.loud (o := ⟨some 28, _, _, _, _, _⟩) rfl ?_; refine Loud.callM [_, _] (A := Ac) (G := []) (hcl (el m j)) rfl (by rfl) (by rfl) (by simp [pr]) hb (fun _ h => by simpa using h) ?_; rintro ⟨⟩ -; rw [hel, hq])
              | (refine Goal.loud (o := ⟨some 7, _, _, _, _, _⟩) rfl ?_; refine Loud.allocA rfl T.inf_62 (fun b7 => ?_))
              | (apply G.move; exact rfl; exact rfl)
              | (apply G.assign; exact rfl; exact rfl)
              | refine Goal.seq (fun _ _ => ?_)
              | refine Goal.next (by assumption) ?_
              | refine Goal.lnil ?_
              | refine Goal.region ?_
              | refine Goal.skip ?_
              | refine Goal.block ?_
              | refine Goal.exit ?_
              | refine Goal.ret ?_
              | refine Goal.then_exit ?_
              | refine Goal.then_ret ?_
              | refine Goal.inBlock_exit ?_
              | refine Goal.inBlock_normal ?_
              | refine Goal.inBlock_ret ?_
              | refine Goal.inBlock_other rfl ?_
              | (apply Goal.condT; exact rfl)
              | (apply Goal.condF; exact rfl)
              | (refine Goal.condD rfl (fun hc => ?_) (fun hc => ?_) <;> first | (exfalso; omega) | contradiction | skip)
              | refine Goal.condB rfl (fun hc => ?_) (fun hc => ?_)
              | (apply G.load; exact rfl; exact rfl; first | exact LoadOK.elO (b := b) (l := m) (i := j) (f := pr) (st := st) (rest := rest) (E := 62) T.agg_62 pr_len (by simp) (by omega) | exact LoadOK.agg (vs := [_, _]) T.agg_62 0 rfl rfl ⟨rfl, rfl, trivial⟩ | exact LoadOK.agg (vs := [_, _]) T.agg_62 1 rfl rfl ⟨rfl, rfl, trivial⟩ | exact LoadOK.agg (vs := [_, _]) T.agg_62 2 rfl rfl ⟨rfl, rfl, trivial⟩ | exact LoadOK.agg (vs := [_, _]) T.agg_62 3 rfl rfl ⟨rfl, rfl, trivial⟩ | exact LoadOK.agg (vs := [_, _]) T.agg_62 4 rfl rfl ⟨rfl, rfl, trivial⟩ | exact LoadOK.agg (vs := [_, _]) T.agg_62 5 rfl rfl ⟨rfl, rfl, trivial⟩ | exact LoadOK.agg (vs := [_, _]) T.agg_62 6 rfl rfl ⟨rfl, rfl, trivial⟩ | exact LoadOK.agg (vs := [_, _]) T.agg_62 7 rfl rfl ⟨rfl, rfl, trivial⟩)
              | (apply G.lss; exact rfl; exact rfl; exact rfl)
              | (apply G.eql; exact rfl; exact rfl; exact rfl)
              | (apply G.add; exact rfl; exact rfl; exact rfl; first | exact IntWalk.i64_in _ (by omega) | exact IntWalk.u8_in _ (by omega) | exact IntWalk.u16_in _ (by omega) | exact IntWalk.u32_in _ (by omega) | exact IntWalk.u64_in _ (by omega))
              | (apply G.notT; exact rfl; exact rfl)
              | (apply G.notF; exact rfl; exact rfl)
              | (refine G.notD rfl rfl ?_)
              | (apply G.notB; exact rfl; exact rfl)
              | (apply G.len; exact rfl; exact rfl; exact T.slc_60)
              | (refine Goal.quiet rfl (Run.sliceH T.slc_60 T.sz_62 rfl rfl _ rfl (by omega)) ?_)
              | (refine Goal.quiet rfl (Run.sliceH T.slc_60 T.sz_62 rfl rfl _ (Int.toNat_of_nonneg (by omega)).symm (by omega)) ?_)
              | (refine Goal.quiet rfl (Run.sliceL T.slc_60 T.sz_62 rfl rfl 1 rfl (by omega)) ?_)
              | (refine Goal.quiet rfl (Run.sliceL T.slc_60 T.sz_62 rfl rfl _ (Int.toNat_of_nonneg (by omega)).symm (by omega)) ?_)
              | (refine G.indexAddr rfl T.slc_60 T.sz_62 rfl rfl _ rfl (by omega) ?_)
              | (refine G.indexAddr rfl T.slc_60 T.sz_62 rfl rfl _ (Int.toNat_of_nonneg (by omega)).symm (by omega) ?_)
              | (refine Goal.loud rfl ?_; refine Loud.store0 rfl rfl T.sz_62 rfl rfl rfl (by first | exact Nat.le_of_ble_eq_true rfl | exact Nat.le_refl _ | decide | (simp; omega)) rfl ?_)
              | (refine Goal.loud rfl ?_; refine Loud.store1 rfl rfl T.sz_62 rfl rfl rfl (by first | exact Nat.le_of_ble_eq_true rfl | exact Nat.le_refl _ | decide | (simp; omega)) rfl ?_)
              | (refine Goal.loud rfl ?_; refine Loud.store2 rfl rfl T.sz_62 rfl rfl rfl (by first | exact Nat.le_of_ble_eq_true rfl | exact Nat.le_refl _ | decide | (simp; omega)) rfl ?_)
              | (refine Goal.loud rfl ?_; refine Loud.store3 rfl rfl T.sz_62 rfl rfl rfl (by first | exact Nat.le_of_ble_eq_true rfl | exact Nat.le_refl _ | decide | (simp; omega)) rfl ?_)
              | (refine Goal.loud rfl ?_; refine Loud.store4 rfl rfl T.sz_62 rfl rfl rfl (by first | exact Nat.le_of_ble_eq_true rfl | exact Nat.le_refl _ | decide | (simp; omega)) rfl ?_)
              | (refine Goal.loud rfl ?_; refine Loud.store5 rfl rfl T.sz_62 rfl rfl rfl (by first | exact Nat.le_of_ble_eq_true rfl | exact Nat.le_refl _ | decide | (simp; omega)) rfl ?_)
              | (refine Goal.loud rfl ?_; refine Loud.store6 rfl rfl T.sz_62 rfl rfl rfl (by first | exact Nat.le_of_ble_eq_true rfl | exact Nat.le_refl _ | decide | (simp; omega)) rfl ?_)
              | (refine Goal.loud rfl ?_; refine Loud.store7 rfl rfl T.sz_62 rfl rfl rfl (by first | exact Nat.le_of_ble_eq_true rfl | exact Nat.le_refl _ | decide | (simp; omega)) rfl ?_))
            refine Goal.again ⟨i, j + 1, m⟩ ⟨by dsimp only; omega, ?_, hdr m gd⟩ (by dsimp only; omega) ⟨rfl, rfl, rfl, rfl, trivial⟩ (fun _ h => by simpa using St.drop1 h)
            dsimp only
            rw [take_succ_el (by omega), gt]
            unfold outs
            rw [List.filter_append, List.filter_cons_of_neg (by simp [hq])]
            simp
        · obtain rfl : j = l.length := by omega
          have hci : ¬ cap = i.toNat := by omega
          have hsp : Els pr m = Els pr (m.take i.toNat) ++ Els pr (m.drop i.toNat) := by rw [← Els_app, List.take_append_drop]
          have hclr : wr (st ++ (Els pr m ++ rest)).toArray (st.length + i.toNat * 2) (rep (l.length - i.toNat) [.int .i64 0, .int .i64 0]) = (st ++ (Els pr (m.take i.toNat) ++ (rep (l.length - i.toNat) [.int .i64 0, .int .i64 0] ++ rest))).toArray := by
            have := wr_mid (a := st ++ Els pr (m.take i.toNat)) (b := Els pr (m.drop i.toNat)) (c := rep (l.length - i.toNat) [.int .i64 0, .int .i64 0]) (d := rest) (off := st.length + i.toNat * 2) (by rw [List.length_append, Els_len pr_len, List.length_take, Nat.min_eq_left (by omega)]) (by rw [Els_len pr_len, List.length_drop]; simp [rep, List.length_flatten]; omega)
            rw [hsp]
            simp only [List.append_assoc] at this ⊢
            exact this
          repeat' (first
            | (refine Goal.loud (o := ⟨some 7, _, _, _, _, _⟩) rfl ?_; refine Loud.allocA rfl T.inf_62 (fun b7 => ?_))
            | (refine Goal.loud rfl ?_; refine Loud.clear0 (c' := (st ++ (Els pr (m.take i.toNat) ++ (rep (l.length - i.toNat) [.int .i64 0, .int .i64 0] ++ rest))).toArray) T.slc_60 T.inf_62 rfl rfl (by decide) rfl (by rw [if_neg hci, List.size_toArray, List.length_append, List.length_append, Els_len pr_len]; omega) (by rw [if_neg hci]; exact hclr) ?_)
            | (apply G.move; exact rfl; exact rfl)
            | (apply G.assign; exact rfl; exact rfl)
            | refine Goal.seq (fun _ _ => ?_)
            | refine Goal.next (by assumption) ?_
            | refine Goal.lnil ?_
            | refine Goal.region ?_
            | refine Goal.skip ?_
            | refine Goal.block ?_
            | refine Goal.exit ?_
            | refine Goal.ret ?_
            | refine Goal.then_exit ?_
            | refine Goal.then_ret ?_
            | refine Goal.inBlock_exit ?_
            | refine Goal.inBlock_normal ?_
            | refine Goal.inBlock_ret ?_
            | refine Goal.inBlock_other rfl ?_
            | (apply Goal.condT; exact rfl)
            | (apply Goal.condF; exact rfl)
            | (refine Goal.condD rfl (fun hc => ?_) (fun hc => ?_) <;> first | (exfalso; omega) | contradiction | skip)
            | refine Goal.condB rfl (fun hc => ?_) (fun hc => ?_)
            | (apply G.load; exact rfl; exact rfl; first | exact LoadOK.agg (vs := [_, _]) T.agg_62 0 rfl rfl ⟨rfl, rfl, trivial⟩ | exact LoadOK.agg (vs := [_, _]) T.agg_62 1 rfl rfl ⟨rfl, rfl, trivial⟩ | exact LoadOK.agg (vs := [_, _]) T.agg_62 2 rfl rfl ⟨rfl, rfl, trivial⟩ | exact LoadOK.agg (vs := [_, _]) T.agg_62 3 rfl rfl ⟨rfl, rfl, trivial⟩ | exact LoadOK.agg (vs := [_, _]) T.agg_62 4 rfl rfl ⟨rfl, rfl, trivial⟩ | exact LoadOK.agg (vs := [_, _]) T.agg_62 5 rfl rfl ⟨rfl, rfl, trivial⟩ | exact LoadOK.agg (vs := [_, _]) T.agg_62 6 rfl rfl ⟨rfl, rfl, trivial⟩ | exact LoadOK.agg (vs := [_, _]) T.agg_62 7 rfl rfl ⟨rfl, rfl, trivial⟩)
            | (apply G.lss; exact rfl; exact rfl; exact rfl)
            | (apply G.eql; exact rfl; exact rfl; exact rfl)
            | (apply G.add; exact rfl; exact rfl; exact rfl; first | exact IntWalk.i64_in _ (by omega) | exact IntWalk.u8_in _ (by omega) | exact IntWalk.u16_in _ (by omega) | exact IntWalk.u32_in _ (by omega) | exact IntWalk.u64_in _ (by omega))
            | (apply G.notT; exact rfl; exact rfl)
            | (apply G.notF; exact rfl; exact rfl)
            | (refine G.notD rfl rfl ?_)
            | (apply G.notB; exact rfl; exact rfl)
            | (apply G.len; exact rfl; exact rfl; exact T.slc_60)
            | (refine Goal.quiet rfl (Run.sliceH T.slc_60 T.sz_62 rfl rfl _ rfl (by omega)) ?_)
            | (refine Goal.quiet rfl (Run.sliceH T.slc_60 T.sz_62 rfl rfl _ (Int.toNat_of_nonneg (by omega)).symm (by omega)) ?_)
            | (refine Goal.quiet rfl (Run.sliceL T.slc_60 T.sz_62 rfl rfl 1 rfl (by omega)) ?_)
            | (refine Goal.quiet rfl (Run.sliceL T.slc_60 T.sz_62 rfl rfl _ (Int.toNat_of_nonneg (by omega)).symm (by omega)) ?_)
            | (refine G.indexAddr rfl T.slc_60 T.sz_62 rfl rfl _ rfl (by omega) ?_)
            | (refine G.indexAddr rfl T.slc_60 T.sz_62 rfl rfl _ (Int.toNat_of_nonneg (by omega)).symm (by omega) ?_)
            | (refine Goal.loud rfl ?_; refine Loud.store0 rfl rfl T.sz_62 rfl rfl rfl (by first | exact Nat.le_of_ble_eq_true rfl | exact Nat.le_refl _ | decide | (simp; omega)) rfl ?_)
            | (refine Goal.loud rfl ?_; refine Loud.store1 rfl rfl T.sz_62 rfl rfl rfl (by first | exact Nat.le_of_ble_eq_true rfl | exact Nat.le_refl _ | decide | (simp; omega)) rfl ?_)
            | (refine Goal.loud rfl ?_; refine Loud.store2 rfl rfl T.sz_62 rfl rfl rfl (by first | exact Nat.le_of_ble_eq_true rfl | exact Nat.le_refl _ | decide | (simp; omega)) rfl ?_)
            | (refine Goal.loud rfl ?_; refine Loud.store3 rfl rfl T.sz_62 rfl rfl rfl (by first | exact Nat.le_of_ble_eq_true rfl | exact Nat.le_refl _ | decide | (simp; omega)) rfl ?_)
            | (refine Goal.loud rfl ?_; refine Loud.store4 rfl rfl T.sz_62 rfl rfl rfl (by first | exact Nat.le_of_ble_eq_true rfl | exact Nat.le_refl _ | decide | (simp; omega)) rfl ?_)
            | (refine Goal.loud rfl ?_; refine Loud.store5 rfl rfl T.sz_62 rfl rfl rfl (by first | exact Nat.le_of_ble_eq_true rfl | exact Nat.le_refl _ | decide | (simp; omega)) rfl ?_)
            | (refine Goal.loud rfl ?_; refine Loud.store6 rfl rfl T.sz_62 rfl rfl rfl (by first | exact Nat.le_of_ble_eq_true rfl | exact Nat.le_refl _ | decide | (simp; omega)) rfl ?_)
            | (refine Goal.loud rfl ?_; refine Loud.store7 rfl rfl T.sz_62 rfl rfl rfl (by first | exact Nat.le_of_ble_eq_true rfl | exact Nat.le_refl _ | decide | (simp; omega)) rfl ?_))
          rw [Int.toNat_natCast, List.take_length] at gt
          have hlen : (outs p l).length = i.toNat := by rw [← gt, List.length_take, Nat.min_eq_left (by omega)]
          rw [gt]
          refine Goal.done (vs := [_]) (by first | exact .inl rfl | exact .inr rfl) Try.results25 ⟨rfl, trivial⟩ rfl (fun w' H => ⟨_, ⟨_, rfl, SlO.mk (Els_len pr_len _) (by rw [Els_len pr_len, List.length_append, hlen]; simp [rep, List.length_flatten]; omega) (by omega)⟩, by rw [hlen], H⟩)
end
end Go.Proofs.Ytcekjnfdgbeekaa
