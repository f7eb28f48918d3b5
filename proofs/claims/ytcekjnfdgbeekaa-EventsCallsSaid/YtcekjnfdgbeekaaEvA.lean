/- The queue of events: its memory. -/
import Derived.Test.YtcekjnfdgbeekaaHpE
import Derived.Test.YtcekjnfdgbeekaaMaps
import Derived.Test.YtcekjnfdgbeekaaEvP
namespace Go.Proofs.Ytcekjnfdgbeekaa
open Go.Wf
set_option linter.unusedVariables false
def pr (a : Int × Int) : List Value := [.int .i64 a.1, .int .i64 a.2]
theorem pr_len (a : Int × Int) : (pr a).length = 2 := rfl
theorem pr_one (a : Int × Int) : (pr a).all Value.oneCell' = true := rfl
/-- The lists of the slots: their values, what they hold, their blocks. -/
inductive Inn : List Value → List (List (Int × Int)) → List Blk → Prop where
  | nil : Inn [] [] []
  | cons {v : Value} {l : List (Int × Int)} {A : List Blk} {vs : List Value} {ls : List (List (Int × Int))} {B : List Blk} (h : SlO v 62 2 l.length (Els pr l) A) (r : Inn vs ls B) : Inn (v :: vs) (l :: ls) (A ++ B)
theorem Inn.len {vs ls B} (h : Inn vs ls B) : vs.length = ls.length := by
  induction h with
  | nil => rfl
  | cons _ _ ih => simp [ih]
/-- One of them, and what another one in its place makes. -/
theorem Inn.split {vs ls B} (h : Inn vs ls B) : ∀ {i : Nat}, (hi : i < ls.length) → ∃ (v : Value) (B1 A B2 : List Blk), vs[i]? = some v ∧ B = B1 ++ (A ++ B2) ∧ SlO v 62 2 ls[i].length (Els pr ls[i]) A ∧
    ∀ v' l' A', SlO v' 62 2 (List.length l') (Els pr l') A' → Inn (vs.set i v') (ls.set i l') (B1 ++ (A' ++ B2)) := by
  induction h with
  | nil => intro i hi; simp at hi
  | cons h r ih =>
    intro i hi
    cases i with
    | zero => exact ⟨_, [], _, _, rfl, rfl, h, fun v' l' A' h' => by rw [List.nil_append]; exact .cons h' r⟩
    | succ i =>
      obtain ⟨v, B1, A, B2, h1, h2, h3, h4⟩ := ih (i := i) (by simpa using hi)
      refine ⟨v, _ ++ B1, A, B2, by simpa using h1, by rw [h2, List.append_assoc], by simpa using h3, fun v' l' A' h' => ?_⟩
      rw [List.append_assoc]
      exact .cons h (h4 v' l' A' h')
theorem Inn.snoc {vs ls B} (h : Inn vs ls B) : Inn (vs ++ [.slice none 0 0]) (ls ++ [[]]) B := by
  induction h with
  | nil => exact .cons (A := []) (SlO.nil _ 2) .nil
  | cons h r ih => exact .cons h ih
/-- What the queue holds: the present, the last identifier, the heap's slots, the lists, the slots that are free, both maps. -/
structure Rep where
  (now last : Int) (m : Int → Option Int) (ls : List (List (Int × Int))) (un : List Int) (ft fi : Int → Option Int) (nt ni : Nat)
def EvM (bq : Nat) (q : Rep) (A : List Blk) : Prop := ∃ (bt bi ct ci bh bk bp : Nat) (mt mi : List (Int × Int × Nat)) (vL vU : Value) (vs : List Value) (AO AU AI AH : List Blk),
  A = (bq, .cells #[.int .i64 q.now, .int .i64 q.last, .pointer (some ⟨bh, 0, none⟩), vL, vU, .map (some bt), .map (some bi)] 56) :: (bt, mobj mt ct) :: (bi, mobj mi ci) :: (AO ++ (AU ++ (AI ++ AH))) ∧
  Sl vL 60 1 q.ls.length vs AO ∧ Sl vU 3 1 q.un.length (ints q.un) AU ∧ Inn vs q.ls AI ∧ HpA bh bk bp 65536 q.m AH ∧ MapA mt q.ft q.nt ∧ MapA mi q.fi q.ni
section
variable {bq : Nat} {q : Rep} {A : List Blk}
theorem len_ok (hA : EvM bq q A) : MCalls Try.prog 13 [.pointer (some ⟨bq, 0, none⟩)] A (fun _ : Unit => True) (fun _ => .int .i64 q.ni) (fun _ => A) := .mk fun w hw => by
  obtain ⟨bt, bi, ct, ci, bh, bk, bp, mt, mi, vL, vU, vs, AO, AU, AI, AH, rfl, hL, hU, hI, hH, hT, hD⟩ := hA
  refine Goal.enter (args := [.pointer (some ⟨bq, 0, none⟩)]) Try.func13 rfl Try.ntmps13 rfl (hw) ?_
  repeat' (first
    | (apply G.move; exact rfl; exact rfl)
    | (apply G.assign; exact rfl; exact rfl)
    | refine Goal.seq (fun _ _ => ?_)
    | refine Goal.next (by assumption) ?_
    | refine Goal.lnil ?_
    | refine Goal.region ?_
    | refine Goal.skip ?_
    | refine Goal.block ?_
    | refine Goal.exit ?_
    | refine Goal.ret ?_
    | refine Goal.then_exit ?_
    | refine Goal.then_ret ?_
    | refine Goal.inBlock_exit ?_
    | refine Goal.inBlock_normal ?_
    | refine Goal.inBlock_ret ?_
    | refine Goal.inBlock_other rfl ?_
    | (apply Goal.condT; exact rfl)
    | (apply Goal.condF; exact rfl)
    | (refine Goal.condD rfl (fun hc => ?_) (fun hc => ?_) <;> first | (exfalso; omega) | contradiction | skip)
    | refine Goal.condB rfl (fun hc => ?_) (fun hc => ?_)
    | (apply G.fieldAddr; exact rfl; exact rfl; exact T.fld_56_6)
    | (apply G.load; exact rfl; exact rfl; first | exact LoadOK.one T.one_54 0 rfl rfl | exact LoadOK.one T.one_54 1 rfl rfl | exact LoadOK.one T.one_54 2 rfl rfl | exact LoadOK.one T.one_54 3 rfl rfl | exact LoadOK.one T.one_54 4 rfl rfl | exact LoadOK.one T.one_54 5 rfl rfl | exact LoadOK.one T.one_54 6 rfl rfl | exact LoadOK.one T.one_54 7 rfl rfl)
    | (apply G.eql; exact rfl; exact rfl; exact rfl)
    | (refine Goal.quiet rfl (Run.eqlP T.ptr_24 rfl rfl rfl) ?_)
    | (refine Goal.quiet rfl (Run.lenM 0 T.map_54 rfl rfl) ?_)
    | (refine Goal.quiet rfl (Run.lenM 1 T.map_54 rfl rfl) ?_)
    | (refine Goal.quiet rfl (Run.lenM 2 T.map_54 rfl rfl) ?_)
    | (refine Goal.quiet rfl (Run.lenM 3 T.map_54 rfl rfl) ?_)
    | (refine Goal.quiet rfl (Run.lenM 4 T.map_54 rfl rfl) ?_)
    | (refine Goal.quiet rfl (Run.lenM0 T.map_54 rfl) ?_)
    | (apply G.nilCheckP; exact rfl; exact rfl))
  refine Goal.done (vs := [_]) (by first | exact .inl rfl | exact .inr rfl) Try.results13 ⟨rfl, trivial⟩ rfl (fun w' H => ⟨(), trivial, by rw [hD.len], H⟩)
theorem now_ok (hA : EvM bq q A) : MCalls Try.prog 15 [.pointer (some ⟨bq, 0, none⟩)] A (fun _ : Unit => True) (fun _ => .int .i64 q.now) (fun _ => A) := .mk fun w hw => by
  obtain ⟨bt, bi, ct, ci, bh, bk, bp, mt, mi, vL, vU, vs, AO, AU, AI, AH, rfl, hL, hU, hI, hH, hT, hD⟩ := hA
  refine Goal.enter (args := [.pointer (some ⟨bq, 0, none⟩)]) Try.func15 rfl Try.ntmps15 rfl (hw) ?_
  repeat' (first
    | (apply G.move; exact rfl; exact rfl)
    | (apply G.assign; exact rfl; exact rfl)
    | refine Goal.seq (fun _ _ => ?_)
    | refine Goal.next (by assumption) ?_
    | refine Goal.lnil ?_
    | refine Goal.region ?_
    | refine Goal.skip ?_
    | refine Goal.block ?_
    | refine Goal.exit ?_
    | refine Goal.ret ?_
    | refine Goal.then_exit ?_
    | refine Goal.then_ret ?_
    | refine Goal.inBlock_exit ?_
    | refine Goal.inBlock_normal ?_
    | refine Goal.inBlock_ret ?_
    | refine Goal.inBlock_other rfl ?_
    | (apply Goal.condT; exact rfl)
    | (apply Goal.condF; exact rfl)
    | (refine Goal.condD rfl (fun hc => ?_) (fun hc => ?_) <;> first | (exfalso; omega) | contradiction | skip)
    | refine Goal.condB rfl (fun hc => ?_) (fun hc => ?_)
    | (apply G.fieldAddr; exact rfl; exact rfl; exact T.fld_56_0)
    | (apply G.load; exact rfl; exact rfl; first | exact LoadOK.one T.one_3 0 rfl rfl | exact LoadOK.one T.one_3 1 rfl rfl | exact LoadOK.one T.one_3 2 rfl rfl | exact LoadOK.one T.one_3 3 rfl rfl | exact LoadOK.one T.one_3 4 rfl rfl | exact LoadOK.one T.one_3 5 rfl rfl | exact LoadOK.one T.one_3 6 rfl rfl | exact LoadOK.one T.one_3 7 rfl rfl)
    | (apply G.eql; exact rfl; exact rfl; exact rfl)
    | (refine Goal.quiet rfl (Run.eqlP T.ptr_24 rfl rfl rfl) ?_)
    | (apply G.nilCheckP; exact rfl; exact rfl))
  refine Goal.done (vs := [_]) (by first | exact .inl rfl | exact .inr rfl) Try.results15 ⟨rfl, trivial⟩ rfl (fun w' H => ⟨(), trivial, rfl, H⟩)
end
end Go.Proofs.Ytcekjnfdgbeekaa
