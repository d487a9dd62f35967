/- The items that are missing are the items of the line that are not taken over with the same code. -/
import Derived.Test.YtjmbkbnbepmhjaaSe
import Derived.Test.YtjmbkbnbepmhjaaPx29
import Derived.Test.YtjmbkbnbepmhjaaK
namespace Go.Proofs.Ytjmbkbnbepmhjaa.Pure
open Go.RowKit Go.Proofs.Ytjmbkbnbepmhjaa.P Go.Proofs.Ytjmbkbnbepmhjaa.E Go.Proofs.YtjmbkbnbepmhjaaW.PrintWords Go.Proofs.YtjmbkbnbepmhjaaW.PrintLast
set_option linter.unusedVariables false

/-- The codes that a script takes over. -/
def keptR : List S63 → List S50 → List ByteArray
  | [], _ => []
  | s :: ss, [] => if s.f0 = 4 then keptR ss [] else []
  | s :: ss, x :: a => if s.f0 = 4 then keptR ss (x :: a) else if s.f0 = 1 ∨ s.f0 = 2 then x.f0 :: keptR ss a else keptR ss a
theorem kept_ins {s : S63} (ss : List S63) (a : List S50) (h : s.f0 = 4) : keptR (s :: ss) a = keptR ss a := by
  cases a <;> (rw [keptR, if_pos h])
/-- Codes that stand in a line in this order. -/
inductive Sub : List ByteArray → List S50 → Prop
  | nil (b : List S50) : Sub [] b
  | take {x : ByteArray} {y : S50} {k : List ByteArray} {b : List S50} : y.f0.toList = x.toList → Sub k b → Sub (x :: k) (y :: b)
  | skip {k : List ByteArray} {b : List S50} (y : S50) : Sub k b → Sub k (y :: b)
theorem Sub.tail {x : ByteArray} {k : List ByteArray} {b : List S50} (h : Sub (x :: k) b) : Sub k b := by
  generalize e : x :: k = l at h
  induction h with
  | nil b => cases e
  | take hx hs ih => cases e; exact .skip _ hs
  | skip y hs ih => exact .skip _ (ih e)
theorem Sub.hit {x : ByteArray} {k : List ByteArray} {y : S50} {b : List S50} (h : Sub (x :: k) (y :: b)) : Sub k b := by
  cases h with
  | take _ hs => exact hs
  | skip _ hs => exact hs.tail
theorem Sub.miss {x : ByteArray} {k : List ByteArray} {y : S50} {b : List S50} (h : Sub (x :: k) (y :: b)) (hx : y.f0.toList ≠ x.toList) : Sub (x :: k) b := by
  cases h with
  | take e _ => exact absurd e hx
  | skip _ hs => exact hs
theorem scr_sub : ∀ a b : List S50, Sub (keptR (scrR a b) a) b
  | [], [] => by rw [scrR]; exact .nil _
  | [], y :: b => by
    rw [scrR, kept_ins _ _ rfl]
    exact .skip _ (scr_sub [] b)
  | x :: a, [] => by
    rw [scrR, keptR, if_neg (by decide), if_neg (by decide)]
    exact scr_sub a []
  | x :: a, y :: b => by
    rw [scrR]
    by_cases c1 : D (x :: a) (y :: b) = costOf (opOf x y) + D a b
    · rw [if_pos c1, keptR, step_op]
      have ih := scr_sub a b
      have e12 : opOf x y = 1 ∨ opOf x y = 2 → y.f0.toList = x.f0.toList := by
        intro h
        rw [op_def] at h
        by_cases hs : same x y = true
        · exact ((same_iff x y).mp hs).1.symm
        · rw [if_neg hs] at h
          by_cases hc : x.f0.toList = y.f0.toList
          · exact hc.symm
          · rw [if_neg hc] at h; omega
      rcases opOf_is x y with e | e | e
      · rw [if_neg (by omega), if_pos (.inl e)]; exact .take (e12 (.inl e)) ih
      · rw [if_neg (by omega), if_pos (.inr e)]; exact .take (e12 (.inr e)) ih
      · rw [if_neg (by omega), if_neg (by omega)]; exact .skip _ ih
    · rw [if_neg c1]
      by_cases c2 : D (x :: a) (y :: b) = 2 + D (x :: a) b
      · rw [if_pos c2, kept_ins _ _ rfl]
        exact .skip _ (scr_sub (x :: a) b)
      · rw [if_neg c2, keptR, if_neg (by decide), if_neg (by decide)]
        exact scr_sub a (y :: b)
termination_by a b => a.length + b.length
theorem mis_ge : ∀ (s : List S63) (i : Int) (x : Int), x ∈ misR s i → i ≤ x
  | [], _, _, h => by simp [misR] at h
  | s :: ss, i, x, h => by
    rw [misR, List.mem_append] at h
    rcases h with h | h
    · split at h
      · simp at h; omega
      · simp at h
    · have := mis_ge ss _ x h
      split at this <;> omega
theorem mis_len : ∀ (s : List S63) (i : Int), (misR s i).length ≤ s.length
  | [], _ => by simp [misR]
  | s :: ss, i => by
    rw [misR, List.length_append]
    have := mis_len ss (if s.f0 = 4 then i else i + 1)
    split <;> simp <;> omega
theorem drop_int {l : List Int} {n : Nat} {x : Int} {r : List Int} (h : l.drop n = x :: r) : n < l.length ∧ rd l (n : Int) = x ∧ l.drop (n + 1) = r := by
  have hn : n < l.length := by
    by_cases c : n < l.length
    · exact c
    · rw [List.drop_of_length_le (by omega)] at h; cases h
  rw [List.drop_eq_getElem_cons hn] at h
  injection h with h1 h2
  exact ⟨hn, by rw [rd_nat _ _ hn]; exact h1, h2⟩
theorem kept_ev (a b : List S50) (list : List Int) (ha : a.length ≤ 30) (hlist : list.length ≤ 60) (r : Bool) : ∀ (s : List S63) (i at_ : Nat) (kept : List ByteArray), i ≤ a.length → kept.length ≤ i → fitR s (a.drop i) = 0 → s.any bad = false → at_ ≤ list.length → list.drop at_ = misR s (i : Int) →
    (Ev (fun k => salchowlaw25_CompareLoses.l1 k b list (kept ++ keptR s (a.drop i)) (list.length : Int) 0 0) r) → Ev (fun k => salchowlaw25_CompareLoses.l0 k a b list kept (at_ : Int) (i : Int)) r
  | [], i, at_, kept, hi, hk, hf, hb, hat, hm, h => by
    have e : a.drop i = [] := by
      cases hd : a.drop i with
      | nil => rfl
      | cons x y => rw [hd] at hf; simp [fitR] at hf
    have hil : a.length ≤ i := by
      have := congrArg List.length e
      simp at this; omega
    have hal : at_ = list.length := by
      have := congrArg List.length hm
      simp [misR] at this; omega
    rw [keptR, List.append_nil] at h
    subst hal
    refine ev_round ?_
    simp only [salchowlaw25_CompareLoses.l0]
    exact ev_neg (by omega) h
  | s :: ss, i, at_, kept, hi, hk, hf, hb, hat, hm, h => by
    rw [List.any_cons, Bool.or_eq_false_iff] at hb
    by_cases h4 : s.f0 = 4
    · rw [fitR_ins _ _ h4] at hf
      rw [misR, if_neg (by omega), if_pos h4, List.nil_append] at hm
      rw [kept_ins _ _ h4] at h
      exact kept_ev a b list ha hlist r ss i at_ kept hi hk hf hb.2 hat hm h
    obtain ⟨x, a', he, hf', h23⟩ := fitR_cases hf h4
    have hlt := drop_lt he
    have hd := drop50 a i hlt
    rw [hd] at he
    injection he with e1 e2
    rw [hd, keptR, if_neg h4] at h
    rw [← e2] at hf'
    rw [misR, if_neg h4] at hm
    have up := up1 i a.length hlt (by omega)
    have ei : ((i : Int) + 1) = ((i + 1 : Nat) : Int) := rfl
    rw [ei] at hm
    by_cases h12 : s.f0 = 1 ∨ s.f0 = 2
    · rw [if_pos h12] at h
      rw [if_neg (by omega), List.nil_append] at hm
      have h' : Ev (fun k => salchowlaw25_CompareLoses.l1 k b list ((kept ++ [(rd_T50 a i).f0]) ++ keptR ss (a.drop (i + 1))) (list.length : Int) 0 0) r := by
        rw [List.append_assoc]; exact h
      have ih := kept_ev a b list ha hlist r ss (i + 1) at_ (kept ++ [(rd_T50 a i).f0]) hlt (by simp; omega) hf' hb.2 hat hm h'
      refine ev_round ?_
      simp only [salchowlaw25_CompareLoses.l0]
      rw [up]
      refine ev_pos (by omega) (ev_ite (fun c => ev_pos (by omega) (ev_neg ?_ (ev_pos (by omega) (ev_pos (by omega) ih)))) (fun c => ev_pos (by omega) (ev_pos (by omega) ih)))
      intro e
      cases hmd : misR ss ((i + 1 : Nat) : Int) with
      | nil =>
        rw [hmd] at hm
        have := congrArg List.length hm
        simp at this; omega
      | cons y r' =>
        rw [hmd] at hm
        have hy := drop_int hm
        have hge := mis_ge ss _ y (by rw [hmd]; exact List.mem_cons_self)
        rw [hy.2.1] at e
        omega
    · rw [if_neg h12] at h
      have h35 : s.f0 = 3 ∨ s.f0 = 5 := by
        rcases bad_op hb.1 with e | e | e | e | e <;> omega
      rw [if_pos h35, List.singleton_append] at hm
      have hy := drop_int hm
      have ih := kept_ev a b list ha hlist r ss (i + 1) (at_ + 1) kept hlt (by omega) hf' hb.2 hy.1 hy.2.2 h
      refine ev_round ?_
      simp only [salchowlaw25_CompareLoses.l0]
      rw [up, up1 at_ list.length hy.1 (by omega)]
      exact ev_pos (by omega) (ev_pos (by have := hy.1; omega) (ev_pos (by omega) (ev_pos hy.2.1 ih)))
theorem rdOf_drop (l : List ByteArray) (n : Nat) (h : n < l.length) : l.drop n = rdOf ByteArray.empty l (n : Int) :: l.drop (n + 1) := by
  rw [List.drop_eq_getElem_cons h]
  congr 1
  unfold rdOf
  simp [List.getD_eq_getElem?_getD, h]
theorem sub_ev (b : List S50) (list : List Int) (kept : List ByteArray) (hb : b.length ≤ 30) (hk : kept.length ≤ 30) : ∀ (n i k : Nat), b.length - i ≤ n → i ≤ b.length → k ≤ kept.length → Sub (kept.drop k) (b.drop i) →
    Ev (fun z => salchowlaw25_CompareLoses.l1 z b list kept (list.length : Int) (k : Int) (i : Int)) true := by
  have fin : ∀ (i k : Nat), k = kept.length → Ev (fun z => salchowlaw25_CompareLoses.j4 z b list kept (list.length : Int) (k : Int) (i : Int) false) true := by
    intro i k e
    refine ev_round ?_
    simp only [salchowlaw25_CompareLoses.j4]
    exact ev_neg (by simp) (ev_call awake_ev (ev_pos (by first | trivial | rfl) (ev_pos (by first | trivial | rfl) (ev_end (by rw [e]; simp)))))
  intro n
  induction n with
  | zero =>
    intro i k hn hi hkl h
    have e : b.drop i = [] := List.drop_of_length_le (by omega)
    have ek : k = kept.length := by
      rw [e] at h
      generalize hd : kept.drop k = l at h
      cases h with
      | nil => have := congrArg List.length hd; simp at this; omega
    refine ev_round ?_
    simp only [salchowlaw25_CompareLoses.l1]
    exact ev_neg (by omega) (fin _ _ ek)
  | succ n ih =>
    intro i k hn hi hkl h
    refine ev_round ?_
    simp only [salchowlaw25_CompareLoses.l1]
    by_cases hi' : i < b.length
    · refine ev_pos (by omega) ?_
      by_cases hk' : k < kept.length
      · rw [decide_eq_true (show (k : Int) < (kept.length : Int) by omega)]
        refine ev_round ?_
        simp only [salchowlaw25_CompareLoses.j4]
        rw [up1 i b.length hi' (by omega), up1 k kept.length hk' (by omega)]
        rw [drop50 b i hi', rdOf_drop kept k hk'] at h
        refine ev_pos (by simp) (ev_pos (by omega) (ev_pos (by omega) (ev_pos (by omega) (ev_pos (by omega) (ev_ite (fun c => ?_) (fun c => ?_))))))
        · exact ih (i + 1) (k + 1) (by omega) hi' hk' h.hit
        · refine ih (i + 1) k (by omega) hi' hkl ?_
          rw [rdOf_drop kept k hk']
          exact h.miss c
      · rw [decide_eq_false (show ¬ (k : Int) < (kept.length : Int) by omega)]
        exact fin _ _ (by omega)
    · refine ev_neg (by omega) (fin _ _ ?_)
      have e : b.drop i = [] := List.drop_of_length_le (by omega)
      rw [e] at h
      generalize hd : kept.drop k = l at h
      cases h with
      | nil => have := congrArg List.length hd; simp at this; omega
theorem kept_len : ∀ (s : List S63) (a : List S50), (keptR s a).length ≤ a.length
  | [], a => by simp [keptR]
  | s :: ss, [] => by
    rw [keptR]; split
    · exact kept_len ss []
    · simp
  | s :: ss, x :: a => by
    rw [keptR]; split
    · exact kept_len ss (x :: a)
    · have := kept_len ss a
      split <;> simp <;> omega
theorem CompareLoses (l0 : List S50) (hl0 : ok22 l0) (l1 : List S50) (hl1 : ok22 l1) : ∃ k, salchowlaw25_CompareLoses.f k l0 l1 = some true := by
  refine Ev.rounds (g := fun k => salchowlaw25_CompareLoses.f k l0 l1) ?_
  simp only [salchowlaw25_CompareLoses.f]
  have stop : Ev (fun k => salchowlaw25_CompareLoses.j0 k l0 l1 true) true := by
    refine ev_round ?_
    simp only [salchowlaw25_CompareLoses.j0]
    exact ev_pos (by simp) (ev_call awake_ev (ev_end rfl))
  obtain ⟨r, hr, hs⟩ := small_ev l0 l1 []
  refine ev_call hr (ev_ite (fun h => ?_) (fun h => stop))
  refine ev_ite (fun _ => stop) (fun a1 => ?_)
  by_cases a2 : (l1.length : Int) > 30
  · rw [decide_eq_true a2]; exact stop
  rw [decide_eq_false a2]
  have b0 : l0.length ≤ 30 := by omega
  have b1 : l1.length ≤ 30 := by omega
  refine ev_round ?_
  simp only [salchowlaw25_CompareLoses.j0]
  obtain ⟨hf, _, _, hb, hl⟩ := scr_all l0 l1
  have eS : scriptV l0 l1 = (scrR l0 l1, 0) := if_pos ⟨b0, b1⟩
  have hck : checkV (scrR l0 l1) = 0 := by
    unfold checkV checkL
    rw [if_neg (by omega), hb]; rfl
  have eM : missV (scrR l0 l1) = (misR (scrR l0 l1) 0, 0) := by
    unfold missV
    rw [if_pos hck]
  refine ev_neg (by simp) (ev_call (script_ev _ _) ?_)
  rw [eS]
  refine ev_call (miss_ev _) ?_
  rw [eM]
  have e0 : ((0 : Int) != 0) = false := rfl
  refine ev_pos rfl ?_
  rw [e0]
  refine ev_round ?_
  simp only [salchowlaw25_CompareLoses.j1]
  refine ev_neg (by simp) ?_
  have hml := mis_len (scrR l0 l1) 0
  have hkl := kept_len (scrR l0 l1) l0
  refine kept_ev l0 l1 (misR (scrR l0 l1) 0) b0 (by omega) true (scrR l0 l1) 0 0 [] (by omega) (by simp) hf hb (by omega) rfl ?_
  rw [List.nil_append]
  exact sub_ev l1 _ _ b1 (by rw [List.drop_zero]; omega) l1.length 0 0 (by omega) (by omega) (by omega) (by rw [List.drop_zero, List.drop_zero, List.drop_zero]; exact scr_sub l0 l1)
end Go.Proofs.Ytjmbkbnbepmhjaa.Pure
