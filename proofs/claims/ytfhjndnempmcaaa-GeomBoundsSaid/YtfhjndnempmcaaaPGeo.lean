/- Plain geometry: sides, edges, windings over lists of points. Conditions: none beyond those that each theorem names. -/
import Derived.Test.YtfhjndnempmcaaaPNum
namespace Go.Proofs.Ytfhjndnempmcaaa.PGeo
open Go.Proofs.Ytfhjndnempmcaaa.PNum

abbrev Pt := Int × Int
/-- The side's number, before its sign is taken. -/
def cr (a b c : Pt) : Int := (b.1 - a.1) * (c.2 - a.2) - (b.2 - a.2) * (c.1 - a.1)
theorem cr_swap (a b c : Pt) : cr b a c = -cr a b c := by
  unfold cr
  have e1 : (a.1 - b.1) = -(b.1 - a.1) := by omega
  have e2 : (a.2 - b.2) = -(b.2 - a.2) := by omega
  have e3 : (c.2 - b.2) = (c.2 - a.2) - (b.2 - a.2) := by omega
  have e4 : (c.1 - b.1) = (c.1 - a.1) - (b.1 - a.1) := by omega
  rw [e1, e2, e3, e4]
  generalize b.1 - a.1 = p
  generalize b.2 - a.2 = q
  generalize c.1 - a.1 = r
  generalize c.2 - a.2 = s
  rw [Int.neg_mul, Int.neg_mul, Int.mul_sub, Int.mul_sub, Int.mul_comm q p]
  omega
theorem cr_turn (a b c : Pt) : cr b c a = cr a b c := by
  unfold cr
  have e1 : (c.1 - b.1) = (c.1 - a.1) - (b.1 - a.1) := by omega
  have e2 : (c.2 - b.2) = (c.2 - a.2) - (b.2 - a.2) := by omega
  have e3 : (a.2 - b.2) = -(b.2 - a.2) := by omega
  have e4 : (a.1 - b.1) = -(b.1 - a.1) := by omega
  rw [e1, e2, e3, e4]
  generalize b.1 - a.1 = p
  generalize b.2 - a.2 = q
  generalize c.1 - a.1 = r
  generalize c.2 - a.2 = s
  rw [Int.mul_neg, Int.mul_neg, Int.sub_mul, Int.sub_mul, Int.mul_comm q p, Int.mul_comm r q, Int.mul_comm s p]
  omega
theorem cr_first (a b : Pt) : cr a b a = 0 := by unfold cr; simp
theorem cr_same (a c : Pt) : cr a a c = 0 := by unfold cr; simp
theorem cr_last (a b : Pt) : cr a b b = 0 := by unfold cr; rw [Int.mul_comm]; omega

/-- What an edge counts. -/
def ed (s p q : Pt) : Int := if p.2 ≤ s.2 ∧ s.2 < q.2 ∧ 0 < cr p q s then 1 else if q.2 ≤ s.2 ∧ s.2 < p.2 ∧ cr p q s < 0 then -1 else 0
theorem ed_swap (s p q : Pt) : ed s q p = -ed s p q := by
  unfold ed
  rw [cr_swap p q s]
  repeat' split
  all_goals omega
theorem ed_same (s p : Pt) : ed s p p = 0 := by
  unfold ed
  rw [if_neg (by omega), if_neg (by omega)]
theorem ed_bd (s p q : Pt) : -1 ≤ ed s p q ∧ ed s p q ≤ 1 := by
  unfold ed
  repeat' split
  all_goals omega
/-- Along a path. -/
def ps (s : Pt) : List Pt → Int
  | [] => 0
  | a :: l => match l with
    | [] => 0
    | b :: _ => ed s a b + ps s l
theorem ps_nil (s : Pt) : ps s [] = 0 := rfl
theorem ps_one (s a : Pt) : ps s [a] = 0 := by simp [ps]
theorem ps_cons (s a b : Pt) (l : List Pt) : ps s (a :: b :: l) = ed s a b + ps s (b :: l) := by rw [ps]
theorem ps_join (s : Pt) (a : Pt) : ∀ (xs ys : List Pt), ps s (xs ++ a :: ys) = ps s (xs ++ [a]) + ps s (a :: ys)
  | [], ys => by simp [ps_one]
  | [x], ys => by
    show ps s (x :: a :: ys) = ps s (x :: a :: []) + _
    rw [ps_cons, ps_cons, ps_one]
    omega
  | x :: y :: xs, ys => by
    have ih := ps_join s a (y :: xs) ys
    show ps s (x :: y :: (xs ++ a :: ys)) = ps s (x :: y :: (xs ++ [a])) + _
    rw [ps_cons, ps_cons]
    have ih' : ps s (y :: (xs ++ a :: ys)) = ps s (y :: (xs ++ [a])) + ps s (a :: ys) := ih
    omega
theorem ps_rev (s : Pt) : ∀ l : List Pt, ps s l.reverse = -ps s l
  | [] => by simp [ps_nil]
  | [a] => by simp [ps_one]
  | a :: b :: l => by
    have ih := ps_rev s (b :: l)
    rw [List.reverse_cons, List.reverse_cons, List.append_assoc]
    show ps s (l.reverse ++ b :: [a]) = _
    rw [ps_join, ps_cons s b a, ps_one, ps_cons, ed_swap]
    rw [List.reverse_cons] at ih
    omega
theorem ps_bd (s : Pt) : ∀ l : List Pt, -(l.length : Int) ≤ ps s l ∧ ps s l ≤ l.length
  | [] => by simp [ps_nil]
  | [a] => by simp [ps_one]
  | a :: b :: l => by
    have ih := ps_bd s (b :: l)
    rw [ps_cons]
    have := ed_bd s a b
    simp only [List.length_cons] at *
    omega
/-- How often a polygon goes round. -/
def wn (s : Pt) : List Pt → Int
  | [] => 0
  | h :: t => ps s (h :: (t ++ [h]))
theorem wn_bd (s : Pt) (l : List Pt) : -((l.length : Int) + 1) ≤ wn s l ∧ wn s l ≤ l.length + 1 := by
  cases l with
  | nil => simp [wn]
  | cons h t =>
    have := ps_bd s (h :: (t ++ [h]))
    simp only [wn, List.length_cons, List.length_append, List.length_nil] at *
    omega
/-- By the last point ahead. -/
theorem wn_last (s : Pt) (l : List Pt) (hl : l ≠ []) (d : Pt) : ps s (l.getD (l.length - 1) d :: l) = wn s l := by
  cases l with
  | nil => exact absurd rfl hl
  | cons h t =>
    show _ = ps s (h :: (t ++ [h]))
    rw [ps_cons]
    have e : (h :: (t ++ [h])) = (h :: t).take t.length ++ (h :: t).getD t.length d :: [h] := by
      have e1 : (h :: t).take t.length ++ [(h :: t).getD t.length d] = h :: t := by
        have h2 : t.length < (h :: t).length := by simp
        rw [List.getD_eq_getElem?_getD, List.getElem?_eq_getElem h2, Option.getD_some, List.take_append_getElem]
        exact List.take_of_length_le (by simp)
      have e2 : (h :: t).take t.length ++ (h :: t).getD t.length d :: [h] = ((h :: t).take t.length ++ [(h :: t).getD t.length d]) ++ [h] := List.append_cons _ _ _
      rw [e2, e1]
      simp
    rw [e, ps_join, ps_cons, ps_one]
    have e1 : (h :: t).take t.length ++ [(h :: t).getD t.length d] = h :: t := by
      have h2 : t.length < (h :: t).length := by simp
      rw [List.getD_eq_getElem?_getD, List.getElem?_eq_getElem h2, Option.getD_some, List.take_append_getElem]
      exact List.take_of_length_le (by simp)
    rw [e1]
    simp only [List.length_cons, Nat.add_sub_cancel]
    omega
/-- Begun elsewhere. -/
theorem wn_rot (s : Pt) (xs ys : List Pt) : wn s (ys ++ xs) = wn s (xs ++ ys) := by
  cases xs with
  | nil => simp
  | cons x xs =>
    cases ys with
    | nil => simp
    | cons y ys =>
      show ps s (y :: ((ys ++ x :: xs) ++ [y])) = ps s (x :: ((xs ++ y :: ys) ++ [x]))
      have e1 : y :: ((ys ++ x :: xs) ++ [y]) = (y :: ys) ++ x :: (xs ++ [y]) := by simp
      have e2 : x :: ((xs ++ y :: ys) ++ [x]) = (x :: xs) ++ y :: (ys ++ [x]) := by simp
      rw [e1, e2, ps_join, ps_join s y]
      have e3 : (y :: ys) ++ [x] = y :: (ys ++ [x]) := rfl
      have e4 : (x :: xs) ++ [y] = x :: (xs ++ [y]) := rfl
      rw [e3, e4]
      omega
theorem wn_snoc (s : Pt) (l : List Pt) (a : Pt) (hl : l ≠ []) : wn s (l ++ [a]) = ps s (l ++ [a]) + ed s a (l.headD a) := by
  cases l with
  | nil => exact absurd rfl hl
  | cons h t =>
    show ps s (h :: ((t ++ [a]) ++ [h])) = ps s (h :: t ++ [a]) + ed s a h
    have e : h :: ((t ++ [a]) ++ [h]) = (h :: t) ++ a :: [h] := by simp
    rw [e, ps_join, ps_cons, ps_one]
    omega
theorem wn_rev (s : Pt) (l : List Pt) : wn s l.reverse = -wn s l := by
  cases l with
  | nil => simp [wn]
  | cons h t =>
    rw [List.reverse_cons]
    have h1 : wn s (t.reverse ++ [h]) = wn s ([h] ++ t.reverse) := wn_rot s [h] t.reverse
    rw [h1]
    show ps s (h :: (t.reverse ++ [h])) = -ps s (h :: (t ++ [h]))
    rw [← ps_rev]
    congr 1
    simp
/-- The last point told twice. -/
theorem wn_twice (s : Pt) (l : List Pt) (a : Pt) : wn s ((l ++ [a]) ++ [a]) = wn s (l ++ [a]) := by
  cases l with
  | nil =>
    show ps s (a :: ([a] ++ [a])) = ps s (a :: ([] ++ [a]))
    show ps s (a :: a :: [a]) = ps s (a :: a :: [])
    rw [ps_cons, ed_same]
    omega
  | cons h t =>
    rw [wn_snoc s _ a (by simp), wn_snoc s _ a (by simp)]
    have e : (h :: t ++ [a]) ++ [a] = (h :: t) ++ a :: [a] := by simp
    rw [e, ps_join, ps_cons, ed_same, ps_one]
    show _ + ed s a h = _ + ed s a h
    omega
/-- Two that share an edge, one each way. -/
theorem wn_share (s : Pt) (h : Pt) (xs : List Pt) (m : Pt) (ys : List Pt) : wn s (h :: (xs ++ [m])) + wn s (h :: m :: ys) = wn s (h :: (xs ++ m :: ys)) := by
  show ps s (h :: ((xs ++ [m]) ++ [h])) + ps s (h :: ((m :: ys) ++ [h])) = ps s (h :: ((xs ++ m :: ys) ++ [h]))
  have e1 : h :: ((xs ++ [m]) ++ [h]) = (h :: xs) ++ m :: [h] := by simp
  have e2 : h :: ((xs ++ m :: ys) ++ [h]) = (h :: xs) ++ m :: (ys ++ [h]) := by simp
  have e3 : h :: ((m :: ys) ++ [h]) = h :: m :: (ys ++ [h]) := by simp
  rw [e1, e2, e3, ps_join, ps_cons, ps_one, ps_cons, ps_join s m (h :: xs) (ys ++ [h]), ed_swap s h m]
  omega
theorem wn_parted (s : Pt) (h : Pt) (t : List Pt) (m : Nat) (hm : m < (h :: t).length) : wn s ((h :: t).take (m + 1)) + wn s (h :: (h :: t).drop m) = wn s (h :: t) := by
  cases m with
  | zero =>
    show ps s (h :: ([] ++ [h])) + ps s (h :: ((h :: t) ++ [h])) = ps s (h :: (t ++ [h]))
    rw [List.nil_append, List.cons_append, ps_cons, ps_cons _ _ _ (t ++ [h]), ed_same, ps_one]
    omega
  | succ m =>
    have hm' : m < t.length := by simpa using hm
    rw [List.take_succ_cons, List.drop_succ_cons, ← List.take_append_getElem hm', List.drop_eq_getElem_cons hm', wn_share]
    rw [← List.drop_eq_getElem_cons hm', List.take_append_drop]
end Go.Proofs.Ytfhjndnempmcaaa.PGeo
