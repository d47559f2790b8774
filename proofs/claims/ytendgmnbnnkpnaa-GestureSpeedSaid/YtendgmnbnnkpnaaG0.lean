/- The plain model of the recognisers: no program in sight. -/
import Derived.Test.YtendgmnbnnkpnaaX0
namespace Go.Proofs.Ytendgmnbnnkpnaa.G

structure Smp where
  X : Int
  Y : Int
  T : Int

structure Tch where
  ID : Int
  F : Smp
  S : List Smp

structure Rec where
  Kind : Int
  Node : Int
  State : Int
  Count : Int
  Ts : List Tch
  L : Smp

structure Ev where
  Kind : Int
  ID : Int
  X : Int
  Y : Int
  Time : Int
  Wheel : Int

structure Ges where
  Kind : Int
  Node : Int
  Phase : Int
  X : Int
  Y : Int
  DX : Int
  DY : Int
  Scale : Int
  VX : Int
  VY : Int

def btw (x lo hi : Int) : Bool := decide (lo ≤ x ∧ x ≤ hi)
def placed (s : Smp) : Bool := btw s.X (-1048576) 1048576 && btw s.Y (-1048576) 1048576 && btw s.T 0 1099511627776
def valid (e : Ev) : Bool :=
  if e.Kind = 5 then btw e.Time 0 1099511627776
  else btw e.Kind 1 5 && btw e.ID 1 1000 && placed ⟨e.X, e.Y, e.Time⟩
def smp (e : Ev) : Smp := ⟨e.X, e.Y, e.Time⟩
def dist (a b : Smp) : Int := mx (mx (mx (a.X - b.X) (-(a.X - b.X))) (a.Y - b.Y)) (-(a.Y - b.Y))
def size (x : Int) : Int := mx x (-x)
def fl (a b : Int) : Int := a / b

def Smp.zero : Smp := ⟨0, 0, 0⟩
/-- sample k -/
def nth (l : List Smp) (k : Nat) : Smp := l.getD k .zero
theorem nth_eq (l : List Smp) (k : Nat) (h : k < l.length) : nth l k = l[k] := by simp [nth, h]
/-- sample k is placed, and it isn't earlier than the one before -/
def good (l : List Smp) (k : Nat) : Bool := placed (nth l k) && (decide (k = 0) || !decide ((nth l k).T < (nth l (k - 1)).T))
def velOk (l : List Smp) : Bool := (List.range l.length).all (good l)
def vel (l : List Smp) : Int × Int :=
  match l.getLast? with
  | none => (0, 0)
  | some last =>
    if velOk l then
      let first := (l.find? fun s => decide (last.T - 100 ≤ s.T)).getD last
      (fl (1000 * (last.X - first.X)) (last.T - first.T), fl (1000 * (last.Y - first.Y)) (last.T - first.T))
    else (0, 0)

def cont (k : Int) : Bool := btw k 4 7
def room (k : Int) : Nat := if k = 7 then 2 else 1
def over (r : Rec) : Rec := { r with State := 4, Ts := [] }
def fail (r : Rec) : Rec × Int × List Ges := (over r, if r.State = 1 ∨ r.State = 2 then 2 else 0, [])
def latest (t : Tch) : Smp := t.S.getLastD t.F
def onceG (r : Rec) : Ges :=
  let v := if r.Kind = 8 then (match r.Ts with | t :: _ => vel t.S | [] => (0, 0)) else (0, 0)
  ⟨r.Kind, r.Node, 1, r.L.X, r.L.Y, 0, 0, 1000, v.1, v.2⟩
def succeed (r : Rec) (at_ : Smp) (ask : Int) : Rec × Int × List Ges :=
  if r.State = 3 then (over { r with L := at_ }, 0, [onceG { r with L := at_ }])
  else ({ r with L := at_, State := 2 }, ask, [])
def pinchG (r : Rec) (t u : Tch) (p : Int) : Ges :=
  let x := if p = 2 then t.F else latest t
  let y := if p = 2 then u.F else latest u
  ⟨r.Kind, r.Node, p, fl (x.X + y.X) 2, fl (x.Y + y.Y) 2, 0, 0, if p = 2 then 1000 else fl (1000 * dist x y) (mx (dist t.F u.F) 1), 0, 0⟩
def dragG (r : Rec) (t : Tch) (p : Int) : Ges :=
  let x := if p = 2 then t.F else latest t
  let d : Int × Int := if p = 3 ∨ p = 4 then (x.X - t.F.X, x.Y - t.F.Y) else (0, 0)
  let v : Int × Int := if p = 4 then vel t.S else (0, 0)
  ⟨r.Kind, r.Node, p, x.X, x.Y, if r.Kind = 5 then 0 else d.1, if r.Kind = 4 then 0 else d.2, 1000, if r.Kind = 5 then 0 else v.1, if r.Kind = 4 then 0 else v.2⟩
/-- a gesture of a drag, a pan or a pinch; only where the touches are there -/
def stageG (r : Rec) (p : Int) : Ges :=
  match r.Ts with
  | [t] => dragG r t p
  | t :: u :: _ => if r.Kind = 7 then pinchG r t u p else dragG r t p
  | [] => ⟨r.Kind, r.Node, p, 0, 0, 0, 0, 1000, 0, 0⟩
def win (r : Rec) : Rec × List Ges :=
  if r.State = 2 then
    if cont r.Kind then ({ r with State := 3, Count := 1 }, [stageG r 2, stageG r 3])
    else (over r, [onceG r])
  else if r.State = 0 ∨ r.State = 1 then ({ r with State := 3 }, [])
  else (r, [])
def abort (r : Rec) : Rec × List Ges :=
  if r.State = 3 ∧ r.Count = 1 ∧ cont r.Kind = true then (over r, [stageG r 5]) else (over r, [])
def deaf (r : Rec) : Bool := decide (r.State = 4) || (decide (r.State = 2) && !cont r.Kind)

/-- the place of a touch -/
def find (ts : List Tch) (id : Int) : Option Nat := ts.findIdx? fun t => decide (t.ID = id)
def down (r : Rec) (e : Ev) : Rec × Int × List Ges :=
  if r.Kind ≤ 3 ∧ r.Ts ≠ [] then fail r
  else if r.Kind = 2 ∧ r.Count = 1 ∧ 8 < dist (smp e) r.L then fail r
  else if room r.Kind ≤ r.Ts.length then (r, 0, [])
  else
    let ts := match r.Ts with
      | [t] => [⟨t.ID, latest t, [latest t]⟩]
      | l => l
    ({ r with Ts := ts ++ [⟨e.ID, smp e, [smp e]⟩], State := if r.State = 0 then 1 else r.State }, 0, [])
/-- the samples with one more, the last eight of them -/
def more (l : List Smp) (s : Smp) : List Smp := (l ++ [s]).drop ((l ++ [s]).length - 8)
def follow (ts : List Tch) (i : Nat) (s : Smp) : List Tch :=
  match ts[i]? with
  | none => ts
  | some t => ts.set i ⟨t.ID, t.F, more t.S s⟩
/-- a tap, a double tap, a long press -/
def still (r : Rec) (e : Ev) : Rec × Int × List Ges :=
  match r.Ts with
  | [] => (r, 0, [])
  | t :: _ =>
    if 8 < dist (smp e) t.F then fail r
    else if e.Kind = 2 then (r, 0, [])
    else if r.Kind = 3 then fail r
    else if r.Kind = 2 ∧ r.Count = 0 then ({ r with Count := 1, L := smp e, Ts := [] }, 3, [])
    else
      let q := succeed r (smp e) (if r.Kind = 2 then 1 else 0)
      ({ q.1 with Ts := [] }, q.2.1, q.2.2)
def throw_ (r : Rec) (e : Ev) : Rec × Int × List Ges :=
  if e.Kind = 2 then (r, 0, [])
  else match r.Ts with
    | [] => (r, 0, [])
    | t :: _ =>
      let v := vel t.S
      if mx (mx (mx v.1 (-v.1)) v.2) (-v.2) < 400 then fail r else succeed r (smp e) 1
def certain (r : Rec) : Bool × Bool :=
  match r.Ts with
  | [] => (false, false)
  | [t] =>
    if r.Kind = 7 then (false, false)
    else
      let dx := size ((latest t).X - t.F.X)
      let dy := size ((latest t).Y - t.F.Y)
      if r.Kind = 4 then (let c := decide (8 < dx ∧ dy ≤ dx); (c, !c && decide (8 < dy)))
      else if r.Kind = 5 then (let c := decide (8 < dy ∧ dx < dy); (c, !c && decide (8 < dx)))
      else (decide (8 < mx dx dy), false)
  | t :: u :: _ => (decide (8 < size (dist (latest t) (latest u) - mx (dist t.F u.F) 1)), false)
def slide (r : Rec) (e : Ev) : Rec × Int × List Ges :=
  let moving : Bool := decide (r.State = 3 ∧ r.Count = 1)
  if e.Kind = 3 then
    if moving then (over r, 0, [stageG r 4]) else fail r
  else if moving then (r, 0, [stageG r 3])
  else if r.State = 1 ∨ r.State = 3 then
    let c := certain r
    if c.2 then fail r
    else if c.1 then
      if r.State = 1 then ({ r with State := 2 }, 1, [])
      else ({ r with Count := 1 }, 0, [stageG r 2, stageG r 3])
    else (r, 0, [])
  else (r, 0, [])
def process (r : Rec) (e : Ev) : Rec × Int × List Ges :=
  if e.Kind = 5 then (r, 0, [])
  else match find r.Ts e.ID with
    | none => if e.Kind = 1 then down r e else (r, 0, [])
    | some i =>
      if e.Kind = 1 then (r, 0, [])
      else if e.Kind = 4 then (if r.State = 3 then (let q := abort r; (q.1, 0, q.2)) else fail r)
      else
        let r := { r with Ts := follow r.Ts i (smp e) }
        if r.Kind ≤ 3 then still r e
        else if r.Kind = 8 then throw_ r e
        else slide r e
def feed (r : Rec) (e : Ev) : Rec × Int × List Ges :=
  if !valid e || deaf r then (r, 0, [])
  else if r.Kind ≤ 2 then
    match r.Ts with
    | t :: _ => if 300 < e.Time - t.F.T then fail r else process r e
    | [] => if r.Kind = 2 ∧ r.Count = 1 ∧ 300 < e.Time - r.L.T then fail r else process r e
  else if r.Kind = 3 then
    match r.Ts with
    | t :: _ => if e.Time - t.F.T < 500 then process r e else succeed r ⟨t.F.X, t.F.Y, e.Time⟩ 1
    | [] => process r e
  else process r e

/-- what holds of each touch -/
structure TOk (t : Tch) : Prop where
  f : placed t.F = true
  id : btw t.ID 1 1000 = true
  ne : t.S ≠ []
  len : t.S.length ≤ 8
  s : ∀ s, s ∈ t.S → placed s = true
/-- what holds of each recogniser that New, Feed, Win, Lose and Abort bring forth -/
structure ROk (r : Rec) : Prop where
  kind : 1 ≤ r.Kind ∧ r.Kind ≤ 8
  node : 1 ≤ r.Node ∧ r.Node ≤ 1099511627776
  state : 0 ≤ r.State ∧ r.State ≤ 4
  count : 0 ≤ r.Count ∧ r.Count ≤ 1
  last : placed r.L = true
  len : r.Ts.length ≤ room r.Kind
  ts : ∀ t, t ∈ r.Ts → TOk t
  over : r.State = 4 → r.Ts = []
  sure : cont r.Kind = true → (r.State = 2 ∨ (r.State = 3 ∧ r.Count = 1)) → r.Ts.length = room r.Kind

theorem velOk_of (l : List Smp) (h : ∀ j, j < l.length → good l j = true) : velOk l = true := by
  simp only [velOk, List.all_eq_true, List.mem_range]; exact h
theorem velOk_not (l : List Smp) (k : Nat) (hk : k < l.length) (h : good l k = false) : velOk l = false := by
  simp only [velOk, List.all_eq_false, List.mem_range]; exact ⟨k, hk, by simp [h]⟩
theorem find_of (l : List Smp) (p : Smp → Bool) (k : Nat) (hk : k < l.length) (h : ∀ j, j < k → p (nth l j) = false) (h2 : p (nth l k) = true) : l.find? p = some (nth l k) := by
  rw [List.find?_eq_some_iff_getElem]
  refine ⟨h2, k, hk, (nth_eq l k hk).symm, fun j hj => ?_⟩
  have := h j hj
  rw [nth_eq l j (by omega)] at this
  simpa using this
theorem find_none (l : List Smp) (p : Smp → Bool) (h : ∀ j, j < l.length → p (nth l j) = false) : l.find? p = none := by
  rw [List.find?_eq_none]
  intro x hx
  obtain ⟨j, hj, rfl⟩ := List.mem_iff_getElem.1 hx
  have := h j hj
  rw [nth_eq l j hj] at this
  simpa using this
theorem vel_bad (l : List Smp) (h : velOk l = false) : vel l = (0, 0) := by
  unfold vel; cases l.getLast? <;> simp [h]
theorem last_eq (l : List Smp) (h : 0 < l.length) : l.getLast? = some (nth l (l.length - 1)) := by
  rw [List.getLast?_eq_getElem?, nth_eq l _ (by omega), List.getElem?_eq_getElem (show l.length - 1 < l.length by omega)]
theorem vel_ok (l : List Smp) (hl : 0 < l.length) (h : velOk l = true) (f : Smp) (hf : (l.find? fun s => decide ((nth l (l.length - 1)).T - 100 ≤ s.T)).getD (nth l (l.length - 1)) = f) :
    vel l = (fl (1000 * ((nth l (l.length - 1)).X - f.X)) ((nth l (l.length - 1)).T - f.T), fl (1000 * ((nth l (l.length - 1)).Y - f.Y)) ((nth l (l.length - 1)).T - f.T)) := by
  unfold vel; rw [last_eq l hl]; simp only [h, if_true]; subst hf; rfl
theorem good_placed (l : List Smp) (k : Nat) (h : good l k = true) : placed (nth l k) = true := by
  simp [good] at h; exact h.1
theorem placed_bd {s : Smp} (h : placed s = true) : -1048576 ≤ s.X ∧ s.X ≤ 1048576 ∧ -1048576 ≤ s.Y ∧ s.Y ≤ 1048576 ∧ 0 ≤ s.T ∧ s.T ≤ 1099511627776 := by
  simp [placed, btw] at h; omega
theorem velOk_good (l : List Smp) (h : velOk l = true) : ∀ j, j < l.length → good l j = true := by
  simpa only [velOk, List.all_eq_true, List.mem_range] using h
/-- with all samples good the times rise -/
theorem times_le (l : List Smp) (h : velOk l = true) (i j : Nat) (hij : i ≤ j) (hj : j < l.length) : (nth l i).T ≤ (nth l j).T := by
  induction j with
  | zero => obtain rfl : i = 0 := by omega
            exact Int.le_refl _
  | succ j ih =>
    by_cases hi : i = j + 1
    · subst hi; exact Int.le_refl _
    · have h1 := ih (by omega) (by omega)
      have h2 := velOk_good l h (j + 1) hj
      simp only [good, Bool.and_eq_true, Bool.or_eq_true, decide_eq_true_eq, Bool.not_eq_true', decide_eq_false_iff_not] at h2
      have h3 := h2.2
      simp only [Nat.add_sub_cancel] at h3
      omega
end Go.Proofs.Ytendgmnbnnkpnaa.G
