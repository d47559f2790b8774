/- The plain model of the recognisers: no program in sight. Events that lie in memory. Small functions of the recognisers, walked: what each returns. Samples in memory; latest and Velocity, walked. Touches in memory; the functions that only read a recogniser, walked. -/
import Derived.Test.YtendgmnbnnkpnaaUA
import Derived.Test.YtendgmnbnnkpnaaRows
import Derived.WalkKit
import Derived.WalkSpells
import Derived.WalkLawsBesides
import Derived.Deep.QuietTactic
import Derived.BigQuiet
import Derived.BigRegion
import Derived.Lib.Hide
import Derived.Deep.RegionWith
set_option linter.unusedSimpArgs false
set_option linter.unusedVariables false
namespace Go.Proofs.Ytendgmnbnnkpnaa.G

structure Smp where
  X : Int
  Y : Int
  T : Int

structure Tch where
  ID : Int
  F : Smp
  S : List Smp

structure Rec where
  Kind : Int
  Node : Int
  State : Int
  Count : Int
  Ts : List Tch
  L : Smp

structure Ev where
  Kind : Int
  ID : Int
  X : Int
  Y : Int
  Time : Int
  Wheel : Int

structure Ges where
  Kind : Int
  Node : Int
  Phase : Int
  X : Int
  Y : Int
  DX : Int
  DY : Int
  Scale : Int
  VX : Int
  VY : Int

def btw (x lo hi : Int) : Bool := decide (lo ≤ x ∧ x ≤ hi)
def placed (s : Smp) : Bool := btw s.X (-1048576) 1048576 && btw s.Y (-1048576) 1048576 && btw s.T 0 1099511627776
def valid (e : Ev) : Bool :=
  if e.Kind = 5 then btw e.Time 0 1099511627776
  else btw e.Kind 1 5 && btw e.ID 1 1000 && placed ⟨e.X, e.Y, e.Time⟩
def smp (e : Ev) : Smp := ⟨e.X, e.Y, e.Time⟩
def dist (a b : Smp) : Int := mx (mx (mx (a.X - b.X) (-(a.X - b.X))) (a.Y - b.Y)) (-(a.Y - b.Y))
def size (x : Int) : Int := mx x (-x)
def fl (a b : Int) : Int := a / b

def Smp.zero : Smp := ⟨0, 0, 0⟩
/-- sample k -/
def nth (l : List Smp) (k : Nat) : Smp := l.getD k .zero
theorem nth_eq (l : List Smp) (k : Nat) (h : k < l.length) : nth l k = l[k] := by simp [nth, h]
/-- sample k is placed, and it isn't earlier than the one before -/
def good (l : List Smp) (k : Nat) : Bool := placed (nth l k) && (decide (k = 0) || !decide ((nth l k).T < (nth l (k - 1)).T))
def velOk (l : List Smp) : Bool := (List.range l.length).all (good l)
def vel (l : List Smp) : Int × Int :=
  match l.getLast? with
  | none => (0, 0)
  | some last =>
    if velOk l then
      let first := (l.find? fun s => decide (last.T - 100 ≤ s.T)).getD last
      (fl (1000 * (last.X - first.X)) (last.T - first.T), fl (1000 * (last.Y - first.Y)) (last.T - first.T))
    else (0, 0)

def cont (k : Int) : Bool := btw k 4 7
def room (k : Int) : Nat := if k = 7 then 2 else 1
def over (r : Rec) : Rec := { r with State := 4, Ts := [] }
def fail (r : Rec) : Rec × Int × List Ges := (over r, if r.State = 1 ∨ r.State = 2 then 2 else 0, [])
def latest (t : Tch) : Smp := t.S.getLastD t.F
def onceG (r : Rec) : Ges :=
  let v := if r.Kind = 8 then (match r.Ts with | t :: _ => vel t.S | [] => (0, 0)) else (0, 0)
  ⟨r.Kind, r.Node, 1, r.L.X, r.L.Y, 0, 0, 1000, v.1, v.2⟩
def succeed (r : Rec) (at_ : Smp) (ask : Int) : Rec × Int × List Ges :=
  if r.State = 3 then (over { r with L := at_ }, 0, [onceG { r with L := at_ }])
  else ({ r with L := at_, State := 2 }, ask, [])
def pinchG (r : Rec) (t u : Tch) (p : Int) : Ges :=
  let x := if p = 2 then t.F else latest t
  let y := if p = 2 then u.F else latest u
  ⟨r.Kind, r.Node, p, fl (x.X + y.X) 2, fl (x.Y + y.Y) 2, 0, 0, if p = 2 then 1000 else fl (1000 * dist x y) (mx (dist t.F u.F) 1), 0, 0⟩
def dragG (r : Rec) (t : Tch) (p : Int) : Ges :=
  let x := if p = 2 then t.F else latest t
  let d : Int × Int := if p = 3 ∨ p = 4 then (x.X - t.F.X, x.Y - t.F.Y) else (0, 0)
  let v : Int × Int := if p = 4 then vel t.S else (0, 0)
  ⟨r.Kind, r.Node, p, x.X, x.Y, if r.Kind = 5 then 0 else d.1, if r.Kind = 4 then 0 else d.2, 1000, if r.Kind = 5 then 0 else v.1, if r.Kind = 4 then 0 else v.2⟩
/-- a gesture of a drag, a pan or a pinch; only where the touches are there -/
def stageG (r : Rec) (p : Int) : Ges :=
  match r.Ts with
  | [t] => dragG r t p
  | t :: u :: _ => if r.Kind = 7 then pinchG r t u p else dragG r t p
  | [] => ⟨r.Kind, r.Node, p, 0, 0, 0, 0, 1000, 0, 0⟩
def win (r : Rec) : Rec × List Ges :=
  if r.State = 2 then
    if cont r.Kind then ({ r with State := 3, Count := 1 }, [stageG r 2, stageG r 3])
    else (over r, [onceG r])
  else if r.State = 0 ∨ r.State = 1 then ({ r with State := 3 }, [])
  else (r, [])
def abort (r : Rec) : Rec × List Ges :=
  if r.State = 3 ∧ r.Count = 1 ∧ cont r.Kind = true then (over r, [stageG r 5]) else (over r, [])
def deaf (r : Rec) : Bool := decide (r.State = 4) || (decide (r.State = 2) && !cont r.Kind)

/-- the place of a touch -/
def find (ts : List Tch) (id : Int) : Option Nat := ts.findIdx? fun t => decide (t.ID = id)
def down (r : Rec) (e : Ev) : Rec × Int × List Ges :=
  if r.Kind ≤ 3 ∧ r.Ts ≠ [] then fail r
  else if r.Kind = 2 ∧ r.Count = 1 ∧ 8 < dist (smp e) r.L then fail r
  else if room r.Kind ≤ r.Ts.length then (r, 0, [])
  else
    let ts := match r.Ts with
      | [t] => [⟨t.ID, latest t, [latest t]⟩]
      | l => l
    ({ r with Ts := ts ++ [⟨e.ID, smp e, [smp e]⟩], State := if r.State = 0 then 1 else r.State }, 0, [])
/-- the samples with one more, the last eight of them -/
def more (l : List Smp) (s : Smp) : List Smp := (l ++ [s]).drop ((l ++ [s]).length - 8)
def follow (ts : List Tch) (i : Nat) (s : Smp) : List Tch :=
  match ts[i]? with
  | none => ts
  | some t => ts.set i ⟨t.ID, t.F, more t.S s⟩
/-- a tap, a double tap, a long press -/
def still (r : Rec) (e : Ev) : Rec × Int × List Ges :=
  match r.Ts with
  | [] => (r, 0, [])
  | t :: _ =>
    if 8 < dist (smp e) t.F then fail r
    else if e.Kind = 2 then (r, 0, [])
    else if r.Kind = 3 then fail r
    else if r.Kind = 2 ∧ r.Count = 0 then ({ r with Count := 1, L := smp e, Ts := [] }, 3, [])
    else
      let q := succeed r (smp e) (if r.Kind = 2 then 1 else 0)
      ({ q.1 with Ts := [] }, q.2.1, q.2.2)
def throw_ (r : Rec) (e : Ev) : Rec × Int × List Ges :=
  if e.Kind = 2 then (r, 0, [])
  else match r.Ts with
    | [] => (r, 0, [])
    | t :: _ =>
      let v := vel t.S
      if mx (mx (mx v.1 (-v.1)) v.2) (-v.2) < 400 then fail r else succeed r (smp e) 1
def certain (r : Rec) : Bool × Bool :=
  match r.Ts with
  | [] => (false, false)
  | [t] =>
    if r.Kind = 7 then (false, false)
    else
      let dx := size ((latest t).X - t.F.X)
      let dy := size ((latest t).Y - t.F.Y)
      if r.Kind = 4 then (let c := decide (8 < dx ∧ dy ≤ dx); (c, !c && decide (8 < dy)))
      else if r.Kind = 5 then (let c := decide (8 < dy ∧ dx < dy); (c, !c && decide (8 < dx)))
      else (decide (8 < mx dx dy), false)
  | t :: u :: _ => (decide (8 < size (dist (latest t) (latest u) - mx (dist t.F u.F) 1)), false)
def slide (r : Rec) (e : Ev) : Rec × Int × List Ges :=
  let moving : Bool := decide (r.State = 3 ∧ r.Count = 1)
  if e.Kind = 3 then
    if moving then (over r, 0, [stageG r 4]) else fail r
  else if moving then (r, 0, [stageG r 3])
  else if r.State = 1 ∨ r.State = 3 then
    let c := certain r
    if c.2 then fail r
    else if c.1 then
      if r.State = 1 then ({ r with State := 2 }, 1, [])
      else ({ r with Count := 1 }, 0, [stageG r 2, stageG r 3])
    else (r, 0, [])
  else (r, 0, [])
def process (r : Rec) (e : Ev) : Rec × Int × List Ges :=
  if e.Kind = 5 then (r, 0, [])
  else match find r.Ts e.ID with
    | none => if e.Kind = 1 then down r e else (r, 0, [])
    | some i =>
      if e.Kind = 1 then (r, 0, [])
      else if e.Kind = 4 then (if r.State = 3 then (let q := abort r; (q.1, 0, q.2)) else fail r)
      else
        let r := { r with Ts := follow r.Ts i (smp e) }
        if r.Kind ≤ 3 then still r e
        else if r.Kind = 8 then throw_ r e
        else slide r e
def feed (r : Rec) (e : Ev) : Rec × Int × List Ges :=
  if !valid e || deaf r then (r, 0, [])
  else if r.Kind ≤ 2 then
    match r.Ts with
    | t :: _ => if 300 < e.Time - t.F.T then fail r else process r e
    | [] => if r.Kind = 2 ∧ r.Count = 1 ∧ 300 < e.Time - r.L.T then fail r else process r e
  else if r.Kind = 3 then
    match r.Ts with
    | t :: _ => if e.Time - t.F.T < 500 then process r e else succeed r ⟨t.F.X, t.F.Y, e.Time⟩ 1
    | [] => process r e
  else process r e

/-- what holds of each touch -/
structure TOk (t : Tch) : Prop where
  f : placed t.F = true
  id : btw t.ID 1 1000 = true
  ne : t.S ≠ []
  len : t.S.length ≤ 8
  s : ∀ s, s ∈ t.S → placed s = true
/-- what holds of each recogniser that New, Feed, Win, Lose and Abort bring forth -/
structure ROk (r : Rec) : Prop where
  kind : 1 ≤ r.Kind ∧ r.Kind ≤ 8
  node : 1 ≤ r.Node ∧ r.Node ≤ 1099511627776
  state : 0 ≤ r.State ∧ r.State ≤ 4
  count : 0 ≤ r.Count ∧ r.Count ≤ 1
  last : placed r.L = true
  len : r.Ts.length ≤ room r.Kind
  ts : ∀ t, t ∈ r.Ts → TOk t
  over : r.State = 4 → r.Ts = []
  sure : cont r.Kind = true → (r.State = 2 ∨ (r.State = 3 ∧ r.Count = 1)) → r.Ts.length = room r.Kind

theorem velOk_of (l : List Smp) (h : ∀ j, j < l.length → good l j = true) : velOk l = true := by
  simp only [velOk, List.all_eq_true, List.mem_range]; exact h
theorem velOk_not (l : List Smp) (k : Nat) (hk : k < l.length) (h : good l k = false) : velOk l = false := by
  simp only [velOk, List.all_eq_false, List.mem_range]; exact ⟨k, hk, by simp [h]⟩
theorem find_of (l : List Smp) (p : Smp → Bool) (k : Nat) (hk : k < l.length) (h : ∀ j, j < k → p (nth l j) = false) (h2 : p (nth l k) = true) : l.find? p = some (nth l k) := by
  rw [List.find?_eq_some_iff_getElem]
  refine ⟨h2, k, hk, (nth_eq l k hk).symm, fun j hj => ?_⟩
  have := h j hj
  rw [nth_eq l j (by omega)] at this
  simpa using this
theorem find_none (l : List Smp) (p : Smp → Bool) (h : ∀ j, j < l.length → p (nth l j) = false) : l.find? p = none := by
  rw [List.find?_eq_none]
  intro x hx
  obtain ⟨j, hj, rfl⟩ := List.mem_iff_getElem.1 hx
  have := h j hj
  rw [nth_eq l j hj] at this
  simpa using this
theorem vel_bad (l : List Smp) (h : velOk l = false) : vel l = (0, 0) := by
  unfold vel; cases l.getLast? <;> simp [h]
theorem last_eq (l : List Smp) (h : 0 < l.length) : l.getLast? = some (nth l (l.length - 1)) := by
  rw [List.getLast?_eq_getElem?, nth_eq l _ (by omega), List.getElem?_eq_getElem (show l.length - 1 < l.length by omega)]
theorem vel_ok (l : List Smp) (hl : 0 < l.length) (h : velOk l = true) (f : Smp) (hf : (l.find? fun s => decide ((nth l (l.length - 1)).T - 100 ≤ s.T)).getD (nth l (l.length - 1)) = f) :
    vel l = (fl (1000 * ((nth l (l.length - 1)).X - f.X)) ((nth l (l.length - 1)).T - f.T), fl (1000 * ((nth l (l.length - 1)).Y - f.Y)) ((nth l (l.length - 1)).T - f.T)) := by
  unfold vel; rw [last_eq l hl]; simp only [h, if_true]; subst hf; rfl
theorem good_placed (l : List Smp) (k : Nat) (h : good l k = true) : placed (nth l k) = true := by
  simp [good] at h; exact h.1
theorem placed_bd {s : Smp} (h : placed s = true) : -1048576 ≤ s.X ∧ s.X ≤ 1048576 ∧ -1048576 ≤ s.Y ∧ s.Y ≤ 1048576 ∧ 0 ≤ s.T ∧ s.T ≤ 1099511627776 := by
  simp [placed, btw] at h; omega
theorem velOk_good (l : List Smp) (h : velOk l = true) : ∀ j, j < l.length → good l j = true := by
  simpa only [velOk, List.all_eq_true, List.mem_range] using h
/-- with all samples good the times rise -/
theorem times_le (l : List Smp) (h : velOk l = true) (i j : Nat) (hij : i ≤ j) (hj : j < l.length) : (nth l i).T ≤ (nth l j).T := by
  induction j with
  | zero => obtain rfl : i = 0 := by omega
            exact Int.le_refl _
  | succ j ih =>
    by_cases hi : i = j + 1
    · subst hi; exact Int.le_refl _
    · have h1 := ih (by omega) (by omega)
      have h2 := velOk_good l h (j + 1) hj
      simp only [good, Bool.and_eq_true, Bool.or_eq_true, decide_eq_true_eq, Bool.not_eq_true', decide_eq_false_iff_not] at h2
      have h3 := h2.2
      simp only [Nat.add_sub_cancel] at h3
      omega
end Go.Proofs.Ytendgmnbnnkpnaa.G
namespace Go.Proofs.Ytendgmnbnnkpnaa.G
open Go.RowKit
structure EvAt (w : World) (b o : Nat) (e : Ev) : Prop where
  c0 : w.cell? ⟨b, o, none⟩ = some (.int .i64 e.Kind)
  c1 : w.cell? ⟨b, o + 1, none⟩ = some (.int .i64 e.ID)
  c2 : w.cell? ⟨b, o + 2, none⟩ = some (.int .i64 e.X)
  c3 : w.cell? ⟨b, o + 3, none⟩ = some (.int .i64 e.Y)
  c4 : w.cell? ⟨b, o + 4, none⟩ = some (.int .i64 e.Time)
  c5 : w.cell? ⟨b, o + 5, none⟩ = some (.int .i64 e.Wheel)
theorem EvAt.ext {w w' : World} {b o : Nat} {e : Ev} (h : EvAt w b o e) (he : Ext w w') : EvAt w' b o e :=
  ⟨he.cell_some h.c0, he.cell_some h.c1, he.cell_some h.c2, he.cell_some h.c3, he.cell_some h.c4, he.cell_some h.c5⟩
theorem EvAt.lt {w : World} {b o : Nat} {e : Ev} (h : EvAt w b o e) : b < w.heap.size := World.block_lt_of_cell? w ⟨b, o, none⟩ h.c0
def EvsAt (w : World) (b off : Nat) (l : List Ev) : Prop := ∀ i e, l[i]? = some e → EvAt w b (off + i * 6) e
end Go.Proofs.Ytendgmnbnnkpnaa.G
namespace Go.Proofs.Ytendgmnbnnkpnaa.G
open Go.RowKit

theorem fl_pos (a b : Int) (h : 0 ≤ a.tmod b) : a.tdiv b = fl a b := by
  unfold fl
  rw [Int.tdiv_eq_ediv]
  have : 0 ≤ a ∨ b ∣ a := by
    by_cases ha : 0 ≤ a
    · exact .inl ha
    · right
      have h3 : a.tmod b ≤ 0 := by
        have h4 := Int.tmod_nonneg b (a := -a) (by omega)
        rw [Int.neg_tmod] at h4; omega
      exact Int.dvd_of_tmod_eq_zero (by omega)
  simp [this]
theorem fl_neg (a b : Int) (h1 : -1152921504606846976 ≤ a) (h1' : a ≤ 1152921504606846976) (h2 : 1 ≤ b) (h : a.tmod b < 0) : wrap64 (a.tdiv b - 1) = fl a b := by
  have ha : a < 0 := by
    by_cases ha : 0 ≤ a
    · have := Int.tmod_nonneg b ha; omega
    · omega
  have hd : ¬ b ∣ a := fun hd => by rw [Int.tmod_eq_zero_of_dvd hd] at h; omega
  have e : a.tdiv b - 1 = a / b := by
    rw [Int.tdiv_eq_ediv, if_neg (by omega), Int.sign_eq_one_of_pos (by omega)]; omega
  rw [e]
  unfold fl
  have h5 : a / b ≤ 0 := by
    have := Int.ediv_neg_of_neg_of_pos ha (show 0 < b by omega); omega
  have h6 : a ≤ a / b := by
    have h7 : b * (a / b) + a % b = a := Int.mul_ediv_add_emod a b
    have h8 : 0 ≤ a % b := Int.emod_nonneg a (by omega)
    have h9 : a % b < b := Int.emod_lt_of_pos a (by omega)
    have h10 : a / b * b ≤ a / b * 1 := Int.mul_le_mul_of_nonpos_left h5 h2
    have h11 : a / b * b ≤ a := by rw [Int.mul_comm] at h7; omega
    by_cases h12 : a ≤ a / b
    · exact h12
    · have h13 : a / b ≤ a - 1 := by omega
      have h14 : b * (a / b) ≤ 1 * (a / b) := Int.mul_le_mul_of_nonpos_right h2 h5
      have h15 : b * (a / b) = a - a % b := by omega
      have h16 : b * (a / b) ≤ b * (a - 1) := Int.mul_le_mul_of_nonneg_left h13 (by omega)
      have h17 : b * (a - 1) ≤ 1 * (a - 1) := Int.mul_le_mul_of_nonpos_right h2 (by omega)
      have h18 : b * (a - 1) = b * a - b := by rw [Int.mul_sub]; omega
      have h19 : b * a ≤ 1 * a := Int.mul_le_mul_of_nonpos_right h2 (by omega)
      omega
  exact IntWalk.wrap64_in _ (by omega)

set_option maxHeartbeats 400000 in
theorem between_any (x lo hi : Int) (w : World) :
    Calls Try.prog 30 #[.int .i64 x, .int .i64 lo, .int .i64 hi] w fun e w' => e = .returned (.bool (btw x lo hi)) ∧ w = w' := by
  go_enter Try.func30, Try.ntmps30
  go_wp2
  all_goals (go_ret; simp [btw]; try omega)

set_option maxHeartbeats 400000 in
theorem placed_any (x y t : Int) (w : World) :
    Calls Try.prog 40 #[.agg #[.int .i64 x, .int .i64 y, .int .i64 t]] w fun e w' => e = .returned (.bool (placed ⟨x, y, t⟩)) ∧ Ext w w' := by
  go_enter Try.func40, Try.ntmps40
  go_wp2_with (go_at_call 30; refine (between_any _ _ _ _).mono ?_; rintro e w' ⟨rfl, rfl⟩)
  all_goals (go_ret; refine ⟨by simp_all [placed], ?_⟩; (repeat (first | exact Ext.refl _ | assumption | refine Ext.alloc ?_ _ | refine Ext.ext ?_ _ | refine Ext.drew ?_)))

set_option maxHeartbeats 400000 in
theorem sample_any (k i x y t wh : Int) (w : World) :
    Calls Try.prog 53 #[.agg #[.int .i64 k, .int .i64 i, .int .i64 x, .int .i64 y, .int .i64 t, .int .i64 wh]] w fun e w' => e = .returned (.agg #[.int .i64 x, .int .i64 y, .int .i64 t]) ∧ Ext w w' := by
  go_enter Try.func53, Try.ntmps53
  go_wp2
  (refine bodyPost_ret (v := ?_) (by simp [results, Try.results53, go_sem]; rfl) rfl ?_)
  refine ⟨rfl, ?_⟩
  (repeat (first | exact Ext.refl _ | assumption | refine Ext.alloc ?_ _ | refine Ext.ext ?_ _ | refine Ext.drew ?_))

set_option maxHeartbeats 400000 in
theorem valid_any (k i x y t wh : Int) (w : World) :
    Calls Try.prog 33 #[.agg #[.int .i64 k, .int .i64 i, .int .i64 x, .int .i64 y, .int .i64 t, .int .i64 wh]] w fun e w' => e = .returned (.bool (valid ⟨k, i, x, y, t, wh⟩)) ∧ Ext w w' := by
  by_cases hk : k = 5
  · subst hk
    go_enter Try.func33, Try.ntmps33
    go_wp2_with (go_at_call 30; refine (between_any _ _ _ _).mono ?_; rintro e w' ⟨rfl, rfl⟩)
    go_ret; refine ⟨by simp [valid], ?_⟩; (repeat (first | exact Ext.refl _ | assumption | refine Ext.alloc ?_ _ | refine Ext.ext ?_ _ | refine Ext.drew ?_))
  · have hk' : (k == 5) = false := by simpa using hk
    go_enter Try.func33, Try.ntmps33
    go_wp2_with (first | (go_at_call 30; refine (between_any _ _ _ _).mono ?_; rintro e w' ⟨rfl, rfl⟩) | (go_at_call 53; refine (sample_any _ _ _ _ _ _ _).mono ?_; rintro e w' ⟨rfl, d, rfl⟩) | (go_at_call 40; refine (placed_any _ _ _ _).mono ?_; rintro e w' ⟨rfl, d, rfl⟩))
    all_goals (go_ret; refine ⟨by simp_all [valid], ?_⟩; (repeat (first | exact Ext.refl _ | assumption | refine Ext.alloc ?_ _ | refine Ext.ext ?_ _ | refine Ext.drew ?_)))

set_option maxHeartbeats 400000 in
theorem distance_any (x y t x' y' t' : Int) (w : World) (h1 : -2097152 ≤ x - x' ∧ x - x' ≤ 2097152) (h2 : -2097152 ≤ y - y' ∧ y - y' ≤ 2097152) :
    Calls Try.prog 83 #[.agg #[.int .i64 x, .int .i64 y, .int .i64 t], .agg #[.int .i64 x', .int .i64 y', .int .i64 t']] w fun e w' => e = .returned (.int .i64 (dist ⟨x, y, t⟩ ⟨x', y', t'⟩)) ∧ Ext w w' := by
  go_enter Try.func83, Try.ntmps83
  go_wp2
  (refine wp_region_ext (by kernel_rfl) (by kernel_rfl) ?_; (repeat (go_big_quiet_step ((fail)))); refine wpQuiet_nil ?_; intro _ hwq; obtain ⟨dq, hwq⟩ := hwq; subst hwq)
  go_wp2
  go_ret
  refine ⟨by simp [dist], ?_⟩
  (repeat (first | exact Ext.refl _ | assumption | refine Ext.alloc ?_ _ | refine Ext.ext ?_ _ | refine Ext.drew ?_))

set_option maxHeartbeats 400000 in
theorem ok_any (a b : Int) (w : World) (h1 : -1152921504606846976 ≤ a) (h1' : a ≤ 1152921504606846976) (h2 : 0 ≤ b) (h3 : b ≤ 1152921504606846976) :
    Calls Try.prog 67 #[.int .i64 a, .int .i64 b] w fun e w' => e = .returned (.bool (decide (0 < b))) ∧ w = w' := by
  go_enter Try.func67, Try.ntmps67
  go_wp2
  all_goals (go_ret; simp; try first | omega | (rw [Bool.eq_iff_iff]; simp; omega))

set_option maxHeartbeats 400000 in
theorem floor1_any (a b : Int) (w : World) (h1 : -1152921504606846976 ≤ a) (h1' : a ≤ 1152921504606846976) (h2 : 1 ≤ b) (h3 : b ≤ 1152921504606846976) :
    Calls Try.prog 68 #[.int .i64 a, .int .i64 b] w fun e w' => e = .returned (.int .i64 (fl a b)) ∧ w = w' := by
  go_enter Try.func68, Try.ntmps68
  go_wp2
  · go_ret
    refine ⟨?_, rfl⟩
    show Ending.returned (.int .i64 (wrap64 (a.tdiv b - 1))) = _
    rw [fl_neg a b h1 h1' h2 ‹_›]
  · go_ret
    refine ⟨?_, rfl⟩
    show Ending.returned (.int .i64 (a.tdiv b)) = _
    rw [fl_pos a b ‹_›]

set_option maxHeartbeats 400000 in
theorem floor_any (a b : Int) (w : World) (h1 : -1152921504606846976 ≤ a) (h1' : a ≤ 1152921504606846976) (h2 : 0 ≤ b) (h3 : b ≤ 1152921504606846976) :
    Calls Try.prog 41 #[.int .i64 a, .int .i64 b] w fun e w' => e = .returned (.int .i64 (fl a b)) ∧ w = w' := by
  by_cases hb : 0 < b
  · have hd : decide (0 < b) = true := by simpa using hb
    go_enter Try.func41, Try.ntmps41
    go_wp2_with (first | (go_at_call 67; refine (ok_any _ _ _ h1 h1' h2 h3).mono ?_; rintro e w' ⟨rfl, rfl⟩) | (go_at_call 68; refine (floor1_any _ _ _ h1 h1' (by omega) h3).mono ?_; rintro e w' ⟨rfl, rfl⟩))
    all_goals (go_ret; exact ⟨rfl, rfl⟩)
  · have hd : decide (0 < b) = false := by simpa using hb
    go_enter Try.func41, Try.ntmps41
    go_wp2_with (first | (go_at_call 67; refine (ok_any _ _ _ h1 h1' h2 h3).mono ?_; rintro e w' ⟨rfl, rfl⟩))
    all_goals (go_ret; refine ⟨?_, rfl⟩; have : b = 0 := by omega
               subst this; simp [fl])

theorem floor_x (a b : Int) (w : World) (h1 : -1152921504606846976 ≤ a) (h1' : a ≤ 1152921504606846976) (h2 : 0 ≤ b) (h3 : b ≤ 1152921504606846976) :
    Calls Try.prog 41 #[.int .i64 a, .int .i64 b] w fun e w' => e = .returned (.int .i64 (fl a b)) ∧ Ext w w' :=
  (floor_any a b w h1 h1' h2 h3).mono fun _ _ ⟨h, hw⟩ => ⟨h, hw ▸ Ext.refl _⟩

set_option maxHeartbeats 400000 in
theorem size_any (a : Int) (w : World) (h1 : -1152921504606846976 ≤ a) (h1' : a ≤ 1152921504606846976)  :
    Calls Try.prog 93 #[.int .i64 a] w fun e w' => e = .returned (.int .i64 (size a)) ∧ w = w' := by
  go_enter Try.func93, Try.ntmps93
  go_wp2
  go_ret
  exact ⟨rfl, rfl⟩

set_option maxHeartbeats 400000 in
theorem cont_any (a : Int) (w : World) :
    Calls Try.prog 34 #[.int .i64 a] w fun e w' => e = .returned (.bool (cont a)) ∧ w = w' := by
  go_enter Try.func34, Try.ntmps34
  go_wp2_with (go_at_call 30; refine (between_any _ _ _ _).mono ?_; rintro e w' ⟨rfl, rfl⟩)
  go_ret
  exact ⟨rfl, rfl⟩

set_option maxHeartbeats 400000 in
theorem room_any (a : Int) (w : World) :
    Calls Try.prog 91 #[.int .i64 a] w fun e w' => e = .returned (.int .i64 (room a)) ∧ w = w' := by
  go_enter Try.func91, Try.ntmps91
  go_wp2
  all_goals (go_ret; refine ⟨?_, rfl⟩; simp_all [room])

set_option maxHeartbeats 400000 in
theorem New_ok (kind node : Int) (w : World) (h1 : btw kind 1 8 = true) (h3 : btw node 1 1099511627776 = true) :
    Calls Try.prog 13 #[.int .i64 kind, .int .i64 node] w fun e w' => e = .returned (.tuple #[.agg #[.int .i64 kind, .int .i64 node, .int .i64 0, .int .i64 0, .slice none 0 0, .int .i64 0, .int .i64 0, .int .i64 0], .int .i64 0]) ∧ Ext w w' := by
  go_enter Try.func13, Try.ntmps13
  go_wp2_with (go_at_call 30; refine (between_any _ _ _ _).mono ?_; rintro e w' ⟨rfl, rfl⟩)
  (refine bodyPost_ret (v := ?_) (by simp [results, Try.results13, go_sem]; rfl) rfl ?_)
  refine ⟨rfl, ?_⟩
  (repeat (first | exact Ext.refl _ | assumption | refine Ext.alloc ?_ _ | refine Ext.ext ?_ _ | refine Ext.drew ?_))
set_option maxHeartbeats 400000 in
theorem New_kind (kind node : Int) (w : World) (h1 : btw kind 1 8 = false) :
    Calls Try.prog 13 #[.int .i64 kind, .int .i64 node] w fun e w' => e = .returned (.tuple #[.agg #[.int .i64 0, .int .i64 0, .int .i64 0, .int .i64 0, .slice none 0 0, .int .i64 0, .int .i64 0, .int .i64 0], .int .i64 9]) ∧ Ext w w' := by
  go_enter Try.func13, Try.ntmps13
  go_wp2_with (go_at_call 30; refine (between_any _ _ _ _).mono ?_; rintro e w' ⟨rfl, rfl⟩)
  (refine bodyPost_ret (v := ?_) (by simp [results, Try.results13, go_sem]; rfl) rfl ?_)
  refine ⟨rfl, ?_⟩
  (repeat (first | exact Ext.refl _ | assumption | refine Ext.alloc ?_ _ | refine Ext.ext ?_ _ | refine Ext.drew ?_))
set_option maxHeartbeats 400000 in
theorem New_range (kind node : Int) (w : World) (h1 : btw kind 1 8 = true) (h3 : btw node 1 1099511627776 = false) :
    Calls Try.prog 13 #[.int .i64 kind, .int .i64 node] w fun e w' => e = .returned (.tuple #[.agg #[.int .i64 0, .int .i64 0, .int .i64 0, .int .i64 0, .slice none 0 0, .int .i64 0, .int .i64 0, .int .i64 0], .int .i64 1]) ∧ Ext w w' := by
  go_enter Try.func13, Try.ntmps13
  go_wp2_with (go_at_call 30; refine (between_any _ _ _ _).mono ?_; rintro e w' ⟨rfl, rfl⟩)
  (refine bodyPost_ret (v := ?_) (by simp [results, Try.results13, go_sem]; rfl) rfl ?_)
  refine ⟨rfl, ?_⟩
  (repeat (first | exact Ext.refl _ | assumption | refine Ext.alloc ?_ _ | refine Ext.ext ?_ _ | refine Ext.drew ?_))
end Go.Proofs.Ytendgmnbnnkpnaa.G
namespace Go.Proofs.Ytendgmnbnnkpnaa.G
open Go.RowKit

/-- a sample lies at a place -/
def SmpAt (w : World) (b o : Nat) (s : Smp) : Prop :=
  w.cell? ⟨b, o, none⟩ = some (.int .i64 s.X) ∧ w.cell? ⟨b, o + 1, none⟩ = some (.int .i64 s.Y) ∧ w.cell? ⟨b, o + 2, none⟩ = some (.int .i64 s.T)
/-- samples lie in a row -/
def SsAt (w : World) (b off : Nat) (l : List Smp) : Prop := ∀ i, i < l.length → SmpAt w b (off + i * 3) (nth l i)
theorem SsAt.lt {w : World} {b off : Nat} {l : List Smp} (h : SsAt w b off l) (hl : 0 < l.length) : b < w.heap.size :=
  World.block_lt_of_cell? w ⟨b, off + 0 * 3, none⟩ (h 0 hl).1
theorem SsAt.ext {w w' : World} {b off : Nat} {l : List Smp} (h : SsAt w b off l) (he : Ext w w') : SsAt w' b off l :=
  fun i hi => ⟨he.cell_some (h i hi).1, he.cell_some (h i hi).2.1, he.cell_some (h i hi).2.2⟩

theorem placed_yes (x y t : Int) (w : World) (h : placed ⟨x, y, t⟩ = true) :
    Calls Try.prog 40 #[.agg #[.int .i64 x, .int .i64 y, .int .i64 t]] w fun e w' => e = .returned (.bool true) ∧ Ext w w' := by
  have := placed_any x y t w; rw [h] at this; exact this
theorem placed_no (x y t : Int) (w : World) (h : placed ⟨x, y, t⟩ = false) :
    Calls Try.prog 40 #[.agg #[.int .i64 x, .int .i64 y, .int .i64 t]] w fun e w' => e = .returned (.bool false) ∧ Ext w w' := by
  have := placed_any x y t w; rw [h] at this; exact this

set_option maxHeartbeats 400000 in
theorem latest_any (i x y t : Int) (cap b off : Nat) (l : List Smp) (w : World) (hpos : 0 < l.length) (hl : l.length ≤ 4611686018427387904) (hs : SsAt w b off l) :
    Calls Try.prog 65 #[.agg #[.int .i64 i, .int .i64 x, .int .i64 y, .int .i64 t, .slice (some ⟨b, off, none⟩) l.length cap]] w fun e w' =>
      e = .returned (.agg #[.int .i64 (nth l (l.length - 1)).X, .int .i64 (nth l (l.length - 1)).Y, .int .i64 (nth l (l.length - 1)).T]) ∧ Ext w w' := by
  obtain ⟨c0, c1, c2⟩ := hs (l.length - 1) (by omega)
  have hb := hs.lt hpos
  generalize nth l (l.length - 1) = s at *
  generalize l.length = n at *
  clear hs
  go_enter Try.func65, Try.ntmps65
  go_wp2
  (refine bodyPost_ret (v := ?_) (by simp [results, Try.results65, go_sem]; rfl) rfl ?_)
  refine ⟨rfl, ?_⟩
  (repeat (first | exact Ext.refl _ | assumption | refine Ext.alloc ?_ _ | refine Ext.ext ?_ _ | refine Ext.drew ?_))

set_option maxHeartbeats 400000 in
theorem vel_nil (a : Option Addr) (cap : Nat) (w : World) :
    Calls Try.prog 24 #[.slice a 0 cap] w fun e w' => e = .returned (.tuple #[.int .i64 0, .int .i64 0]) ∧ Ext w w' := by
  go_enter Try.func24, Try.ntmps24
  go_wp2
  go_ret2
  refine ⟨rfl, ?_⟩
  (repeat (first | exact Ext.refl _ | assumption | refine Ext.alloc ?_ _ | refine Ext.ext ?_ _ | refine Ext.drew ?_))

set_option maxHeartbeats 1000000 in
theorem vel_any (cap b off : Nat) (l : List Smp) (w : World) (hpos : 0 < l.length) (hl : l.length ≤ 4611686018427387904) (hs : SsAt w b off l) :
    Calls Try.prog 24 #[.slice (some ⟨b, off, none⟩) l.length cap] w fun e w' =>
      e = .returned (.tuple #[.int .i64 (vel l).1, .int .i64 (vel l).2]) ∧ Ext w w' := by
  have hb := hs.lt hpos
  have hn : ((l.length : Int) == 0) = false := by simp; intro h; simp [h] at hpos
  go_enter Try.func24, Try.ntmps24
  go_wp2
  go_loopw [16] (fun i wr => ∃ k : Nat, k ≤ l.length ∧ i = .int .i64 k ∧ Ext w wr ∧ Hid (∀ j, j < k → good l j = true)) (fun i _ => l.length - (intOf i).toNat)
  case atStart => exact ⟨0, Nat.zero_le _, rfl, Ext.refl _, fun j hj => absurd hj (by omega)⟩
  case round =>
    obtain ⟨k, hk, rfl, ⟨d, rfl⟩, hg⟩ := hrel
    by_cases hlt : k < l.length
    · obtain ⟨c0, c1, c2⟩ := hs k hlt
      cases hp : placed (nth l k)
      · -- not placed
        have hbad : Hid (velOk l = false) := velOk_not l k hlt (by simp [good, hp])
        generalize nth l k = s at *
        go_wp2
        (refine wp_region_ext (by kernel_rfl) (by kernel_rfl) ?_; (repeat (go_big_quiet_step ((go_at_call 40; exact Calls.quiet_ext (placed_no _ _ _ _ hp))))); refine wpQuiet_nil ?_; intro _ hwq; obtain ⟨dq, hwq⟩ := hwq; subst hwq)
        go_wp2
        go_ret2
        refine ⟨?_, ?_⟩
        · rw [vel_bad l hbad.out]; rfl
        · (repeat (first | exact Ext.refl _ | assumption | refine Ext.alloc ?_ _ | refine Ext.ext ?_ _ | refine Ext.drew ?_))
      · by_cases hk0 : k = 0
        · have hgk : Hid (∀ j, j < k + 1 → good l j = true) := fun j hj => by
            obtain rfl : j = k := by omega
            unfold good; rw [hp]; simp [hk0]
          clear hg
          generalize nth l k = s at *
          have hk1 : decide (0 < k) = false := by simp; omega
          have hk2 : k < 1 := by omega
          clear hk0
          go_wp2
          (refine wp_region_ext (by kernel_rfl) (by kernel_rfl) ?_; (repeat (go_big_quiet_step ((go_at_call 40; exact Calls.quiet_ext (placed_yes _ _ _ _ hp))))); refine wpQuiet_nil ?_; intro _ hwq; obtain ⟨dq, hwq⟩ := hwq; subst hwq)
          go_wp2
          go_roundw
          case rel => exact ⟨k + 1, by omega, by go_num, (by (repeat (first | exact Ext.refl _ | assumption | refine Ext.alloc ?_ _ | refine Ext.ext ?_ _ | refine Ext.drew ?_))), hgk⟩
          case measure => simp [intOf]; omega
        · have hk1 : 0 < k := by omega
          have hk2 : decide (0 < k) = true := by simp; omega
          obtain ⟨_, _, e2⟩ := hs (k - 1) (by omega)
          by_cases hlate : (nth l k).T < (nth l (k - 1)).T
          · have hbad : Hid (velOk l = false) := velOk_not l k hlt (by simp [good, hp, hk0, hlate])
            clear hg
            generalize nth l k = s at *
            generalize nth l (k - 1) = s' at *
            go_wp2
            (refine wp_region_ext (by kernel_rfl) (by kernel_rfl) ?_; (repeat (go_big_quiet_step ((go_at_call 40; exact Calls.quiet_ext (placed_yes _ _ _ _ hp))))); refine wpQuiet_nil ?_; intro _ hwq; obtain ⟨dq, hwq⟩ := hwq; subst hwq)
            go_wp2
            go_ret2
            refine ⟨?_, ?_⟩
            · rw [vel_bad l hbad.out]; rfl
            · (repeat (first | exact Ext.refl _ | assumption | refine Ext.alloc ?_ _ | refine Ext.ext ?_ _ | refine Ext.drew ?_))
          · have hgk : Hid (∀ j, j < k + 1 → good l j = true) := fun j hj => by
              by_cases hj' : j < k
              · exact hg j hj'
              · obtain rfl : j = k := by omega
                simp only [good, hp, Bool.true_and, Bool.or_eq_true, Bool.not_eq_true', decide_eq_false_iff_not]
                exact .inr hlate
            clear hg
            generalize nth l k = s at *
            generalize nth l (k - 1) = s' at *
            go_wp2
            (refine wp_region_ext (by kernel_rfl) (by kernel_rfl) ?_; (repeat (go_big_quiet_step ((go_at_call 40; exact Calls.quiet_ext (placed_yes _ _ _ _ hp))))); refine wpQuiet_nil ?_; intro _ hwq; obtain ⟨dq, hwq⟩ := hwq; subst hwq)
            go_wp2
            go_roundw
            case rel => exact ⟨k + 1, by omega, by go_num, (by (repeat (first | exact Ext.refl _ | assumption | refine Ext.alloc ?_ _ | refine Ext.ext ?_ _ | refine Ext.drew ?_))), hgk⟩
            case measure => simp [intOf]; omega
    · obtain rfl : k = l.length := by omega
      obtain ⟨c0, c1, c2⟩ := hs (l.length - 1) (by omega)
      have hv : Hid (velOk l = true) := velOk_of l hg
      have hlb := placed_bd (good_placed l _ (hg (l.length - 1) (by omega)))
      have hvel : Hid (∀ f, (l.find? fun s => decide ((nth l (l.length - 1)).T - 100 ≤ s.T)).getD (nth l (l.length - 1)) = f → vel l = (fl (1000 * ((nth l (l.length - 1)).X - f.X)) ((nth l (l.length - 1)).T - f.T), fl (1000 * ((nth l (l.length - 1)).Y - f.Y)) ((nth l (l.length - 1)).T - f.T))) := fun f hf => vel_ok l hpos (velOk_of l hg) f hf
      have htm : Hid (∀ k, k < l.length → (nth l k).T ≤ (nth l (l.length - 1)).T) := fun k hk => times_le l (velOk_of l hg) _ _ (by omega) (by omega)
      clear hg hlt hk
      generalize nth l (l.length - 1) = z at *
      go_wp2
      go_loopw [49] (fun i wr => ∃ k : Nat, k ≤ l.length ∧ i = .int .i64 k ∧ Ext (((w.ext d).alloc (Obj.cells #[.int .i64 z.X, .int .i64 z.Y, .int .i64 z.T] 24)).alloc (Obj.cells #[.int .i64 z.X, .int .i64 z.Y, .int .i64 z.T] 24)) wr ∧ Hid (∀ j, j < k → decide (z.T - 100 ≤ (nth l j).T) = false)) (fun i _ => l.length - (intOf i).toNat)
      case atStart => exact ⟨0, Nat.zero_le _, rfl, Ext.refl _, fun j hj => absurd hj (by omega)⟩
      case round =>
        obtain ⟨k, hk, rfl, ⟨d', rfl⟩, hg⟩ := hrel
        by_cases hlt : k < l.length
        · obtain ⟨c0, c1, c2⟩ := hs k hlt
          have hkb := placed_bd (good_placed l _ (velOk_good l hv.out k hlt))
          have hkt := htm k hlt
          by_cases hh : z.T - 100 ≤ (nth l k).T
          · have hfin := hvel (nth l k) (by rw [find_of l (fun s => decide (z.T - 100 ≤ s.T)) k hlt hg (by simpa using hh)]; rfl)
            clear hvel htm hg
            replace hfin := Lib.hid hfin
            generalize nth l k = s at *
            go_wp2
            (refine wp_region_ext (by kernel_rfl) (by kernel_rfl) ?_; (repeat (go_big_quiet_step ((go_at_call 41; exact Calls.quiet_same (floor_any _ _ _ (by omega) (by omega) (by omega) (by omega)))))); refine wpQuiet_nil ?_; intro _ hwq; obtain ⟨dq, hwq⟩ := hwq; subst hwq)
            go_wp2
            go_ret2
            refine ⟨?_, ?_⟩
            · rw [hfin.out]; rfl
            · (repeat (first | exact Ext.refl _ | assumption | refine Ext.alloc ?_ _ | refine Ext.ext ?_ _ | refine Ext.drew ?_))
          · have hgk : Hid (∀ j, j < k + 1 → decide (z.T - 100 ≤ (nth l j).T) = false) := fun j hj => by
              by_cases hj' : j < k
              · exact hg j hj'
              · obtain rfl : j = k := by omega
                simpa using hh
            clear hg hvel htm
            generalize nth l k = s at *
            go_wp2
            go_roundw
            case rel => exact ⟨k + 1, by omega, by go_num, (by (repeat (first | exact Ext.refl _ | assumption | refine Ext.alloc ?_ _ | refine Ext.ext ?_ _ | refine Ext.drew ?_))), hgk⟩
            case measure => simp [intOf]; omega
        · obtain rfl : k = l.length := by omega
          have hfin := hvel z (by rw [find_none l (fun s => decide (z.T - 100 ≤ s.T)) hg]; rfl)
          clear hvel htm hg
          replace hfin := Lib.hid hfin
          go_wp2
          (refine wp_region_ext (by kernel_rfl) (by kernel_rfl) ?_; (repeat (go_big_quiet_step ((go_at_call 41; exact Calls.quiet_same (floor_any _ _ _ (by omega) (by omega) (by omega) (by omega)))))); refine wpQuiet_nil ?_; intro _ hwq; obtain ⟨dq, hwq⟩ := hwq; subst hwq)
          go_wp2
          go_ret2
          refine ⟨?_, ?_⟩
          · rw [hfin.out]; simp only [Int.sub_self, Int.mul_zero]; rfl
          · (repeat (first | exact Ext.refl _ | assumption | refine Ext.alloc ?_ _ | refine Ext.ext ?_ _ | refine Ext.drew ?_))
end Go.Proofs.Ytendgmnbnnkpnaa.G
namespace Go.Proofs.Ytendgmnbnnkpnaa.G
open Go.RowKit

/-- a touch lies at a place; its samples lie at (sb, so) -/
structure TchAt (w : World) (b o : Nat) (t : Tch) (sb so cap : Nat) : Prop where
  c0 : w.cell? ⟨b, o, none⟩ = some (.int .i64 t.ID)
  c1 : w.cell? ⟨b, o + 1, none⟩ = some (.int .i64 t.F.X)
  c2 : w.cell? ⟨b, o + 2, none⟩ = some (.int .i64 t.F.Y)
  c3 : w.cell? ⟨b, o + 3, none⟩ = some (.int .i64 t.F.T)
  c4 : w.cell? ⟨b, o + 4, none⟩ = some (.slice (some ⟨sb, so, none⟩) t.S.length cap)
  ss : SsAt w sb so t.S
theorem TchAt.lt {w : World} {b o : Nat} {t : Tch} {sb so cap : Nat} (h : TchAt w b o t sb so cap) : b < w.heap.size := World.block_lt_of_cell? w ⟨b, o, none⟩ h.c0
theorem TchAt.ext {w w' : World} {b o : Nat} {t : Tch} {sb so cap : Nat} (h : TchAt w b o t sb so cap) (he : Ext w w') : TchAt w' b o t sb so cap :=
  ⟨he.cell_some h.c0, he.cell_some h.c1, he.cell_some h.c2, he.cell_some h.c3, he.cell_some h.c4, h.ss.ext he⟩
theorem latest_eq (t : Tch) (h : t.S ≠ []) : latest t = nth t.S (t.S.length - 1) := by
  have hl : 0 < t.S.length := List.length_pos_iff.2 h
  unfold latest
  rw [List.getLastD_eq_getLast?, last_eq _ hl]; rfl
theorem latest_placed {t : Tch} (h : TOk t) : placed (latest t) = true := by
  have hl : 0 < t.S.length := List.length_pos_iff.2 h.ne
  rw [latest_eq t h.ne]
  exact h.s _ (by rw [nth_eq _ _ (by omega)]; exact List.getElem_mem _)
theorem dist_bd {s t : Smp} (hs : placed s = true) (ht : placed t = true) : 0 ≤ dist s t ∧ dist s t ≤ 2097152 := by
  have h1 := placed_bd hs
  have h2 := placed_bd ht
  unfold dist
  constructor
  · have := @lt_mx (mx (mx (s.X - t.X) (-(s.X - t.X))) (s.Y - t.Y)) (-(s.Y - t.Y)) (-1)
    have h3 := @lt_mx (mx (s.X - t.X) (-(s.X - t.X))) (s.Y - t.Y) (-1)
    have h4 := @lt_mx (s.X - t.X) (-(s.X - t.X)) (-1)
    omega
  · simp only [mx_le]; omega
set_option maxHeartbeats 400000 in
theorem latest_t (t : Tch) (sb so cap : Nat) (w : World) (h : TOk t) (hs : SsAt w sb so t.S) :
    Calls Try.prog 65 #[.agg #[.int .i64 t.ID, .int .i64 t.F.X, .int .i64 t.F.Y, .int .i64 t.F.T, .slice (some ⟨sb, so, none⟩) t.S.length cap]] w fun e w' =>
      e = .returned (.agg #[.int .i64 (latest t).X, .int .i64 (latest t).Y, .int .i64 (latest t).T]) ∧ Ext w w' := by
  have hl : 0 < t.S.length := List.length_pos_iff.2 h.ne
  rw [latest_eq t h.ne]
  exact latest_any _ _ _ _ _ _ _ _ _ hl (by have := h.len; omega) hs

set_option maxHeartbeats 400000 in
theorem movement_nil (k n s c lx ly lt : Int) (a : Option Addr) (cap : Nat) (w : World) :
    Calls Try.prog 66 #[.agg #[.int .i64 k, .int .i64 n, .int .i64 s, .int .i64 c, .slice a 0 cap, .int .i64 lx, .int .i64 ly, .int .i64 lt]] w fun e w' =>
      e = .returned (.tuple #[.int .i64 0, .int .i64 0]) ∧ Ext w w' := by
  go_enter Try.func66, Try.ntmps66
  go_wp2
  go_ret2
  refine ⟨rfl, ?_⟩
  (repeat (first | exact Ext.refl _ | assumption | refine Ext.alloc ?_ _ | refine Ext.ext ?_ _ | refine Ext.drew ?_))
set_option maxHeartbeats 400000 in
theorem movement_any (k n s c lx ly lt : Int) (len b off cap : Nat) (t : Tch) (sb so scap : Nat) (w : World) (hl : 0 < len) (hl' : len ≤ 1000) (h : TOk t) (hm : TchAt w b off t sb so scap) :
    Calls Try.prog 66 #[.agg #[.int .i64 k, .int .i64 n, .int .i64 s, .int .i64 c, .slice (some ⟨b, off, none⟩) len cap, .int .i64 lx, .int .i64 ly, .int .i64 lt]] w fun e w' =>
      e = .returned (.tuple #[.int .i64 ((latest t).X - t.F.X), .int .i64 ((latest t).Y - t.F.Y)]) ∧ Ext w w' := by
  have hz : ((len : Int) == 0) = false := by simp; omega
  have hb := hm.lt
  have hlt := fun w' (he : Ext w w') => latest_t t sb so scap w' h (hm.ss.ext he)
  have b1 := placed_bd h.f
  have b2 := placed_bd (latest_placed h)
  obtain ⟨c0, c1, c2, c3, c4, _⟩ := hm
  replace hlt := Lib.hid hlt
  generalize latest t = z at *
  go_enter Try.func66, Try.ntmps66
  go_wp2_with (go_at_call 65; refine (hlt.out _ (by (repeat (first | exact Ext.refl _ | assumption | refine Ext.alloc ?_ _ | refine Ext.ext ?_ _ | refine Ext.drew ?_)))).mono ?_; rintro e w' ⟨rfl, d, rfl⟩)
  (refine wp_region_ext (by kernel_rfl) (by kernel_rfl) ?_; (repeat (go_big_quiet_step ((fail)))); refine wpQuiet_nil ?_; intro _ hwq; obtain ⟨dq, hwq⟩ := hwq; subst hwq)
  go_wp2
  go_ret2
  refine ⟨rfl, ?_⟩
  (repeat (first | exact Ext.refl _ | assumption | refine Ext.alloc ?_ _ | refine Ext.ext ?_ _ | refine Ext.drew ?_))

set_option maxHeartbeats 400000 in
theorem spread_few (k n s c lx ly lt : Int) (len cap : Nat) (a : Option Addr) (w : World) (hl : len < 2) :
    Calls Try.prog 87 #[.agg #[.int .i64 k, .int .i64 n, .int .i64 s, .int .i64 c, .slice a len cap, .int .i64 lx, .int .i64 ly, .int .i64 lt]] w fun e w' =>
      e = .returned (.tuple #[.int .i64 1, .int .i64 1]) ∧ Ext w w' := by
  go_enter Try.func87, Try.ntmps87
  go_wp2
  go_ret2
  refine ⟨rfl, ?_⟩
  (repeat (first | exact Ext.refl _ | assumption | refine Ext.alloc ?_ _ | refine Ext.ext ?_ _ | refine Ext.drew ?_))
set_option maxHeartbeats 400000 in
theorem dist_s (s t : Smp) (hs : placed s = true) (ht : placed t = true) (w : World) :
    Calls Try.prog 83 #[.agg #[.int .i64 s.X, .int .i64 s.Y, .int .i64 s.T], .agg #[.int .i64 t.X, .int .i64 t.Y, .int .i64 t.T]] w fun e w' =>
      e = .returned (.int .i64 (dist s t)) ∧ Ext w w' := by
  have h1 := placed_bd hs
  have h2 := placed_bd ht
  exact distance_any _ _ _ _ _ _ _ (by omega) (by omega)
set_option maxHeartbeats 1000000 in
theorem spread_any (k n s c lx ly lt : Int) (b off cap : Nat) (t u : Tch) (sb so scap ub uo ucap : Nat) (w : World) (h : TOk t) (hu : TOk u) (hm : TchAt w b off t sb so scap) (hmu : TchAt w b (off + 5) u ub uo ucap) :
    Calls Try.prog 87 #[.agg #[.int .i64 k, .int .i64 n, .int .i64 s, .int .i64 c, .slice (some ⟨b, off, none⟩) 2 cap, .int .i64 lx, .int .i64 ly, .int .i64 lt]] w fun e w' =>
      e = .returned (.tuple #[.int .i64 (mx (dist t.F u.F) 1), .int .i64 (dist (latest t) (latest u))]) ∧ Ext w w' := by
  have hb := hm.lt
  have hlt := Lib.hid fun w' (he : Ext w w') => latest_t t sb so scap w' h (hm.ss.ext he)
  have hlu := Lib.hid fun w' (he : Ext w w') => latest_t u ub uo ucap w' hu (hmu.ss.ext he)
  have hd1 := Lib.hid fun w' => dist_s t.F u.F h.f hu.f w'
  have hd2 := Lib.hid fun w' => dist_s (latest t) (latest u) (latest_placed h) (latest_placed hu) w'
  obtain ⟨c0, c1, c2, c3, c4, _⟩ := hm
  obtain ⟨e0, e1, e2, e3, e4, _⟩ := hmu
  generalize latest t = z at *
  generalize latest u = y at *
  go_enter Try.func87, Try.ntmps87
  go_wp2
  go_region
  all_goals
    go_wp2
    (refine wp_region_ext (by kernel_rfl) (by kernel_rfl) ?_; (repeat (go_big_quiet_step ((first | (go_at_call_of 65 (t.ID); exact Calls.quiet_ext (hlt.out _ (by (repeat (first | exact Ext.refl _ | assumption | refine Ext.alloc ?_ _ | refine Ext.ext ?_ _ | refine Ext.drew ?_))))) | (go_at_call_of 65 (u.ID); exact Calls.quiet_ext (hlu.out _ (by (repeat (first | exact Ext.refl _ | assumption | refine Ext.alloc ?_ _ | refine Ext.ext ?_ _ | refine Ext.drew ?_))))) | (go_at_call_of 83 (t.F.X); exact Calls.quiet_ext (hd1.out _)) | (go_at_call_of 83 (z.X); exact Calls.quiet_ext (hd2.out _)))))); refine wpQuiet_nil ?_; intro _ hwq; obtain ⟨dq, hwq⟩ := hwq; subst hwq)
    go_wp2
    go_ret2
    refine ⟨rfl, ?_⟩
    (repeat (first | exact Ext.refl _ | assumption | refine Ext.alloc ?_ _ | refine Ext.ext ?_ _ | refine Ext.drew ?_))
end Go.Proofs.Ytendgmnbnnkpnaa.G
