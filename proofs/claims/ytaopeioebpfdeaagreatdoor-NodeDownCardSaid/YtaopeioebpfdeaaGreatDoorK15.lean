/- PROVED HERE: MODELS of the layers below node, and of node: what their functions compute, in plain Lean. No program in sight. No condition. WALKS: batch's New, isNil, Is, Add. Condition: the pool is one that calls have made. -/
import Derived.Test.YtaopeioebpfdeaaGreatDoorK04
import Derived.Test.YtaopeioebpfdeaaGreatDoorK06
import Derived.Test.YtaopeioebpfdeaaGreatDoorK12
import Derived.Test.YtaopeioebpfdeaaGreatDoorK14
namespace Go.Proofs.YtaopeioebpfdeaaGreatDoor
open Go

/-- A record's bytes. -/
def recordP (d : List UInt8) : List UInt8 × Int := if 4096 < d.length then ([], 30) else (sealP ([52] ++ le4 d.length ++ d), 0)
/-- The record that bytes begin with: its data, its size (0: none). -/
def firstP (s : List UInt8) : List UInt8 × Nat :=
  if s.length < 9 then ([], 0)
  else if s.head? ≠ some 52 then ([], 0)
  else if 4096 < getP ((s.drop 1).take 4) then ([], 0)
  else if s.length < 9 + getP ((s.drop 1).take 4) then ([], 0)
  else match openP (s.take (9 + getP ((s.drop 1).take 4))) with
    | none => ([], 0)
    | some b => (b.drop 5, 9 + getP ((s.drop 1).take 4))
/-- The records that bytes begin with, how many bytes they have. -/
def readP : Nat → List UInt8 → List (List UInt8) × Nat
  | 0, _ => ([], 0)
  | n + 1, s => if (firstP s).2 = 0 then ([], 0) else ((firstP s).1 :: (readP n (s.drop (firstP s).2)).1, (firstP s).2 + (readP n (s.drop (firstP s).2)).2)

/-- A store. -/
structure StoreS where
  log : List UInt8
  cap : Int
  isCut : Bool
  keep : Int
  crashed : Bool
def newStore (cap : Int) : StoreS := { log := [], cap := cap, isCut := false, keep := 0, crashed := false }
def writeP (s : StoreS) (d : List UInt8) : StoreS × Int :=
  if s.crashed then (s, 31)
  else if (recordP d).2 ≠ 0 then (s, 30)
  else if s.cap < s.log.length + (recordP d).1.length then (s, 30)
  else if s.isCut = false then ({ s with log := s.log ++ (recordP d).1 }, 0)
  else ({ s with log := s.log ++ (recordP d).1.take (min s.keep (recordP d).1.length).toNat, isCut := false, keep := 0, crashed := true }, 31)
def cutS (s : StoreS) (keep : Int) : StoreS × Int := if s.crashed then (s, 31) else if keep < 0 then (s, 2) else ({ s with isCut := true, keep := keep }, 0)
def recoverS (s : StoreS) : StoreS × List (List UInt8) := ({ s with log := s.log.take (readP s.log.length s.log).2, isCut := false, keep := 0, crashed := false }, (readP s.log.length s.log).1)

/-- A vote: what is promised, the ballot, the value. -/
abbrev VoteD := Nat × Nat × List UInt8
def voteOk (v : VoteD) : Bool := !(decide (v.2.1 = 0) && !v.2.2.isEmpty) && decide (v.2.1 ≤ v.1) && decide (v.2.2.length ≤ 4000)
def promiseV (v : VoteD) (b : Nat) : VoteD × Int :=
  if voteOk v = false ∨ b < 1 then ((0, 0, []), 2) else if b ≤ v.1 then ((0, 0, []), 80) else ((b, v.2), 0)
def castV (v : VoteD) (b : Nat) (x : List UInt8) : VoteD × Int :=
  if voteOk v = false ∨ b < 1 ∨ 4000 < x.length then ((0, 0, []), 2) else if b < v.1 then ((0, 0, []), 80) else ((b, b, x), 0)
/-- A node's part in decisions. -/
structure PaxS where
  votes : List (Int × VoteD)
  known : List (Int × List UInt8)
  length : Nat
def newPax : PaxS := { votes := [], known := [], length := 0 }
def isInstP (i : Int) : Bool := decide (1 ≤ i) && decide (i ≤ 10000)
def voteAt (p : PaxS) (i : Int) : VoteD := (look i p.votes).getD (0, 0, [])
def le8 (n : Nat) : List UInt8 := le4 n ++ le4 (n / 4294967296)
def recP (kind : UInt8) (i : Int) (more : List UInt8) : List UInt8 := [kind] ++ le4 (i.toNat % 4294967296) ++ more
def promiseP (p : PaxS) (i : Int) (b : Nat) : PaxS × VoteD × List UInt8 × Int :=
  if isInstP i = false then (p, (0, 0, []), [], 2)
  else if (promiseV (voteAt p i) b).2 ≠ 0 then (p, (0, 0, []), [], (promiseV (voteAt p i) b).2)
  else ({ p with votes := put i (promiseV (voteAt p i) b).1 p.votes }, (promiseV (voteAt p i) b).1, recP 112 i (le8 b), 0)
def castP (p : PaxS) (i : Int) (b : Nat) (x : List UInt8) : PaxS × List UInt8 × Int :=
  if isInstP i = false then (p, [], 2)
  else if (castV (voteAt p i) b x).2 ≠ 0 then (p, [], (castV (voteAt p i) b x).2)
  else ({ p with votes := put i (castV (voteAt p i) b x).1 p.votes }, recP 118 i (le8 b ++ x), 0)
/-- How far the values that are known go without a gap. -/
def reach (known : List (Int × List UInt8)) : Nat → Nat → Nat
  | 0, at_ => at_
  | n + 1, at_ => if (look ((at_ : Int) + 1) known).isSome ∧ at_ < 10000 then reach known n (at_ + 1) else at_
def learnP (p : PaxS) (i : Int) (x : List UInt8) : PaxS × List UInt8 × Int :=
  if isInstP i = false ∨ 4000 < x.length then (p, [], 2)
  else match look i p.known with
    | some y => if y ≠ x then (p, [], 91) else (p, [], 0)
    | none => ({ p with known := put i x p.known, length := reach (put i x p.known) 10000 p.length }, recP 100 i x, 0)
/-- What a record tells: its kind, instance, ballot, value. -/
def readRec (s : List UInt8) : Option (UInt8 × Int × Nat × List UInt8) :=
  if s.length < 5 then none
  else if 10000 < getP ((s.drop 1).take 4) ∨ isInstP (getP ((s.drop 1).take 4)) = false then none
  else if s.head? = some 100 then (if (s.drop 5).length ≤ 4000 then some (100, getP ((s.drop 1).take 4), 0, s.drop 5) else none)
  else if s.head? = some 112 ∨ s.head? = some 118 then
    (if s.length < 13 then none
     else if s.head? = some 112 ∧ s.drop 13 ≠ [] then none
     else if 1 ≤ getP ((s.drop 5).take 4) + 4294967296 * getP ((s.drop 9).take 4) ∧ (s.drop 13).length ≤ 4000 then some (s.head?.getD 0, getP ((s.drop 1).take 4), getP ((s.drop 5).take 4) + 4294967296 * getP ((s.drop 9).take 4), s.drop 13) else none)
  else none
def replayV (kind : UInt8) (v : VoteD) (b : Nat) (x : List UInt8) : VoteD := if kind = 118 ∧ v.2.1 ≤ b then (max v.1 b, b, x) else (max v.1 b, v.2)
def replayP (p : PaxS) (s : List UInt8) : PaxS :=
  match readRec s with
  | none => p
  | some (k, i, b, x) => if k = 100 then (learnP p i x).1 else if replayV k (voteAt p i) b x = voteAt p i then p else { p with votes := put i (replayV k (voteAt p i) b x) p.votes }

/-- The message that bytes begin with, its size (0: none). -/
def firstM (s : List UInt8) : MsgD × Nat :=
  if s.length < 9 then (((0, 0), []), 0)
  else if 1000 < getP ((s.drop 5).take 4) ∨ s.length < 9 + getP ((s.drop 5).take 4) then (((0, 0), []), 0)
  else if rightM ((((s.head?.getD 0).toNat : Int), getP ((s.drop 1).take 4)), (s.drop 9).take (getP ((s.drop 5).take 4))) = false then (((0, 0), []), 0)
  else (((((s.head?.getD 0).toNat : Int), getP ((s.drop 1).take 4)), (s.drop 9).take (getP ((s.drop 5).take 4))), 9 + getP ((s.drop 5).take 4))
def unpackN : Nat → List UInt8 → Option (List MsgD)
  | 0, s => if s = [] then some [] else none
  | n + 1, s => if (firstM s).2 = 0 then none else (unpackN n (s.drop (firstM s).2)).map ((firstM s).1 :: ·)
/-- The batch of bytes. -/
def unpackP (s : List UInt8) : List MsgD × Int :=
  match s with
  | [] => ([], 101)
  | b :: r => if 64 < b.toNat then ([], 101) else match unpackN b.toNat r with | none => ([], 101) | some l => (l, 0)
/-- The entry of bytes. -/
def decodeP (s : List UInt8) : EntryD × Int :=
  if s.length < 6 ∨ 4000 < s.length then (⟨0, 0, 0, []⟩, 140)
  else if (unpackP (s.drop 6)).2 ≠ 0 then (⟨0, 0, 0, []⟩, 140)
  else if (encodeP ⟨(s.head?.getD 0).toNat, getP ((s.drop 1).take 4), ((s.drop 5).head?.getD 0).toNat, (unpackP (s.drop 6)).1⟩) = (s, 0) then (⟨(s.head?.getD 0).toNat, getP ((s.drop 1).take 4), ((s.drop 5).head?.getD 0).toNat, (unpackP (s.drop 6)).1⟩, 0)
  else (⟨0, 0, 0, []⟩, 140)

/-- What is pending, which ids are done. -/
structure PoolS where
  waits : List (MId × MsgD)
  done : List (MId × Unit)
def newPool : PoolS := { waits := [], done := [] }
def addP (p : PoolS) (m : MsgD) : PoolS × Int :=
  if rightM m = false then (p, 100)
  else if (look m.1 p.waits).isSome ∨ (look m.1 p.done).isSome then (p, 0)
  else if 1000 ≤ p.waits.length then (p, 120)
  else ({ p with waits := put m.1 m p.waits }, 0)
def doneOne (p : PoolS) (m : MsgD) : PoolS := if (look m.1 p.done).isSome then p else { waits := del m.1 p.waits, done := put m.1 () p.done }
def doneP (p : PoolS) (l : List MsgD) : PoolS := if l.all rightM then l.foldl doneOne p else p
/-- By origin, then by count. -/
def ltM (a b : MsgD) : Bool := decide (a.1.1 < b.1.1) || (decide (a.1.1 = b.1.1) && decide (a.1.2 ≤ b.1.2))
def insM (m : MsgD) : List MsgD → List MsgD
  | [] => [m]
  | x :: l => if ltM m x then m :: x :: l else x :: insM m l
def sortM (l : List MsgD) : List MsgD := l.foldr insM []
def batchP (p : PoolS) (most : Nat) : List MsgD := (sortM (p.waits.map (·.2))).take most

/-- A node. -/
structure NodeS where
  id : Int
  version : Int
  bad : List Int
  store : StoreS
  pax : PaxS
  loc : LocalS
  pool : PoolS
  acc : List MsgD
  offered : Nat
  applied : Nat
  wanted : Int
  down : Bool
def beginN (n : NodeS) (s : StD) : NodeS := { n with pax := newPax, loc := newL n.version s, pool := newPool, acc := [], offered := 0, applied := 0, wanted := 0 }
/-- What keeps a record: the node behind it, the error. -/
def keepN (n : NodeS) (ofPart : Bool) (d : List UInt8) : NodeS × Int :=
  ({ n with store := (writeP n.store d).1, down := n.down || decide ((writeP n.store d).2 = 31) || (ofPart && decide ((writeP n.store d).2 ≠ 0)) }, (writeP n.store d).2)
def offerN : Nat → NodeS → NodeS
  | 0, n => n
  | k + 1, n => match n.acc[n.offered]? with
    | none => n
    | some m => if (addP n.pool m).2 = 0 then offerN k { n with pool := (addP n.pool m).1, offered := n.offered + 1 } else { n with pool := (addP n.pool m).1 }
def readyN (n : NodeS) : Int := if n.down then 170 else 0
def broadcastN (n : NodeS) (d : List UInt8) : NodeS × MsgD × Int :=
  if n.down then (n, ((0, 0), []), 170)
  else if rightM ((n.id, n.acc.length + 1), d) = false then (n, ((0, 0), []), 100)
  else if (keepN n false ([109] ++ (packP [((n.id, n.acc.length + 1), d)]).1)).2 ≠ 0 then ((keepN n false ([109] ++ (packP [((n.id, n.acc.length + 1), d)]).1)).1, ((0, 0), []), (keepN n false ([109] ++ (packP [((n.id, n.acc.length + 1), d)]).1)).2)
  else (offerN (n.acc.length + 1) { (keepN n false ([109] ++ (packP [((n.id, n.acc.length + 1), d)]).1)).1 with acc := n.acc ++ [((n.id, n.acc.length + 1), d)] }, ((n.id, n.acc.length + 1), d), 0)
def promiseN (n : NodeS) (i : Int) (b : Nat) : NodeS × VoteD × Int :=
  if n.down then (n, (0, 0, []), 170)
  else if (promiseP n.pax i b).2.2.2 ≠ 0 then (n, (0, 0, []), (promiseP n.pax i b).2.2.2)
  else if (keepN { n with pax := (promiseP n.pax i b).1 } true (promiseP n.pax i b).2.2.1).2 ≠ 0 then ((keepN { n with pax := (promiseP n.pax i b).1 } true (promiseP n.pax i b).2.2.1).1, (0, 0, []), (keepN { n with pax := (promiseP n.pax i b).1 } true (promiseP n.pax i b).2.2.1).2)
  else ((keepN { n with pax := (promiseP n.pax i b).1 } true (promiseP n.pax i b).2.2.1).1, (promiseP n.pax i b).2.1, 0)
def castN (n : NodeS) (i : Int) (b : Nat) (x : List UInt8) : NodeS × Int :=
  if n.down then (n, 170)
  else if (castP n.pax i b x).2.2 ≠ 0 then (n, (castP n.pax i b x).2.2)
  else keepN { n with pax := (castP n.pax i b x).1 } true (castP n.pax i b x).2.1
/-- The version of the epoch that a marker begins. -/
def aheadN (n : NodeS) (e : EntryD) : Int :=
  if e.kind = 2 then e.ver else if e.kind = 3 then (if 1 < n.loc.fold.eras.length then ((n.loc.fold.eras[n.loc.fold.eras.length - 2]?).getD (0, 0, 0)).2.1 else 0) else 0
/-- An entry, applied: what is delivered. -/
def enterN (n : NodeS) (e : EntryD) : NodeS × List MsgD :=
  let R := applyL n.loc e (n.bad.contains (aheadN n e))
  let p := doneP (doneP n.pool R.2.1) R.1.held
  (offerN (n.acc.length + 1) { n with loc := R.1, wanted := if nowP R.1.fold.eras = nowP n.loc.fold.eras then n.wanted else 0, pool := p }, R.2.1)
def applyN : Nat → NodeS → NodeS × List MsgD
  | 0, n => (n, [])
  | k + 1, n => match look ((n.applied : Int) + 1) n.pax.known with
    | none => (n, [])
    | some x =>
      if (decodeP x).2 ≠ 0 then applyN k { n with applied := n.applied + 1 }
      else ((applyN k (enterN { n with applied := n.applied + 1 } (decodeP x).1).1).1, (enterN { n with applied := n.applied + 1 } (decodeP x).1).2 ++ (applyN k (enterN { n with applied := n.applied + 1 } (decodeP x).1).1).2)
def learnN (n : NodeS) (i : Int) (x : List UInt8) : NodeS × List MsgD × Int :=
  if n.down then (n, [], 170)
  else
    let r := learnP n.pax i x
    if r.2.2 ≠ 0 then (n, [], r.2.2)
    else if r.2.1 = [] then ((applyN 10001 { n with pax := r.1 }).1, (applyN 10001 { n with pax := r.1 }).2, 0)
    else
      let q := keepN { n with pax := r.1 } true r.2.1
      if q.2 ≠ 0 then (q.1, [], q.2) else ((applyN 10001 q.1).1, (applyN 10001 q.1).2, 0)
/-- Where the first gap is, from an instance on. -/
def nextAt (known : List (Int × List UInt8)) : Nat → Nat → Nat
  | 0, i => i
  | k + 1, i => if (look (i : Int) known).isSome then nextAt known k (i + 1) else i
def nextN (n : NodeS) : Nat := nextAt n.pax.known 10001 (n.applied + 1)
def encOk (e : EntryD) : List UInt8 × Bool := ((encodeP e).1, decide ((encodeP e).2 = 0))
def batchedN (era : EraD) : List MsgD → List MsgD → List UInt8 × Bool → List UInt8 × Bool
  | _, [], r => r
  | p, m :: l, r => if (encOk ⟨1, era.1, 0, p ++ [m]⟩).2 then batchedN era (p ++ [m]) l (encOk ⟨1, era.1, 0, p ++ [m]⟩) else r
def proposalN (n : NodeS) : List UInt8 × Bool :=
  if n.down then ([], false)
  else if n.loc.blk then encOk ⟨3, (nowP n.loc.fold.eras).1, 0, []⟩
  else if n.wanted ≠ 0 ∧ checkE (nowP n.loc.fold.eras).2.1 n.wanted = 0 then encOk ⟨2, (nowP n.loc.fold.eras).1, n.wanted, []⟩
  else batchedN (nowP n.loc.fold.eras) [] (batchP n.pool (if (if known (nowP n.loc.fold.eras).2.1 then (if (nowP n.loc.fold.eras).2.1 = 1 then (1 : Int) else 2) else 0) = 1 then 1 else 8)) ([], false)
def wantN (n : NodeS) (v : Int) : NodeS × Int :=
  if n.down then (n, 170) else if checkE (nowP n.loc.fold.eras).2.1 v ≠ 0 then (n, checkE (nowP n.loc.fold.eras).2.1 v) else ({ n with wanted := v }, 0)
def cutN (n : NodeS) (k : Int) : NodeS × Int := if n.down then (n, 170) else ({ n with store := (cutS n.store k).1 }, (cutS n.store k).2)
def crashN (n : NodeS) : NodeS × Int := if n.down then (n, 170) else ({ n with down := true }, 0)
def replayN (n : NodeS) (r : List UInt8) : NodeS :=
  match r with
  | [] => n
  | k :: d => if k = 109 ∧ (unpackP d).2 = 0 ∧ (unpackP d).1.length = 1 then { n with acc := n.acc ++ (unpackP d).1 } else { n with pax := replayP n.pax r }
def recoverN (n : NodeS) (s : StD) : NodeS :=
  let R := recoverS n.store
  let m := R.2.foldl replayN (beginN { n with store := R.1 } s)
  { (offerN ((applyN 10001 m).1.acc.length + 1) (applyN 10001 m).1) with down := false }
end Go.Proofs.YtaopeioebpfdeaaGreatDoor
namespace Go.Proofs.YtaopeioebpfdeaaGreatDoor
open Go Go.RowKit Go.Shelf Go.Extern.Stop Go.Stop Go.Extern
attribute [local go_sem] Oper.semAt_some wide_fn wide_depth

def unitV : Value := .agg #[]
/-- What waits bears its own id, no id waits twice. -/
def PoolOk (p : PoolS) : Prop := (∀ q ∈ p.waits, q.2.1 = q.1) ∧ (p.waits.map (·.1)).Nodup ∧ p.waits.length ≤ 1000
def poolCells (wb db : Nat) : Array Value := #[.map (some wb), .map (some db)]
def PoolAt (B : Nat) (p : PoolS) (t : List Nat) (ow : Own) (W : World) : Prop :=
  PoolOk p ∧ ∃ wb db, Blk W B (poolCells wb db) 165 ∧ MapAt W wb idV (p.waits.map fun q => (q.1, msgV q.2)) ∧ MapAt W db idV (p.done.map fun q => (q.1, unitV)) ∧ wb ≠ db ∧ ow B = t ∧ ow wb = t ∧ ow db = t
theorem PoolAt.loc (B : Nat) (p : PoolS) (t : List Nat) : Local t (PoolAt B p t) := by
  rintro ow ow' W W' ⟨hl, vb, kb, hB, hv, hk, hne, o1, o2, o3⟩ hs hkk
  have kB := hkk B hB.lt (by rw [o1]; exact Sub.rfl' t)
  have kv := hkk vb hv.lt (by rw [o2]; exact Sub.rfl' t)
  have kk := hkk kb hk.lt (by rw [o3]; exact Sub.rfl' t)
  exact ⟨hl, vb, kb, hB.kept kB.2, hv.kept kv.2, hk.kept kk.2, hne, kB.1.trans o1, kv.1.trans o2, kk.1.trans o3⟩
/-- What a call on a pool comes to. -/
def PoolPost (B : Nat) (p : PoolS) (t : List Nat) (ow : Own) (w : World) (v : Value) (e : Ending) (w' : World) : Prop :=
  e = .returned v ∧ ∃ ow', Step t ow w ow' w' ∧ PoolAt B p t ow' w'
/-- What New comes to. -/
def NewPoolPost (t : List Nat) (ow : Own) (w : World) (e : Ending) (w' : World) : Prop :=
  ∃ B ow', e = .returned (.pointer (some ⟨B, 0, none⟩)) ∧ Step t ow w ow' w' ∧ Below w.heap.size w w' ∧ PoolAt B newPool t ow' w' ∧ w.heap.size ≤ B
theorem plNew_any (t : List Nat) (ow : Own) (w : World) : Calls Tryz.prog 59 #[] w (NewPoolPost t ow w) := by
  have hmm := @run_makeMap Tryz.prog
  go_enter Tryz.func59, Tryz.ntmps59
  go_wp2
  go_ret
  have hb : Below w.heap.size w (((w.alloc (.map #[] 0)).alloc (.map #[] 0)).alloc (.cells #[.map (some w.heap.size), .map (some (w.heap.size + 1))] 165)) := by (repeat (first | exact Below.refl _ _ | with_reducible assumption | refine pb_alloc ?_ _ | refine pb_drew ?_ | refine pb_drewN ?_ _ | refine pb_set ?_ (by simp; try omega) _ | refine pb_trans ?_ (by with_reducible assumption)))
  refine ⟨w.heap.size + 2, ow.ext w.heap.size (fun _ => True) t, rfl, ⟨Mod.of_below _ hb, fun k hk => Own.ext_old hk⟩, hb, ⟨⟨by simp [newPool], by simp [newPool], by simp [newPool]⟩, w.heap.size, w.heap.size + 1, Blk.new (by simp), ?_, ?_, by omega, Own.ext_new (by omega) trivial, Own.ext_new (by omega) trivial, Own.ext_new (by omega) trivial⟩, by omega⟩
  · exact ((MapAt.made w idV).kept (Below.heap_alloc _ _ _ (by simp))).kept (Below.heap_alloc _ _ _ (by simp; omega))
  · have h := (MapAt.made (w.alloc (.map #[] 0)) idV).kept (Below.heap_alloc (w.alloc (.map #[] 0) |>.alloc (.map #[] 0)) (.cells #[.map (some w.heap.size), .map (some (w.heap.size + 1))] 165) _ (by simp))
    simpa [newPool] using h

theorem waitMap_nil_no (b : Nat) (w : World) : (binOp .eql 162 (.map (some b)) (.map none)).run Tryz.prog w = .ok (.bool false) w := by kernel_rfl
theorem pend_zero (w : World) : (zeroValue 178).run Tryz.prog w = .ok (.agg #[.int .i64 0, .int .u32 0, .string ⟨#[]⟩]) w := by kernel_rfl
theorem unit_zero (w : World) : (zeroValue 214).run Tryz.prog w = .ok unitV w := by kernel_rfl
theorem plNil_any (B : Nat) (wb db : Nat) (w : World) (hB : Blk w B (poolCells wb db) 165) : Calls Tryz.prog 101 #[.pointer (some ⟨B, 0, none⟩)] w fun e w' => e = .returned (.bool false) ∧ w' = w := by
  unfold poolCells at hB
  have e0 := hB.cell
  have h0 := waitMap_nil_no wb w
  go_enter Tryz.func101, Tryz.ntmps101
  go_wp2
  go_ret
  exact ⟨rfl, rfl⟩
set_option maxRecDepth 8000 in
set_option maxHeartbeats 1000000 in
theorem plIs_any (B : Nat) (p : PoolS) (t : List Nat) (ow : Own) (i : Int) (c : Nat) (w : World) (h : PoolAt B p t ow w) :
    Calls Tryz.prog 102 #[.pointer (some ⟨B, 0, none⟩), .agg #[.int .i64 i, .int .u32 c]] w fun e w' => e = .returned (.bool (look (i, c) p.done).isSome) ∧ Below w.heap.size w w' := by
  obtain ⟨hl, wb, db, hB, hv, hk, hne, o1, o2, o3⟩ := h
  have hnil := fun W hW => plNil_any B wb db W hW
  unfold poolCells at hB hnil
  have hlk : ∀ W, Below w.heap.size w W → (Instr.lookup 163 (.map (some db)) (.agg #[.int .i64 i, .int .u32 c]) true).run Tryz.prog W = .ok (.tuple #[.agg #[], .bool (look (i, c) p.done).isSome]) W := fun W hW => by
    have hlk := (hk.kept (hW.block db hk.lt)).lookup_ok idKey Tryz.underlying163 (unit_zero W) (i, c)
    have hlm := look_map (fun _ : Unit => unitV) ((i, c) : MId) p.done
    rw [hlm, Option.isSome_map, show ((look (i, c) p.done).map fun _ => unitV).getD unitV = unitV by cases look (i, c) p.done <;> rfl] at hlk
    exact hlk
  clear hv hk hl
  generalize (look (i, c) p.done).isSome = b at *
  replace hnil : Hid (∀ _, _) := hnil
  replace hlk : Hid (∀ _, _) := hlk
  have hBA := hB.alloc (.cells #[.int .i64 i, .int .u32 c] 32)
  have hX : Blk (w.alloc (.cells #[.int .i64 i, .int .u32 c] 32)) w.heap.size #[.int .i64 i, .int .u32 c] 32 := Blk.new rfl
  replace hB : Hid (Blk _ _ _ _) := hB
  go_enter Tryz.func102, Tryz.ntmps102
  go_wp2_with fail
  refine (hnil.out _ hBA).mono ?_
  rintro e w1 ⟨rfl, rfl⟩
  go_wp2_with fail
  refine wp_region_sched [(0, true), (1, true), (2, true), (3, true), (4, true), (5, true), (6, true), (7, true), (8, true), (9, false), (10, false), (11, true)] none (fun w' => Blk w' B #[.map (some wb), .map (some db)] 165 ∧ Blk w' w.heap.size #[.int .i64 i, .int .u32 c] 32 ∧ (Instr.lookup 163 (.map (some db)) (.agg #[.int .i64 i, .int .u32 c]) true).run Tryz.prog w' = .ok (.tuple #[.agg #[], .bool b]) w' ∧ True) (by kernel_rfl) (by kernel_rfl) ⟨hBA.drew, hX.drew, hlk.out _ (by (repeat (first | exact Below.refl _ _ | with_reducible assumption | refine pb_alloc ?_ _ | refine pb_drew ?_ | refine pb_drewN ?_ _ | refine pb_set ?_ (by simp; try omega) _ | refine pb_trans ?_ (by with_reducible assumption)))), trivial⟩ ?_
  (repeat (refine wpSched_quiet (v := ?_) rfl rfl (fun w' hS => ?_) (fun K hK => ?_); rotate_left; (focus ((try have e1 := hS.1.cell); (try have e2 := hS.2.1.cell); (try have e3 := hS.2.2.1.cell); (try have e4 := hS.2.2.2.1.cell); (try have f1 := hS.1); (try have f2 := hS.2.1); (try have f3 := hS.2.2.1); (try have f4 := hS.2.2.2.1); (try have f5 := hS.2.2.2.2.1); clear hS; go_simp; (try with_reducible rfl))); (go_simp; refine hK _ ?_; clear hK K)))
  refine wpSched_loud rfl (fun K hK => ?_)
  go_wp2
  refine hK.out _ _ (fun _ => ⟨hBA.drew.alloc _, hX.drew.alloc _, hlk.out _ (by (repeat (first | exact Below.refl _ _ | with_reducible assumption | refine pb_alloc ?_ _ | refine pb_drew ?_ | refine pb_drewN ?_ _ | refine pb_set ?_ (by simp; try omega) _ | refine pb_trans ?_ (by with_reducible assumption)))), trivial⟩) ?_
  clear hK K
  refine wpSched_loud rfl (fun K hK => ?_)
  go_wp2
  refine hK.out _ _ (fun _ => ⟨hBA.drew.alloc _, hX.drew.alloc _, hlk.out _ (by (repeat (first | exact Below.refl _ _ | with_reducible assumption | refine pb_alloc ?_ _ | refine pb_drew ?_ | refine pb_drewN ?_ _ | refine pb_set ?_ (by simp; try omega) _ | refine pb_trans ?_ (by with_reducible assumption)))), trivial⟩) ?_
  clear hK K
  (repeat (refine wpSched_quiet (v := ?_) rfl rfl (fun w' hS => ?_) (fun K hK => ?_); rotate_left; (focus ((try have e1 := hS.1.cell); (try have e2 := hS.2.1.cell); (try have e3 := hS.2.2.1.cell); (try have e4 := hS.2.2.2.1.cell); (try have f1 := hS.1); (try have f2 := hS.2.1); (try have f3 := hS.2.2.1); (try have f4 := hS.2.2.2.1); (try have f5 := hS.2.2.2.2.1); clear hS; go_simp; (try with_reducible rfl))); (go_simp; refine hK _ ?_; clear hK K)))
  refine wpSched_nil ?_
  go_wp2
  go_ret
  exact ⟨rfl, by (repeat (first | exact Below.refl _ _ | with_reducible assumption | refine pb_alloc ?_ _ | refine pb_drew ?_ | refine pb_drewN ?_ _ | refine pb_set ?_ (by simp; try omega) _ | refine pb_trans ?_ (by with_reducible assumption)))⟩
end Go.Proofs.YtaopeioebpfdeaaGreatDoor
