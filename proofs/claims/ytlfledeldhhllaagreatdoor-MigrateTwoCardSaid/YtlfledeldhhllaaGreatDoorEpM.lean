/- MODELS: what the functions of ids and epoch compute, in plain Lean: messages, books, entries, eras, folds. No program in sight. No condition. -/
import Derived.Test.YtlfledeldhhllaaGreatDoorMap
import Derived.Test.YtlfledeldhhllaaGreatDoorVer
import Derived.Test.YtlfledeldhhllaaGreatDoorCrc
namespace Go.Proofs.YtlfledeldhhllaaGreatDoor
open Go

/-- A message: its origin, its count; its bytes. -/
abbrev MId := Int × Nat
abbrev MsgD := MId × List UInt8
/-- Is a message right? -/
def rightM (m : MsgD) : Bool := decide (0 ≤ m.1.1) && decide (m.1.1 < 16) && decide (m.2.length ≤ 1000) && decide (1 ≤ m.1.2) && decide (m.1.2 ≤ 4294967294)
/-- A message's bytes; a batch's. -/
def msgBytes (m : MsgD) : List UInt8 := [UInt8.ofNat (m.1.1 % 256).toNat] ++ le4 m.1.2 ++ le4 m.2.length ++ m.2
def packP (l : List MsgD) : List UInt8 × Int :=
  if 64 < l.length then ([], 101) else if l.all rightM then ([UInt8.ofNat (l.length % 256)] ++ l.flatMap msgBytes, 0) else ([], 100)

/-- A book: how many of each origin were taken, the log, what waits. -/
structure BookS where
  tk : List Nat
  log : List MsgD
  ws : List (MId × MsgD)
/-- The messages that come one behind the other, and what still waits. -/
def takeRow : Nat → List (MId × MsgD) → MsgD → List (MId × MsgD) × List MsgD
  | 0, ws, x => (del x.1 ws, [x])
  | n + 1, ws, x => match look (x.1.1, (x.1.2 + 1) % 4294967296) (del x.1 ws) with
    | none => (del x.1 ws, [x])
    | some y => ((takeRow n (del x.1 ws) y).1, x :: (takeRow n (del x.1 ws) y).2)
def isNodeP (i : Int) : Bool := decide (0 ≤ i) && decide (i < 16)
def nextP (b : BookS) (i : Int) : Nat := if isNodeP i then ((b.tk[i.toNat]?.getD 0) + 1) % 4294967296 else 0
def hasP (b : BookS) (k : MId) : Bool := isNodeP k.1 && decide (1 ≤ k.2) && ((look k b.ws).isSome || decide (k.2 ≤ b.tk[k.1.toNat]?.getD 0))
def setTk (tk : List Nat) (l : List MsgD) : List Nat := l.foldl (fun t x => t.set x.1.1.toNat x.1.2) tk
def takeP (b : BookS) (m : MsgD) : BookS × List MsgD × Int :=
  if rightM m = false then (b, [], 100)
  else if m.1.2 ≠ nextP b m.1.1 then ((if hasP b m.1 then b else { b with ws := put m.1 m b.ws }), [], 0)
  else ({ tk := setTk b.tk (takeRow b.ws.length b.ws m).2, log := b.log ++ (takeRow b.ws.length b.ws m).2, ws := (takeRow b.ws.length b.ws m).1 }, (takeRow b.ws.length b.ws m).2, 0)
/-- What always holds of a book that calls have made. -/
structure BookOk (b : BookS) : Prop where
  sixteen : b.tk.length = 16
  most : ∀ n ∈ b.tk, n ≤ 4294967294
  keys : ∀ p ∈ b.ws, p.2.1 = p.1 ∧ rightM p.2 = true
def newBook : BookS := { tk := List.replicate 16 0, log := [], ws := [] }
def deliverP (b : BookS) : List MsgD → BookS × List MsgD
  | [] => (b, [])
  | m :: l => ((deliverP (takeP b m).1 l).1, (takeP b m).2.1 ++ (deliverP (takeP b m).1 l).2)

/-- An entry: kind, epoch, version, messages. -/
structure EntryD where
  kind : Int
  epoch : Nat
  ver : Int
  msgs : List MsgD
def shapedP (e : EntryD) : Bool :=
  if e.kind = 1 then decide (e.ver = 0)
  else if e.kind = 2 then decide (e.msgs.length = 0) && decide (0 ≤ e.ver) && decide (e.ver ≤ 255)
  else if e.kind = 3 then decide (e.msgs.length = 0) && decide (e.ver = 0)
  else false
def encodeP (e : EntryD) : List UInt8 × Int :=
  if shapedP e = false then ([], 140)
  else if (packP e.msgs).2 ≠ 0 then ([], 140)
  else if 4000 < ([UInt8.ofNat (e.kind % 256).toNat] ++ le4 e.epoch ++ [UInt8.ofNat (e.ver % 256).toNat] ++ (packP e.msgs).1).length then ([], 140)
  else ([UInt8.ofNat (e.kind % 256).toNat] ++ le4 e.epoch ++ [UInt8.ofNat (e.ver % 256).toNat] ++ (packP e.msgs).1, 0)
def rightE (e : EntryD) : Bool := decide ((encodeP e).2 = 0)

/-- An era: epoch, version, start. -/
abbrev EraD := Nat × Int × Int
structure FoldS where
  book : BookS
  eras : List EraD
  count : Int
  sw : Bool
def nowP (l : List EraD) : EraD := l.getLast?.getD (0, 0, 0)
/-- The version ahead of the first era that is this one. -/
def aheadP (n : EraD) : List EraD → Int → Int
  | [], v => v
  | e :: l, v => if e = n then v else aheadP n l e.2.1
def beginEra (f : FoldS) (v : Int) (sw : Bool) : FoldS := { f with eras := f.eras ++ [(((nowP f.eras).1 + 1) % 4294967296, v, f.count)], sw := sw }
def applyP (f : FoldS) (e : EntryD) : FoldS × List MsgD × Bool × Int :=
  if rightE e = false then (f, [], false, 140)
  else if e.epoch ≠ (nowP f.eras).1 then ({ f with count := f.count + 1 }, [], false, 0)
  else if e.kind = 1 then ({ f with count := f.count + 1, book := (deliverP f.book e.msgs).1 }, (deliverP f.book e.msgs).2, false, 0)
  else if e.kind = 2 then
    if checkE (nowP f.eras).2.1 e.ver ≠ 0 then ({ f with count := f.count + 1 }, [], false, 0)
    else (beginEra { f with count := f.count + 1 } e.ver true, [], true, 0)
  else if f.sw = false then ({ f with count := f.count + 1 }, [], false, 0)
  else (beginEra { f with count := f.count + 1 } (aheadP (nowP f.eras) f.eras 0) false, [], true, 0)
def newFold (v : Int) : FoldS := { book := newBook, eras := [(1, v, 0)], count := 0, sw := false }
end Go.Proofs.YtlfledeldhhllaaGreatDoor
