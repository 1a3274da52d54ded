/- What the program's small functions compute; the first laws. -/
import Derived.Test.YtnmgchgmmnjbiaaGreatFa
import Derived.Test.YtnmgchgmmnjbiaaGreatFd
import Derived.IntWalk
set_option autoImplicit false
namespace Go.Proofs.Rb
open Go.Proofs.Fw (Bytes Dest SubT Msg Tlv)

/-! ### What the program's small functions compute, as plain Lean -/
def sub (s : Bytes) (i j : Nat) : Bytes := (s.take j).drop i
def zs (n : Nat) : Bytes := List.replicate n 0
def allZ (s : Bytes) : Bool := s.all fun b => b == 0
/-- octet.Fits -/
def fits (n size : Int) : Bool := decide (1 ≤ size) && decide (size ≤ 7) && decide (0 ≤ n) && decide (n < 256 ^ size.toNat)
/-- a number's bytes, the highest first -/
def be : Nat → Nat → Bytes
  | 0, _ => []
  | k + 1, n => be k (n / 256) ++ [UInt8.ofNat n]
/-- the number of bytes -/
def num (s : Bytes) : Nat := s.foldl (fun n b => n * 256 + b.toNat) 0
def putN (n size : Int) : Bytes × Bool := if fits n size then (be size.toNat n.toNat, true) else ([], false)
/-- a byte of a number -/
def b8 (n : Int) : UInt8 := UInt8.ofNat (n % 256).toNat

/-! bits -/
def andNot (b : UInt8) (r : Nat) : UInt8 := UInt8.ofNat (b.toNat / 2 ^ (8 - r) * 2 ^ (8 - r))
def keep (s : Bytes) (n : Int) : Bytes :=
  if 8 * (s.length : Int) ≤ n then s else if n ≤ 0 then zs s.length else
  s.take (n.toNat / 8) ++ andNot (s.getD (n.toNat / 8) 0) (n.toNat % 8) :: zs (s.length - n.toNat / 8 - 1)
def clean (s : Bytes) (n : Int) : Bool := decide (keep s n = s)
/-- of a byte that isn't 0 -/
def lz8 (x : UInt8) : Nat := if x.toNat ≥ 128 then 0 else if x.toNat ≥ 64 then 1 else if x.toNat ≥ 32 then 2 else if x.toNat ≥ 16 then 3 else if x.toNat ≥ 8 then 4 else if x.toNat ≥ 4 then 5 else if x.toNat ≥ 2 then 6 else if x.toNat ≥ 1 then 7 else 8
def alike : Bytes → Bytes → Nat
  | x :: a, y :: b => if x = y then 8 + alike a b else lz8 (x ^^^ y)
  | _, _ => 0

/-! addr -/
def family (a : Bytes) : Int := if a.length = 4 then 0 else if a.length = 16 then 1 else -1
def linkP : Bytes := [254, 128, 0, 0, 0, 0, 0, 0]
def link (a : Bytes) : Bool := decide (a.length = 16) && decide (a.take 8 = linkP)
def short (a : Bytes) : Bytes × Bool := if link a then (a.drop 8, true) else ([], false)
def long (s : Bytes) : Bytes × Bool := if s.length = 8 then (linkP ++ s, true) else ([], false)

/-! mask, prefix, auth -/
def maskOf (p : Nat) : Bytes := be 4 (2 ^ 32 - 2 ^ (32 - p))
def plenOf (m : Bytes) : Int × Bool := match (List.range 33).find? fun p => decide (maskOf p = m) with
  | some p => (p, true)
  | none => (0, false)
def prefixRight (a : Bytes) (plen : Int) : Bool := (decide (a.length = 4) || decide (a.length = 16)) && decide (0 ≤ plen) && decide (plen ≤ 8 * a.length) && clean a plen
def least (plen : Int) : Int := (max plen 0 + 7) / 8
def cut (a : Bytes) (plen : Int) : Bytes := keep (a.take (min (least plen) a.length).toNat) plen
def fill (s : Bytes) (size : Nat) : Bytes := s ++ zs (size - s.length)
def lead (a b : Bytes) : Nat := alike a b / 8
def authGet (s : Bytes) : Bytes × Bool := if s.take 2 = [255, 255] ∧ s.length = 20 then (s.drop 2, true) else ([], false)
def authPut (s : Bytes) : Bytes × Bool := if s.length = 18 then (255 :: 255 :: s, true) else ([], false)

/-! msg -/
def nought (k : Int) : Msg := { kind := k, cmd := 0, ver := 0, auth := [], family := 0, ae := 0, pfx := [], plen := 0, tag := 0, next := [], metric := 0, id := [], seq := 0, seq2 := 0, interval := 0, flags := 0, hops := 0, nonce := 0, cost := 0, addr := [], orig := [], list := [], type := 0, data := [], subs := [] }
/-- a message with the fields of its kind alone -/
def core (m : Msg) : Option Msg :=
  if m.kind = 1 then some { nought 1 with cmd := m.cmd, ver := m.ver, auth := m.auth, family := m.family, tag := m.tag, pfx := m.pfx, plen := m.plen, next := m.next, metric := m.metric }
  else if m.kind = 2 then some { nought 2 with cmd := m.cmd, tag := m.tag, pfx := m.pfx, plen := m.plen, next := m.next, metric := m.metric }
  else if m.kind = 3 then some { nought 3 with flags := m.flags, hops := m.hops, nonce := m.nonce, addr := m.addr, seq := m.seq, orig := m.orig, seq2 := m.seq2, subs := m.subs }
  else if m.kind = 4 then some { nought 4 with flags := m.flags, plen := m.plen, hops := m.hops, addr := m.addr, seq := m.seq, orig := m.orig, interval := m.interval, subs := m.subs }
  else if m.kind = 5 then some { nought 5 with flags := m.flags, list := m.list, subs := m.subs }
  else if m.kind = 6 then some { nought 6 with subs := m.subs }
  else if m.kind = 7 then some { nought 7 with nonce := m.nonce, interval := m.interval, subs := m.subs }
  else if m.kind = 8 then some { nought 8 with nonce := m.nonce, subs := m.subs }
  else if m.kind = 9 then some { nought 9 with flags := m.flags, seq := m.seq, interval := m.interval, subs := m.subs }
  else if m.kind = 10 then some { nought 10 with ae := m.ae, cost := m.cost, interval := m.interval, addr := m.addr, subs := m.subs }
  else if m.kind = 11 then some { nought 11 with ae := m.ae, pfx := m.pfx, plen := m.plen, interval := m.interval, seq := m.seq, metric := m.metric, id := m.id, next := m.next, subs := m.subs }
  else if m.kind = 12 then some { nought 12 with ae := m.ae, pfx := m.pfx, plen := m.plen, subs := m.subs }
  else if m.kind = 13 then some { nought 13 with ae := m.ae, pfx := m.pfx, plen := m.plen, seq := m.seq, hops := m.hops, id := m.id, subs := m.subs }
  else if m.kind = 14 then some { nought 14 with type := m.type, data := m.data }
  else none
def bare (m : Msg) : Bool := decide (core m = some m)
def subBytes (l : List SubT) : Nat := (l.map fun s => 2 + s.data.length).sum
def subsOK (l : List SubT) (low high : Int) : Bool := l.all fun s => decide (low ≤ s.type) && decide (s.type ≤ high) && decide (s.data.length ≤ 255)

/-! which messages may be -/
def ripRight (m : Msg) : Bool :=
  decide (m.kind = 1) && bare m && decide (m.pfx.length = 4) && decide (m.next.length = 4) && (decide (m.cmd = 1) || decide (m.cmd = 2)) && (decide (m.ver = 1) || decide (m.ver = 2)) &&
  (decide (m.auth = []) || decide (m.ver = 2) && decide (m.auth.length = 18)) &&
  if m.family = 0 then decide (m.cmd = 1) && decide (m.tag = 0) && decide (m.plen = 0) && decide (m.metric = 16) && allZ (m.pfx ++ m.next)
  else decide (m.family = 2) && decide (1 ≤ m.metric) && decide (m.metric ≤ 16) &&
    if m.ver = 1 then decide (m.tag = 0) && decide (m.plen = 32) && allZ m.next else fits m.tag 2 && prefixRight m.pfx m.plen
def ngRight (m : Msg) : Bool :=
  decide (m.kind = 2) && bare m && (decide (m.cmd = 1) || decide (m.cmd = 2)) && fits m.tag 2 && decide (1 ≤ m.metric) && decide (m.metric ≤ 16) && decide (m.pfx.length = 16) && prefixRight m.pfx m.plen && (decide (m.next = zs 16) || link m.next)
def extRight (l : List SubT) : Bool := subsOK l 0 255
def subRight (l : List SubT) : Bool := subsOK l 2 127 && decide (subBytes l ≤ 200)
def rreqRight (m : Msg) : Bool :=
  decide (m.kind = 3) && bare m && decide (0 ≤ m.flags) && decide (m.flags ≤ 31) && decide (m.addr.length = 4) && decide (m.orig.length = 4) && fits m.nonce 4 && fits m.seq 4 && fits m.seq2 4 && fits m.hops 1 && extRight m.subs
def rrepRight (m : Msg) : Bool :=
  bare m && extRight m.subs && (decide (m.kind = 6) || decide (m.kind = 4) && decide (0 ≤ m.flags) && decide (m.flags < 4) && decide (0 ≤ m.plen) && decide (m.plen < 32) && fits m.hops 1 && fits m.seq 4 && fits m.interval 4 && decide (m.addr.length = 4) && decide (m.orig.length = 4))
def destOK (d : Dest) : Bool := decide (d.addr.length = 4) && fits d.seq 4
def rerrRight (m : Msg) : Bool :=
  decide (m.kind = 5) && bare m && (decide (m.flags = 0) || decide (m.flags = 1)) && decide (m.list.length ≠ 0) && decide (m.list.length ≤ 255) && m.list.all destOK && extRight m.subs
def aodvRight (m : Msg) : Bool := rreqRight m || rrepRight m || rerrRight m
def addrIn (ae : Int) (a : Bytes) : Bool :=
  if ae = 0 then decide (a = []) else if ae = 1 then decide (a.length = 4) else if ae = 2 then decide (a.length = 16) else decide (ae = 3) && link a
def fieldRight (m : Msg) : Bool :=
  fits m.nonce 2 && fits m.interval 2 && fits m.seq 2 && fits m.cost 2 && bare m && subRight m.subs &&
  (decide (m.kind = 7) || decide (m.kind = 8) || decide (m.kind = 9) && (decide (m.flags = 0) || decide (m.flags = 1)) || decide (m.kind = 10) && addrIn m.ae m.addr)
def shSize (ae : Int) : Int := if ae = 1 then 4 else if ae = 2 then 16 else if ae = 3 then 16 else 0
def shBase (ae : Int) : Int := if ae = 3 then 8 else 0
def shLow (ae : Int) : Int := if ae = 3 then 64 else 0
def shHigh (ae : Int) : Int := if ae = 1 then 32 else if ae = 2 then 128 else if ae = 3 then 128 else 0
def routeIn (ae : Int) (a : Bytes) (plen : Int) : Bool :=
  decide (0 ≤ ae) && decide (ae ≤ 3) && decide ((a.length : Int) = shSize ae) && decide (shLow ae ≤ plen) && decide (plen ≤ shHigh ae) && clean a plen && (decide (ae ≠ 3) || link a)
def routeRight (m : Msg) : Bool :=
  bare m && subRight m.subs && routeIn m.ae m.pfx m.plen &&
  (decide (m.kind = 12) || decide (m.kind = 13) && decide (0 < m.ae) && fits m.seq 2 && decide (0 < m.hops) && fits m.hops 1 && decide (m.id.length = 8))
def famOf (ae : Int) : Int := if ae = 1 then 0 else if ae = 2 then 1 else if ae = 3 then 1 else -1
def ctxRight (m : Msg) : Bool :=
  decide (m.kind = 11) && bare m && subRight m.subs && routeIn m.ae m.pfx m.plen && fits m.interval 2 && fits m.seq 2 && fits m.metric 2 &&
  if m.metric = 65535 then decide (m.id = []) && decide (m.next = []) else decide (0 < m.ae) && decide (m.id.length = 8) && (decide (m.next = []) || decide (family m.next = famOf m.ae))
def leanRight (m : Msg) : Bool :=
  if m.kind = 11 then ctxRight m else if m.kind = 12 then routeRight m else if m.kind = 13 then routeRight m
  else if m.kind = 14 then bare m && decide (10 < m.type) && decide (m.type < 256) && decide (m.data.length < 256) else fieldRight m
def suiteRight (p : Int) (m : Msg) : Bool :=
  if p = 1 then ripRight m else if p = 2 then ngRight m else if p = 3 then aodvRight m else if p = 4 then leanRight m else false
end Go.Proofs.Rb

set_option autoImplicit false
namespace Go.Proofs.Rb
open Go.Proofs.Fw (Bytes Dest SubT Msg Tlv)

/-! ### 1. The cursor -/
structure Cur where
  s : Bytes
  at_ : Int
  end_ : Int
  bad : Bool
deriving DecidableEq
def curNew (s : Bytes) : Cur := ⟨s, 0, s.length, false⟩
def curLeft (c : Cur) : Int := if c.bad then 0 else c.end_ - c.at_
def curStep (c : Cur) (n : Int) : Cur × Bool := if c.bad || decide (n < 0) || decide (c.end_ - c.at_ < n) then ({ c with bad := true }, false) else ({ c with at_ := c.at_ + n }, true)
def curNum (c : Cur) (size : Int) : Int × Cur :=
  if size < 1 ∨ 7 < size then (0, { c with bad := true }) else
  if (curStep c size).2 then (num (sub c.s c.at_.toNat (c.at_ + size).toNat), (curStep c size).1) else (0, (curStep c size).1)
def curText (c : Cur) (n : Int) : Bytes × Cur :=
  if (curStep c n).2 then (sub c.s c.at_.toNat (c.at_ + n).toNat, (curStep c n).1) else ([], (curStep c n).1)

/-! ### 2. RIP -/
structure Entry where
  family : Int
  tag : Int
  addr : Bytes
  mask : Bytes
  next : Bytes
  metric : Int
deriving DecidableEq
def entryZ : Entry := ⟨0, 0, [], [], [], 0⟩
def entryGet (s : Bytes) : Entry × Bool :=
  if s.length = 20 then (⟨num (s.take 2), num (sub s 2 4), sub s 4 8, sub s 8 12, sub s 12 16, num (s.drop 16)⟩, true) else (entryZ, false)
def entryPut (e : Entry) : Bytes × Bool :=
  if e.addr.length = 4 ∧ e.mask.length = 4 ∧ e.next.length = 4 ∧ fits e.metric 4 ∧ fits e.family 2 ∧ fits e.tag 2 then
    (be 2 e.family.toNat ++ be 2 e.tag.toNat ++ e.addr ++ e.mask ++ e.next ++ be 4 e.metric.toNat, true) else ([], false)
def ripLine (m : Msg) : Bytes :=
  (entryPut ⟨m.family, m.tag, m.pfx, if m.family = 2 ∧ m.ver = 2 then (if 0 ≤ m.plen ∧ m.plen ≤ 32 then maskOf m.plen.toNat else []) else zs 4, m.next, m.metric⟩).1
def ripTogether (f m : Msg) : Bool := decide (m.cmd = f.cmd) && decide (m.ver = f.ver) && decide (m.auth = f.auth) && decide (m.family ≠ 0) && decide (f.family ≠ 0)
/-- the first message that may not be -/
def badAt (right : Msg → Bool) : Nat → List Msg → Option Nat
  | _, [] => none
  | i, m :: l => if right m then badAt right (i + 1) l else some i
def ripLoop (f : Msg) (most : Int) : Nat → List Msg → Bytes → Bytes × Int × Int
  | _, [], b => (b, 0, 0)
  | i, m :: l, b => if (i : Int) = most then ([], i, 8) else if 0 < i ∧ ripTogether f m = false then ([], i, 7) else ripLoop f most (i + 1) l (b ++ ripLine m)
def ripEncode (l : List Msg) : Bytes × Int × Int :=
  match badAt ripRight 0 l with
  | some i => ([], i, 1)
  | none => match l with
    | [] => ([], 0, 8)
    | f :: _ => ripLoop f (if f.auth.length = 18 then 24 else 25) 0 l ([b8 f.cmd, b8 f.ver, 0, 0] ++ (authPut f.auth).1)
def ripHead (b : Bytes) : Int × Int :=
  let n := b.length
  let b0 := b.getD 0 0
  let b1 := b.getD 1 0
  if n < 4 then (n, 2) else if b0 ≠ 1 ∧ b0 ≠ 2 then (0, 4) else if b1 ≠ 1 ∧ b1 ≠ 2 then (1, 4)
  else if allZ (sub b 2 4) = false then (2, 5) else if (n - 4) % 20 > 0 then (n, 2) else if n = 4 then (n, 8) else if (n - 4) / 20 > 25 then (504, 8) else (0, 0)
def ripRoute (cmd ver : Int) (says : Bytes) (alone : Bool) (e : Entry) : Msg × Int :=
  let m : Msg := { nought 1 with cmd := cmd, ver := ver, auth := says, family := e.family, tag := e.tag, pfx := e.addr, next := e.next, metric := e.metric }
  if e.family = 0 then (if alone && allZ e.mask && ripRight m then (m, 0) else (nought 0, 7)) else
  if e.family ≠ 2 then (nought 0, 4) else
  if ver = 1 then (if e.tag ≠ 0 ∨ allZ (e.mask ++ e.next) = false then (nought 0, 5) else if e.metric < 1 ∨ 16 < e.metric then (nought 0, 6) else ({ m with plen := 32 }, 0)) else
  if (plenOf e.mask).2 && prefixRight e.addr (plenOf e.mask).1 then (if e.metric < 1 ∨ 16 < e.metric then (nought 0, 6) else ({ m with plen := (plenOf e.mask).1 }, 0)) else (nought 0, 7)
/-- the entries, one by one: so many are left -/
def ripEntries (cmd ver : Int) (says : Bytes) (alone : Bool) (b : Bytes) : Nat → Nat → List Msg → List Msg × Int × Int
  | 0, _, out => (out, 0, 0)
  | k + 1, at_, out =>
    let r := ripRoute cmd ver says alone (entryGet (sub b at_ (at_ + 20))).1
    if r.2 ≠ 0 then ([], at_, r.2) else ripEntries cmd ver says alone b k (at_ + 20) (out ++ [r.1])
def ripParse (b : Bytes) : List Msg × Int × Int :=
  if (ripHead b).2 ≠ 0 then ([], ripHead b) else
  let cmd : Int := (b.getD 0 0).toNat
  let ver : Int := (b.getD 1 0).toNat
  let g := authGet (sub b 4 24)
  let at_ := if g.2 ∧ ver = 2 then 24 else 4
  let says := if g.2 ∧ ver = 2 then g.1 else []
  if b.length = at_ then ([], at_, 8) else ripEntries cmd ver says (decide (b.length = at_ + 20)) b ((b.length - at_) / 20) at_ []

/-! ### 3. RIPng -/
def rteGet (s : Bytes) : Entry × Bool :=
  if s.length = 20 then (⟨(s.getD 18 0).toNat, num (sub s 16 18), s.take 16, [], [], (s.getD 19 0).toNat⟩, true) else (entryZ, false)
def rtePut (e : Entry) : Bytes × Bool :=
  if e.addr.length = 16 ∧ e.mask = [] ∧ e.next = [] ∧ fits e.tag 2 ∧ fits e.family 1 ∧ fits e.metric 1 then
    (e.addr ++ be 2 e.tag.toNat ++ be 1 e.family.toNat ++ be 1 e.metric.toNat, true) else ([], false)
/-- the bytes of a route where a next hop holds -/
def ngPiece (next : Bytes) (m : Msg) : Bytes :=
  (if m.next = next then [] else (rtePut ⟨0, 0, m.next, [], [], 255⟩).1) ++ (rtePut ⟨m.plen, m.tag, m.pfx, [], [], m.metric⟩).1
def ngLoop (cmd : Int) : Nat → List Msg → Bytes → Bytes → Bytes × Int × Int
  | _, [], b, _ => (b, 0, 0)
  | i, m :: l, b, next => if m.cmd ≠ cmd then ([], i, 7) else if 65535 < (b ++ ngPiece next m).length then ([], i, 10) else ngLoop cmd (i + 1) l (b ++ ngPiece next m) m.next
def ngEncode (l : List Msg) : Bytes × Int × Int :=
  match badAt ngRight 0 l with
  | some i => ([], i, 1)
  | none => match l with
    | [] => ([], 0, 8)
    | f :: _ => ngLoop f.cmd 0 l [b8 f.cmd, 1, 0, 0] (zs 16)
def ngHead (b : Bytes) : Int × Int :=
  let n := b.length
  let b0 := b.getD 0 0
  if 65535 < n then (65535, 10) else if n < 4 then (n, 2) else if b0 ≠ 1 ∧ b0 ≠ 2 then (0, 4) else if b.getD 1 0 ≠ 1 then (1, 4)
  else if allZ (sub b 2 4) = false then (2, 5) else if n % 20 ≠ 4 then (n, 2) else (0, 0)
/-- an entry: what holds behind it, the routes; or why not -/
def ngEntry (cmd : Int) (e : Entry) (next : Bytes) (out : List Msg) : Bytes × List Msg × Int :=
  if e.metric = 255 then (if e.tag ≠ 0 ∨ e.family ≠ 0 then (next, out, 5) else (if link e.addr then e.addr else zs 16, out, 0))
  else if prefixRight e.addr e.family = false then (next, out, 7) else if e.metric < 1 ∨ 16 < e.metric then (next, out, 6)
  else (next, out ++ [{ nought 2 with cmd := cmd, tag := e.tag, pfx := e.addr, plen := e.family, next := next, metric := e.metric }], 0)
def ngEntries (cmd : Int) (b : Bytes) : Nat → Nat → Bytes → List Msg → List Msg × Int × Int
  | 0, _, _, out => if out = [] then ([], b.length, 8) else (out, 0, 0)
  | k + 1, at_, next, out =>
    let r := ngEntry cmd (rteGet (sub b at_ (at_ + 20))).1 next out
    if r.2.2 ≠ 0 then ([], at_, r.2.2) else ngEntries cmd b k (at_ + 20) r.1 r.2.1
def ngParse (b : Bytes) : List Msg × Int × Int :=
  if (ngHead b).2 ≠ 0 then ([], ngHead b) else ngEntries (b.getD 0 0).toNat b ((b.length - 4) / 20) 4 (zs 16) []

/-! ### 4. AODV -/
def extPut (l : List SubT) : Bytes := l.flatMap fun x => b8 x.type :: b8 x.data.length :: x.data
/-- from a place of the bytes on -/
def extLoop : Nat → Cur → List SubT → List SubT × Int × Int
  | 0, _, out => (out, 0, 0)
  | k + 1, c, out => if 0 < curLeft c then
      let t := curNum c 1
      let n := curNum t.2 1
      let d := curText n.2 n.1
      if d.2.bad then ([], c.at_, 2) else extLoop k d.2 (out ++ [⟨t.1, d.1⟩])
    else (out, 0, 0)
def extGet (s : Bytes) : List SubT × Int × Int := extLoop (s.length + 1) (curNew s) []
def rreqPut (m : Msg) : Bytes × Bool :=
  if rreqRight m then ([1, b8 (m.flags * 8), 0, b8 m.hops] ++ be 4 m.nonce.toNat ++ m.addr ++ be 4 m.seq.toNat ++ m.orig ++ be 4 m.seq2.toNat ++ extPut m.subs, true) else ([], false)
def rrepPut (m : Msg) : Bytes × Bool :=
  if rrepRight m then (if m.kind = 6 then ([4, 0] ++ extPut m.subs, true) else
    ([2, b8 (m.flags * 64), b8 m.plen, b8 m.hops] ++ m.addr ++ be 4 m.seq.toNat ++ m.orig ++ be 4 m.interval.toNat ++ extPut m.subs, true)) else ([], false)
def rerrPut (m : Msg) : Bytes × Bool :=
  if rerrRight m then ([3, b8 (m.flags * 128), 0, b8 m.list.length] ++ (m.list.flatMap fun d => d.addr ++ be 4 d.seq.toNat) ++ extPut m.subs, true) else ([], false)
def aodvEncode (l : List Msg) : Bytes × Int × Int :=
  match badAt aodvRight 0 l with
  | some i => ([], i, 1)
  | none => match l with
    | [] => ([], 0, 8)
    | [m] =>
      let s := if (rreqPut m).2 then (rreqPut m).1 else if (rrepPut m).2 then (rrepPut m).1 else (rerrPut m).1
      if 65535 < s.length then ([], 0, 10) else (s, 0, 0)
    | _ :: _ :: _ => ([], 1, 8)
def rreqGet (b : Bytes) : Msg × Int × Int :=
  if b.length < 24 then (nought 0, b.length, 2) else
  if (b.getD 1 0).toNat % 8 ≠ 0 ∨ b.getD 2 0 ≠ 0 then (nought 0, 1, 5) else
  let t := extGet (b.drop 24)
  if t.2.2 ≠ 0 then (nought 0, t.2.1 + 24, t.2.2) else
  ({ nought 3 with flags := ((b.getD 1 0).toNat / 8 : Nat), hops := (b.getD 3 0).toNat, subs := t.1, nonce := num (sub b 4 8), addr := sub b 8 12, seq := num (sub b 12 16), orig := sub b 16 20, seq2 := num (sub b 20 24) }, 0, 0)
def rrepAck (b : Bytes) : Msg × Int × Int :=
  if b.length < 2 then (nought 0, b.length, 2) else
  if b.getD 1 0 ≠ 0 then (nought 0, 1, 5) else
  let t := extGet (b.drop 2)
  if t.2.2 ≠ 0 then (nought 0, t.2.1 + 2, t.2.2) else ({ nought 6 with subs := t.1 }, 0, 0)
def rrepGet (b : Bytes) : Msg × Int × Int :=
  if b ≠ [] ∧ b.getD 0 0 = 4 then rrepAck b else
  if b.length < 20 then (nought 0, b.length, 2) else
  if (b.getD 1 0).toNat % 64 ≠ 0 ∨ 32 ≤ (b.getD 2 0).toNat then (nought 0, 1, 5) else
  let t := extGet (b.drop 20)
  if t.2.2 ≠ 0 then (nought 0, t.2.1 + 20, t.2.2) else
  ({ nought 4 with flags := ((b.getD 1 0).toNat / 64 : Nat), plen := (b.getD 2 0).toNat, hops := (b.getD 3 0).toNat, subs := t.1, addr := sub b 4 8, seq := num (sub b 8 12), orig := sub b 12 16, interval := num (sub b 16 20) }, 0, 0)
def rerrDests : Nat → Cur → List Dest → List Dest × Cur
  | 0, c, out => (out, c)
  | k + 1, c, out => rerrDests k (curNum (curText c 4).2 4).2 (out ++ [⟨(curText c 4).1, (curNum (curText c 4).2 4).1⟩])
def rerrGet (b : Bytes) : Msg × Int × Int :=
  if b.length < 4 then (nought 0, b.length, 2) else
  if (b.getD 1 0).toNat % 128 ≠ 0 ∨ b.getD 2 0 ≠ 0 then (nought 0, 1, 5) else
  if b.getD 3 0 = 0 then (nought 0, 3, 8) else
  let r := rerrDests (b.getD 3 0).toNat (curText (curNew b) 4).2 []
  if r.2.bad then (nought 0, b.length, 2) else
  let t := extGet (b.drop r.2.at_.toNat)
  if t.2.2 ≠ 0 then (nought 0, r.2.at_ + t.2.1, t.2.2) else
  ({ nought 5 with flags := ((b.getD 1 0).toNat / 128 : Nat), list := r.1, subs := t.1 }, 0, 0)
def aodvParse (b : Bytes) : List Msg × Int × Int :=
  if 65535 < b.length then ([], 65535, 10) else if b.length = 0 then ([], 0, 2) else
  let b0 := b.getD 0 0
  if b0.toNat < 1 ∨ 4 < b0.toNat then ([], 0, 4) else
  let g := if b0 = 1 then rreqGet b else if b0 = 3 then rerrGet b else rrepGet b
  if g.2.2 ≠ 0 then ([], g.2.1, g.2.2) else ([g.1], 0, 0)

/-! ### 5. Babel -/
def bodySize (b : Bytes) : Nat := (b.getD 2 0).toNat * 256 + (b.getD 3 0).toNat
def frameBody (b : Bytes) : Bytes × Int × Int :=
  if 65535 < b.length then ([], 65535, 10) else if b.length < 4 then ([], b.length, 2) else if b.getD 0 0 ≠ 42 then ([], 0, 4) else if b.getD 1 0 ≠ 2 then ([], 1, 4)
  else if b.length < 4 + bodySize b then ([], b.length, 2) else (sub b 4 (4 + bodySize b), 0, 0)
def frameNext (c : Cur) : Tlv × Cur :=
  let t := curNum c 1
  if t.1 = 0 then (⟨0, c.at_, []⟩, t.2) else
  let n := curNum t.2 1
  let d := curText n.2 n.1
  (⟨t.1, c.at_, d.1⟩, d.2)
def frameLoop (base : Int) : Nat → Cur → List Tlv → List Tlv × Int × Int
  | 0, _, out => (out, 0, 0)
  | k + 1, c, out => if 0 < curLeft c then
      let r := frameNext c
      if r.2.bad then ([], r.1.at_ + base, 2) else frameLoop base k r.2 (out ++ [{ r.1 with at_ := r.1.at_ + base }])
    else (out, 0, 0)
def frameSplit (s : Bytes) (base : Int) : List Tlv × Int × Int := frameLoop base (s.length + 1) (curNew s) []
def framePut (typ : Int) (d : Bytes) : Bytes × Bool := if 1 ≤ typ ∧ typ ≤ 255 ∧ d.length ≤ 255 then (b8 typ :: b8 d.length :: d, true) else ([], false)
def frameWrap (body : Bytes) : Bytes × Bool := if body.length ≤ 65531 then ([42, 2] ++ be 2 body.length ++ body, true) else ([], false)
def subPut (l : List SubT) : Bytes := if subRight l then l.flatMap fun x => (framePut x.type x.data).1 else []
def subKept (l : List Tlv) : List SubT := l.filterMap fun t => if 128 ≤ t.type then none else if 2 ≤ t.type then some ⟨t.type, t.data⟩ else none
def subKnown (l : List Tlv) : Bool := l.all fun t => decide (t.type < 128)
def subGet (s : Bytes) : List SubT × Bool × Int :=
  let r := frameSplit s 0
  if r.2.2 ≠ 0 then ([], false, r.2.2) else if 200 < subBytes (subKept r.1) then ([], false, 10) else (subKept r.1, subKnown r.1, 0)
/-- two bytes of a number -/
def two (n : Int) : Bytes := [b8 (n / 256), b8 n]
def fieldPut (m : Msg) : Bytes × Bool :=
  if fieldRight m then
    let b := if m.kind = 7 then two 0 ++ two m.nonce ++ two m.interval else if m.kind = 8 then two m.nonce else if m.kind = 9 then two (m.flags * 32768) ++ two m.seq ++ two m.interval
      else two (m.ae * 256) ++ two m.cost ++ two m.interval ++ (if (short m.addr).2 && decide (m.ae = 3) then (short m.addr).1 else m.addr)
    framePut (m.kind - 5) (b ++ subPut m.subs)
  else ([], false)
def aeLen (ae : Int) : Int := if ae = 1 then 4 else if ae = 2 then 16 else if ae = 3 then 8 else 0
def fieldGet (t : Tlv) : Msg × Bool × Int :=
  let d := t.data
  let rest (n : Nat) (m : Msg) : Msg × Bool × Int :=
    if d.length < n then (nought 0, false, 2) else
    let r := subGet (d.drop n)
    if r.2.2 ≠ 0 ∨ r.2.1 = false then (nought 0, false, r.2.2) else ({ m with subs := r.1 }, true, 0)
  if t.type = 2 then rest 6 { nought 7 with nonce := num (sub d 2 4), interval := num (sub d 4 6) }
  else if t.type = 3 then rest 2 { nought 8 with nonce := num (sub d 0 2) }
  else if t.type = 4 then rest 6 { nought 9 with flags := (num (sub d 0 2) / 32768 : Nat), seq := num (sub d 2 4), interval := num (sub d 4 6) }
  else
    if d.length < 6 then (nought 0, false, 2) else
    let ae : Int := (num (sub d 0 2) / 256 : Nat)
    if 3 < ae then (nought 0, false, 0) else
    let n := (aeLen ae).toNat
    if d.length < 6 + n then (nought 0, false, 2) else
    let a := sub d 6 (6 + n)
    rest (6 + n) { nought 10 with ae := ae, cost := num (sub d 2 4), interval := num (sub d 4 6), addr := if ae = 3 then linkP ++ a else a }
end Go.Proofs.Rb

set_option autoImplicit false
namespace Go.Proofs.Rb
open Go.Proofs.Fw (Bytes Dest SubT Msg Tlv)

/-! ### 1. Requests -/
def routePut (m : Msg) : Bytes × Bool :=
  if routeRight m then
    framePut (if m.kind = 13 then 10 else 9) ([b8 m.ae, b8 m.plen] ++ (if m.kind = 13 then [b8 (m.seq / 256), b8 m.seq, b8 m.hops, 0] ++ m.id else []) ++ (cut m.pfx m.plen).drop (shBase m.ae).toNat ++ subPut m.subs)
  else ([], false)
/-- a prefix's bytes at a cursor -/
def routePrefix (c : Cur) (ae plen omitted : Int) : Bytes × Int × Cur :=
  let n := least plen - shBase ae - omitted
  if plen < shLow ae ∨ shHigh ae < plen ∨ n < 0 then ([], 6, c) else
  let d := curText c n
  if d.2.bad then ([], 2, d.2) else (d.1, 0, d.2)
def routeRest (c : Cur) : List SubT × Bool × Int := subGet (curText c (curLeft c)).1
def whole (ae : Int) (b : Bytes) (plen : Int) : Bytes :=
  let a := fill b (shSize ae - shBase ae).toNat
  keep (if ae = 3 then (long a).1 else a) plen
def routeGet (t : Tlv) : Msg × Bool × Int :=
  let c0 := curNew t.data
  let ae := curNum c0 1
  let plen := curNum ae.2 1
  let seq := if t.type = 10 then curNum plen.2 2 else (0, plen.2)
  let hops := if t.type = 10 then curNum seq.2 1 else (0, seq.2)
  let z := if t.type = 10 then curNum hops.2 1 else (0, hops.2)
  let id := if t.type = 10 then curText z.2 8 else ([], z.2)
  let c := id.2
  if c.bad then (nought 0, false, 2) else if 3 < ae.1 then (nought 0, false, 0) else
  let p := routePrefix c ae.1 plen.1 0
  if p.2.1 ≠ 0 then (nought 0, false, p.2.1) else
  let r := routeRest p.2.2
  if r.2.2 ≠ 0 ∨ r.2.1 = false ∨ (t.type = 10 ∧ (ae.1 = 0 ∨ hops.1 = 0)) then (nought 0, false, r.2.2) else
  ({ nought (if t.type = 10 then 13 else 12) with ae := ae.1, plen := plen.1, seq := seq.1, hops := hops.1, id := id.1, pfx := whole ae.1 p.1 plen.1, subs := r.1 }, true, 0)

/-! ### 2. Updates -/
structure Raw where
  ae : Int
  flags : Int
  plen : Int
  omitted : Int
  interval : Int
  seq : Int
  metric : Int
  have_ : Int
  bytes : Bytes
  subs : List SubT
deriving DecidableEq
def rawZ : Raw := ⟨0, 0, 0, 0, 0, 0, 0, 0, [], []⟩
def routeTake (t : Tlv) : Raw × Bool × Int :=
  let ae := curNum (curNew t.data) 1
  let flags := curNum ae.2 1
  let plen := curNum flags.2 1
  let om := curNum plen.2 1
  let interval := curNum om.2 2
  let seq := curNum interval.2 2
  let metric := curNum seq.2 2
  let c := metric.2
  if c.bad then (rawZ, false, 2) else if 3 < ae.1 then (rawZ, false, 0) else
  let p := routePrefix c ae.1 plen.1 om.1
  if p.2.1 ≠ 0 then (rawZ, false, p.2.1) else
  let r := routeRest p.2.2
  if r.2.2 ≠ 0 then (rawZ, false, r.2.2) else
  (⟨ae.1, flags.1, plen.1, om.1, interval.1, seq.1, metric.1, if r.2.1 then 1 else 0, p.1, r.1⟩, true, 0)
/-- what is known at a place -/
structure Ctx where
  p0 : Bytes
  p1 : Bytes
  p2 : Bytes
  p3 : Bytes
  n0 : Bytes
  n1 : Bytes
  id : Bytes
deriving DecidableEq
def ctxZ : Ctx := ⟨[], [], [], [], [], [], []⟩
def Ctx.pfx (c : Ctx) (ae : Int) : Bytes := if ae = 0 then c.p0 else if ae = 1 then c.p1 else if ae = 2 then c.p2 else c.p3
def Ctx.next (c : Ctx) (f : Int) : Bytes := if f = 0 then c.n0 else c.n1
def Ctx.setPfx (c : Ctx) (ae : Int) (a : Bytes) : Ctx := { c with p0 := if ae = 0 then a else c.p0, p1 := if ae = 1 then a else c.p1, p2 := if ae = 2 then a else c.p2, p3 := if ae = 3 then a else c.p3 }
def Ctx.setNext (c : Ctx) (f : Int) (a : Bytes) : Ctx := { c with n0 := if f = 0 then a else c.n0, n1 := if f = 1 then a else c.n1 }
def ctxCounts (d : Bytes) (size : Nat) : Bool × Int :=
  if d.length < size then (false, 2) else ((subGet (d.drop size)).2.1, (subGet (d.drop size)).2.2)
def ctxId (c : Ctx) (d : Bytes) : Ctx × Int :=
  let k := ctxCounts d 10
  (if k.1 then { c with id := sub d 2 10 } else c, k.2)
def ctxHop (c : Ctx) (d : Bytes) : Ctx × Int :=
  if d.length < 2 then (c, 2) else
  let ae : Int := (d.getD 0 0).toNat
  if ae < 1 ∨ 3 < ae then (c, 0) else
  let e := 2 + (aeLen ae).toNat
  let k := ctxCounts d e
  if k.1 = false then (c, k.2) else
  let a := sub d 2 e
  (c.setNext (famOf ae) (if ae = 3 then (long a).1 else a), 0)
def ctxAddress (c : Ctx) (r : Raw) : Bytes × Bool :=
  let ahead := c.pfx r.ae
  if r.omitted ≠ 0 ∧ ahead = [] then ([], false) else
  let h := if r.omitted = 0 then [] else sub ahead (shBase r.ae).toNat (shBase r.ae + r.omitted).toNat
  let a := fill (h ++ r.bytes) (shSize r.ae - shBase r.ae).toNat
  (keep (if r.ae = 3 then (long a).1 else a) r.plen, true)
def ctxFlags (c : Ctx) (r : Raw) (a : Bytes) : Ctx :=
  if r.ae = 0 then c else
  let c1 := if r.flags.toNat / 128 % 2 = 1 then c.setPfx r.ae a else c
  if r.flags.toNat / 64 % 2 = 1 then { c1 with id := (zs 4 ++ a).drop ((zs 4 ++ a).length - 8) } else c1
def ctxTold (c : Ctx) (r : Raw) : Bool := decide (r.have_ = 1) && (decide (r.metric = 65535) || decide (0 < r.ae) && decide (c.id ≠ []))
def ctxUpdate (c : Ctx) (t : Tlv) : Ctx × List Msg × Int :=
  let r := routeTake t
  if r.2.1 = false then (c, [], r.2.2) else
  let a := ctxAddress c r.1
  if a.2 = false then (c, [], 9) else
  let c1 := ctxFlags c r.1 a.1
  if ctxTold c1 r.1 = false then (c1, [], 0) else
  let m : Msg := { nought 11 with ae := r.1.ae, pfx := a.1, plen := r.1.plen, interval := r.1.interval, seq := r.1.seq, metric := r.1.metric, subs := r.1.subs }
  (c1, [if m.metric ≠ 65535 then { m with id := c1.id, next := c1.next (famOf m.ae) } else m], 0)
def ctxStep (c : Ctx) (t : Tlv) : Ctx × List Msg × Int :=
  if t.type = 6 then ((ctxId c t.data).1, [], (ctxId c t.data).2) else if t.type = 7 then ((ctxHop c t.data).1, [], (ctxHop c t.data).2) else if t.type = 8 then ctxUpdate c t else (c, [], 0)

/-! ### 3. Datagrams -/
def intakeOne (c : Ctx) (t : Tlv) : Ctx × List Msg × Int :=
  if t.type = 0 ∨ t.type = 1 then (c, [], 0) else if t.type = 6 ∨ t.type = 7 ∨ t.type = 8 then ctxStep c t else
  let g : Msg × Bool × Int := if t.type = 2 ∨ t.type = 3 ∨ t.type = 4 ∨ t.type = 5 then fieldGet t else if t.type = 9 ∨ t.type = 10 then routeGet t else ({ nought 14 with type := t.type, data := t.data }, true, 0)
  if g.2.2 ≠ 0 ∨ g.2.1 = false then (c, [], g.2.2) else (c, [g.1], 0)
def intakeFold : List Tlv → Ctx → List Msg → List Msg × Ctx × Int × Int
  | [], c, out => (out, c, 0, 0)
  | t :: l, c, out =>
    let r := intakeOne c t
    if r.2.2 ≠ 0 then ([], ctxZ, t.at_, r.2.2) else intakeFold l r.1 (out ++ r.2.1)
def intakeParse (b : Bytes) : List Msg × Int × Int :=
  let s := frameBody b
  if s.2.2 ≠ 0 then ([], s.2.1, s.2.2) else
  let l := frameSplit s.1 4
  if l.2.2 ≠ 0 then ([], l.2.1, l.2.2) else
  let z := frameSplit (b.drop (4 + bodySize b)) (4 + s.1.length)
  if z.2.2 ≠ 0 then ([], z.2.1, z.2.2) else
  let r := intakeFold l.1 ctxZ []
  (r.1, r.2.2.1, r.2.2.2)
def leanBytes (m : Msg) : Bytes := (cut m.pfx m.plen).drop (shBase m.ae).toNat
def leanId (c : Ctx) (s : Bytes) : Bytes × Ctx := ((framePut 6 ([0, 0] ++ s)).1, { c with id := s })
def leanHop (c : Ctx) (family : Int) (a : Bytes) : Bytes × Ctx :=
  ((if link a then framePut 7 ([3, 0] ++ a.drop 8) else if family = 0 then framePut 7 ([1, 0] ++ a) else framePut 7 ([2, 0] ++ a)).1, c.setNext family a)
def leanOmitted (c : Ctx) (m : Msg) : Nat := if c.pfx m.ae = [] then 0 else lead ((c.pfx m.ae).drop (shBase m.ae).toNat) (leanBytes m)
def leanUpdate (c : Ctx) (m : Msg) (n : Nat) : Bytes × Ctx :=
  ((framePut 8 ([b8 m.ae, if m.ae = 0 then 0 else 128, b8 m.plen, b8 n] ++ two m.interval ++ two m.seq ++ two m.metric ++ (leanBytes m).drop n ++ subPut m.subs)).1, if m.ae = 0 then c else c.setPfx m.ae m.pfx)
def leanOther (m : Msg) : Bytes :=
  if m.kind = 12 ∨ m.kind = 13 then (routePut m).1 else if m.kind = 14 then (framePut m.type m.data).1 else (fieldPut m).1
def leanPut (c : Ctx) (m : Msg) : Bytes × Ctx × Int :=
  if leanRight m = false then ([], c, 1) else if m.kind ≠ 11 then (leanOther m, c, 0) else
  if m.metric = 65535 then (let u := leanUpdate c m (leanOmitted c m); (u.1, u.2, 0)) else
  let f := famOf m.ae
  if m.next = [] ∧ c.next f ≠ [] then ([], c, 9) else
  let a := if m.id = c.id then ([], c) else leanId c m.id
  let h := if m.next = c.next f then ([], a.2) else leanHop a.2 f m.next
  let u := leanUpdate h.2 m (leanOmitted h.2 m)
  (a.1 ++ h.1 ++ u.1, u.2, 0)
def outletLoop : Nat → List Msg → Bytes → Ctx → Bytes × Int × Int
  | _, [], b, _ => ((frameWrap b).1, 0, 0)
  | i, m :: l, b, c =>
    let r := leanPut c m
    if r.2.2 ≠ 0 then ([], i, r.2.2) else if 65531 < (b ++ r.1).length then ([], i, 10) else outletLoop (i + 1) l (b ++ r.1) r.2.1
def outletEncode (l : List Msg) : Bytes × Int × Int :=
  match badAt leanRight 0 l with
  | some i => ([], i, 1)
  | none => outletLoop 0 l [] ctxZ

/-! ### 4. All protocols -/
def suiteParse (p : Int) (b : Bytes) : List Msg × Int × Int :=
  if p = 1 then ripParse b else if p = 2 then ngParse b else if p = 3 then aodvParse b else if p = 4 then intakeParse b else ([], 0, 1)
def suiteEncode (p : Int) (l : List Msg) : Bytes × Int × Int :=
  if p = 1 then ripEncode l else if p = 2 then ngEncode l else if p = 3 then aodvEncode l else if p = 4 then outletEncode l else ([], 0, 1)
def joinAll (p : Int) : Nat → List Bytes → List Msg → List Msg × Int × Int × Int
  | _, [], out => (out, 0, 0, 0)
  | i, d :: l, out =>
    let r := suiteParse p d
    if r.2.2 ≠ 0 then ([], i, r.2.1, r.2.2) else joinAll p (i + 1) l (out ++ r.1)
def join (p : Int) (d : List Bytes) : List Msg × Int × Int × Int := if p < 1 ∨ 4 < p then ([], 0, 0, 1) else joinAll p 0 d []
def fitsIn (p : Int) (l : List Msg) (most : Int) : Bool := decide ((suiteEncode p l).2.2 = 0) && decide (((suiteEncode p l).1.length : Int) ≤ most)
def smallAt (p most : Int) : Nat → List Msg → Option Nat
  | _, [] => none
  | i, m :: l => if fitsIn p [m] most then smallAt p most (i + 1) l else some i
/-- how many of the first messages go into a datagram, beyond so many -/
def packMore (p most : Int) (l : List Msg) : Nat → Nat → Nat
  | 0, n => n
  | k + 1, n => if n < l.length ∧ fitsIn p (l.take (n + 1)) most then packMore p most l k (n + 1) else n
def packN (p most : Int) (l : List Msg) : Nat := packMore p most l l.length 0
def packAll (p most : Int) : Nat → List Msg → List Bytes → List Bytes
  | 0, _, out => out
  | k + 1, l, out => if l = [] then out else packAll p most k (l.drop (packN p most l)) (out ++ [if packN p most l = 0 then [] else (suiteEncode p (l.take (packN p most l))).1])
def pack (p : Int) (l : List Msg) (most : Int) : List Bytes × Int × Int :=
  if p < 1 ∨ 4 < p then ([], 0, 1) else
  match badAt (suiteRight p) 0 l with
  | some i => ([], i, 1)
  | none => match smallAt p most 0 l with
    | some i => ([], i, 11)
    | none => (packAll p most l.length l [], 0, 0)
end Go.Proofs.Rb

set_option autoImplicit false
set_option linter.unusedVariables false
namespace Go.Proofs.Fw
open Go
/-! ### Small words for the walks -/
theorem drop_step {α : Type} {l : List α} {i : Int} (h : 0 ≤ i) (h2 : i < l.length) (d : α) : l.drop i.toNat = l.getD i.toNat d :: l.drop (i + 1).toNat := by
  have e : (i + 1).toNat = i.toNat + 1 := by omega
  rw [e, List.getD_eq_getElem?_getD, List.getElem?_eq_getElem (by omega)]
  exact List.drop_eq_getElem_cons (by omega)
theorem drop_end {α : Type} {l : List α} {i : Int} (h2 : (l.length : Int) ≤ i) : l.drop i.toNat = [] := List.drop_eq_nil_of_le (by omega)
/-- how many of the first elements pass -/
def stop {α : Type} (p : α → Bool) : List α → Nat
  | [] => 0
  | x :: l => bif p x then stop p l + 1 else 0
theorem stop_yes {α : Type} {p : α → Bool} {x : α} {l : List α} (h : p x = true) : stop p (x :: l) = stop p l + 1 := by simp [stop, h]
theorem stop_no {α : Type} {p : α → Bool} {x : α} {l : List α} (h : p x = false) : stop p (x :: l) = 0 := by simp [stop, h]
theorem all_yes {α : Type} {p : α → Bool} {x : α} {l : List α} (h : p x = true) : (x :: l).all p = l.all p := by simp [h]
theorem all_no {α : Type} {p : α → Bool} {x : α} {l : List α} (h : p x = false) : (x :: l).all p = false := by simp [h]
theorem i64w {n : Int} (h : -9223372036854775808 ≤ n ∧ n ≤ 9223372036854775807) : IntKind.i64.wrap n = n := IntWalk.i64_in n h
theorem u64w {n : Int} (h : 0 ≤ n ∧ n ≤ 18446744073709551615) : IntKind.u64.wrap n = n := IntWalk.u64_in n h
theorem ishr_eq (k : IntKind) (x y : Int) : ishr k x y = x / 2 ^ (min y.toNat k.bits) := by
  unfold ishr
  exact Int.fdiv_eq_ediv_of_nonneg _ (Int.pow_nonneg (by decide))
theorem u8i_zero (b : UInt8) : decide (u8i b = 0) = (b == 0) := by
  rw [Bool.eq_iff_iff]
  simp only [beq_iff_eq, u8i]
  constructor
  · intro h
    apply UInt8.toNat_inj.1
    simpa using h
  · rintro rfl; rfl
theorem u8i_zero' (b : UInt8) : u8i b = 0 ↔ b = 0 := by
  have := u8i_zero b
  rw [Bool.eq_iff_iff] at this
  simpa using this
theorem ofInt_nat {w : Nat} {x : Int} (h : 0 ≤ x) (h' : x.toNat < 2 ^ w) : (BitVec.ofInt w x).toNat = x.toNat := by
  obtain ⟨n, rfl⟩ := Int.eq_ofNat_of_zero_le h
  rw [BitVec.toNat_ofInt, ← Int.natCast_emod, Int.toNat_natCast, Int.toNat_natCast]
  exact Nat.mod_eq_of_lt (by simpa using h')
theorem iand_eq {k : IntKind} {x y : Int} (hx : 0 ≤ x) (hx' : x.toNat < 2 ^ k.bits) (hy : 0 ≤ y) (hy' : y.toNat < 2 ^ k.bits) : ibits .and k x y = k.wrap ((x.toNat &&& y.toNat : Nat) : Int) := by
  unfold ibits
  simp only
  rw [BitVec.toNat_and, ofInt_nat hx hx', ofInt_nat hy hy']
theorem ior_eq {k : IntKind} {x y : Int} (hx : 0 ≤ x) (hx' : x.toNat < 2 ^ k.bits) (hy : 0 ≤ y) (hy' : y.toNat < 2 ^ k.bits) : ibits .or k x y = k.wrap ((x.toNat ||| y.toNat : Nat) : Int) := by
  unfold ibits
  simp only
  rw [BitVec.toNat_or, ofInt_nat hx hx', ofInt_nat hy hy']
theorem and7 {n : Int} (h : 0 ≤ n) (h' : n ≤ 9223372036854775807) : ibits .and .i64 n 7 = n % 8 := by
  rw [iand_eq h (by simp [IntKind.bits]; omega) (by decide) (by decide)]
  have e : n.toNat &&& (7 : Int).toNat = n.toNat % 8 := Nat.and_two_pow_sub_one_eq_mod n.toNat 3
  rw [e, i64w (by omega)]
  omega
theorem andNot8 (x : UInt8) (r : Nat) (h : r < 8) : iu8 (ibits .andNot .u8 (u8i x) (ishr .u8 255 r)) = Rb.andNot x r := by
  have : ∀ (r : Fin 8) (x : Fin 256), iu8 (ibits .andNot .u8 ((x.val : Nat) : Int) (ishr .u8 255 ((r.val : Nat) : Int))) = UInt8.ofNat (x.val / 2 ^ (8 - r.val) * 2 ^ (8 - r.val)) := by decide +kernel
  exact this ⟨r, h⟩ ⟨x.toNat, x.toNat_lt⟩
theorem set_mid {α : Type} (a : List α) (z x : α) {m : Nat} (h : 0 < m) : (a ++ List.replicate m z).set a.length x = a ++ x :: List.replicate (m - 1) z := by
  cases m with
  | zero => omega
  | succ m => simp [List.replicate_succ]
theorem keep_mid {s : Bytes} {k : Nat} (h : k < s.length) (x : UInt8) : (List.take k s ++ List.drop (List.take k s).length (List.replicate s.length 0)).set k x = List.take k s ++ x :: List.replicate (s.length - k - 1) 0 := by
  have hl : (List.take k s).length = k := by simp; omega
  rw [List.drop_replicate, hl]
  have := set_mid (List.take k s) (0 : UInt8) x (m := s.length - k) (by omega)
  rw [hl] at this
  exact this
theorem lc0 (n : Nat) : (((n : Nat) : Int) = 0) = (n = 0) := by
  rw [eq_iff_iff]; omega
theorem lc4 (n : Nat) : (((n : Nat) : Int) = 4) = (n = 4) := by
  rw [eq_iff_iff]; omega
theorem lc8 (n : Nat) : (((n : Nat) : Int) = 8) = (n = 8) := by
  rw [eq_iff_iff]; omega
theorem lc16 (n : Nat) : (((n : Nat) : Int) = 16) = (n = 16) := by
  rw [eq_iff_iff]; omega
theorem lc18 (n : Nat) : (((n : Nat) : Int) = 18) = (n = 18) := by
  rw [eq_iff_iff]; omega
theorem lc20 (n : Nat) : (((n : Nat) : Int) = 20) = (n = 20) := by
  rw [eq_iff_iff]; omega
theorem lcg (n : Nat) : (((n : Nat) : Int) > 255) = (255 < n) := by
  rw [eq_iff_iff]; omega
theorem lcl (n : Nat) : (((n : Nat) : Int) < 256) = (n < 256) := by
  rw [eq_iff_iff]; omega
end Go.Proofs.Fw

set_option autoImplicit false
namespace Go.Proofs.Fw
open Go
/-! ### The program's structs, as plain structures -/
def curFV (c : Rb.Cur) : FV := .agg [.str c.s, .int .i64 c.at_, .int .i64 c.end_, .bool c.bad]
def curOf : FV → Option Rb.Cur
  | .agg [.str s, .int .i64 a, .int .i64 e, .bool b] => some ⟨s, a, e, b⟩
  | _ => none
def dCur : Dec1 Rb.Cur := ⟨curOf, curFV, fun v a h => (by
  unfold curOf at h
  split at h
  · cases h; rfl
  · cases h), fun _ => rfl⟩
def entryFV (e : Rb.Entry) : FV := .agg [.int .i64 e.family, .int .i64 e.tag, .str e.addr, .str e.mask, .str e.next, .int .i64 e.metric]
def entryOf : FV → Option Rb.Entry
  | .agg [.int .i64 f, .int .i64 t, .str a, .str m, .str n, .int .i64 x] => some ⟨f, t, a, m, n, x⟩
  | _ => none
def dEntry : Dec1 Rb.Entry := ⟨entryOf, entryFV, fun v a h => (by
  unfold entryOf at h
  split at h
  · cases h; rfl
  · cases h), fun _ => rfl⟩
def ct0 : List (Nat × FSpec) := []
theorem ct0_ok : CallsOK Tryz.prog et ct0 := CallsOK.nil
/-- a text that begins so -/
def hasPre (s p : Bytes) : Bool := decide (p.length ≤ s.length) && decide (s.take p.length = p)
end Go.Proofs.Fw
namespace Go.Proofs.Fw
/-- a message of a size that no sum leaves -/
def smallM (m : Msg) : Bool := decide (m.list.length ≤ 1099511627776) && decide (Rb.subBytes m.subs ≤ 1099511627776) && decide (m.auth.length + m.pfx.length + m.next.length + m.id.length + m.addr.length + m.orig.length + m.data.length ≤ 1099511627776)
def smallS (l : List SubT) : Bool := decide (Rb.subBytes l ≤ 1099511627776)
theorem subs_len (l : List SubT) : 2 * l.length ≤ Rb.subBytes l := by
  induction l with
  | nil => simp [Rb.subBytes]
  | cons x l ih => simp [Rb.subBytes] at ih ⊢; omega
theorem subBytes_cons (x : SubT) (l : List SubT) : Rb.subBytes (x :: l) = 2 + x.data.length + Rb.subBytes l := by simp [Rb.subBytes]
end Go.Proofs.Fw
namespace Go.Proofs.Fw
/-- a message in a variable's cells -/
def dMsgC : Dec Msg := ⟨fun cs => Msg.ofF (.agg cs), fun m => m.fv.cells, fun v a h => (by
  have := dMsg.ok (.agg v) a h
  have e : (FV.agg v).cells = (Msg.fv a).cells := congrArg FV.cells this
  exact e), fun _ => rfl⟩
end Go.Proofs.Fw

set_option autoImplicit false
set_option maxHeartbeats 400000
set_option linter.unusedVariables false
set_option linter.unusedSimpArgs false
set_option maxRecDepth 20000
namespace Go.Proofs.Fw
open Go
def s252 : FSpec := mkS [] (dC dStr (dC dStr dNil)) fun (s, p, _) => ([], .bool (hasPre s p))
def s133 : FSpec := mkS [] (dC dInt (dC dInt dNil)) fun (n, k, _) => ([], .bool (Rb.fits n k))
def a132_2 : LoopAnn := ⟨[(2, none), (6, none), (7, none), (8, none)], mkL (dC dBool (dC dBytes (dC dInt (dC dInt dNil)))) (dC dBool (dC dBytes (dC dInt (dC dInt dNil)))) oNil fun (r, s, n, i, _) _ => ([decide (0 ≤ i), decide (i ≤ n), decide (n = s.length), decide (n ≤ 1099511627776)], if (s.drop i.toNat).all (fun b => b == 0) then .exit 0 else .ret, (((s.drop i.toNat).all (fun b => b == 0) && r), s, n, i + stop (fun b => b == 0) (s.drop i.toNat), ()), ())⟩
def s132 : FSpec := mkS [] (dC dStr dNil) fun (s, _) => ([decide (s.length ≤ 1099511627776)], .bool (Rb.allZ s))
def s142 : FSpec := mkS [] (dC dInt dNil) fun (n, _) => ([decide (n ≤ 1099511627776)], .str (Rb.zs n.toNat))
def s247 : FSpec := mkS [] (dC dStr (dC dInt dNil)) fun (s, n, _) => ([decide (s.length ≤ 1099511627776)], .str (Rb.keep s n))
def s220 : FSpec := mkS [] (dC dStr dNil) fun (a, _) => ([], .int .i64 (Rb.family a))
noncomputable def s198 : FSpec := vfun tt ct0 [] 2000 Tryz.f198
def s131 : FSpec := mkS [] (dC dStr dNil) fun (s, _) => ([], .bool (decide (s.length = 4)))
def s258 : FSpec := mkS [] dNil fun (_) => ([], .agg [i64 0, i64 0, i64 0, i64 0, i64 4, i64 0, i64 0, i64 32, i64 16, i64 0, i64 0, i64 128, i64 16, i64 8, i64 64, i64 128])
def s219 : FSpec := mkS [] (dC dStr (dC dBool dNil)) fun (s, b, _) => ([], .bool (decide (s = []) || b))
def s221 : FSpec := mkS [] (dC dInt dNil) fun (ae, _) => ([], .int .i64 (Rb.famOf ae))
def a254_2 : LoopAnn := ⟨[(1, none), (2, none), (6, none), (9, none), (10, none), (11, none)], mkL (dC dInt (dC dInt (dC dBool (dC dSubs (dC dInt (dC dInt dNil)))))) (dC dInt (dC dInt (dC dBool (dC dSubs (dC dInt (dC dInt dNil)))))) oNil fun (a, b, r, l, n, i, _) _ => ([decide (0 ≤ i), decide (i ≤ n), decide (n = l.length), decide (n ≤ 1099511627776)], if (l.drop i.toNat).all (fun s => decide (a ≤ s.type) && decide (s.type ≤ b) && decide (s.data.length ≤ 255)) then .exit 0 else .ret, (a, b, ((l.drop i.toNat).all (fun s => decide (a ≤ s.type) && decide (s.type ≤ b) && decide (s.data.length ≤ 255)) && r), l, n, i + stop (fun s => decide (a ≤ s.type) && decide (s.type ≤ b) && decide (s.data.length ≤ 255)) (l.drop i.toNat), ()), ())⟩
def s254 : FSpec := mkS [.ls .sub, .id, .id] (dC dSubs (dC dInt (dC dInt dNil))) fun (l, a, b, _) => ([decide (l.length ≤ 1099511627776)], .bool (Rb.subsOK l a b))
def a257_3 : LoopAnn := ⟨[(3, none), (6, none), (7, none), (8, none)], mkL (dC dInt (dC dSubs (dC dInt (dC dInt dNil)))) (dC dInt (dC dSubs (dC dInt (dC dInt dNil)))) oNil fun (t, l, n, i, _) _ => ([decide (0 ≤ i), decide (i ≤ n), decide (n = l.length), decide (n ≤ 1099511627776), decide (0 ≤ t), decide (t + Rb.subBytes (l.drop i.toNat) ≤ 1099511627776)], .exit 0, (t + Rb.subBytes (l.drop i.toNat), l, n, n, ()), ())⟩
def s257 : FSpec := mkS [.ls .sub] (dC dSubs dNil) fun (l, _) => ([smallS l], .int .i64 (Rb.subBytes l))
noncomputable def ct1 : List (Nat × FSpec) := (252, s252) :: (133, s133) :: (132, s132) :: (142, s142) :: (247, s247) :: (220, s220) :: (198, s198) :: (131, s131) :: (258, s258) :: (219, s219) :: (221, s221) :: (254, s254) :: (257, s257) :: ct0
end Go.Proofs.Fw

set_option autoImplicit false
set_option maxHeartbeats 400000
set_option linter.unusedVariables false
set_option linter.unusedSimpArgs false
set_option maxRecDepth 20000
namespace Go.Proofs.Fw
open Go
theorem w252 (s : Bytes) (p : Bytes) (post : FV → List (List FV) → Prop) : ffun tt ct0 [] Tryz.f252 [.str s, .str p] [] post =
  (ifb (decide ((↑(List.length s) : Int) ≥ (↑(List.length p) : Int)))
   ((decide ((0 : Int) ≤ (↑(0 : Nat) : Int))) = true ∧
   ((decide ((↑(0 : Nat) : Int) ≤ (↑(List.length p) : Int))) = true ∧
   ((decide ((↑(List.length p) : Int) ≤ (↑(List.length s) : Int))) = true ∧
   (post (FV.bool   (decide (List.drop (↑(0 : Nat) : Int).toNat (List.take (↑(List.length p) : Int).toNat s) = p))) ([])))))
   (post (FV.bool false) ([]))) := by kernel_rfl
theorem c252 : CallSound Tryz.prog et 252 s252 := by
 delta s252
 exact pure_man ct0_ok ttOK Tryz.func252 (by kernel_rfl) LoopsOK.none [] (fun ⟨s, p, _⟩ ha => by
  refine FFun.of (w252 s p _) ?_
  refine ifb_i (fun h => ?_) (fun h => ?_)
  · simp at h
    refine ⟨by simp, by simp, by simpa using h, ?_, rfl⟩
    simp [nzr, nz, hasPre, h]
  · simp at h
    refine ⟨?_, rfl⟩
    have : ¬ p.length ≤ s.length := by omega
    simp [nzr, nz, hasPre, this])
theorem w133 (n : Int) (k : Int) (post : FV → List (List FV) → Prop) : ffun tt ct0 [] Tryz.f133 [.int .i64 n, .int .i64 k] [] post =
  (ifb (decide (k ≥ (1 : Int)))
   (ifb (decide (k ≤ (7 : Int)))
    (ifb (decide (n ≥ (0 : Int)))
     ((decide ((0 : Int) ≤ Go.IntKind.u64.wrap (Go.IntKind.i64.wrap ((8 : Int) * k)))) = true ∧
     (post (FV.bool   (decide     (ishr Go.IntKind.i64 n (Go.IntKind.u64.wrap (Go.IntKind.i64.wrap ((8 : Int) * k))) = (0 : Int)))) ([])))
     (post (FV.bool false) ([])))
    (post (FV.bool false) ([])))
   (post (FV.bool false) ([]))) := by kernel_rfl
theorem c133 : CallSound Tryz.prog et 133 s133 := by
 delta s133
 exact pure_man ct0_ok ttOK Tryz.func133 (by kernel_rfl) LoopsOK.none [] (fun ⟨n, k, _⟩ ha => by
  refine FFun.of (w133 n k _) ?_
  refine ifb_i (fun h1 => ?_) (fun h1 => ?_)
  · refine ifb_i (fun h2 => ?_) (fun h2 => ?_)
    · refine ifb_i (fun h3 => ?_) (fun h3 => ?_)
      · simp only [decide_eq_true_eq] at h1 h2 h3
        have hk : k = 1 ∨ k = 2 ∨ k = 3 ∨ k = 4 ∨ k = 5 ∨ k = 6 ∨ k = 7 := by omega
        have e : Go.IntKind.u64.wrap (Go.IntKind.i64.wrap (8 * k)) = 8 * k := by rw [i64w (by omega), u64w (by omega)]
        rw [e]
        refine ⟨by simp; omega, ?_, rfl⟩
        simp only [nzr, nz, Rb.fits, h1, h2, h3, ishr_eq]
        rcases hk with rfl | rfl | rfl | rfl | rfl | rfl | rfl <;> (simp [IntKind.bits]; omega)
      · simp only [decide_eq_true_eq, decide_eq_false_iff_not] at h1 h2 h3
        simp [nzr, nz, Rb.fits]
        omega
    · simp only [decide_eq_true_eq, decide_eq_false_iff_not] at h1 h2
      simp [nzr, nz, Rb.fits]
      omega
  · simp only [decide_eq_false_iff_not] at h1
    simp [nzr, nz, Rb.fits]
    omega)
theorem r132_2 (r : Bool) (s : Bytes) (n : Int) (i : Int) (post : FX → List FV → List (List FV) → Prop) : fround tt ct0 [] [(2, none), (6, none), (7, none), (8, none)] (loopAt Tryz.f132 2) [.bool r, .sl (.u8 s), .int .i64 n, .int .i64 i] [] post =
  (ifb (decide (i < n))
   ((decide ((0 : Int) ≤ i)) = true ∧
   ((decide (i < (↑(List.length s) : Int))) = true ∧
   (ifb (!decide (u8i (List.getD s i.toNat (0 : UInt8)) = (0 : Int)))
    (post (FX.ret) ([FV.bool false, FV.sl (LS.u8 s), FV.int Go.IntKind.i64 n,   FV.int Go.IntKind.i64 i]) ([]))
    (post (FX.normal) ([FV.bool r, FV.sl (LS.u8 s), FV.int Go.IntKind.i64 n,   FV.int Go.IntKind.i64 (Go.IntKind.i64.wrap (i + (1 : Int)))]) ([])))))
   (post (FX.exit (0 : Nat)) ([FV.bool r, FV.sl (LS.u8 s), FV.int Go.IntKind.i64 n,   FV.int Go.IntKind.i64 i]) ([]))) := by kernel_rfl
theorem w132a (s : Bytes) (post : FV → List (List FV) → Prop) : ffun tt ct0 [(2, fixX (.exit 0) a132_2)] Tryz.f132 [.str s] [] post =
  (((if ((List.drop (Int.toNat (0 : Int)) s).all fun b => b == (0 : UInt8)) = true then FX.exit (0 : Nat)     else FX.ret).beq   (FX.exit (0 : Nat))) = true ∧
  ((decide ((0 : Int) ≤ (0 : Int))) = true ∧
  ((decide ((0 : Int) ≤ (↑(List.length s) : Int))) = true ∧
  ((decide ((↑(List.length s) : Int) = (↑(List.length s) : Int))) = true ∧
  ((decide ((↑(List.length s) : Int) ≤ (1099511627776 : Int))) = true ∧
  (post (FV.bool true) ([]))))))) := by kernel_rfl
theorem w132b (s : Bytes) (post : FV → List (List FV) → Prop) : ffun tt ct0 [(2, fixX (.ret) a132_2)] Tryz.f132 [.str s] [] post =
  (((if ((List.drop (Int.toNat (0 : Int)) s).all fun b => b == (0 : UInt8)) = true then FX.exit (0 : Nat)     else FX.ret).beq   FX.ret) = true ∧
  ((decide ((0 : Int) ≤ (0 : Int))) = true ∧
  ((decide ((0 : Int) ≤ (↑(List.length s) : Int))) = true ∧
  ((decide ((↑(List.length s) : Int) = (↑(List.length s) : Int))) = true ∧
  ((decide ((↑(List.length s) : Int) ≤ (1099511627776 : Int))) = true ∧
  (post (FV.bool (((List.drop (Int.toNat (0 : Int)) s).all fun b => b == (0 : UInt8)) && false)) ([]))))))) := by kernel_rfl
theorem k132 : Code.inner (bodyOf Tryz.f132) = [loopAt Tryz.f132 2] := by kernel_rfl
theorem kk132_2 : Code.key (loopAt Tryz.f132 2) = some 2 := by kernel_rfl
theorem l132_2 : LoopSound Tryz.prog et (loopAt Tryz.f132 2) a132_2 := by
 delta a132_2
 exact loop_man ct0_ok ttOK LoopsOK.none (fun (r, s, n, i, _) _ => (n - i).toNat) (fun ⟨r, s, n, i, _⟩ _ ha => by
  refine FRound.of (r132_2 r s n i _) ?_
  simp at ha
  obtain ⟨ha0, ha1, ha2, ha3⟩ := ha
  subst ha2
  refine ifb_i (fun h1 => ?_) (fun h1 => ?_)
  · simp only [decide_eq_true_eq] at h1
    have hd := drop_step (l := s) (i := i) ha0 h1 0
    refine ⟨by simpa using ha0, by simpa using h1, ?_⟩
    generalize s.getD i.toNat 0 = x at hd ⊢
    repeat' (refine ifb_i (fun _ => ?_) (fun _ => ?_))
    all_goals first
      | (have h2 : (fun b => b == 0) x = false := by
          clear hd ha0 ha1 ha3 h1
          first
            | (simp_all [u8i_zero']; done)
            | (simp [u8i_zero'] at *; first | omega | (intros; omega))
         have h3 := all_no (p := fun b => b == 0) (x := x) (l := s.drop (i + 1).toNat) h2
         have h4 := stop_no (p := fun b => b == 0) (x := x) (l := s.drop (i + 1).toNat) h2
         refine ⟨?_, ?_, rfl⟩
         · dsimp only
           rw [hd, h3]
           rfl
         · dsimp only
           rw [hd, h3, h4]
           simp [dC, dNil, dInt, dU8, dU16, dU32, dStr, dBool, dDests, dSubs, dMsgs, dTlvs, dStrs, dInts, dBytes, oDests, oSubs, oMsgs, oTlvs, oStrs, oInts, oBytes, dAny, dNilsl, dPtr, dMsg, dDest, dSubT, dTlv, dCur, dEntry, oNil, oOne, dAgg]
           done)
      | (have h2 : (fun b => b == 0) x = true := by
          clear hd ha0 ha1 ha3 h1
          first
            | (simp_all [u8i_zero']; done)
            | (simp [u8i_zero'] at *; first | omega | (intros; omega))
         have h3 := all_yes (p := fun b => b == 0) (x := x) (l := s.drop (i + 1).toNat) h2
         have h4 := stop_yes (p := fun b => b == 0) (x := x) (l := s.drop (i + 1).toNat) h2
         refine ⟨(r, s, (List.length s : Int), i + 1, ()), (), by rw [i64w (by omega)]; rfl, rfl, ?_, ?_, ?_⟩
         · dsimp only
           omega
         · simp
           omega
         · simp only [hd, h3, h4]
           simp
           omega)
  · simp only [decide_eq_false_iff_not] at h1
    have hd := drop_end (l := s) (i := i) (by omega)
    refine ⟨?_, ?_, rfl⟩
    · dsimp only
      rw [hd]
      rfl
    · dsimp only
      rw [hd]
      simp [stop, dC, dNil, dInt, dU8, dU16, dU32, dStr, dBool, dDests, dSubs, dMsgs, dTlvs, dStrs, dInts, dBytes, oDests, oSubs, oMsgs, oTlvs, oStrs, oInts, oBytes, dAny, dNilsl, dPtr, dMsg, dDest, dSubT, dTlv, dCur, dEntry, oNil, oOne, dAgg])
theorem c132 : CallSound Tryz.prog et 132 s132 := by
 delta s132
 exact pure_any ct0_ok ttOK Tryz.func132 (by kernel_rfl) [] (fun ⟨s, _⟩ ha => by
  simp at ha
  by_cases hc : s.all (fun b => b == 0) = true
  · refine ⟨[(2, fixX (.exit 0) a132_2)], (LoopsOK.one k132 kk132_2 (l132_2.fix (.exit 0))), ?_⟩
    refine FFun.of (w132a s _) ?_
    refine ⟨by simp [hc, FX.beq], ?_⟩
    repeat' (refine And.intro ?_ ?_)
    all_goals try simp_all [nzr, nz, Rb.allZ]
    all_goals first | assumption | omega
  · refine ⟨[(2, fixX (.ret) a132_2)], (LoopsOK.one k132 kk132_2 (l132_2.fix (.ret))), ?_⟩
    refine FFun.of (w132b s _) ?_
    refine ⟨by simp [hc, FX.beq], ?_⟩
    repeat' (refine And.intro ?_ ?_)
    all_goals try simp_all [nzr, nz, Rb.allZ]
    all_goals first | assumption | omega)
theorem w142 (n : Int) (post : FV → List (List FV) → Prop) : ffun tt ct0 [] Tryz.f142 [.int .i64 n] [] post =
  ((decide ((0 : Int) ≤ if (0 : Int) > n then (0 : Int) else n)) = true ∧
  ((decide ((if (0 : Int) > n then (0 : Int) else n) ≤ if (0 : Int) > n then (0 : Int) else n)) = true ∧
  ((decide ((if (0 : Int) > n then (0 : Int) else n) * (↑(1 : Nat) : Int) ≤ (140737488355328 : Int))) = true ∧
  (post (FV.str (List.replicate (if (0 : Int) > n then (0 : Int) else n).toNat (0 : UInt8))) ([]))))) := by kernel_rfl
theorem c142 : CallSound Tryz.prog et 142 s142 := by
 delta s142
 exact pure_man ct0_ok ttOK Tryz.func142 (by kernel_rfl) LoopsOK.none [] (fun ⟨n, _⟩ ha => by
  refine FFun.of (w142 n _) ?_
  simp at ha
  have e : (if 0 > n then 0 else n).toNat = n.toNat := by split <;> omega
  rw [e]
  refine ⟨?_, ?_, ?_, rfl, rfl⟩
  · simp; split <;> omega
  · simp
  · simp [LTag.bytes]; split <;> omega)
theorem w247 (s : Bytes) (n : Int) (post : FV → List (List FV) → Prop) : ffun tt ct0 [] Tryz.f247 [.str s, .int .i64 n] [] post =
  (ifb (decide (n ≥ Go.IntKind.i64.wrap ((8 : Int) * (↑(List.length s) : Int))))
   (post (FV.str s) ([]))
   ((decide ((0 : Int) ≤ (↑(List.length s) : Int))) = true ∧
   ((decide ((↑(List.length s) : Int) ≤ (↑(List.length s) : Int))) = true ∧
   ((decide ((↑(List.length s) : Int) * (↑(1 : Nat) : Int) ≤ (140737488355328 : Int))) = true ∧
   (ifb (decide (n ≤ (0 : Int)))
    (post (FV.str (List.replicate (↑(List.length s) : Int).toNat (0 : UInt8))) ([]))
    ((decide ((0 : Int) ≤ (3 : Int))) = true ∧
    ((decide ((0 : Int) ≤ (↑(0 : Nat) : Int))) = true ∧
    ((decide ((↑(0 : Nat) : Int) ≤ ishr Go.IntKind.i64 n (3 : Int))) = true ∧
    ((decide (ishr Go.IntKind.i64 n (3 : Int) ≤ (↑(List.length s) : Int))) = true ∧
    ((decide   ((List.drop (↑(0 : Nat) : Int).toNat (List.take (ishr Go.IntKind.i64 n (3 : Int)).toNat s)).length ≤     (List.replicate (↑(List.length s) : Int).toNat (0 : UInt8)).length)) = true ∧
    ((decide ((0 : Int) ≤ ishr Go.IntKind.i64 n (3 : Int))) = true ∧
    ((decide (ishr Go.IntKind.i64 n (3 : Int) < (↑(List.length s) : Int))) = true ∧
    ((decide ((0 : Int) ≤ Go.IntKind.u64.wrap (ibits Go.BinOp.and Go.IntKind.i64 n (7 : Int)))) = true ∧
    ((decide ((0 : Int) ≤ ishr Go.IntKind.i64 n (3 : Int))) = true ∧
    ((decide   (ishr Go.IntKind.i64 n (3 : Int) <     (↑(List.drop (↑(0 : Nat) : Int).toNat (List.take (ishr Go.IntKind.i64 n (3 : Int)).toNat s) ++             List.drop               (List.drop (↑(0 : Nat) : Int).toNat                   (List.take (ishr Go.IntKind.i64 n (3 : Int)).toNat s)).length               (List.replicate (↑(List.length s) : Int).toNat (0 : UInt8))).length :       Int))) = true ∧
    (post (FV.str   ((List.drop (↑(0 : Nat) : Int).toNat (List.take (ishr Go.IntKind.i64 n (3 : Int)).toNat s) ++         List.drop           (List.drop (↑(0 : Nat) : Int).toNat (List.take (ishr Go.IntKind.i64 n (3 : Int)).toNat s)).length           (List.replicate (↑(List.length s) : Int).toNat (0 : UInt8))).set     (ishr Go.IntKind.i64 n (3 : Int)).toNat     (iu8       (ibits Go.BinOp.andNot Go.IntKind.u8         (u8i (List.getD s (ishr Go.IntKind.i64 n (3 : Int)).toNat (0 : UInt8)))         (ishr Go.IntKind.u8 (255 : Int)           (Go.IntKind.u64.wrap (ibits Go.BinOp.and Go.IntKind.i64 n (7 : Int)))))))) ([]))))))))))))))))) := by kernel_rfl
theorem c247 : CallSound Tryz.prog et 247 s247 := by
 delta s247
 exact pure_man ct0_ok ttOK Tryz.func247 (by kernel_rfl) LoopsOK.none [] (fun ⟨s, n, _⟩ ha => by
  refine FFun.of (w247 s n _) ?_
  simp at ha
  have e8 : Go.IntKind.i64.wrap (8 * (List.length s : Int)) = 8 * (List.length s : Int) := i64w (by omega)
  rw [e8]
  refine ifb_i (fun h1 => ?_) (fun h1 => ?_)
  · simp only [decide_eq_true_eq] at h1
    simp [nzr, nz, Rb.keep]
    omega
  · simp only [decide_eq_false_iff_not] at h1
    refine ⟨by simp, by simp, by simp; omega, ?_⟩
    refine ifb_i (fun h2 => ?_) (fun h2 => ?_)
    · simp only [decide_eq_true_eq] at h2
      have e1 : ¬ 8 * (List.length s : Int) ≤ n := by omega
      simp [nzr, nz, Rb.keep, e1, h2, Rb.zs]
    · simp only [decide_eq_false_iff_not] at h2
      have e1 : ¬ 8 * (List.length s : Int) ≤ n := by omega
      have es : ishr Go.IntKind.i64 n 3 = n / 8 := by rw [ishr_eq]; rfl
      have em : Go.IntKind.u64.wrap (ibits Go.BinOp.and Go.IntKind.i64 n 7) = n % 8 := by rw [and7 (by omega) (by omega), u64w (by omega)]
      have hk : (n / 8).toNat = n.toNat / 8 := by omega
      have hlt : n.toNat / 8 < s.length := by omega
      rw [es, em]
      refine ⟨by simp, by simp, by simp; omega, by simp; omega, by simp; omega, by simp; omega, by simp; omega, by simp; omega, by simp; omega, by simp; omega, ?_, rfl⟩
      simp only [nzr, nz, Rb.keep, e1, h2, if_false, hk]
      have hr : n % 8 = ((n.toNat % 8 : Nat) : Int) := by omega
      rw [hr, andNot8 _ _ (by omega)]
      have := keep_mid (s := s) hlt (Rb.andNot (s.getD (n.toNat / 8) 0) (n.toNat % 8))
      simp only [Int.toNat_zero, List.drop_zero, Int.toNat_natCast] at this ⊢
      rw [this]
      rfl)
theorem w220 (a : Bytes) (post : FV → List (List FV) → Prop) : ffun tt ct0 [] Tryz.f220 [.str a] [] post =
  (ifb (decide ((↑(List.length a) : Int) = (4 : Int)))
   (post (FV.int Go.IntKind.i64 (0 : Int)) ([]))
   (ifb (decide ((↑(List.length a) : Int) = (16 : Int)))
    (post (FV.int Go.IntKind.i64 (1 : Int)) ([]))
    (post (FV.int Go.IntKind.i64 (-1 : Int)) ([])))) := by kernel_rfl
theorem c220 : CallSound Tryz.prog et 220 s220 := by
 delta s220
 exact pure_man ct0_ok ttOK Tryz.func220 (by kernel_rfl) LoopsOK.none [] (fun ⟨a, _⟩ ha => by
  refine FFun.of (w220 a _) ?_
  repeat' (first | (refine ifb_i (fun _ => ?_) (fun _ => ?_)) | (refine And.intro ?_ ?_))
  all_goals simp_all [nzr, nz, Rb.family]
  all_goals omega)
theorem c198 : CallSound Tryz.prog et 198 s198 := auto ct0_ok ttOK Tryz.func198 (by kernel_rfl)
theorem w131 (s : Bytes) (post : FV → List (List FV) → Prop) : ffun tt ct0 [] Tryz.f131 [.str s] [] post =
  (post (FV.bool (decide ((↑(List.length s) : Int) = (4 : Int)))) ([])) := by kernel_rfl
theorem c131 : CallSound Tryz.prog et 131 s131 := by
 delta s131
 exact pure_man ct0_ok ttOK Tryz.func131 (by kernel_rfl) LoopsOK.none [] (fun ⟨s, _⟩ ha => by
  refine FFun.of (w131 s _) ?_
  refine ⟨?_, rfl⟩
  simp [nzr, nz]
  omega)
theorem w258  (post : FV → List (List FV) → Prop) : ffun tt ct0 [] Tryz.f258 [] [] post =
  (post (FV.agg   [FV.int Go.IntKind.i64 (0 : Int), FV.int Go.IntKind.i64 (0 : Int),     FV.int Go.IntKind.i64 (0 : Int), FV.int Go.IntKind.i64 (0 : Int),     FV.int Go.IntKind.i64 (4 : Int), FV.int Go.IntKind.i64 (0 : Int),     FV.int Go.IntKind.i64 (0 : Int), FV.int Go.IntKind.i64 (32 : Int),     FV.int Go.IntKind.i64 (16 : Int), FV.int Go.IntKind.i64 (0 : Int),     FV.int Go.IntKind.i64 (0 : Int), FV.int Go.IntKind.i64 (128 : Int),     FV.int Go.IntKind.i64 (16 : Int), FV.int Go.IntKind.i64 (8 : Int),     FV.int Go.IntKind.i64 (64 : Int), FV.int Go.IntKind.i64 (128 : Int)]) ([])) := by kernel_rfl
theorem c258 : CallSound Tryz.prog et 258 s258 := by
 delta s258
 exact pure_man ct0_ok ttOK Tryz.func258 (by kernel_rfl) LoopsOK.none [] (fun _ ha => by
  refine FFun.of (w258  _) ?_
  exact ⟨rfl, rfl⟩)
theorem w219 (s : Bytes) (b : Bool) (post : FV → List (List FV) → Prop) : ffun tt ct0 [] Tryz.f219 [.str s, .bool b] [] post =
  (ifb (decide (s = eB))
   (post (FV.bool true) ([]))
   (post (FV.bool b) ([]))) := by kernel_rfl
theorem c219 : CallSound Tryz.prog et 219 s219 := by
 delta s219
 exact pure_man ct0_ok ttOK Tryz.func219 (by kernel_rfl) LoopsOK.none [] (fun ⟨s, b, _⟩ ha => by
  refine FFun.of (w219 s b _) ?_
  repeat' (first | (refine ifb_i (fun _ => ?_) (fun _ => ?_)) | (refine And.intro ?_ ?_))
  all_goals simp_all [nzr, nz])
theorem w221 (ae : Int) (post : FV → List (List FV) → Prop) : ffun tt ct0 [] Tryz.f221 [.int .i64 ae] [] post =
  (ifb (decide (ae = (1 : Int)))
   (post (FV.int Go.IntKind.i64 (0 : Int)) ([]))
   (ifb (decide (ae = (2 : Int)))
    (post (FV.int Go.IntKind.i64 (1 : Int)) ([]))
    (ifb (decide (ae = (3 : Int)))
     (post (FV.int Go.IntKind.i64 (1 : Int)) ([]))
     (post (FV.int Go.IntKind.i64 (-1 : Int)) ([]))))) := by kernel_rfl
theorem c221 : CallSound Tryz.prog et 221 s221 := by
 delta s221
 exact pure_man ct0_ok ttOK Tryz.func221 (by kernel_rfl) LoopsOK.none [] (fun ⟨ae, _⟩ ha => by
  refine FFun.of (w221 ae _) ?_
  repeat' (first | (refine ifb_i (fun _ => ?_) (fun _ => ?_)) | (refine And.intro ?_ ?_))
  all_goals simp_all [nzr, nz, Rb.famOf])
theorem r254_2 (a : Int) (b : Int) (r : Bool) (l : List SubT) (n : Int) (i : Int) (post : FX → List FV → List (List FV) → Prop) : fround tt ct0 [] [(1, none), (2, none), (6, none), (9, none), (10, none), (11, none)] (loopAt Tryz.f254 2) [.int .i64 a, .int .i64 b, .bool r, .sl (.sub l), .int .i64 n, .int .i64 i] [] post =
  (ifb (decide (i < n))
   ((decide ((0 : Int) ≤ i)) = true ∧
   ((decide (i < (↑l.length : Int))) = true ∧
   (ifb (decide ((l.getD i.toNat Inhabited.default).type < a))
    (post (FX.ret) ([FV.int Go.IntKind.i64 a, FV.int Go.IntKind.i64 b, FV.bool false,   FV.sl (LS.sub l), FV.int Go.IntKind.i64 n,   FV.int Go.IntKind.i64 i]) ([]))
    (ifb (decide ((l.getD i.toNat Inhabited.default).type > b))
     (post (FX.ret) ([FV.int Go.IntKind.i64 a, FV.int Go.IntKind.i64 b, FV.bool false,   FV.sl (LS.sub l), FV.int Go.IntKind.i64 n,   FV.int Go.IntKind.i64 i]) ([]))
     (ifb (decide ((↑(List.length (l.getD i.toNat Inhabited.default).data) : Int) > (255 : Int)))
      (post (FX.ret) ([FV.int Go.IntKind.i64 a, FV.int Go.IntKind.i64 b, FV.bool false,   FV.sl (LS.sub l), FV.int Go.IntKind.i64 n,   FV.int Go.IntKind.i64 i]) ([]))
      (post (FX.normal) ([FV.int Go.IntKind.i64 a, FV.int Go.IntKind.i64 b, FV.bool r,   FV.sl (LS.sub l), FV.int Go.IntKind.i64 n,   FV.int Go.IntKind.i64 (Go.IntKind.i64.wrap (i + (1 : Int)))]) ([])))))))
   (post (FX.exit (0 : Nat)) ([FV.int Go.IntKind.i64 a, FV.int Go.IntKind.i64 b, FV.bool r,   FV.sl (LS.sub l), FV.int Go.IntKind.i64 n,   FV.int Go.IntKind.i64 i]) ([]))) := by kernel_rfl
theorem w254a (l : List SubT) (a : Int) (b : Int) (post : FV → List (List FV) → Prop) : ffun tt ct0 [(2, fixX (.exit 0) a254_2)] Tryz.f254 [.sl (.sub l), .int .i64 a, .int .i64 b] [] post =
  (((if         ((List.drop (Int.toNat (0 : Int)) l).all fun s =>             decide (a ≤ s.type) && decide (s.type ≤ b) &&               decide (List.length s.data ≤ (255 : Nat))) =           true then       FX.exit (0 : Nat)     else FX.ret).beq   (FX.exit (0 : Nat))) = true ∧
  ((decide ((0 : Int) ≤ (0 : Int))) = true ∧
  ((decide ((0 : Int) ≤ (↑l.length : Int))) = true ∧
  ((decide ((↑l.length : Int) = (↑l.length : Int))) = true ∧
  ((decide ((↑l.length : Int) ≤ (1099511627776 : Int))) = true ∧
  (post (FV.bool true) ([]))))))) := by kernel_rfl
theorem w254b (l : List SubT) (a : Int) (b : Int) (post : FV → List (List FV) → Prop) : ffun tt ct0 [(2, fixX (.ret) a254_2)] Tryz.f254 [.sl (.sub l), .int .i64 a, .int .i64 b] [] post =
  (((if         ((List.drop (Int.toNat (0 : Int)) l).all fun s =>             decide (a ≤ s.type) && decide (s.type ≤ b) &&               decide (List.length s.data ≤ (255 : Nat))) =           true then       FX.exit (0 : Nat)     else FX.ret).beq   FX.ret) = true ∧
  ((decide ((0 : Int) ≤ (0 : Int))) = true ∧
  ((decide ((0 : Int) ≤ (↑l.length : Int))) = true ∧
  ((decide ((↑l.length : Int) = (↑l.length : Int))) = true ∧
  ((decide ((↑l.length : Int) ≤ (1099511627776 : Int))) = true ∧
  (post (FV.bool   (((List.drop (Int.toNat (0 : Int)) l).all fun s =>       decide (a ≤ s.type) && decide (s.type ≤ b) &&         decide (List.length s.data ≤ (255 : Nat))) &&     false)) ([]))))))) := by kernel_rfl
theorem k254 : Code.inner (bodyOf Tryz.f254) = [loopAt Tryz.f254 2] := by kernel_rfl
theorem kk254_2 : Code.key (loopAt Tryz.f254 2) = some 2 := by kernel_rfl
theorem l254_2 : LoopSound Tryz.prog et (loopAt Tryz.f254 2) a254_2 := by
 delta a254_2
 exact loop_man ct0_ok ttOK LoopsOK.none (fun (a, b, r, l, n, i, _) _ => (n - i).toNat) (fun ⟨a, b, r, l, n, i, _⟩ _ ha => by
  refine FRound.of (r254_2 a b r l n i _) ?_
  simp at ha
  obtain ⟨ha0, ha1, ha2, ha3⟩ := ha
  subst ha2
  refine ifb_i (fun h1 => ?_) (fun h1 => ?_)
  · simp only [decide_eq_true_eq] at h1
    have hd := drop_step (l := l) (i := i) ha0 h1 default
    refine ⟨by simpa using ha0, by simpa using h1, ?_⟩
    generalize l.getD i.toNat default = x at hd ⊢
    repeat' (refine ifb_i (fun _ => ?_) (fun _ => ?_))
    all_goals first
      | (have h2 : (fun s => decide (a ≤ s.type) && decide (s.type ≤ b) && decide (s.data.length ≤ 255)) x = false := by
          clear hd ha0 ha1 ha3 h1
          first
            | (simp_all [Int.not_lt]; done)
            | (simp [Int.not_lt] at *; first | omega | (intros; omega))
         have h3 := all_no (p := fun s => decide (a ≤ s.type) && decide (s.type ≤ b) && decide (s.data.length ≤ 255)) (x := x) (l := l.drop (i + 1).toNat) h2
         have h4 := stop_no (p := fun s => decide (a ≤ s.type) && decide (s.type ≤ b) && decide (s.data.length ≤ 255)) (x := x) (l := l.drop (i + 1).toNat) h2
         refine ⟨?_, ?_, rfl⟩
         · dsimp only
           rw [hd, h3]
           rfl
         · dsimp only
           rw [hd, h3, h4]
           simp [dC, dNil, dInt, dU8, dU16, dU32, dStr, dBool, dDests, dSubs, dMsgs, dTlvs, dStrs, dInts, dBytes, oDests, oSubs, oMsgs, oTlvs, oStrs, oInts, oBytes, dAny, dNilsl, dPtr, dMsg, dDest, dSubT, dTlv, dCur, dEntry, oNil, oOne, dAgg]
           done)
      | (have h2 : (fun s => decide (a ≤ s.type) && decide (s.type ≤ b) && decide (s.data.length ≤ 255)) x = true := by
          clear hd ha0 ha1 ha3 h1
          first
            | (simp_all [Int.not_lt]; done)
            | (simp [Int.not_lt] at *; first | omega | (intros; omega))
         have h3 := all_yes (p := fun s => decide (a ≤ s.type) && decide (s.type ≤ b) && decide (s.data.length ≤ 255)) (x := x) (l := l.drop (i + 1).toNat) h2
         have h4 := stop_yes (p := fun s => decide (a ≤ s.type) && decide (s.type ≤ b) && decide (s.data.length ≤ 255)) (x := x) (l := l.drop (i + 1).toNat) h2
         refine ⟨(a, b, r, l, (List.length l : Int), i + 1, ()), (), by rw [i64w (by omega)]; rfl, rfl, ?_, ?_, ?_⟩
         · dsimp only
           omega
         · simp
           omega
         · simp only [hd, h3, h4]
           simp
           omega)
  · simp only [decide_eq_false_iff_not] at h1
    have hd := drop_end (l := l) (i := i) (by omega)
    refine ⟨?_, ?_, rfl⟩
    · dsimp only
      rw [hd]
      rfl
    · dsimp only
      rw [hd]
      simp [stop, dC, dNil, dInt, dU8, dU16, dU32, dStr, dBool, dDests, dSubs, dMsgs, dTlvs, dStrs, dInts, dBytes, oDests, oSubs, oMsgs, oTlvs, oStrs, oInts, oBytes, dAny, dNilsl, dPtr, dMsg, dDest, dSubT, dTlv, dCur, dEntry, oNil, oOne, dAgg])
theorem c254 : CallSound Tryz.prog et 254 s254 := by
 delta s254
 exact pure_any ct0_ok ttOK Tryz.func254 (by kernel_rfl) [] (fun ⟨l, a, b, _⟩ ha => by
  simp at ha
  by_cases hc : l.all (fun s => decide (a ≤ s.type) && decide (s.type ≤ b) && decide (s.data.length ≤ 255)) = true
  · refine ⟨[(2, fixX (.exit 0) a254_2)], (LoopsOK.one k254 kk254_2 (l254_2.fix (.exit 0))), ?_⟩
    refine FFun.of (w254a l a b _) ?_
    refine ⟨by simp [hc, FX.beq], ?_⟩
    repeat' (refine And.intro ?_ ?_)
    all_goals try simp_all [nzr, nz, Rb.subsOK]
    all_goals first | assumption | omega
  · refine ⟨[(2, fixX (.ret) a254_2)], (LoopsOK.one k254 kk254_2 (l254_2.fix (.ret))), ?_⟩
    refine FFun.of (w254b l a b _) ?_
    refine ⟨by simp [hc, FX.beq], ?_⟩
    repeat' (refine And.intro ?_ ?_)
    all_goals try simp_all [nzr, nz, Rb.subsOK]
    all_goals first | assumption | omega)
theorem r257_3 (t : Int) (l : List SubT) (n : Int) (i : Int) (post : FX → List FV → List (List FV) → Prop) : fround tt ct0 [] [(3, none), (6, none), (7, none), (8, none)] (loopAt Tryz.f257 3) [.int .i64 t, .sl (.sub l), .int .i64 n, .int .i64 i] [] post =
  (ifb (decide (i < n))
   ((decide ((0 : Int) ≤ i)) = true ∧
   ((decide (i < (↑l.length : Int))) = true ∧
   (post (FX.normal) ([FV.int Go.IntKind.i64     (Go.IntKind.i64.wrap       (t + Go.IntKind.i64.wrap ((2 : Int) + (↑(List.length (l.getD i.toNat Inhabited.default).data) : Int)))),   FV.sl (LS.sub l), FV.int Go.IntKind.i64 n,   FV.int Go.IntKind.i64 (Go.IntKind.i64.wrap (i + (1 : Int)))]) ([]))))
   (post (FX.exit (0 : Nat)) ([FV.int Go.IntKind.i64 t, FV.sl (LS.sub l), FV.int Go.IntKind.i64 n,   FV.int Go.IntKind.i64 i]) ([]))) := by kernel_rfl
theorem w257 (l : List SubT) (post : FV → List (List FV) → Prop) : ffun tt ct0 [(3, a257_3)] Tryz.f257 [.sl (.sub l)] [] post =
  ((decide ((0 : Int) ≤ (0 : Int))) = true ∧
  ((decide ((0 : Int) ≤ (↑l.length : Int))) = true ∧
  ((decide ((↑l.length : Int) = (↑l.length : Int))) = true ∧
  ((decide ((↑l.length : Int) ≤ (1099511627776 : Int))) = true ∧
  ((decide ((0 : Int) ≤ (0 : Int))) = true ∧
  ((decide   ((0 : Int) + (↑(Rb.subBytes (List.drop (Int.toNat (0 : Int)) l)) : Int) ≤ (1099511627776 : Int))) = true ∧
  (post (FV.int Go.IntKind.i64 ((0 : Int) + (↑(Rb.subBytes (List.drop (Int.toNat (0 : Int)) l)) : Int))) ([])))))))) := by kernel_rfl
theorem k257 : Code.inner (bodyOf Tryz.f257) = [loopAt Tryz.f257 3] := by kernel_rfl
theorem kk257_3 : Code.key (loopAt Tryz.f257 3) = some 3 := by kernel_rfl
theorem l257_3 : LoopSound Tryz.prog et (loopAt Tryz.f257 3) a257_3 := by
 delta a257_3
 exact loop_man ct0_ok ttOK LoopsOK.none (fun (t, l, n, i, _) _ => (n - i).toNat) (fun ⟨t, l, n, i, _⟩ _ ha => by
  refine FRound.of (r257_3 t l n i _) ?_
  simp at ha
  obtain ⟨ha0, ha1, ha2, ha3, ha4, ha5⟩ := ha
  subst ha2
  refine ifb_i (fun h1 => ?_) (fun h1 => ?_)
  · simp only [decide_eq_true_eq] at h1
    have hd := drop_step (l := l) (i := i) ha0 h1 default
    rw [hd, subBytes_cons] at ha5
    refine ⟨by simpa using ha0, by simpa using h1, ?_⟩
    generalize l.getD i.toNat default = x at hd ha5 ⊢
    refine ⟨(t + (2 + (x.data.length : Int)), l, (l.length : Int), i + 1, ()), (), ?_, rfl, ?_, ?_, ?_⟩
    · rw [i64w (n := i + 1) (by omega), i64w (n := 2 + _) (by omega), i64w (by omega)]; rfl
    · dsimp only
      omega
    · simp
      omega
    · simp only [hd, subBytes_cons]
      simp
      omega
  · simp only [decide_eq_false_iff_not] at h1
    have hd := drop_end (l := l) (i := i) (by omega)
    have hi : i = l.length := by omega
    refine ⟨rfl, ?_, rfl⟩
    dsimp only
    rw [hd, hi]
    simp [Rb.subBytes, dC, dNil, dInt, dU8, dU16, dU32, dStr, dBool, dDests, dSubs, dMsgs, dTlvs, dStrs, dInts, dBytes, oDests, oSubs, oMsgs, oTlvs, oStrs, oInts, oBytes, dAny, dNilsl, dPtr, dMsg, dDest, dSubT, dTlv, dCur, dEntry, oNil, oOne, dAgg])
theorem c257 : CallSound Tryz.prog et 257 s257 := by
 delta s257
 exact pure_man ct0_ok ttOK Tryz.func257 (by kernel_rfl) (LoopsOK.one k257 kk257_3 l257_3) [] (fun ⟨l, _⟩ ha => by
  refine FFun.of (w257 l _) ?_
  simp [smallS] at ha
  have := subs_len l
  refine ⟨by simp, by simp, by simp, by simp; omega, by simp, by simp; omega, ?_, rfl⟩
  simp [nzr, nz])
theorem ct1_ok : CallsOK Tryz.prog et ct1 := (CallsOK.put (CallsOK.put (CallsOK.put (CallsOK.put (CallsOK.put (CallsOK.put (CallsOK.put (CallsOK.put (CallsOK.put (CallsOK.put (CallsOK.put (CallsOK.put (CallsOK.put ct0_ok c257) c254) c221) c219) c258) c131) c198) c220) c247) c142) c132) c133) c252)
end Go.Proofs.Fw
