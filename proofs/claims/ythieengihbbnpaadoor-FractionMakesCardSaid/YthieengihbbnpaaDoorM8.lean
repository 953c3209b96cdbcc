/- Intervals: what the program's functions return. -/
import Derived.Test.YthieengihbbnpaaDoorM7
namespace Go.Proofs.YthieengihbbnpaaDoor.M
def ivld (a b c d : Int) : Bool := vld a b && vld c d && decide (cmpF a b c d ≤ 0)
def icont (a b c d x y : Int) : Bool := ivld a b c d && vld x y && decide (cmpF a b x y ≤ 0) && decide (cmpF x y c d ≤ 0)
def iin (a b c d e f g h : Int) : Bool := ivld a b c d && icont e f g h a b && icont e f g h c d
def lessr (a b c d : Int) : Int × Int × Int := if cmpF a b c d ≤ 0 then (a, b, 0) else (c, d, 0)
def morer (a b c d : Int) : Int × Int × Int := if 0 ≤ cmpF a b c d then (a, b, 0) else (c, d, 0)
/-- one number more -/
def spanStep (s : Int × Int × Int × Int) (f : Int × Int) : Int × Int × Int × Int :=
  ((lessr s.1 s.2.1 f.1 f.2).1, (lessr s.1 s.2.1 f.1 f.2).2.1, (morer s.2.2.1 s.2.2.2 f.1 f.2).1, (morer s.2.2.1 s.2.2.2 f.1 f.2).2.1)
def spanF (l : List (Int × Int)) : Int × Int × Int × Int := (l.drop 1).foldl spanStep ((l.getD 0 (0, 0)).1, (l.getD 0 (0, 0)).2, (l.getD 0 (0, 0)).1, (l.getD 0 (0, 0)).2)
/-- the results for some pairs, and their span -/
def extF (op : Int → Int → Int → Int → Int × Int × Int) (ps : List (Int × Int × Int × Int)) : Int × Int × Int × Int × Int :=
  if ps.all (fun p => (op p.1 p.2.1 p.2.2.1 p.2.2.2).2.2 == 0) then
    let s := spanF (ps.map fun p => ((op p.1 p.2.1 p.2.2.1 p.2.2.2).1, (op p.1 p.2.1 p.2.2.1 p.2.2.2).2.1))
    (s.1, s.2.1, s.2.2.1, s.2.2.2, 0)
  else (0, 0, 0, 0, 5)
def imake (a b c d : Int) : Int × Int × Int × Int × Int := if ivld a b c d = true then (a, b, c, d, 0) else (0, 0, 0, 0, 1)
def iadd (a b c d e f g h : Int) := if (ivld a b c d && ivld e f g h) = true then extF addF [(a, b, e, f), (c, d, g, h)] else (0, 0, 0, 0, 1)
def isub (a b c d e f g h : Int) := if (ivld a b c d && ivld e f g h) = true then extF subF [(a, b, g, h), (c, d, e, f)] else (0, 0, 0, 0, 1)
def imul (a b c d e f g h : Int) := if (ivld a b c d && ivld e f g h) = true then extF mulF [(a, b, e, f), (a, b, g, h), (c, d, e, f), (c, d, g, h)] else (0, 0, 0, 0, 1)
def imin (a b c d e f g h : Int) := if (ivld a b c d && ivld e f g h) = true then extF lessr [(a, b, e, f), (c, d, g, h)] else (0, 0, 0, 0, 1)
def imax (a b c d e f g h : Int) := if (ivld a b c d && ivld e f g h) = true then extF morer [(a, b, e, f), (c, d, g, h)] else (0, 0, 0, 0, 1)
def iscale (a b c d x y : Int) := if (ivld a b c d && vld x y) = true then extF mulF [(a, b, x, y), (c, d, x, y)] else (0, 0, 0, 0, 1)
def idiv (a b c d x y : Int) := if (ivld a b c d && vld x y && !(x == 0)) = true then extF divF [(a, b, x, y), (c, d, x, y)] else (0, 0, 0, 0, 1)
def ineg (a b c d : Int) : Int × Int × Int × Int × Int := if ivld a b c d = true then ((negF c d).1, (negF c d).2, (negF a b).1, (negF a b).2, 0) else (0, 0, 0, 0, 1)
def ihull (a b c d e f g h : Int) : Int × Int × Int × Int × Int :=
  if (ivld a b c d && ivld e f g h) = true then
    let s := spanF [(a, b), (c, d), (e, f), (g, h)]
    (s.1, s.2.1, s.2.2.1, s.2.2.2, 0)
  else (0, 0, 0, 0, 1)
def isect (a b c d e f g h : Int) : Int × Int × Int × Int × Int :=
  if (ivld a b c d && ivld e f g h) = true then
    let l := morer a b e f
    let m := lessr c d g h
    if ivld l.1 l.2.1 m.1 m.2.1 = true then (l.1, l.2.1, m.1, m.2.1, 0) else (0, 0, 0, 0, 8)
  else (0, 0, 0, 0, 1)
def iwidth (a b c d : Int) : Int × Int × Int := if ivld a b c d = true then (if (subF c d a b).2.2 = 0 then subF c d a b else (0, 0, 5)) else (0, 0, 1)
end Go.Proofs.YthieengihbbnpaaDoor.M
