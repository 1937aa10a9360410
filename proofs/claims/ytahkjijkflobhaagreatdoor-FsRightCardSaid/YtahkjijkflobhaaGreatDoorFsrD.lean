import Derived.WalkKit
import Derived.Laws.RangeString
import Derived.RangeFuncBox
import Derived.RangeFuncFrom
import Derived.RangeFuncLeaves
import Derived.Shelf.Abstract
import Derived.OwnWalkIn
import Derived.TacticsInMore
import Derived.LoopNIn
import Derived.LoopIn
import Derived.Maps.AppendAt
import Derived.RangeFuncNested
import Derived.Test.YtahkjijkflobhaaGreatDoorFsrC
set_option linter.unusedSimpArgs false
set_option linter.unusedVariables false
set_option linter.unusedSectionVars false
set_option linter.defProp false
open Go.Proofs.Tryz
namespace Go.Abs
open Go
def TG0:(∀B M b,ag.jA B M (.bool b)=(.bool b)/\ag.kC B M (.bool b)=(.bool b)/\ag.kg B M (.bool b)=(.bool b)/\ag.nK B M (.bool b)=(.bool b)/\ag.jV B M (.bool b)=(.bool b)/\ag.j9 B M (.bool b)=(.bool b)/\ag.lY B M (.bool b)=(.bool b)) /\
  (∀b,ag.shut (.bool b)=(.bool b)/\ag.fS (.bool b)=(.bool b)/\ag.jx (.bool b)=false/\ag.cells? (.bool b)=some [(.bool b)]/\ag.iM (.bool b)=true/\ag.plainCell (.bool b)=true/\ag.plain (.bool b)=true/\ag.cells (.bool b)=[(.bool b)]/\ag.ib (.bool b)=[]/\ag.ml (.bool b)=[]/\ag.ids (.bool b)=[]) /\
  (∀M b,ag.oo M (.bool b)=(.bool b)/\ag.vI M (.bool b)=(.bool b)) /\
  (∀B M k n,ag.jA B M (.int k n)=(.int k n)/\ag.kC B M (.int k n)=(.int k n)/\ag.kg B M (.int k n)=(.int k n)/\ag.nK B M (.int k n)=(.int k n)/\ag.jV B M (.int k n)=(.int k n)/\ag.j9 B M (.int k n)=(.int k n)/\ag.lY B M (.int k n)=(.int k n)) /\
  (∀k n,ag.shut (.int k n)=(.int k n)/\ag.fS (.int k n)=(.int k n)/\ag.jx (.int k n)=false/\ag.cells? (.int k n)=some [(.int k n)]/\ag.iM (.int k n)=true/\ag.plainCell (.int k n)=true/\ag.plain (.int k n)=true/\ag.cells (.int k n)=[(.int k n)]/\ag.ib (.int k n)=[]/\ag.ml (.int k n)=[]/\ag.ids (.int k n)=[]) /\
  (∀M k n,ag.oo M (.int k n)=(.int k n)/\ag.vI M (.int k n)=(.int k n)) /\
  (∀B M s,ag.jA B M (.str s)=(.str s)/\ag.kC B M (.str s)=(.str s)/\ag.kg B M (.str s)=(.str s)/\ag.nK B M (.str s)=(.str s)/\ag.jV B M (.str s)=(.str s)/\ag.j9 B M (.str s)=(.str s)/\ag.lY B M (.str s)=(.str s)) /\
  (∀s,ag.shut (.str s)=(.str s)/\ag.fS (.str s)=(.str s)/\ag.jx (.str s)=false/\ag.cells? (.str s)=some [(.str s)]/\ag.iM (.str s)=true/\ag.plainCell (.str s)=true/\ag.plain (.str s)=true/\ag.cells (.str s)=[(.str s)]/\ag.ib (.str s)=[]/\ag.ml (.str s)=[]/\ag.ids (.str s)=[]):=by
 repeat' (first|rfl|intro _|apply And.intro)
def TG1:(∀M s,ag.oo M (.str s)=(.str s)/\ag.vI M (.str s)=(.str s)) /\
  (∀B M id off,ag.jA B M (.ptr id off)=(if id<B then (.ptr id off) else .any)/\ag.kC B M (.ptr id off)=(if id<B then (.ptr id off) else .any)/\ag.kg B M (.ptr id off)=(if id<B then (.ptr id off) else .any)/\ag.nK B M (.ptr id off)=(if id<B then (.ptr id off) else .any)/\ag.jV B M (.ptr id off)=(if id<B then (.ptr id off) else .any)/\ag.j9 B M (.ptr id off)=(if id<B then (.ptr id off) else .any)/\ag.lY B M (.ptr id off)=(if id<B then (.ptr id off) else .any)) /\
  (∀id off,ag.shut (.ptr id off)=(.ptr id off)/\ag.fS (.ptr id off)=(.ptr id off)/\ag.jx (.ptr id off)=false/\ag.cells? (.ptr id off)=some [(.ptr id off)]/\ag.iM (.ptr id off)=true/\ag.plainCell (.ptr id off)=false/\ag.plain (.ptr id off)=false/\ag.cells (.ptr id off)=[(.ptr id off)]/\ag.ib (.ptr id off)=[id]/\ag.ml (.ptr id off)=[id]/\ag.ids (.ptr id off)=[id]) /\
  (∀M id off,ag.oo M (.ptr id off)=(.ptr id off)/\ag.vI M (.ptr id off)=(.ptr id off)) /\
  (∀B M cs,ag.jA B M (.iP cs)=(.iP cs)/\ag.kC B M (.iP cs)=(.iP cs)/\ag.kg B M (.iP cs)=(.iP cs)/\ag.nK B M (.iP cs)=(.iP cs)/\ag.jV B M (.iP cs)=(.iP cs)/\ag.j9 B M (.iP cs)=(.iP cs)/\ag.lY B M (.iP cs)=(.iP cs)) /\
  (∀cs,ag.shut (.iP cs)=(.iP cs)/\ag.fS (.iP cs)=(.iP cs)/\ag.jx (.iP cs)=false/\ag.cells? (.iP cs)=some [(.iP cs)]/\ag.iM (.iP cs)=true/\ag.plainCell (.iP cs)=false/\ag.plain (.iP cs)=false/\ag.cells (.iP cs)=[(.iP cs)]/\ag.ib (.iP cs)=[]/\ag.ml (.iP cs)=[]/\ag.ids (.iP cs)=[]) /\
  (∀M cs,ag.oo M (.iP cs)=(.iP cs)/\ag.vI M (.iP cs)=(.iP cs)) /\
  (∀B M f cs,ag.jA B M (.func f cs) = .any/\ag.kC B M (.func f cs) = .func f (cs.map (ag.jA B M))/\ag.kg B M (.func f cs) = .func f (cs.map (ag.jA B M))/\ag.nK B M (.func f cs) = .func f (cs.map (ag.jA B M))/\ag.jV B M (.func f cs) = .func f (cs.map (ag.jA B M))/\ag.j9 B M (.func f cs) = .func f (cs.map (ag.jA B M))/\ag.lY B M (.func f cs) = .func f (cs.map (ag.jA B M))):=by
 repeat' (first|rfl|intro _|apply And.intro)
def TG2:(∀f cs,ag.shut (.func f cs)=(.func f cs)/\ag.fS (.func f cs)=(.func f cs)/\ag.jx (.func f cs)=false/\ag.cells? (.func f cs)=some [(.func f cs)]/\ag.iM (.func f cs)=true/\ag.plainCell (.func f cs)=false/\ag.plain (.func f cs)=false/\ag.cells (.func f cs)=[(.func f cs)]/\ag.ib (.func f cs)=[]/\ag.ml (.func f cs)=cs.flatMap ag.ib/\ag.ids (.func f cs)=cs.flatMap ag.ib) /\
  (∀M f cs,ag.oo M (.func f cs)=(.func f cs)/\ag.vI M (.func f cs)=(.func f cs)) /\
  (∀B M id,ag.jA B M (.gP id)=(if id<B then (.gP id) else .any)/\ag.kC B M (.gP id)=(if id<B then (.gP id) else .any)/\ag.kg B M (.gP id)=(if id<B then (.gP id) else .any)/\ag.nK B M (.gP id)=(if id<B then (.gP id) else .any)/\ag.jV B M (.gP id)=(if id<B then .gP id else match M[id]? with|some (.map ks vs)=>if vs.all ag.plain&&ks.all ag.plainCell then .iL ks vs else .any|_ => .any)/\ag.j9 B M (.gP id)=(if id<B then .gP id else match M[id]? with|some (.map ks vs)=>if vs.all ag.plain&&ks.all ag.plainCell then .iL ks vs else .any|_ => .any)/\ag.lY B M (.gP id)=(if id<B then .gP id else match M[id]? with|some (.map ks vs)=>if vs.all ag.plain&&ks.all ag.plainCell then .iL ks vs else .any|_ => .any)) /\
  (∀id,ag.shut (.gP id)=(.gP id)/\ag.fS (.gP id)=(.gP id)/\ag.jx (.gP id)=false/\ag.cells? (.gP id)=some [(.gP id)]/\ag.iM (.gP id)=true/\ag.plainCell (.gP id)=false/\ag.plain (.gP id)=false/\ag.cells (.gP id)=[(.gP id)]/\ag.ib (.gP id)=[id]/\ag.ml (.gP id)=[id]/\ag.ids (.gP id)=[id]) /\
  (∀M id,ag.oo M (.gP id)=(.gP id)/\ag.vI M (.gP id)=(.gP id)) /\
  (∀B M id,ag.jA B M (.jq id)=(if id<B then (.jq id) else .any)/\ag.kC B M (.jq id)=(if id<B then (.jq id) else .any)/\ag.kg B M (.jq id)=(if id<B then (.jq id) else .any)/\ag.nK B M (.jq id)=(if id<B then (.jq id) else .any)/\ag.jV B M (.jq id)=(if id<B then (.jq id) else .any)/\ag.j9 B M (.jq id)=(if id<B then (.jq id) else .any)/\ag.lY B M (.jq id)=(if id<B then (.jq id) else .any)) /\
  (∀id,ag.shut (.jq id)=(.jq id)/\ag.fS (.jq id)=(.jq id)/\ag.jx (.jq id)=false/\ag.cells? (.jq id)=some [(.jq id)]/\ag.iM (.jq id)=true/\ag.plainCell (.jq id)=false/\ag.plain (.jq id)=false/\ag.cells (.jq id)=[(.jq id)]/\ag.ib (.jq id)=[id]/\ag.ml (.jq id)=[id]/\ag.ids (.jq id)=[id]) /\
  (∀M id,ag.oo M (.jq id)=(.jq id)/\ag.vI M (.jq id)=(.jq id)):=by
 repeat' (first|rfl|intro _|apply And.intro)
def TG3:(∀B M ks vs,ag.jA B M (.iL ks vs)=(.iL ks vs)/\ag.kC B M (.iL ks vs)=(.iL ks vs)/\ag.kg B M (.iL ks vs)=(.iL ks vs)/\ag.nK B M (.iL ks vs)=(.iL ks vs)/\ag.jV B M (.iL ks vs)=(.iL ks vs)/\ag.j9 B M (.iL ks vs)=(.iL ks vs)/\ag.lY B M (.iL ks vs)=(.iL ks vs)) /\
  (∀ks vs,ag.shut (.iL ks vs)=(.iL ks vs)/\ag.fS (.iL ks vs)=(.iL ks vs)/\ag.jx (.iL ks vs)=false/\ag.cells? (.iL ks vs)=some [(.iL ks vs)]/\ag.iM (.iL ks vs)=true/\ag.plainCell (.iL ks vs)=false/\ag.plain (.iL ks vs)=false/\ag.cells (.iL ks vs)=[(.iL ks vs)]/\ag.ib (.iL ks vs)=[]/\ag.ml (.iL ks vs)=[]/\ag.ids (.iL ks vs)=[]) /\
  (∀M ks vs,ag.oo M (.iL ks vs)=(.iL ks vs)/\ag.vI M (.iL ks vs)=(.iL ks vs)) /\
  (∀B M id ver sz lo hi,ag.jA B M (.cN id ver sz lo hi)=(if id<B then (.cN id ver sz lo hi) else match M[id]? with|some (.arr _ v xs)=>if v=ver then gH ((xs.take hi).drop lo) else .any|_ => .any)/\ag.kC B M (.cN id ver sz lo hi)=(if id<B then (.cN id ver sz lo hi) else match M[id]? with|some (.arr _ v xs)=>if v=ver then gH ((xs.take hi).drop lo) else .any|_ => .any)/\ag.kg B M (.cN id ver sz lo hi)=(if id<B then (.cN id ver sz lo hi) else match M[id]? with|some (.arr _ v xs)=>if v=ver then gH ((xs.take hi).drop lo) else .any|_ => .any)/\ag.nK B M (.cN id ver sz lo hi)=(if id<B then (.cN id ver sz lo hi) else match M[id]? with|some (.arr _ v xs)=>if v=ver then gH ((xs.take hi).drop lo) else .any|_ => .any)/\ag.jV B M (.cN id ver sz lo hi)=(if id<B then (.cN id ver sz lo hi) else match M[id]? with|some (.arr _ v xs)=>if v=ver then gH ((xs.take hi).drop lo) else .any|_ => .any)/\ag.j9 B M (.cN id ver sz lo hi)=(if id<B then (.cN id ver sz lo hi) else match M[id]? with|some (.arr _ v xs)=>if v=ver then gH ((xs.take hi).drop lo) else .any|_ => .any)/\ag.lY B M (.cN id ver sz lo hi)=(if id<B then (.cN id ver sz lo hi) else match M[id]? with|some (.arr _ v xs)=>if v=ver then gH ((xs.take hi).drop lo) else .any|_ => .any)) /\
  (∀id ver sz lo hi,ag.shut (.cN id ver sz lo hi)=(.cN id ver sz lo hi)/\ag.fS (.cN id ver sz lo hi)=(.cN id ver sz lo hi)/\ag.jx (.cN id ver sz lo hi)=false/\ag.cells? (.cN id ver sz lo hi)=some [(.cN id ver sz lo hi)]/\ag.iM (.cN id ver sz lo hi)=true/\ag.plainCell (.cN id ver sz lo hi)=false/\ag.plain (.cN id ver sz lo hi)=false/\ag.cells (.cN id ver sz lo hi)=[(.cN id ver sz lo hi)]/\ag.ib (.cN id ver sz lo hi)=[id]/\ag.ml (.cN id ver sz lo hi)=[id]/\ag.ids (.cN id ver sz lo hi)=[id]) /\
  (∀B M id ver i off,ag.jA B M (.iH id ver i off)=(if id<B then (.iH id ver i off) else .any)/\ag.kC B M (.iH id ver i off)=(if id<B then (.iH id ver i off) else .any)/\ag.kg B M (.iH id ver i off)=(if id<B then (.iH id ver i off) else .any)/\ag.nK B M (.iH id ver i off)=(if id<B then (.iH id ver i off) else .any)/\ag.jV B M (.iH id ver i off)=(if id<B then (.iH id ver i off) else .any)/\ag.j9 B M (.iH id ver i off)=(if id<B then (.iH id ver i off) else .any)/\ag.lY B M (.iH id ver i off)=(if id<B then (.iH id ver i off) else .any)) /\
  (∀id ver i off,ag.shut (.iH id ver i off)=(.iH id ver i off)/\ag.fS (.iH id ver i off)=(.iH id ver i off)/\ag.jx (.iH id ver i off)=false/\ag.cells? (.iH id ver i off)=some [(.iH id ver i off)]/\ag.iM (.iH id ver i off)=true/\ag.plainCell (.iH id ver i off)=false/\ag.plain (.iH id ver i off)=false/\ag.cells (.iH id ver i off)=[(.iH id ver i off)]/\ag.ib (.iH id ver i off)=[id]/\ag.ml (.iH id ver i off)=[id]/\ag.ids (.iH id ver i off)=[id]) /\
  (∀M id ver i off,ag.oo M (.iH id ver i off)=(.iH id ver i off)/\ag.vI M (.iH id ver i off)=(.iH id ver i off)):=by
 repeat' (first|rfl|intro _|apply And.intro)
def TG4:(∀B M f fs,ag.jA B M (.pC f fs)=(.pC f fs)/\ag.kC B M (.pC f fs)=(.pC f fs)/\ag.kg B M (.pC f fs)=(.pC f fs)/\ag.nK B M (.pC f fs)=(.pC f fs)/\ag.jV B M (.pC f fs)=(.pC f fs)/\ag.j9 B M (.pC f fs)=(.pC f fs)/\ag.lY B M (.pC f fs)=(.pC f fs)) /\
  (∀f fs,ag.shut (.pC f fs)=(.pC f fs)/\ag.fS (.pC f fs)=(.pC f fs)/\ag.jx (.pC f fs)=false/\ag.cells? (.pC f fs)=some [(.pC f fs)]/\ag.iM (.pC f fs)=true/\ag.plainCell (.pC f fs)=false/\ag.plain (.pC f fs)=false/\ag.cells (.pC f fs)=[(.pC f fs)]/\ag.ib (.pC f fs)=[]/\ag.ml (.pC f fs)=[]/\ag.ids (.pC f fs)=[]) /\
  (∀M f fs,ag.oo M (.pC f fs)=(.pC f fs)/\ag.vI M (.pC f fs)=(.pC f fs)) /\
  (∀B M t id off,ag.jA B M (.jE t id off)=(if id<B then (.jE t id off) else .any)/\ag.kC B M (.jE t id off)=(if id<B then (.jE t id off) else .any)/\ag.kg B M (.jE t id off)=(if id<B then (.jE t id off) else .any)/\ag.nK B M (.jE t id off)=(if id<B then (.jE t id off) else .any)/\ag.jV B M (.jE t id off)=(if id<B then (.jE t id off) else .any)/\ag.j9 B M (.jE t id off)=(if id<B then (.jE t id off) else .any)/\ag.lY B M (.jE t id off)=(if id<B then (.jE t id off) else .any)) /\
  (∀t id off,ag.shut (.jE t id off)=(.jE t id off)/\ag.fS (.jE t id off)=(.jE t id off)/\ag.jx (.jE t id off)=false/\ag.cells? (.jE t id off)=some [(.jE t id off)]/\ag.iM (.jE t id off)=true/\ag.plainCell (.jE t id off)=false/\ag.plain (.jE t id off)=false/\ag.cells (.jE t id off)=[(.jE t id off)]/\ag.ib (.jE t id off)=[id]/\ag.ml (.jE t id off)=[id]/\ag.ids (.jE t id off)=[id]) /\
  (∀M t id off,ag.oo M (.jE t id off)=(.jE t id off)/\ag.vI M (.jE t id off)=(.jE t id off)) /\
  (∀B M v,ag.jA B M (.mw v)=(.mw v)/\ag.kC B M (.mw v)=(.mw v)/\ag.kg B M (.mw v)=(.mw v)/\ag.nK B M (.mw v)=(.mw v)/\ag.jV B M (.mw v)=(.mw v)/\ag.j9 B M (.mw v)=(.mw v)/\ag.lY B M (.mw v)=(.mw v)) /\
  (∀v,ag.shut (.mw v)=(.mw v)/\ag.fS (.mw v)=(.mw v)/\ag.jx (.mw v)=true/\ag.plainCell (.mw v)=false/\ag.plain (.mw v)=false/\ag.cells (.mw v)=[(.mw v)]/\ag.ib (.mw v)=[]/\ag.ml (.mw v)=[]/\ag.ids (.mw v)=[]):=by
 repeat' (first|rfl|intro _|apply And.intro)
def TG5:(∀M v,ag.oo M (.mw v)=(.mw v)/\ag.vI M (.mw v)=(.mw v)) /\
  (∀B M v,ag.jA B M (.raw v)=(.raw v)/\ag.kC B M (.raw v)=(.raw v)/\ag.kg B M (.raw v)=(.raw v)/\ag.nK B M (.raw v)=(.raw v)/\ag.jV B M (.raw v)=(.raw v)/\ag.j9 B M (.raw v)=(.raw v)/\ag.lY B M (.raw v)=(.raw v)) /\
  (∀v,ag.shut (.raw v)=(.raw v)/\ag.fS (.raw v)=(.raw v)/\ag.jx (.raw v)=false/\ag.cells (.raw v)=[(.raw v)]/\ag.ib (.raw v)=[]/\ag.ml (.raw v)=[]/\ag.ids (.raw v)=[]) /\
  (∀M v,ag.oo M (.raw v)=(.raw v)/\ag.vI M (.raw v)=(.raw v)) /\
  (∀B M,ag.jA B M .any = .any/\ag.kC B M .any = .any/\ag.kg B M .any = .any/\ag.nK B M .any = .any/\ag.jV B M .any = .any/\ag.j9 B M .any = .any/\ag.lY B M .any = .any) /\
  (ag.shut .any = .any/\ag.fS .any = .any/\ag.jx .any=false/\ag.plainCell .any=false/\ag.plain .any=false/\ag.cells .any=[.any]/\ag.ib .any=[]/\ag.ml .any=[]/\ag.ids .any=[]) /\
  (∀M,ag.oo M .any = .any/\ag.vI M .any = .any) /\
  (∀B M xs,ag.jA B M (gH xs)=(gH xs)/\ag.kC B M (gH xs)=(gH xs)/\ag.kg B M (gH xs)=(gH xs)/\ag.nK B M (gH xs)=(gH xs)/\ag.jV B M (gH xs) = gH xs/\ag.j9 B M (gH xs) = gH xs/\ag.lY B M (gH xs) = gH xs):=by
 repeat' (first|rfl|intro _|apply And.intro)
def TG6:(∀xs,ag.shut (gH xs) = gH xs/\ag.fS (gH xs) = gH xs/\ag.jx (gH xs)=false/\ag.cells? (gH xs)=some [(gH xs)]/\ag.iM (gH xs)=true/\ag.plainCell (gH xs)=true/\ag.plain (gH xs)=true/\ag.cells (gH xs)=[(gH xs)]/\ag.ib (gH xs)=[]/\ag.ml (gH xs)=[]/\ag.ids (gH xs)=[]) /\
  (∀M xs,ag.oo M (gH xs)=(gH xs)/\ag.vI M (gH xs)=(gH xs)) /\
  (∀B M xs,ag.jA B M (.slice .c0 xs)=(.slice .c0 xs)/\ag.kC B M (.slice .c0 xs)=(.slice .c0 xs)/\ag.kg B M (.slice .c0 xs)=(.slice .c0 xs)/\ag.nK B M (.slice .c0 xs)=(.slice .c0 xs)/\ag.jV B M (.slice .c0 xs) = gH xs/\ag.j9 B M (.slice .c0 xs) = gH xs/\ag.lY B M (.slice .c0 xs) = gH xs) /\
  (∀xs,ag.shut (.slice .c0 xs) = gH xs/\ag.fS (.slice .c0 xs) = gH xs/\ag.jx (.slice .c0 xs)=false/\ag.cells? (.slice .c0 xs)=some [(.slice .c0 xs)]/\ag.iM (.slice .c0 xs)=true/\ag.plainCell (.slice .c0 xs)=false/\ag.plain (.slice .c0 xs)=false/\ag.cells (.slice .c0 xs)=[(.slice .c0 xs)]/\ag.ib (.slice .c0 xs)=[]/\ag.ml (.slice .c0 xs)=[]/\ag.ids (.slice .c0 xs)=[]) /\
  (∀M xs,ag.oo M (.slice .c0 xs)=(.slice .c0 xs)/\ag.vI M (.slice .c0 xs)=(.slice .c0 xs)) /\
  (∀B M k xs,ag.jA B M (.slice (.own k) xs)=(if k<B then (.slice (.own k) xs) else gH xs)/\ag.kC B M (.slice (.own k) xs)=(if k<B then (.slice (.own k) xs) else gH xs)/\ag.kg B M (.slice (.own k) xs)=(if k<B then (.slice (.own k) xs) else gH xs)/\ag.nK B M (.slice (.own k) xs)=(if k<B then (.slice (.own k) xs) else gH xs)/\ag.jV B M (.slice (.own k) xs) = gH xs/\ag.j9 B M (.slice (.own k) xs) = gH xs/\ag.lY B M (.slice (.own k) xs) = gH xs) /\
  (∀k xs,ag.shut (.slice (.own k) xs) = gH xs/\ag.fS (.slice (.own k) xs) = gH xs/\ag.jx (.slice (.own k) xs)=false/\ag.cells? (.slice (.own k) xs)=some [(.slice (.own k) xs)]/\ag.iM (.slice (.own k) xs)=true/\ag.plainCell (.slice (.own k) xs)=false/\ag.plain (.slice (.own k) xs)=false/\ag.cells (.slice (.own k) xs)=[(.slice (.own k) xs)]/\ag.ib (.slice (.own k) xs)=[k]/\ag.ml (.slice (.own k) xs)=[k]/\ag.ids (.slice (.own k) xs)=[k]) /\
  (∀M k xs,ag.oo M (.slice (.own k) xs)=(.slice (.own k) xs)/\ag.vI M (.slice (.own k) xs)=(.slice (.own k) xs)):=by
 repeat' (first|rfl|intro _|apply And.intro)
def TG7:(∀B M cs,ag.jA B M (.agg cs) = .any/\ag.kC B M (.agg cs) = .any/\ag.kg B M (.agg cs) = .agg (cs.map (ag.kC B M))/\ag.nK B M (.agg cs) = .agg (cs.map (ag.kC B M))/\ag.jV B M (.agg cs) = .any/\ag.j9 B M (.agg cs) = .agg (cs.map (ag.jV B M))/\ag.lY B M (.agg cs) = .agg (cs.map (ag.jV B M))) /\
  (∀cs,ag.shut (.agg cs)=(.agg cs)/\ag.fS (.agg cs) = .agg (cs.map ag.shut)/\ag.jx (.agg cs)=false/\ag.cells? (.agg cs)=some cs/\ag.iM (.agg cs)=false/\ag.plainCell (.agg cs)=false/\ag.plain (.agg cs)=cs.all ag.plainCell/\ag.cells (.agg cs)=cs/\ag.ib (.agg cs)=[]/\ag.ml (.agg cs)=[]/\ag.ids (.agg cs)=cs.flatMap ag.ml) /\
  (∀M cs,ag.oo M (.agg cs)=(.agg cs)/\ag.vI M (.agg cs) = .agg (cs.map (ag.oo M))) /\
  (∀B M cs,ag.jA B M (.tuple cs) = .any/\ag.kC B M (.tuple cs) = .any/\ag.kg B M (.tuple cs) = .any/\ag.nK B M (.tuple cs) = .tuple (cs.map (ag.kg B M))/\ag.jV B M (.tuple cs) = .any/\ag.j9 B M (.tuple cs) = .any/\ag.lY B M (.tuple cs) = .tuple (cs.map (ag.j9 B M))) /\
  (∀cs,ag.shut (.tuple cs)=(.tuple cs)/\ag.fS (.tuple cs)=(.tuple cs)/\ag.jx (.tuple cs)=false/\ag.plainCell (.tuple cs)=false/\ag.plain (.tuple cs)=false/\ag.cells (.tuple cs)=[(.tuple cs)]/\ag.ib (.tuple cs)=[]/\ag.ml (.tuple cs)=[]/\ag.ids (.tuple cs)=[]) /\
  (∀M cs,ag.oo M (.tuple cs)=(.tuple cs)/\ag.vI M (.tuple cs)=(.tuple cs)):=by
 repeat' (first|rfl|intro _|apply And.intro)
def bq{C:eB}{fn:List sb}{bQ:Nat}{k:List K}{t:Bool}{x y:cA}{br:Env}{M:aH}{r:Option (ag×aH)}
  (h1:t=true->eW C fn bQ k x br M=r) (h2:t=false->eW C fn bQ k y br M=r):dW C fn bQ k (.bool t) x y br M=r:=by
 cases t
 ·exact h2 rfl
 ·exact h1 rfl
def bU{C:eB}{fn:List sb}{bQ:Nat}{k:List K}{live:List Nat}{t w:Bool}{o:cQ}{l:List cQ}{br:Env}{M:aH}{r:Option (ag×aH)}
  (h1:t=w->lh C fn bQ k live o.lets o.dst l br (oe C o br M)=r) (h2:t = !w->fQ C fn bQ k live l (ph br o.dst (.tuple [])) M=r):gK C fn bQ k live (.bool t) w o l br M=r:=by
 cases t<;>cases w
 ·exact h1 rfl
 ·exact h2 rfl
 ·exact h2 rfl
 ·exact h1 rfl
def dE{C:eB}{fn:List sb}{bQ:Nat}{k:List K}{live:List Nat}{c:Bool}{d:Option Nat}{l:List cQ}{br:Env}{t:Bool}{x y r:Option (ag×aH)}
  (h1:t=true->lh C fn bQ k live c d l br x=r) (h2:t=false->lh C fn bQ k live c d l br y=r):lh C fn bQ k live c d l br (xy t x y)=r:=by
 cases t
 ·exact h2 rfl
 ·exact h1 rfl
def pW{a b:Nat}(h:a<=1000000)(hb:b<=1000):cu a b=True:=by
 have:a*b<=1000000*1000:=Nat.mul_le_mul h hb;simp only[eH,im];unfold cu;omega
def qm{a b:Nat}(h:a<=1000000:=by omega)(hb:b<=1000:=by omega):cu a b=True:=pW h hb
def uq{p:Prop}(h:p:=by omega):p=True:=eq_true h
def oyf{p:Prop}(h:¬p:=by omega):p=False:=eq_false h
def Zg(x:ag)(n:Nat):wid [x] n=(x.cells.length=n):=by simp[wid]
def Ze(a b:List ag)(n:Nat):wid (a++b) n=(wid a n/\wid b n):=by
 simp only[eH];exact⟨fun h=>⟨fun x hx=>h x (ew _ hx),fun x hx=>h x (gu _ hx)⟩,fun h x hx=>(bB.1 hx).elim (h.1 x) (h.2 x)⟩
def Zf(n:Nat):wid [] n=True:=by simp[wid]
def YA(m:Nat):((m:Int)<0)=False:=by simp
def fW{n:Int}(h0 : -9223372036854775808<=n)(h1:n<=9223372036854775807):IntKind.i64.wrap n=n:=by rw[IntKind.wrap_i64]; omega
def Bu{C:eB}{f:Nat}{vs:List ag}{r:ag}(h:C f vs []=some (r,[]))(h1:vs.all ag.flat=true)(h2:vs.flatMap ag.ids=[])(h3:r.vA=true)
  (h4:vs.map (ag.pv (hZ []))=vs) (h5:r.Ao (vN [])=r) (M:aH):aM C f vs M=some (r,M):=by
 have e0:reach M []=[]:=rfl;have e1:ky M []=[]:=rfl;have e2:(vs.map (ag.pv (hZ [])))=vs:=h4;unfold aM;rw[bh h1,h2,e0];simp only[iU,bT];rw[bh e1,e2,h];simp[h3,h5,kR]
def cO{C:eB}{f:Nat}{vs:List ag}{r:ag}(h:C f vs []=some (r,[]))(M:aH)(h1:vs.all ag.flat=true:=by exact rfl)(h2:vs.flatMap ag.ids=[]:=by exact rfl)(h3:r.vA=true:=by exact rfl)(h4:vs.map (ag.pv (hZ []))=vs:=by exact rfl)(h5:r.Ao (vN [])=r:=by exact rfl):aM C f vs M=some (r,M):=Bu h h1 h2 h3 h4 h5 M
def cP{C:eB}{f:Nat}{vs:List ag}{r:ag}(h:C f vs []=some (r,[]))(h1:vs.all ag.flat=true:=by exact rfl)(h2:vs.flatMap ag.ids=[]:=by exact rfl)(h3:r.vA=true:=by exact rfl)(h4:vs.map (ag.pv (hZ []))=vs:=by exact rfl)(h5:r.Ao (vN [])=r:=by exact rfl)(M:aH):aM C f vs M=some (r,M):=Bu h h1 h2 h3 h4 h5 M
def FH{M:aH}{p:Nat}{b:dv}(h:nth M p=some b):∀b',nth (jk M p b') p=some b':=by
 intro b';rw[fE] at h ⊢;rw[gq];exact dJ (aJ h)
def pM{C:eB}{f p:Nat}{vs:List ag}{r:ag}{M:aH}{cs cs':List ag}(hM:nth M p=some (.cells cs))(h:C f (.ptr 0 0::vs) [.cells cs]=some (r,[.cells cs']))(h1:vs.all ag.flat=true)(h2:vs.flatMap ag.ids=[])(h3:r.vA=true)
  (h4:vs.map (ag.pv (hZ [p]))=vs) (h5:r.Ao (vN [p])=r) (h6:cs.all ag.uG=true) (h7:cs.flatMap ag.ml=[]) (h8:cs.map (ag.rN (hZ [p]))=cs) (h9:cs'.all ag.uG=true) (h10:cs'.map (ag.rN (vN [p]))=cs') :
  aM C f (.ptr p 0::vs) M=some (r,jk M p (.cells cs')):=by
 have hids:(ag.ptr p 0::vs).flatMap ag.ids=[p]:=by simp[ag.ids,ag.ml,ag.ib,h2]
 have hi:pG M [p]=[]:=by simp[pG,hM,dv.ids,h7]
 have e0:ky M [p]=[p]:=by simp[ky,hi,j6]
 have e1:reach M [p]=[p]:=by
  have ea:j6 [] [p]=[p]:=rfl;simp only[reach,ea,e0]
 have hfl:(ag.ptr p 0::vs).all ag.flat=true:=by simp only[kX,h1,gJ]; rfl
 unfold aM;rw[bh hfl,hids,e1];have hpk:iU M (hZ [p]) [p]=some [.cells cs]:=by simp[iU,hM,dv.flat,h6,dv.pv,h8]
 rw[hpk];simp only[bT];rw[bh e0]
 have hrn:(ag.ptr p 0::vs).map (ag.pv (hZ [p])) = .ptr 0 0::vs:=by
  simp only[aP,h4];simp[ag.pv,ag.rN,ag.sx,hZ]
 rw[hrn,h];simp only[bT];rw[bh ⟨rfl,h3,by simp[dv.flat,h9]⟩,h5]
 simp only[kR,dv.pv,h10]
def max_lt(n:Nat)(h:n<=9223372036854775807):(IntKind.i64.max<(n:Int))=False:=by
 have:IntKind.i64.max=9223372036854775807:=rfl;simp only[eH,o5,this]; omega
set_option linter.defProp false in
def EVT:=bM @Pg (bM @Pf (bM @Wm (bM @Wn (bM @MD (bM @Pe (bM @Jp (bM @T5 (bM @Nv (bM @Nw (bM @TH (bM @YD (bM @M7 (bM @JN (bM @JL (bM @JM (bM @JO (bM @akp (bM @akm (bM @ako (bM @akn (bM @akq (bM @Wx (bM @Ww (bM @aeI (bM @Hm (bM @JF (bM @JE (bM @Fl (bM @Hk (bM @S0 (bM @Dw (bM @Fm (bM @WQ (bM @Fo (bM @Hl (bM @aeH (bM @aP.{0,0} (bM @bc.{0,0} (bM @bT (bM @wD (bM @nZ (bM @dg (bM @aK (bM @au.{0} (bM @av.{0} (bM @kX.{0} (bM @List.all_nil.{0} (bM @j7 (bM @List.take_zero.{0} (bM @aW.{0} (bM @List.take_succ_cons.{0} (bM @List.drop_succ_cons.{0} (bM @List.drop_zero.{0} (bM @List.drop_nil.{0} (bM @List.take_nil.{0} (bM @cW.{0} (bM @aU.{0} (bM @aC (bM @jT (bM @not_true_eq_false (bM @lV (bM @Nat.one_ne_zero (bM @Nat.zero_ne_one (bM @j8 (bM @ij (bM @eO.{0,0} (bM @fT.{0,0} (bM @ju (bM @bd.{0,0} (bM @eM.{0,0} (bM @J0 (bM @Int.natCast_nonneg (bM @decide_true (bM @decide_false (bM @BEq.rfl.{0} (bM @kL.{0} (bM @di (bM @ft (bM @YA (bM @Zg (bM @Zf (bM @and_true (bM @true_and (bM @gJ (bM @aD.{0} (bM @o4.{0} (bM @gt_iff_lt.{0} (bM @Ze (bM @jR.{0} (bM @true_or (bM @or_true (bM @List.cons_prefix_cons.{0} (bM @List.nil_prefix.{0} (bM @List.cons_ne_nil.{0} (bM @List.flatMap_cons.{0,0} (bM @List.flatMap_nil.{0,0} (bM @max_lt (bM @TG0 (bM @TG1 (bM @TG2 (bM @TG3 (bM @TG4 (bM @TG5 (bM @TG6 (@TG7)))))))))))))))))))))))))))))))))))))))))))))))))))))))))))))))))))))))))))))))))))))))))))))))))))))))))
set_option linter.defProp false in
def EVD:=bM @finish.eq_1 (bM @rY.eq_1 (bM @rY.eq_2 (bM @CX.eq_1 (bM @CX.eq_2 (bM @CX.eq_3 (bM @one.eq_1 (bM @one.eq_2 (bM @oe.eq_1 (bM @dX.eq_1 (bM @dX.eq_2 (bM @dX.eq_3 (bM @dX.eq_4 (bM @dX.eq_5 (bM @dX.eq_6 (bM @dX.eq_7 (bM @dX.eq_8 (bM @dX.eq_9 (bM @dX.eq_10 (bM @dX.eq_11 (bM @dX.eq_12 (bM @dX.eq_13 (bM @dX.eq_14 (bM @dX.eq_15 (bM @dX.eq_16 (bM @dX.eq_17 (bM @dX.eq_18 (bM @dX.eq_19 (bM @dX.eq_20 (bM @dX.eq_21 (bM @dX.eq_22 (bM @dX.eq_23 (bM @dX.eq_24 (bM @dX.eq_25 (bM @dX.eq_26 (bM @dX.eq_27 (bM @dX.eq_28 (bM @dX.eq_29 (bM @dX.eq_30 (bM @dX.eq_31 (bM @dX.eq_32 (bM @dX.eq_33 (bM @dX.eq_34 (bM @dX.eq_35 (bM @dX.eq_36 (bM @dX.eq_37 (bM @dX.eq_38 (bM @dX.eq_39 (bM @dX.eq_40 (bM @dX.eq_41 (bM @dX.eq_42 (bM @dX.eq_43 (bM @dX.eq_44 (bM @dX.eq_45 (bM @dX.eq_46 (bM @dX.eq_47 (bM @dX.eq_48 (bM @dX.eq_49 (bM @dX.eq_50 (bM @dX.eq_51 (bM @dX.eq_52 (bM @dX.eq_53 (bM @dX.eq_54 (bM @dX.eq_55 (bM @dX.eq_56 (bM @fq.eq_1 (bM @fq.eq_2 (bM @gQ.ev.eq_1 (bM @gQ.ev.eq_2 (bM @iv.eq_1 (bM @iv.eq_2 (bM @ph.eq_1 (bM @ph.eq_2 (bM @lF.eq_1 (bM @nth.eq_1 (bM @nth.eq_2 (bM @nth.eq_3 (bM @jk.eq_1 (bM @jk.eq_2 (bM @jk.eq_3 (bM @pw.eq_1 (bM @pw.eq_2 (bM @pw.eq_3 (bM @pw.eq_4 (bM @pw.eq_5 (bM @pw.eq_6 (bM @pw.eq_7 (bM @pw.eq_8 (bM @pw.eq_9 (bM @pw.eq_10 (bM @pw.eq_11 (bM @pw.eq_12 (bM @pw.eq_13 (bM @pw.eq_14 (bM @pw.eq_15 (bM @pw.eq_16 (bM @pw.eq_17 (bM @pw.eq_18 (bM @pw.eq_19 (bM @pw.eq_20 (bM @pw.eq_21 (bM @pw.eq_22 (bM @pw.eq_23 (bM @pw.eq_24 (bM @pw.eq_25 (bM @mg.eq_1 (bM @yF.eq_1 (bM @lA.eq_1 (bM @dv.back.eq_1 (bM @dv.back.eq_2 (bM @dv.back.eq_3 (bM @dv.back.eq_4 (bM @dv.back.eq_5 (bM @rV.eq_1 (bM @rV.eq_2 (bM @wI.eq_1 (bM @wI.eq_2 (bM @kZ.eq_1 (bM @kZ.eq_2 (bM @ke.dU.eq_1 (bM @ke.dU.eq_2 (bM @ke.dU.eq_3 (bM @fy.eq_1 (bM @fy.eq_2 (bM @ob.eq_1 (bM @og.eq_1 (bM @ox.eq_1 (bM @bytesOf.eq_1 (bM @valOf.eq_1 (@valOf.eq_2)))))))))))))))))))))))))))))))))))))))))))))))))))))))))))))))))))))))))))))))))))))))))))))))))))))))))))))))))))))))))))))))))
set_option linter.defProp false in
def pj:=bM @gJ (bM @dD (bM @dP (bM @dy (bM @ei (bM @dH (bM @fu (bM @cY (bM @di (bM @ft (bM @j7 (bM @eR (bM @af (@kL.{0})))))))))))))
set_option linter.defProp false in
def EV:=And.intro @ne_eq.{1} (And.intro EVT EVD)
end Go.Abs
namespace Go.Proofs.YtahkjijkflobhaaGreatDoor
section
open Go Go.Abs
def O5:Nat->Option dY
 |238=>some aaV
 |239=>some aaW
 |240=>some aaX
 |243=>some aaY
 |244=>some aaZ
 |245=>some aa0
 |246=>some aa1
 |247=>some aa2
 |248=>some KT
 |249=>some KU
 |250=>some PS
 |251=>some GR
 |252=>some GS
 |253=>some aa3
 |254=>some aa4
 |258=>some PT
 |259=>some PU
 |261=>some aa5
 |262=>some aa6
 |263=>some aa7
 |264=>some aa8
 |265=>some aa9
 |266=>some aba
 |273=>some KV
 |275=>some abb
 |286=>some abc
 |287=>some KW
 |288=>some KX
 |296=>some abd
 |307=>some KY
 |325=>some GU
 |_=>none
def O4:Nat->Option dY
 |155=>some aad
 |156=>some aae
 |157=>some KK
 |159=>some ajB
 |160=>some PD
 |161=>some aaf
 |162=>some aag
 |163=>some aah
 |164=>some PE
 |165=>some aai
 |166=>some aaj
 |167=>some aak
 |168=>some aal
 |169=>some aam
 |170=>some PF
 |171=>some PG
 |172=>some KL
 |173=>some aan
 |174=>some PH
 |175=>some PI
 |176=>some GM
 |177=>some aao
 |178=>some PJ
 |179=>some aap
 |180=>some aaq
 |181=>some aar
 |182=>some aas
 |183=>some aat
 |184=>some aau
 |185=>some aav
 |186=>some aaw
 |187=>some KM
 |188=>some KN
 |189=>some aax
 |190=>some aay
 |191=>some KQ
 |192=>some GN
 |193=>some aaz
 |194=>some aaA
 |195=>some aaB
 |196=>some aaC
 |197=>some PK
 |198=>some PL
 |199=>some aaD
 |200=>some aaE
 |203=>some aaF
 |204=>some PM
 |205=>some aaG
 |206=>some aaH
 |207=>some GQ
 |208=>some aaI
 |209=>some PN
 |210=>some aaJ
 |211=>some aaK
 |212=>some aaL
 |213=>some KR
 |215=>some aaM
 |217=>some ajH
 |218=>some aaN
 |221=>some KS
 |222=>some aaO
 |225=>some aaP
 |226=>some aaQ
 |227=>some aaR
 |232=>some PO
 |233=>some aaS
 |234=>some PQ
 |235=>some aaT
 |236=>some PR
 |237=>some aaU
 |f=>O5 f
def O3:Nat->Option dY
 |80=>some aj3
 |81=>some aj4
 |82=>some aj5
 |83=>some aj6
 |84=>some ade
 |85=>some aj7
 |86=>some aj8
 |87=>some aj9
 |88=>some aka
 |89=>some akb
 |90=>some adf
 |91=>some akc
 |92=>some akd
 |93=>some ake
 |94=>some akf
 |95=>some akg
 |96=>some akh
 |97=>some aki
 |98=>some akj
 |99=>some akk
 |100=>some ZN
 |101=>some ZO
 |102=>some ZP
 |103=>some Pr
 |104=>some ZQ
 |105=>some KE
 |106=>some ZR
 |107=>some ZT
 |108=>some ZU
 |109=>some ZV
 |110=>some Ps
 |111=>some yO
 |112=>some Pt
 |113=>some xF
 |114=>some Ce
 |115=>some DP
 |116=>some Pu
 |117=>some DQ
 |118=>some Pv
 |119=>some GJ
 |120=>some ZW
 |124=>some ZX
 |125=>some ZY
 |126=>some ZZ
 |127=>some Pw
 |128=>some Z0
 |129=>some Z1
 |130=>some Z2
 |131=>some Z3
 |132=>some xG
 |133=>some Px
 |134=>some Z4
 |135=>some Py
 |136=>some KG
 |137=>some Pz
 |138=>some KH
 |140=>some KI
 |141=>some GK
 |142=>some PB
 |143=>some Z5
 |145=>some KJ
 |146=>some Z6
 |147=>some Z7
 |148=>some Z8
 |149=>some Z9
 |150=>some GL
 |151=>some aaa
 |152=>some aab
 |153=>some PC
 |154=>some aac
 |f=>O4 f
def code:Nat->Option dY
 |3=>some fn3
 |4=>some fn4
 |5=>some fn5
 |6=>some fn6
 |7=>some fn7
 |8=>some fn8
 |10=>some ac6
 |11=>some ajy
 |12=>some ajz
 |13=>some Wp
 |15=>some ajA
 |16=>some ajC
 |17=>some ajD
 |18=>some ajE
 |19=>some ac7
 |20=>some ajF
 |21=>some ajG
 |22=>some ap3
 |23=>some ajI
 |24=>some tF
 |27=>some ajJ
 |28=>some ajK
 |29=>some ajL
 |30=>some ajN
 |31=>some ajO
 |32=>some ajP
 |33=>some ajQ
 |34=>some ajR
 |35=>some MG
 |36=>some ajS
 |37=>some ajT
 |38=>some ajU
 |39=>some ajV
 |40=>some ap4
 |41=>some ajW
 |42=>some ap5
 |43=>some ap6
 |44=>some ap7
 |45=>some ap8
 |46=>some ap9
 |47=>some ajX
 |48=>some ajY
 |49=>some ajZ
 |50=>some Fg
 |51=>some yP
 |52=>some Bn
 |53=>some Ju
 |54=>some PV
 |55=>some Wq
 |56=>some MH
 |61=>some ac8
 |62=>some PW
 |63=>some MI
 |64=>some PX
 |65=>some Jv
 |66=>some Wr
 |67=>some ac9
 |68=>some Ws
 |69=>some ada
 |70=>some MJ
 |71=>some Dt
 |72=>some Wt
 |73=>some PY
 |74=>some Wu
 |75=>some Wv
 |76=>some adb
 |77=>some aj0
 |78=>some aj1
 |79=>some aj2
 |f=>O3 f
noncomputable def mQ:Nat->Option (List ag->aH->Option (ag×aH))
 |216=>some (tU 3 2 217)
 |158=>some (tU 6 0 159)
 |274=>some (ym)
 |289=>some (HH)
 |295=>some (zg)
 |214=>some (lG 3 32)
 |255=>some (lG 6 80)
 |220=>some (lG 3 24)
 |202=>some (lG 3 24)
 |224=>some (rn 8 96)
 |230=>some (rn 3 24)
 |139=>some (pCC 1 1)
 |294=>some (kE 6)
 |260=>some (kE 3)
 |223=>some (rM 3)
 |228=>some (rM 3)
 |256=>some (km 6 80)
 |257=>some (km 3 32)
 |219=>some (km 3 24)
 |229=>some (km 3 24)
 |_=>none
noncomputable def bK:yz:=⟨code,mQ⟩
set_option maxRecDepth 100000 in
def tW{f:Nat}{c fn:dY}{func:Func}{A:De}(h:some c=some fn)(h1:Tryz.prog.funcs[f]?=some func)(h2:oS Tryz.prog A func=some c):∃ A func,Tryz.prog.funcs[f]?=some func/\oS Tryz.prog A func=some fn:=by
 cases h; exact⟨_,_,h1,h2⟩
def fR{f:Nat}{c fn:dY}{func:Func}(h:some c=some fn)(h1:Tryz.prog.funcs[f]?=some func)(h2:ub [] func c):∃ A func,Tryz.prog.funcs[f]?=some func/\oS Tryz.prog A func=some fn:=tW h h1 h2
def O2(f:Nat)(fn:dY)(h:O5 f=some fn):∃A func,Tryz.prog.funcs[f]?=some func/\oS Tryz.prog A func=some fn:=by
 unfold O5 at h;split at h
 ·exact fR h func238 eN
 ·exact fR h func239 eN
 ·exact fR h func240 eN
 ·exact fR h func243 eN
 ·exact fR h func244 eN
 ·exact fR h func245 eN
 ·exact fR h func246 eN
 ·exact fR h func247 eN
 ·exact fR h func248 eN
 ·exact fR h func249 eN
 ·exact tW h func250 alS
 ·exact tW h func251 alT
 ·exact tW h func252 alU
 ·exact fR h func253 eN
 ·exact fR h func254 eN
 ·exact tW h func258 alV
 ·exact fR h func259 eN
 ·exact fR h func261 eN
 ·exact fR h func262 eN
 ·exact fR h func263 eN
 ·exact fR h func264 eN
 ·exact fR h func265 eN
 ·exact fR h func266 eN
 ·exact fR h func273 eN
 ·exact fR h func275 eN
 ·exact fR h func286 eN
 ·exact fR h func287 eN
 ·exact fR h func288 eN
 ·exact fR h func296 eN
 ·exact fR h func307 eN
 ·exact fR h func325 eN
 ·cases h
set_option maxRecDepth 100000 in
def O1(f:Nat)(fn:dY)(h:O4 f=some fn):∃A func,Tryz.prog.funcs[f]?=some func/\oS Tryz.prog A func=some fn:=by
 unfold O4 at h;split at h
 ·exact fR h func155 eN
 ·exact fR h func156 eN
 ·exact fR h func157 eN
 ·exact fR h func159 eN
 ·exact fR h func160 eN
 ·exact fR h func161 eN
 ·exact fR h func162 eN
 ·exact fR h func163 eN
 ·exact fR h func164 eN
 ·exact fR h func165 eN
 ·exact fR h func166 eN
 ·exact fR h func167 eN
 ·exact fR h func168 eN
 ·exact fR h func169 eN
 ·exact fR h func170 eN
 ·exact fR h func171 eN
 ·exact fR h func172 eN
 ·exact fR h func173 eN
 ·exact tW h func174 alE
 ·exact tW h func175 alF
 ·exact tW h func176 alG
 ·exact fR h func177 eN
 ·exact tW h func178 alH
 ·exact fR h func179 eN
 ·exact fR h func180 eN
 ·exact fR h func181 eN
 ·exact fR h func182 eN
 ·exact fR h func183 eN
 ·exact fR h func184 eN
 ·exact fR h func185 eN
 ·exact fR h func186 eN
 ·exact fR h func187 eN
 ·exact fR h func188 eN
 ·exact fR h func189 eN
 ·exact fR h func190 eN
 ·exact fR h func191 eN
 ·exact tW h func192 alI
 ·exact fR h func193 eN
 ·exact fR h func194 eN
 ·exact fR h func195 eN
 ·exact fR h func196 eN
 ·exact tW h func197 alJ
 ·exact tW h func198 alK
 ·exact fR h func199 eN
 ·exact fR h func200 eN
 ·exact fR h func203 eN
 ·exact tW h func204 alN
 ·exact fR h func205 eN
 ·exact fR h func206 eN
 ·exact fR h func207 eN
 ·exact fR h func208 eN
 ·exact tW h func209 alO
 ·exact fR h func210 eN
 ·exact fR h func211 eN
 ·exact fR h func212 eN
 ·exact fR h func213 eN
 ·exact fR h func215 eN
 ·exact fR h func217 eN
 ·exact fR h func218 eN
 ·exact fR h func221 eN
 ·exact fR h func222 eN
 ·exact fR h func225 eN
 ·exact fR h func226 eN
 ·exact fR h func227 eN
 ·exact tW h func232 alP
 ·exact fR h func233 eN
 ·exact tW h func234 alQ
 ·exact fR h func235 eN
 ·exact tW h func236 alR
 ·exact fR h func237 eN
 ·exact O2 _ _ h
set_option maxRecDepth 100000 in
def O0(f:Nat)(fn:dY)(h:O3 f=some fn):∃A func,Tryz.prog.funcs[f]?=some func/\oS Tryz.prog A func=some fn:=by
 unfold O3 at h;split at h
 ·exact fR h func80 eN
 ·exact fR h func81 eN
 ·exact fR h func82 eN
 ·exact fR h func83 eN
 ·exact tW h func84 arC
 ·exact fR h func85 eN
 ·exact fR h func86 eN
 ·exact fR h func87 eN
 ·exact fR h func88 eN
 ·exact fR h func89 eN
 ·exact tW h func90 arD
 ·exact fR h func91 eN
 ·exact fR h func92 eN
 ·exact fR h func93 eN
 ·exact fR h func94 eN
 ·exact fR h func95 eN
 ·exact fR h func96 eN
 ·exact fR h func97 eN
 ·exact fR h func98 eN
 ·exact fR h func99 eN
 ·exact fR h func100 eN
 ·exact fR h func101 eN
 ·exact fR h func102 eN
 ·exact fR h func103 eN
 ·exact fR h func104 eN
 ·exact fR h func105 eN
 ·exact fR h func106 eN
 ·exact fR h func107 eN
 ·exact fR h func108 eN
 ·exact fR h func109 eN
 ·exact fR h func110 eN
 ·exact tW h func111 alk
 ·exact tW h func112 alm
 ·exact tW h func113 aln
 ·exact tW h func114 alo
 ·exact tW h func115 alp
 ·exact fR h func116 eN
 ·exact tW h func117 alq
 ·exact tW h func118 alr
 ·exact tW h func119 als
 ·exact fR h func120 eN
 ·exact fR h func124 eN
 ·exact fR h func125 eN
 ·exact fR h func126 eN
 ·exact tW h func127 alu
 ·exact fR h func128 eN
 ·exact fR h func129 eN
 ·exact fR h func130 eN
 ·exact fR h func131 eN
 ·exact tW h func132 alv
 ·exact tW h func133 alw
 ·exact fR h func134 eN
 ·exact tW h func135 alx
 ·exact tW h func136 aly
 ·exact tW h func137 alz
 ·exact fR h func138 eN
 ·exact fR h func140 eN
 ·exact tW h func141 alA
 ·exact tW h func142 alB
 ·exact fR h func143 eN
 ·exact fR h func145 eN
 ·exact fR h func146 eN
 ·exact fR h func147 eN
 ·exact fR h func148 eN
 ·exact fR h func149 eN
 ·exact fR h func150 eN
 ·exact fR h func151 eN
 ·exact fR h func152 eN
 ·exact fR h func153 eN
 ·exact fR h func154 eN
 ·exact O1 _ _ h
set_option maxRecDepth 100000 in
def Kx(f:Nat)(fn:dY)(h:code f=some fn):∃A func,Tryz.prog.funcs[f]?=some func/\oS Tryz.prog A func=some fn:=by
 unfold code at h;split at h
 ·exact fR h func3 eN
 ·exact fR h func4 eN
 ·exact fR h func5 eN
 ·exact fR h func6 eN
 ·exact fR h func7 eN
 ·exact fR h func8 eN
 ·exact tW h func10 art
 ·exact fR h func11 eN
 ·exact fR h func12 eN
 ·exact fR h func13 eN
 ·exact fR h func15 eN
 ·exact fR h func16 eN
 ·exact fR h func17 eN
 ·exact fR h func18 eN
 ·exact tW h func19 aru
 ·exact fR h func20 eN
 ·exact tW h func21 arv
 ·exact fR h func22 eN
 ·exact fR h func23 eN
 ·exact fR h func24 eN
 ·exact fR h func27 eN
 ·exact fR h func28 eN
 ·exact fR h func29 eN
 ·exact fR h func30 eN
 ·exact fR h func31 eN
 ·exact fR h func32 eN
 ·exact fR h func33 eN
 ·exact fR h func34 eN
 ·exact tW h func35 arw
 ·exact fR h func36 eN
 ·exact fR h func37 eN
 ·exact fR h func38 eN
 ·exact fR h func39 eN
 ·exact fR h func40 eN
 ·exact fR h func41 eN
 ·exact fR h func42 eN
 ·exact fR h func43 eN
 ·exact fR h func44 eN
 ·exact fR h func45 eN
 ·exact fR h func46 eN
 ·exact fR h func47 eN
 ·exact fR h func48 eN
 ·exact fR h func49 eN
 ·exact fR h func50 eN
 ·exact tW h func51 arx
 ·exact fR h func52 eN
 ·exact tW h func53 ary
 ·exact tW h func54 arz
 ·exact fR h func55 eN
 ·exact tW h func56 arA
 ·exact fR h func61 eN
 ·exact fR h func62 eN
 ·exact fR h func63 eN
 ·exact fR h func64 eN
 ·exact fR h func65 eN
 ·exact fR h func66 eN
 ·exact fR h func67 eN
 ·exact fR h func68 eN
 ·exact fR h func69 eN
 ·exact fR h func70 eN
 ·exact tW h func71 arB
 ·exact fR h func72 eN
 ·exact fR h func73 eN
 ·exact fR h func74 eN
 ·exact fR h func75 eN
 ·exact fR h func76 eN
 ·exact fR h func77 eN
 ·exact fR h func78 eN
 ·exact fR h func79 eN
 ·exact O0 _ _ h
def Lw(f:Nat)(g:List ag->aH->Option (ag×aH))(h:mQ f=some g)(args:List ag)(M:aH)(x:ag×aH)(hx:g args M=some x):lQ Tryz.prog f=true/\dC Tryz.prog f args M x:=by
 unfold mQ at h;split at h
 ·cases h; exact⟨by kernel_rfl,UZ hx⟩
 ·cases h; exact⟨by kernel_rfl,UY hx⟩
 ·cases h; exact⟨by kernel_rfl,JA hx⟩
 ·cases h; exact⟨by kernel_rfl,akC hx⟩
 ·cases h; exact⟨by kernel_rfl,Gv hx⟩
 ·cases h; exact⟨by kernel_rfl,Mo hx⟩
 ·cases h; exact⟨by kernel_rfl,Mq hx⟩
 ·cases h; exact⟨by kernel_rfl,Mp hx⟩
 ·cases h; exact⟨by kernel_rfl,Mn hx⟩
 ·cases h; exact⟨by kernel_rfl,IX hx⟩
 ·cases h; exact⟨by kernel_rfl,IY hx⟩
 ·cases h; exact⟨by kernel_rfl,acZ hx⟩
 ·cases h; exact⟨by kernel_rfl,Mx hx⟩
 ·cases h; exact⟨by kernel_rfl,Mw hx⟩
 ·cases h; exact⟨by kernel_rfl,Ja hx⟩
 ·cases h; exact⟨by kernel_rfl,Jb hx⟩
 ·cases h; exact⟨by kernel_rfl,MT hx⟩
 ·cases h; exact⟨by kernel_rfl,MU hx⟩
 ·cases h; exact⟨by kernel_rfl,MR hx⟩
 ·cases h; exact⟨by kernel_rfl,MS hx⟩
 ·cases h
def U5:vV Tryz.prog bK:=⟨Kx,Lw⟩
theorem sound:oQ Tryz.prog (ar bK):=ry (by kernel_rfl) U5
abbrev Bytes:=List UInt8
structure fg where
 name:Bytes
 aq:Int
 aj:Int
 deriving DecidableEq,Inhabited
structure Node where
 aq:Int
 kind:Int
 dz:Int
 data:Bytes
 aL:List fg
 up:Int
 deriving DecidableEq,Inhabited
structure Tree where
 ae:List Node
 next:Int
 aj:Int
 deriving DecidableEq,Inhabited
def Node.zero:Node:=⟨0,0,0,[],[],0⟩
def fa(e:fg):List ag:=[.str e.name,.int .i64 e.aq,.int .i64 e.aj]
def fH(e:fg):ag := .agg (fa e)
abbrev gS(l:List fg):ag := .slice .sh (l.map fH)
abbrev cX(d:Bytes):ag := .slice .sh (d.map pE)
def aF(n:Node):List ag:=[.int .i64 n.aq,.int .i64 n.kind,.int .i64 n.dz,cX n.data,gS n.aL,.int .i64 n.up]
def bD(n:Node):ag := .agg (aF n)
abbrev aN(l:List Node):ag := .slice .sh (l.map bD)
def aI(t:Tree):List ag:=[aN t.ae,.int .i64 t.next,.int .i64 t.aj]
def bo(t:Tree):ag := .agg (aI t)
structure Small(t:Tree):Prop where
 ae:t.ae.length<=100000
 aL:∀n,n∈t.ae->n.aL.length<=100000
 data:∀n,n∈t.ae->n.data.length<=100000
def Gp(n:Node):(bD n).cells=aF n:=rfl
def IW(e:fg):(fH e).cells=fa e:=rfl
def JH(n:Node):(aF n).length=6:=rfl
def M5(e:fg):(fa e).length=3:=rfl
def EG(l:List Node):wid (l.map bD) 6=True:=by
 simp only[eH,im];intro x hx;obtain⟨n,_,rfl⟩:=cE.1 hx;rfl
def Ig(l:List fg):wid (l.map fH) 3=True:=by
 simp only[eH,im];intro x hx;obtain⟨n,_,rfl⟩:=cE.1 hx;rfl
def rh(l:Bytes):wid (l.map pE) 1=True:=by
 simp only[eH,im];intro x hx;obtain⟨n,_,rfl⟩:=cE.1 hx;rfl
structure Step where
 kind:Nat
 a:Nat
 b:Nat
 n:Nat
 m:Nat
 data:Bytes
set_option linter.defProp false in
def EVN:=bM @Gp (bM @IW (bM @JH (bM @M5 (bM @EG (bM @Ig @rh)))))
set_option linter.defProp false in
def EN:=And.intro EVN EV
section
attribute [local irreducible] eW fQ lh gK dW kr ar aM cq bI
def fc{α:Type}{l:List α}{pre r:List α}{n:α}(h:l=pre++n::r):l[pre.length]?=some n:=by rw[h]; simp
def fV{α:Type}{l:List α}{pre r:List α}{n:α}(h:l=pre++n::r):((pre.length:Int)<(l.length:Int))=True:=by rw[h]; simp; omega
def gM{α:Type}{l:List α}{pre:List α}(h:l=pre++[]):((pre.length:Int)<(l.length:Int))=False:=by rw[h]; simp
def U2{α:Type}{pre:List α}{n:α}:((pre.length:Int)+1)=((pre++[n]).length:Int):=by simp
def vu{T:Type}(l:List T)(x:T)(h:(l.length:Int)+1<9223372036854775808:=by omega):IntKind.i64.wrap ((l.length:Int)+1)=((l++[x]).length:Int):=by rw[fW (by omega) (by omega)]; exact U2
def find(ae:List Node)(aq:Int):Option Node:=ae.find? fun n=>n.aq==aq
def gA(ae:List Node)(aq:Int):Node×Int:=match find ae aq with
 |none=>(Node.zero,70)
 |some n=>if n.kind=2 then (n,0) else (Node.zero,73)
def fb(l:List fg)(s:Bytes):Option fg:=l.find? fun e=>e.name==s
def rX(b:UInt8):Bool := !(decide ((b.toNat:Int)<32)||((b.toNat:Int)==47))
def fD(s:Bytes):Bool := !(decide ((s.length:Int)<1)||(decide ((s.length:Int)>32)||(s==[46]||s==[46,46])))&&s.all rX
def eE(ae:List Node)(aq:Int)(s:Bytes):Int×Int :=
 if (gA ae aq).2≠0 then (0,(gA ae aq).2) else if fD s=false then (0,60) else match fb (gA ae aq).1.aL s with
  |none=>(0,70)
  |some e=>(e.aq,0)
theorem bR{ae:List Node}{aq:Int}{n:Node}(h:find ae aq=some n):n∈ae/\n.aq=aq:=by
 unfold find at h;exact⟨gi h,by simpa using nt h⟩
def sJ{t:Tree}(hs:Small t)(aq:Int):(gA t.ae aq).1.aL.length<=100000:=by
 unfold gA;split
 ·simp[Node.zero]
 ·rename_i n hn;split
  ·exact hs.aL n (bR hn).1
  ·simp[Node.zero]
def zT:List ag:=[.slice .c0 [],.int .i64 0,.int .i64 0]
def nq(n:Node):List Node->List Node->Bool->List Node×Bool
 | [],out,done=>(out,done)
 |m::r,out,done =>
  nq n r ((if !done&&decide (m.aq>=n.aq) then out++[n] else out)++(if m.aq=n.aq then [] else [m])) (done||decide (m.aq>=n.aq))
def ef(ae:List Node)(n:Node):List Node:=(nq n ae [] false).1++(if (nq n ae [] false).2=true then [] else [n])
def fz(ae:List Node)(aq:Int):List Node:=ae.filter fun n=>n.aq != aq
def fU(l:List fg)(s:Bytes):List fg:=l.filter fun e=>e.name != s
def cV(ae:List Node)(aq:Int)(s:Bytes):List Node:=ef ae { (find ae aq).getD Node.zero with aL:=fU ((find ae aq).getD Node.zero).aL s }
abbrev lK(n:Int):Int:=IntKind.i64.wrap n
def gtB(a b:Bytes):Bool := !(strLt a b||a==b)
def uL(e:fg):List fg->List fg->Bool->List fg×Bool
 | [],out,done=>(out,done)
 |m::r,out,done=>uL e r ((if !done&&gtB m.name e.name then out++[e] else out)++[m]) (done||gtB m.name e.name)
def vK(l:List fg)(e:fg):List fg:=(uL e l [] false).1++(if (uL e l [] false).2=true then [] else [e])
def gz(t:Tree)(aq:Int)(s:Bytes)(of:Int):Tree :=
 ⟨ef t.ae { (find t.ae aq).getD Node.zero with aL:=vK ((find t.ae aq).getD Node.zero).aL ⟨s,of,t.aj⟩ },t.next,lK (t.aj+1)⟩
def NQ(ae:List Node)(aq:Int):Int:=((find ae aq).getD Node.zero).up
def vi(ae:List Node):Nat->Int->Nat->Nat
 |0,_,d=>d
 |m+1,aq,d=>if aq=1 then d else vi ae m (NQ ae aq) (d+1)
def oT(ae:List Node)(aq:Int):Nat:=vi ae 201 aq 0
def lZ(ae:List Node)(of:Int):Nat->Int->Bool
 |0,_=>false
 |m+1,aq=>if aq=of then true else if aq=1 then false else lZ ae of m (NQ ae aq)
def hU(ae:List Node)(aq of:Int):Bool:=lZ ae of (ae.length+1) aq
structure Sz(b:Nat)(t:Tree):Prop where
 ae:t.ae.length<=b
 aL:∀n,n∈t.ae->n.aL.length<=b
 data:∀n,n∈t.ae->n.data.length<=100000
def Sz.small{b:Nat}{t:Tree}(h:Sz b t)(hb:b<=100000):Small t:=⟨aV h.ae hb,fun n hn=>aV (h.aL n hn) hb,h.data⟩
def EH(n:Node):∀(l out:List Node)(d:Bool),(nq n l out d).1.length+(if (nq n l out d).2=true then 0 else 1)<=out.length+l.length+(if d then 0 else 1)
 | [],out,d=>by simp only[nq,av,dg]; exact aC _
 |m::r,out,d=>by
  rw[nq];refine aV (EH n r _ _) ?_;cases d<;>by_cases h1:n.aq<=m.aq<;>by_cases h2:m.aq=n.aq<;>simp[h1,h2]<;>omega
def EI(n:Node):∀(l out:List Node)(d:Bool)(x:Node),x∈(nq n l out d).1->x=n\/x∈out\/x∈l
 | [],out,d,x,h=>by simp[nq] at h; exact .inr (.inl h)
 |m::r,out,d,x,h=>by
  rw[nq] at h;rcases EI n r _ _ x h with h|h|h
  ·exact .inl h
  ·rcases bB.1 h with h|h
   ·split at h
    ·rcases bB.1 h with h|h
     ·exact .inr (.inl h)
     ·exact .inl (by simpa using h)
    ·exact .inr (.inl h)
   ·split at h
    ·cases h
    ·exact .inr (.inr (by simp at h; simp[h]))
  ·exact .inr (.inr (aX _ h))
def EJ(ae:List Node)(n:Node):(ef ae n).length<=ae.length+1:=by
 have:=EH n ae [] false;unfold ef;split at this<;>simp_all
def EK{ae:List Node}{n x:Node}(h:x∈ef ae n):x=n\/x∈ae:=by
 unfold ef at h;rcases bB.1 h with h|h
 ·rcases EI n ae [] false x h with h|h|h
  ·exact .inl h
  ·cases h
  ·exact .inr h
 ·split at h
  ·cases h
  ·exact .inl (by simpa using h)
def Sz.with{b:Nat}{t:Tree}(h:Sz b t){n:Node}(h1:n.aL.length<=b+1)(h2:n.data.length<=100000)(next aj:Int):Sz (b+1) ⟨ef t.ae n,next,aj⟩ :=
 ⟨aV (EJ _ _) (by have:=h.ae; simp; omega),fun x hx=>by
  rcases EK hx with rfl|hx
  ·exact h1
  ·exact iA (h.aL x hx),fun x hx=>by
  rcases EK hx with rfl|hx
  ·exact h2
  ·exact h.data x hx⟩
def Sz.up{b c:Nat}{t:Tree}(h:Sz b t)(hbc:b<=c):Sz c t:=⟨aV h.ae hbc,fun n hn=>aV (h.aL n hn) hbc,h.data⟩
def Sz.find{b:Nat}{t:Tree}(h:Sz b t)(aq:Int):((find t.ae aq).getD Node.zero).aL.length<=b/\((find t.ae aq).getD Node.zero).data.length<=100000:=by
 cases hf:Go.Proofs.YtahkjijkflobhaaGreatDoor.find t.ae aq with
 |none=>simp[Node.zero]
 |some n=>exact⟨h.aL n (bR hf).1,h.data n (bR hf).1⟩
def zR(l:List fg)(s:Bytes):(fU l s).length<=l.length:=bZ _ _
def Sz.left{b:Nat}{t:Tree}(h:Sz b t)(aq:Int)(s:Bytes)(next aj:Int):Sz (b+1) ⟨cV t.ae aq s,next,aj⟩ :=
 h.with (n:={ (Go.Proofs.YtahkjijkflobhaaGreatDoor.find t.ae aq).getD Node.zero with aL:=fU ((Go.Proofs.YtahkjijkflobhaaGreatDoor.find t.ae aq).getD Node.zero).aL s }) (aV (zR _ _) (iA (h.find aq).1)) (h.find aq).2 next aj
def Sz.tZ{b:Nat}{t:Tree}(h:Sz b t)(aq:Int)(next aj:Int):Sz b ⟨fz t.ae aq,next,aj⟩ :=
 ⟨aV (bZ _ _) h.ae,fun x hx=>h.aL x ((cr.1 hx).1),fun x hx=>h.data x ((cr.1 hx).1)⟩
def Cj(t:Tree)(n:Node):Bool:=decide ((64:Int)<=n.aL.length)||(decide ((12:Int)<=oT t.ae n.aq)||decide ((1099511627776:Int)<=t.aj))
def nP(t:Tree)(aq:Int)(s:Bytes):Int :=
 if (gA t.ae aq).2≠0 then (gA t.ae aq).2 else if fD s=false then 60 else if (fb (gA t.ae aq).1.aL s).isSome=true then 71 else if Cj t (gA t.ae aq).1 then 76 else 0
def qR(t:Tree)(aq:Int)(s:Bytes)(kind:Int):Tree×Int×Int :=
 if kind != 1&&kind != 2 then (t,0,1) else if nP t aq s != 0 then (t,0,nP t aq s) else
 if decide ((200:Int)<=t.ae.length)||decide ((1099511627776:Int)<=t.next) then (t,0,76) else
 (gz ⟨ef t.ae ⟨t.next,kind,1,[],[],if kind==2 then aq else 0⟩,lK (t.next+1),t.aj⟩ aq s t.next,t.next,0)
abbrev aY(ae:List Node)(aq:Int):Node:=(find ae aq).getD Node.zero
def Bp(t:Tree)(aq to:Int)(s:Bytes):Tree×Int :=
 if !(find t.ae aq).isSome||((aY t.ae aq).kind==1&&(aY t.ae aq).dz==0) then (t,70) else if (aY t.ae aq).kind==2 then (t,72) else
 if nP t to s != 0 then (t,nP t to s) else
 (gz ⟨ef t.ae { aY t.ae aq with dz:=lK ((aY t.ae aq).dz+1) },t.next,t.aj⟩ to s aq,0)
def eF(ae:List Node)(aq:Int):List Node :=
 if (aY ae aq).kind==2 then fz ae aq else ef ae { aY ae aq with dz:=lK ((aY ae aq).dz-1) }
def AA(t:Tree)(aq:Int)(s:Bytes):Tree×Int×Int :=
 if (eE t.ae aq s).2 != 0 then (t,0,(eE t.ae aq s).2) else if decide ((0:Int)<(aY t.ae (eE t.ae aq s).1).aL.length) then (t,0,74) else
 (⟨eF (cV t.ae aq s) (eE t.ae aq s).1,t.next,t.aj⟩,(eE t.ae aq s).1,0)
def ud(ae:List Node)(kind:Int)(y:Int):Int :=
 if !(find ae y).isSome then 0 else if kind==2&&(aY ae y).kind != 2 then 73 else if kind != 2&&(aY ae y).kind==2 then 72 else if decide ((0:Int)<(aY ae y).aL.length) then 74 else 0
def qt(t:Tree)(aq:Int)(data:Bytes):Tree×Int :=
 if !(find t.ae aq).isSome then (t,70) else if (aY t.ae aq).kind==2 then (t,72) else if decide ((4096:Int)<data.length) then (t,2) else
 (⟨ef t.ae { aY t.ae aq with data:=data },t.next,t.aj⟩,0)
def jU(t:Tree)(aq:Int):Tree×Int :=
 if !(find t.ae aq).isSome then (t,70) else if (aY t.ae aq).kind==2 then (t,72) else if decide ((0:Int)<(aY t.ae aq).dz) then (t,71) else
 (⟨fz t.ae aq,t.next,t.aj⟩,0)
def vM:Tree:=⟨[⟨1,2,0,[],[],1⟩],2,1⟩
def rG(ae:List Node)(aq at' d:Int)(n:Node)(most:Int):Int :=
 if n.kind==2&&hU ae n.aq aq then
  (if (if decide ((0:Int)<n.aL.length) then lK (lK (lK (at'+oT ae n.aq)-d)+1) else lK (lK (at'+oT ae n.aq)-d))>most
   then (if decide ((0:Int)<n.aL.length) then lK (lK (lK (at'+oT ae n.aq)-d)+1) else lK (lK (at'+oT ae n.aq)-d)) else most)
 else most
def vk(ae:List Node)(aq at' d:Int):List Node->Int->Int
 | [],most=>most
 |n::r,most=>vk ae aq at' d r (rG ae aq at' d n most)
def AR(ae:List Node)(aq at':Int):Int:=vk ae aq at' (oT ae aq) ae 0
def eZ(l:List fg)(s:Bytes):Int:=match fb l s with
 |none=>0
 |some e=>e.aq
def manyN(t:Tree)(jh to:Int)(aL:List fg)(kind y aq:Int):Bool :=
 ((y==0&&to != jh)&&decide ((64:Int)<=aL.length))||(decide ((12:Int)<=oT t.ae to)||((kind==2&&decide ((12:Int)<AR t.ae aq (lK (oT t.ae to+1))))||decide ((1099511627776:Int)<=t.aj)))
def pd(t:Tree)(jh:Int)(s:Bytes)(to:Int)(nm:Bytes)(aq y:Int):Tree :=
 gz ⟨if (aY t.ae aq).kind==2 then
   ef (if y != 0 then eF (cV (cV t.ae jh s) to nm) y else cV t.ae jh s) { aY t.ae aq with up:=to }
  else if y != 0 then eF (cV (cV t.ae jh s) to nm) y else cV t.ae jh s,t.next,t.aj⟩ to nm aq
def vO(t:Tree)(jh:Int)(s:Bytes)(to:Int)(nm:Bytes):Tree×Int×Int :=
 if (eE t.ae jh s).2 != 0 then (t,0,(eE t.ae jh s).2) else
 if (gA t.ae to).2 != 0 then (t,0,(gA t.ae to).2) else
 if !fD nm then (t,0,60) else
 if eZ (gA t.ae to).1.aL nm==(eE t.ae jh s).1 then (t,0,0) else
 if (aY t.ae (eE t.ae jh s).1).kind==2&&hU t.ae to (eE t.ae jh s).1 then (t,0,75) else
 if ud t.ae (aY t.ae (eE t.ae jh s).1).kind (eZ (gA t.ae to).1.aL nm) != 0 then (t,0,ud t.ae (aY t.ae (eE t.ae jh s).1).kind (eZ (gA t.ae to).1.aL nm)) else
 if manyN t jh to (gA t.ae to).1.aL (aY t.ae (eE t.ae jh s).1).kind (eZ (gA t.ae to).1.aL nm) (eE t.ae jh s).1 then (t,0,76) else
 (pd t jh s to nm (eE t.ae jh s).1 (eZ (gA t.ae to).1.aL nm),eZ (gA t.ae to).1.aL nm,0)
def Sz.unnamed{b:Nat}{t:Tree}(h:Sz b t)(aq next aj:Int):Sz (b+1) ⟨eF t.ae aq,next,aj⟩:=by
 unfold eF;split
 ·exact(h.tZ aq next aj).up (by omega)
 ·exact h.with (n:={ aY t.ae aq with dz:=lK ((aY t.ae aq).dz-1) }) (iA (h.find aq).1) (h.find aq).2 next aj
structure Step.Ok(s:Step):Prop where
 kind:s.kind<256
 a:s.a<256
 b:s.b<256
 n:s.n<256
 m:s.m<256
 data:s.data.length<=100000
def nameOf(n:Nat):Bytes:=match n % 6 with
 |0=>[97]
 |1=>[98]
 |2=>[99]
 |3=>[100]
 |4=>[101]
 |_=>[46,46]
def vB(t:Tree)(n:Nat):Int:=match t.ae[n % (t.ae.length+1)]? with
 |some m=>m.aq
 |none=>t.next
def ZE(t:Tree)(s:Step):Tree×Int×Int :=
 if ((s.kind % 8:Nat):Int)==0||((s.kind % 8:Nat):Int)==1 then qR t (vB t s.a) (nameOf s.n) (((s.m % 2:Nat):Int)+1) else
 if ((s.kind % 8:Nat):Int)==2 then ((Bp t (vB t s.b) (vB t s.a) (nameOf s.n)).1,0,(Bp t (vB t s.b) (vB t s.a) (nameOf s.n)).2) else
 if ((s.kind % 8:Nat):Int)==3 then AA t (vB t s.a) (nameOf s.n) else
 if ((s.kind % 8:Nat):Int)==4||((s.kind % 8:Nat):Int)==5 then vO t (vB t s.a) (nameOf s.n) (vB t s.b) (nameOf s.m) else
 if ((s.kind % 8:Nat):Int)==6 then ((qt t (vB t s.a) s.data).1,0,(qt t (vB t s.a) s.data).2) else
 ((jU t (vB t s.a)).1,0,(jU t (vB t s.a)).2)
def Ha(e:fg):∀(l out:List fg)(d:Bool),(uL e l out d).1.length+(if (uL e l out d).2=true then 0 else 1)<=out.length+l.length+(if d then 0 else 1)
 | [],out,d=>by simp only[uL,av,dg]; exact aC _
 |m::r,out,d=>by
  rw[uL];refine aV (Ha e r _ _) ?_;cases d<;>cases h1:gtB m.name e.name<;>simp<;>omega
def Qa(l:List fg)(e:fg):(vK l e).length<=l.length+1:=by
 have:=Ha e l [] false;unfold vK;split at this<;>simp_all
def Sz.mC{b:Nat}{t:Tree}(h:Sz b t)(aq:Int)(s:Bytes)(of:Int):Sz (b+1) (gz t aq s of) :=
 h.with (n:={ aY t.ae aq with aL:=vK (aY t.ae aq).aL ⟨s,of,t.aj⟩ }) (aV (Qa _ _) (Nat.succ_le_succ (h.find aq).1)) (h.find aq).2 t.next (lK (t.aj+1))
def Sz.add{b:Nat}{t:Tree}(h:Sz b t)(aq:Int)(s:Bytes)(kind:Int):Sz (b+5) (qR t aq s kind).1:=by
 unfold qR;split
 ·exact h.up (by omega)
 ·split
  ·exact h.up (by omega)
  ·split
   ·exact h.up (by omega)
   ·exact((h.with (n:=⟨t.next,kind,1,[],[],if kind==2 then aq else 0⟩) (by simp) (by simp) (lK (t.next+1)) t.aj).mC aq s t.next).up (by omega)
def Sz.ln{b:Nat}{t:Tree}(h:Sz b t)(aq to:Int)(s:Bytes):Sz (b+5) (Bp t aq to s).1:=by
 unfold Bp;split
 ·exact h.up (by omega)
 ·split
  ·exact h.up (by omega)
  ·split
   ·exact h.up (by omega)
   ·exact((h.with (n:={ aY t.ae aq with dz:=lK ((aY t.ae aq).dz+1) }) (iA (h.find aq).1) (h.find aq).2 t.next t.aj).mC to s aq).up (by omega)
def Sz.un{b:Nat}{t:Tree}(h:Sz b t)(aq:Int)(s:Bytes):Sz (b+5) (AA t aq s).1:=by
 unfold AA;split
 ·exact h.up (by omega)
 ·split
  ·exact h.up (by omega)
  ·exact((h.left aq s t.next t.aj).unnamed _ t.next t.aj).up (by omega)
def Sz.put{b:Nat}{t:Tree}(h:Sz b t)(aq:Int)(data:Bytes)(hd:data.length<=100000):Sz (b+5) (qt t aq data).1:=by
 unfold qt;split
 ·exact h.up (by omega)
 ·split
  ·exact h.up (by omega)
  ·split
   ·exact h.up (by omega)
   ·exact(h.with (n:={ aY t.ae aq with data:=data }) (iA (h.find aq).1) hd t.next t.aj).up (by omega)
def Sz.free{b:Nat}{t:Tree}(h:Sz b t)(aq:Int):Sz (b+5) (jU t aq).1:=by
 unfold jU;split
 ·exact h.up (by omega)
 ·split
  ·exact h.up (by omega)
  ·split
   ·exact h.up (by omega)
   ·exact(h.tZ aq t.next t.aj).up (by omega)
def Sz.move{b:Nat}{t:Tree}(h:Sz b t)(jh:Int)(s:Bytes)(to:Int)(nm:Bytes)(aq y:Int):Sz (b+5) (pd t jh s to nm aq y):=by
 unfold pd;have z1:=h.left jh s t.next t.aj
 have z3:=(z1.left to nm t.next t.aj).unnamed y t.next t.aj
 have z:Sz (b+3) ⟨if y != 0 then eF (cV (cV t.ae jh s) to nm) y else cV t.ae jh s,t.next,t.aj⟩:=by
  split
  ·exact z3
  ·exact z1.up (by omega)
 split
 ·exact((z.with (n:={ aY t.ae aq with up:=to }) (aV (h.find aq).1 (by omega)) (h.find aq).2 t.next t.aj).mC to nm aq).up (by omega)
 ·exact(z.mC to nm aq).up (by omega)
def Sz.mv{b:Nat}{t:Tree}(h:Sz b t)(jh:Int)(s:Bytes)(to:Int)(nm:Bytes):Sz (b+5) (vO t jh s to nm).1:=by
 unfold vO
 repeat' split
 all_goals first
  |exact h.up (by omega)
  |exact h.move jh s to nm _ _
def Sz.done{b:Nat}{t:Tree}(h:Sz b t)(s:Step)(hs:s.Ok):Sz (b+5) (ZE t s).1:=by
 unfold ZE
 repeat' split
 all_goals first
  |exact h.add _ _ _
  |exact h.ln _ _ _
  |exact h.un _ _
  |exact h.mv _ _ _ _
  |exact h.put _ _ hs.data
  |exact h.free _
def Sz.vM:Sz 1 vM:=⟨by simp[Go.Proofs.YtahkjijkflobhaaGreatDoor.vM],fun n hn=>by simp[Go.Proofs.YtahkjijkflobhaaGreatDoor.vM] at hn; subst hn; simp,fun n hn=>by simp[Go.Proofs.YtahkjijkflobhaaGreatDoor.vM] at hn; subst hn; simp⟩
def tkN(n:Node):List.take 6 (aF n)=aF n:=rfl
def shN(n:Node):List.map ag.shut (aF n)=aF n:=rfl
def tkE(n:fg):List.take 3 (fa n)=fa n:=rfl
def shE(n:fg):List.map ag.shut (fa n)=fa n:=rfl
def aps(a:Int):ar bK 239 [aE a] []=some (.bool false,[]):=by
 refine aw ?_;simp only[aaW,ang,an,EN,seval]
def aqP a:=cP (aps a)
def om(a b:Int):Int:=if decide (a<b) then -1 else if decide (b<a) then 1 else 0
def aos(a b:Int):ar bK 154 [aE a,aE b] []=some (aE (om a b),[]):=by
 refine aw ?_;simp only[aac,agG,aqP,EN,seval]
 repeat' ((first|apply bq|apply bU|apply dE)<;>intro hb<;>simp only[hb,EN,agG,seval])
 all_goals (simp_all only[om,pj,↓reduceIte,reduceCtorEq,an]; done)
def Qj a b:=cP (aos a b)
def w5(a b:Int):(om a b<0)=(a<b):=by
 unfold om
 by_cases h1:a<b
 ·simp[h1]
 ·by_cases h2:b<a<;>simp[h1,h2]
def E6(a b:Int):(om a b==0)=(a==b):=by
 unfold om
 by_cases h1:a<b
 ·have:¬a=b:=by omega
  simp[h1,this]
 ·by_cases h2:b<a
  ·have:¬a=b:=by omega
   simp[h1,h2,this]
  ·have:a=b:=by omega
   simp[this]
def apP(n:Node)(aq:Int):ar bK 286 [.agg (aF n),aE aq] []=some (aE (om n.aq aq),[]):=by
 refine aw ?_;simp only[abc,ano,bD,aF,Qj,EN,seval]
def ala n aq:=cP (apP n aq)
structure Ox(ae:List Node)(aq:Int)(b:Nat):Prop where
 le:b<=ae.length
 lt:∀h n,ae[h]?=some n->(n.aq<aq↔h<b)
def CJ(i j:Nat)(hj:j<=100000)(hi:i<=j):IntKind.i64.wrap ((i:Int)+(j:Int))=((i+j:Nat):Int)/\IntKind.u64.wrap ((i+j:Nat):Int)=((i+j:Nat):Int) /\
  (((i+j:Nat):Int)).fdiv (2 ^ min 1 IntKind.u64.bits)=(((i+j) / 2:Nat):Int)/\IntKind.i64.wrap (((i+j) / 2:Nat):Int)=(((i+j) / 2:Nat):Int)/\IntKind.i64.wrap ((((i+j) / 2:Nat):Int)+1)=(((i+j) / 2+1:Nat):Int):=by
 refine⟨?_,?_,?_,?_,?_⟩
 ·rw[fW (by omega) (by omega)]; rfl
 ·have:IntKind.u64.wrap ((i+j:Nat):Int)=((i+j:Nat):Int) % 18446744073709551616:=by simp[IntKind.wrap,IntKind.bits,IntKind.signed]
  rw[this]; omega
 ·have:(2:Int) ^ min 1 IntKind.u64.bits=2:=by decide
  rw[this,Int.fdiv_eq_ediv_of_nonneg _ (by omega)]; omega
 ·exact fW (by omega) (by omega)
 ·rw[fW (by omega) (by omega)]; rfl
def XV{ae:List Node}{aq:Int}{b:Nat}(hb:Ox ae aq b)(hn:ae.length<=100000){k:List K}{r:Option (ag×aH)}
  (hx:∀v q,kr (ar bK) [.tmp 6,.tmp 7] 0 k ⟨.exit 0,[(0,aN ae),(1,aE aq),(2,.func 286 []),(8,aE ae.length),(9,aE b),(10,v),(17,q)],[]⟩=r) :
  ∀(f i j:Nat),j-i<=f->i<=b->b<=j->j<=ae.length->eW (ar bK) [.tmp 6,.tmp 7] 0 k (.loop [0,1,2,8,9,10] Lf) [(0,aN ae),(1,aE aq),(2,.func 286 []),(8,aE ae.length),(9,aE i),(10,aE j)] []=r:=by
 intro f;induction f with
 |zero =>
  intro i j h1 h2 h3 h4;obtain rfl:i=b:=by omega
  rw[bt];have cn:((i:Int)<(j:Int))=False:=by simp; omega
  simp only[xx,cn,EN,seval];exact hx _ _
 |succ f ih =>
  intro i j h1 h2 h3 h4;rw[bt]
  by_cases hij:i<j
  ·have cn:((i:Int)<(j:Int))=True:=by simp; omega
   obtain⟨m1,m2,m3,m4,m5⟩:=CJ i j (by omega) (by omega)
   have hmid:(i+j) / 2<ae.length:=by omega
   have hx:=ai hmid;have hl:=hb.lt _ _ hx;simp only[xx,cn,m1,m2,m3,m4,hx,ala,w5,tkN,shN,EN,seval];refine bq (fun hq=>?_) (fun hq=>?_)
   ·have hq:ae[(i+j) / 2].aq<aq:=by simpa using hq
    simp only[xx,m5,EN,seval];exact ih ((i+j) / 2+1) j (by omega) (hl.1 hq) h3 h4
   ·have hq:¬ae[(i+j) / 2].aq<aq:=by simpa using hq
    simp only[xx,EN,seval];exact ih i ((i+j) / 2) (by omega) h2 (nV.1 fun h=>hq (hl.2 h)) (by omega)
  ·obtain rfl:i=b:=by omega
   have cn:((i:Int)<(j:Int))=False:=by simp; omega
   simp only[xx,cn,EN,seval];exact hx _ _
def Hg(ae:List Node)(aq:Int)(b:Nat):Bool:=match ae[b]? with
 |some n=>n.aq==aq
 |none=>false
def aow(ae:List Node)(aq:Int)(b:Nat)(hb:Ox ae aq b)(hn:ae.length<=100000):ar bK 160 [aN ae,aE aq,.func 286 []] []=some (.tuple [aE b,.bool (Hg ae aq b)],[]):=by
 refine aw ?_;simp only[PD,xx,EN,seval];refine XV hb hn (fun v q=>?_) ae.length 0 ae.length (by omega) (by omega) hb.le (by omega)
 unfold Hg
 by_cases cn:b<ae.length
 ·have hx:=ai cn;have h1:((b:Int)<(ae.length:Int))=True:=by simp; omega
  simp only[xx,hx,h1,ala,E6,tkN,shN,EN,seval]
 ·have hx:ae[b]?=none:=ec (by omega)
  have h1:((b:Int)<(ae.length:Int))=False:=by simp; omega
  simp only[xx,hx,h1,EN,seval]
def aqC ae aq b hb hn:=cP (aow ae aq b hb hn)
def lL(ae:List Node):Prop:=ae.Pairwise fun a b=>a.aq<b.aq
def kO(ae:List Node)(aq:Int):Nat:=(ae.takeWhile fun n=>decide (n.aq<aq)).length
def tT{ae:List Node}(h:lL ae)(aq:Int):Ox ae aq (kO ae aq):=by
 unfold kO;induction ae with
 |nil=>exact⟨by simp,fun h n hn=>by simp at hn⟩
 |cons a r ih =>
  obtain⟨h1,h2⟩:=cd.1 h;obtain⟨i1,i2⟩:=ih h2
  by_cases ha:a.aq<aq
  ·rw[gZ,bh (by simpa using ha)]
   refine⟨by simpa using i1,fun k n hn=>?_⟩
   cases k with
   |zero=>simp at hn; subst hn; simp[ha]
   |succ k=>rw[i2 k n (by simpa using hn)]; simp
  ·rw[gZ,aQ (by simpa using ha)]
   refine⟨by simp,fun k n hn=>?_⟩
   simp only[av,j8,o5];cases k with
   |zero=>simp at hn; subst hn; exact ha
   |succ k =>
    have:=h1 n (aO (by simpa using hn))
    omega
def ri{ae:List Node}(h:lL ae)(aq:Int):(Hg ae aq (kO ae aq)=true/\∃n,ae[kO ae aq]?=some n/\find ae aq=some n/\n.aq=aq)\/(Hg ae aq (kO ae aq)=false/\find ae aq=none):=by
 obtain⟨l1,l2⟩:=tT h aq;cases hf:find ae aq with
 |some n =>
  left;obtain⟨hm,he⟩:=bR hf;obtain⟨k,hk⟩:=bJ hm;have hkb:¬k<kO ae aq:=fun hc=>by have:=(l2 k n hk).2 hc; omega
  have hb:kO ae aq<ae.length:=by have:=(ak.1 hk).1; omega
  have hx:=ai hb;have hnl:¬ae[kO ae aq].aq<aq:=fun hc=>ij _ ((l2 _ _ hx).1 hc)
  have hke:k=kO ae aq:=by
   rcases bF (kO ae aq) k with cn|hge
   ·have hkl:=(ak.1 hk).1;have h3:=bV.1 h _ _ hb hkl cn;have h4:ae[k]=n:=by rw[ai hkl] at hk; injection hk
    rw[h4] at h3;omega
   ·omega
  subst hke;exact⟨by unfold Hg; rw[hk]; simp[he],n,hk,rfl,he⟩
 |none =>
  right;refine⟨?_,rfl⟩;unfold Hg;split
  ·rename_i n hn;have:=dQ.1 hf n (aO hn);simpa using this
  ·rfl
def rq{M:aH}{p:Nat}{b:dv}(h:nth M p=some b):jk M p b=M:=by
 rw[fE] at h; rw[gq];apply dL;intro i
 by_cases e:p=i
 ·subst e; rw[dJ (aJ h),h]
 ·rw[cI e]
def cM{C:eB}{f p:Nat}{vs:List ag}{r:ag}{M:aH}{cs:List ag}(hM:nth M p=some (.cells cs))(h:C f (.ptr 0 0::vs) [.cells cs]=some (r,[.cells cs]))(h1:vs.all ag.flat=true:=by exact rfl)(h2:vs.flatMap ag.ids=[]:=by exact rfl)(h3:r.vA=true:=by exact rfl)(h4:vs.map (ag.pv (hZ [p]))=vs:=by exact rfl)(h5:r.Ao (vN [p])=r:=by exact rfl)(h6:cs.all ag.uG=true:=by exact rfl)(h7:cs.flatMap ag.ml=[]:=by exact rfl)(h8:cs.map (ag.rN (hZ [p]))=cs:=by exact rfl)(h10:cs.map (ag.rN (vN [p]))=cs:=by exact rfl):aM C f (.ptr p 0::vs) M=some (r,M):=by
 have:=pM hM h h1 h2 h3 h4 h5 h6 h7 h8 h6 h10;rwa[rq hM] at this
def apu(ae:List Node)(next aj aq:Int)(h:lL ae)(hn:ae.length<=100000):ar bK 243 [bX 0,aE aq] [bO [aN ae,aE next,aE aj]] =
  some (.tuple [aE (kO ae aq),.bool (Hg ae aq (kO ae aq))],[bO [aN ae,aE next,aE aj]]):=by
 refine aw ?_;have hk:=aqC ae aq _ (tT h aq) hn;simp only[aaY,anh,hk,EN,seval]
def WO ae next aj aq h hn p M hM:=cM (p:=p) (M:=M) hM (apu ae next aj aq h hn)
def aoy(ae:List Node)(next aj aq:Int)(h:lL ae)(hn:ae.length<=100000):ar bK 162 [bX 0,aE aq] [bO [aN ae,aE next,aE aj]] =
  some (.tuple [bD (aY ae aq),.bool (find ae aq).isSome],[bO [aN ae,aE next,aE aj]]):=by
 refine aw ?_;have hk:=fun M=>WO ae next aj aq h hn 0 (bO [aN ae,aE next,aE aj]::M) rfl
 simp only[aag,abZ,hk,EN,seval];rcases ri h aq with ⟨h1,n,h2,h3,h4⟩|⟨h1,h2⟩
 ·simp only[abZ,h1,h2,h3,aY,aF,EN,seval];rfl
 ·simp only[abZ,h1,h2,aY,EN,seval];rfl
def Dv ae next aj aq h hn p M hM:=cM (p:=p) (M:=M) hM (aoy ae next aj aq h hn)
def ao8(ae:List Node)(next aj aq:Int)(h:lL ae)(hn:ae.length<=100000):ar bK 206 [bX 0,aE aq] [bO [aN ae,aE next,aE aj]] =
  some (.tuple [bD (gA ae aq).1,aE (gA ae aq).2],[bO [aN ae,aE next,aE aj]]):=by
 refine aw ?_;have hk:=fun M=>Dv ae next aj aq h hn 0 (bO [aN ae,aE next,aE aj]::M) rfl
 simp only[aaH,Vu,hk,bD,aF,EN,seval];unfold gA;cases hf:find ae aq with
 |none=>simp only[Vu,aY,hf,Option.isSome,EN,seval]; first|done|rfl
 |some n =>
  simp only[Vu,aY,hf,Option.isSome,bn,EN,seval]
  repeat' ((first|apply bq|apply bU|apply dE)<;>intro hb<;>simp only[hb,EN,Vu,seval])
  all_goals (clear hk; simp_all [Node.zero])
def WL ae next aj aq h hn p M hM:=cM (p:=p) (M:=M) hM (ao8 ae next aj aq h hn)
end
end
section
open Go
set_option maxRecDepth 100000 in
def Ky{s pre r:List UInt8}{n:UInt8}(h:s=pre++n::r) :
  (n.toNat<128/\Utf8.decode ⟨s.toArray⟩ pre.length=(n.toNat,1)) \/
  ∃c m r',n::r=m++r'/\m≠[]/\(∀b,b∈m->128<=b.toNat)/\128<=c/\c<2147483648/\Utf8.decode ⟨s.toArray⟩ pre.length=(c,m.length):=by
 have hg:∀k,(⟨s.toArray⟩:ByteArray).get! (pre.length+k)=(n::r).getD k 0:=fun k=>by
  subst h
  show((pre++n::r).toArray)[pre.length+k]! = _
  simp only[List.getElem!_toArray,List.getElem!_eq_getElem?_getD,ko];rw[bz (by omega),iz]
  rfl
 have hsz:(⟨s.toArray⟩:ByteArray).size=pre.length+(n::r).length:=by
  show s.toArray.size=_
  subst h; simp
 by_cases hn:n.toNat<128
 ·refine .inl ⟨hn,?_⟩;have h0:=hg 0;simp only[dg,List.getD_cons_zero] at h0;simp[Utf8.decode,h0,hn]
 ·refine .inr ?_;have hn':128<=n.toNat:=by omega
  have h0:=hg 0;have h1:=hg 1;have h2:=hg 2;have h3:=hg 3;simp only[dg,List.getD_cons_zero,List.getD_cons_succ] at h0 h1 h2 h3
  have one:∀c,128<=c->c<2147483648->Utf8.decode ⟨s.toArray⟩ pre.length=(c,1)->∃c m r',n::r=m++r'/\m≠[]/\(∀b,b∈m->128<=b.toNat)/\128<=c/\c<2147483648/\Utf8.decode ⟨s.toArray⟩ pre.length=(c,m.length) :=
   fun c hc hc2 hd=>⟨c,[n],r,rfl,by simp,by simpa using hn',hc,hc2,hd⟩
  have big:∀k,k<r.length->128<=(r.getD k 0).toNat->∃b,r[k]?=some b/\128<=b.toNat:=fun k hk hb=>by
   refine⟨r[k],ai hk,?_⟩;simpa[ko,ai hk] using hb
  have cn:¬n.toNat<0x80:=by omega
  have hN:n.toNat<256:=n.toNat_lt;unfold Utf8.decode at one ⊢;simp only[dg,h0,h1,h2,h3,hsz,au,cn,az] at one ⊢
  by_cases hA:(n.toNat / 32==6&&(decide (pre.length+1<pre.length+(r.length+1))&&(r.getD 0 0).toNat / 64==2))=true
  ·simp only[hA,aG] at one ⊢;simp only[bm,eG,ba] at hA;obtain⟨hA1,hA2,hA3⟩:=hA
   by_cases hc:n.toNat % 32*64+(r.getD 0 0).toNat % 64>=0x80
   ·simp only[hc,aG] at one ⊢;obtain⟨b0,g0,g1⟩:=big 0 (by omega) (by omega)
    match r,g0 with
    |_::r',g0 =>
     cases g0;exact⟨_,[n,_],r',rfl,by simp,by simp[hn',g1],hc,by omega,rfl⟩
   ·simp only[hc,az] at one ⊢;exact one _ (by decide) (by decide) rfl
  ·simp only[hA,az] at one ⊢
   by_cases hB:(n.toNat / 16==14&&(decide (pre.length+1<pre.length+(r.length+1))&&(r.getD 0 0).toNat / 64==2)&&(decide (pre.length+2<pre.length+(r.length+1))&&(r.getD 1 0).toNat / 64==2))=true
   ·simp only[hB,aG] at one ⊢;simp only[bm,eG,ba] at hB;obtain⟨⟨hB1,hB2,hB3⟩,hB4,hB5⟩:=hB
    by_cases hc:((n.toNat % 16*4096+(r.getD 0 0).toNat % 64*64+(r.getD 1 0).toNat % 64>=0x800:Bool)&&Utf8.valid ((n.toNat % 16*4096+(r.getD 0 0).toNat % 64*64+(r.getD 1 0).toNat % 64:Nat):Int))=true
    ·simp only[hc,aG] at one ⊢;simp only[bm,ba] at hc;obtain⟨b0,g0,g1⟩:=big 0 (by omega) (by omega)
     obtain⟨b1,k0,k1⟩:=big 1 (by omega) (by omega)
     match r,g0,k0 with
     |_::_::r',g0,k0 =>
      cases g0;cases k0;exact⟨_,[n,_,_],r',rfl,by simp,by simp[hn',g1,k1],by omega,by omega,rfl⟩
    ·simp only[hc,az] at one ⊢;exact one _ (by decide) (by decide) rfl
   ·simp only[hB,az] at one ⊢
    by_cases hC:(n.toNat / 8==30&&(decide (pre.length+1<pre.length+(r.length+1))&&(r.getD 0 0).toNat / 64==2)&&(decide (pre.length+2<pre.length+(r.length+1))&&(r.getD 1 0).toNat / 64==2)&&(decide (pre.length+3<pre.length+(r.length+1))&&(r.getD 2 0).toNat / 64==2))=true
    ·simp only[hC,aG] at one ⊢;simp only[bm,eG,ba] at hC;obtain⟨⟨⟨hB1,hB2,hB3⟩,hB4,hB5⟩,hB6,hB7⟩:=hC
     by_cases hc:((n.toNat % 8*262144+(r.getD 0 0).toNat % 64*4096+(r.getD 1 0).toNat % 64*64+(r.getD 2 0).toNat % 64>=0x10000:Bool)&&Utf8.valid ((n.toNat % 8*262144+(r.getD 0 0).toNat % 64*4096+(r.getD 1 0).toNat % 64*64+(r.getD 2 0).toNat % 64:Nat):Int))=true
     ·simp only[hc,aG] at one ⊢;simp only[bm,ba] at hc;obtain⟨b0,g0,g1⟩:=big 0 (by omega) (by omega)
      obtain⟨b1,k0,k1⟩:=big 1 (by omega) (by omega)
      obtain⟨b2,l0,l1⟩:=big 2 (by omega) (by omega)
      match r,g0,k0,l0 with
      |_::_::_::r',g0,k0,l0 =>
       cases g0;cases k0;cases l0;exact⟨_,[n,_,_,_],r',rfl,by simp,by simp[hn',g1,k1,l1],by omega,by omega,rfl⟩
     ·simp only[hc,az] at one ⊢;exact one _ (by decide) (by decide) rfl
    ·simp only[hC,az] at one ⊢;exact one _ (by decide) (by decide) rfl
end
section
open Go Go.Abs
section
attribute [local irreducible] eW fQ lh gK dW kr ar aM cq bI
def nH(_:Bytes):Prop:=True
def all_true{m:Bytes}(h:∀b,b∈m->128<=b.toNat):m.all rX=true:=by
 rw[bH];intro b hb;have:=h b hb;have h1:¬((b.toNat:Int)<32):=by omega
 have h2:¬((b.toNat:Int)=47):=by omega
 simp[rX,h1,h2]
def X6{s:Bytes}(hs:s.length<=100000)(ha:nH s){k:List K}{R:Bool->Option (ag×aH)}
  (hx:∀e p,kr (ar bK) [.tmp 2] 0 k ⟨.exit 0,e,[.mc s p]⟩=R true) (hr:∀p,kr (ar bK) [.tmp 2] 0 k ⟨.ret,[(2,.bool false)],[.mc s p]⟩=R false) :
  ∀(q:Nat)(l pre:Bytes),l.length<=q->s=pre++l->eW (ar bK) [.tmp 2] 0 k (.loop [21] Lg) [(21,.jq 0)] [.mc s pre.length]=R (l.all rX):=by
 intro q;induction q with
 |zero =>
  intro l pre hq h;have h0:l=[]:=dG (by omega)
  subst h0;rw[bt];have cn:(pre.length<s.length)=False:=by rw[h]; simp
  simp only[vG,cn,EN,seval];exact hx _ _
 |succ q ih =>
  intro l pre hq h;cases l with
  |nil =>
   rw[bt];have cn:(pre.length<s.length)=False:=by rw[h]; simp
   simp only[vG,cn,EN,seval];exact hx _ _
  |cons n r =>
   rw[bt];have cn:(pre.length<s.length)=True:=by rw[h]; simp
   rcases Ky h with ⟨hn,hd⟩|⟨c,m,r',hm,hne,hb,hc,hc2,hd⟩
   ·have hi:=ih r (pre++[n]) (by simp at hq; omega) (by rw[h]; simp)
    simp only[aD,au,av,aK] at hi;simp only[vG,cn,hd,EN,seval]
    repeat' ((first|apply bq|apply bU|apply dE)<;>intro hb<;>simp only[hb,vG,hd,EV,seval])
    all_goals first
     |(refine(hr _).trans ?_; congr 1; symm; clear hi ih hx hr hd h; simp_all [rX]; done)
     |(refine hi.trans ?_; congr 1; symm; clear hi ih hx hr hd h; simp_all [rX]; done)
   ·have hml:0<m.length:=gk.2 hne;have hl2:(n::r).length=m.length+r'.length:=by rw[hm]; simp
    have hi:=ih r' (pre++m) (by simp at hq hl2; omega) (by rw[h,hm]; simp)
    simp only[aD] at hi;have h32:decide ((c:Int)<32)=false:=by simp; omega
    have h47:((c:Int)==47)=false:=by rw[jL]; omega
    rw[hm,List.all_append,all_true hb,dD];simp only[vG,cn,hd,h32,h47,EN,seval];exact hi
def ao9(s:Bytes)(hs:s.length<=100000)(ha:nH s):ar bK 207 [.str s] []=some (.bool (fD s),[]):=by
 refine aw ?_;simp only[GQ,vG,EN,seval];have hl:=fun k hx hr=>X6 (k:=k) (R:=fun b=>some (ag.bool b,[])) hs ha hx hr s.length s [] (aC _) rfl
 have he:(s==[])=decide ((s.length:Int)<1):=by cases s<;>simp; omega
 rw[he]
 repeat' ((first|apply bq|apply bU|apply dE)<;>intro hb<;>simp only[hb,EN,vG,seval])
 all_goals first
  |(clear hl he; simp_all [fD]; done)
  |(refine(hl _ (fun e p=>by simp only[vG,EN,seval]) (fun p=>by simp only[vG,EN,seval])).trans ?_; clear hl he; simp_all [fD]; done)
def WM s hs ha:=cP (ao9 s hs ha)
def aq0(a b:Bytes)(M:aH):aM (ar bK) 295 [.str a,.str b] M=some (aE (Lib.compareBytes a b),M) :=
 cO (eX (g:=zg) rfl rfl) M
def apK(a b:Bytes):ar bK 263 [.str a,.str b] []=some (aE (Lib.compareBytes a b),[]):=by
 refine aw ?_;simp only[aa7,anl,aq0,EN,seval]
def aqV a b:=cP (apK a b)
def Kw:∀(a b:Bytes),(Lib.compareBytes a b<0)=(strLt a b=true)
 | [],[]=>by simp[Lib.compareBytes,strLt]
 | [],_::_=>by simp[Lib.compareBytes,strLt]
 |_::_,[]=>by simp[Lib.compareBytes,strLt]
 |a::x,b::y=>by
  rw[Lib.compareBytes,strLt]
  by_cases h1:a<b
  ·simp[h1]
  ·by_cases h2:b<a
   ·have h3:¬a=b:=by rintro rfl; exact ny _ h2
    simp[h1,h2,h3]
   ·have h3:a=b:=by rw[<-lx]; simp only[kj] at h1 h2; omega
    subst h3;simp[h1,Kw x y]
def Kv:∀(a b:Bytes),(Lib.compareBytes a b==0)=(a==b)
 | [],[]=>by simp[Lib.compareBytes]
 | [],_::_=>by simp[Lib.compareBytes]
 |_::_,[]=>by simp[Lib.compareBytes]
 |a::x,b::y=>by
  rw[Lib.compareBytes]
  by_cases h1:a<b
  ·have h3:¬a=b:=by rintro rfl; exact ny _ h1
   simp[h1,h3]
  ·by_cases h2:b<a
   ·have h3:¬a=b:=by rintro rfl; exact ny _ h2
    simp[h1,h2,h3]
   ·have h3:a=b:=by rw[<-lx]; simp only[kj] at h1 h2; omega
    subst h3;simp only[h1,az,Kv x y];simp
def apJ(e:fg)(s:Bytes):ar bK 262 [.agg (fa e),.str s] []=some (aE (Lib.compareBytes e.name s),[]):=by
 refine aw ?_;simp only[aa6,ank,fH,fa,aqV,EN,seval]
def ak9 e s:=cP (apJ e s)
structure Iy(aL:List fg)(s:Bytes)(b:Nat):Prop where
 le:b<=aL.length
 lt:∀h n,aL[h]?=some n->(strLt n.name s=true↔h<b)
def Yf{aL:List fg}{s:Bytes}{b:Nat}(hb:Iy aL s b)(hn:aL.length<=100000){k:List K}{r:Option (ag×aH)}
  (hx:∀v q,kr (ar bK) [.tmp 6,.tmp 7] 0 k ⟨.exit 0,[(0,gS aL),(1,.str s),(2,.func 262 []),(8,aE aL.length),(9,aE b),(10,v),(17,q)],[]⟩=r) :
  ∀(f i j:Nat),j-i<=f->i<=b->b<=j->j<=aL.length->eW (ar bK) [.tmp 6,.tmp 7] 0 k (.loop [0,1,2,8,9,10] XG) [(0,gS aL),(1,.str s),(2,.func 262 []),(8,aE aL.length),(9,aE i),(10,aE j)] []=r:=by
 intro f;induction f with
 |zero =>
  intro i j h1 h2 h3 h4;obtain rfl:i=b:=by omega
  rw[bt];have cn:((i:Int)<(j:Int))=False:=by simp; omega
  simp only[F1,cn,EN,seval];exact hx _ _
 |succ f ih =>
  intro i j h1 h2 h3 h4;rw[bt]
  by_cases hij:i<j
  ·have cn:((i:Int)<(j:Int))=True:=by simp; omega
   obtain⟨m1,m2,m3,m4,m5⟩:=CJ i j (by omega) (by omega)
   have hmid:(i+j) / 2<aL.length:=by omega
   have hx:=ai hmid;have hl:=hb.lt _ _ hx;simp only[F1,cn,m1,m2,m3,m4,hx,ak9,Kw,tkE,shE,EN,seval];refine bq (fun hq=>?_) (fun hq=>?_)
   ·have hq:strLt aL[(i+j) / 2].name s=true:=by simpa using hq
    simp only[F1,m5,EN,seval];exact ih ((i+j) / 2+1) j (by omega) (hl.1 hq) h3 h4
   ·have hq:¬strLt aL[(i+j) / 2].name s=true:=by simpa using hq
    simp only[F1,EN,seval];exact ih i ((i+j) / 2) (by omega) h2 (nV.1 fun h=>hq (hl.2 h)) (by omega)
  ·obtain rfl:i=b:=by omega
   have cn:((i:Int)<(j:Int))=False:=by simp; omega
   simp only[F1,cn,EN,seval];exact hx _ _
def AU(aL:List fg)(s:Bytes)(b:Nat):Bool:=match aL[b]? with
 |some n=>n.name==s
 |none=>false
def apI(aL:List fg)(s:Bytes)(b:Nat)(hb:Iy aL s b)(hn:aL.length<=100000):ar bK 261 [gS aL,.str s,.func 262 []] []=some (.tuple [aE b,.bool (AU aL s b)],[]):=by
 refine aw ?_;simp only[aa5,F1,EN,seval];refine Yf hb hn (fun v q=>?_) aL.length 0 aL.length (by omega) (by omega) hb.le (by omega)
 unfold AU
 by_cases cn:b<aL.length
 ·have hx:=ai cn;have h1:((b:Int)<(aL.length:Int))=True:=by simp; omega
  simp only[F1,hx,h1,ak9,Kv,tkE,shE,EN,seval]
 ·have hx:aL[b]?=none:=ec (by omega)
  have h1:((b:Int)<(aL.length:Int))=False:=by simp; omega
  simp only[F1,hx,h1,EN,seval]
def aqU aL s b hb hn:=cP (apI aL s b hb hn)
def ou(l:List fg):Prop:=l.Pairwise fun a b=>strLt a.name b.name=true
def lf(l:List fg)(s:Bytes):Nat:=(l.takeWhile fun n=>strLt n.name s).length
def apa(n:Node)(s:Bytes)(b:Nat)(hb:Iy n.aL s b)(hn:n.aL.length<=100000):ar bK 208 [bD n,.str s] []=some (.tuple [aE b,.bool (AU n.aL s b)],[]):=by
 refine aw ?_;have hk:=aqU n.aL s b hb hn;simp only[aaI,am6,bD,aF,hk,EN,seval]
def Qk(a b c:Int)(d:Bytes)(e:List fg)(u:Int)(s:Bytes)(i:Nat)(hb:Iy e s i)(hn:e.length<=100000)(M:aH):aM (ar bK) 208 [.agg [aE a,aE b,aE c,cX d,gS e,aE u],.str s] M=some (.tuple [aE i,.bool (AU e s i)],M) :=
 cO (apa ⟨a,b,c,d,e,u⟩ s i hb hn) M
end
section
open Go.RowKit Go.Shelf
def Dz{α:Type}(b0:Nat)(F:Fence)(n:Nat)(P:Program)(g:Nat)(lb:Array Value)(encs:α->Array Value)(Kp:World->World->Prop)(S Sp:List α->Prop)(N:Nat)(w:World):Prop :=
 ∀(l:Nat)(J Jx:List α->World->Prop)(W:World),Below w.heap.size w W->AbidesFrom W.heap.size J->AbidesFrom W.heap.size Jx->(∀s A v,J s A->J s (A.setCell ⟨b0,0,none⟩ v)) ->
  (∀pre x W1,J pre W1->pre.length<N->YieldAt F (n-1) P l (encs x) W1 fun e W' =>
   (e = .returned (.bool true)/\J (pre++[x]) W'/\Kp W1 W')\/(e = .returned (.bool false)/\Jx (pre++[x]) W')) ->
  J [] W ->
  CallsIn F n P g (#[.func (.yield l) #[] #[]]++lb) W fun e W'=>(∃v,e = .returned v)/\((∃xs,S xs/\J xs W')\/(∃pre,Sp pre/\Jx pre W'))
def xA{F:Fence}{n:Nat}{P:Program}{b0:Nat}{α:Type}{g:Operand}{ps:Array Tmp}{assign body:Code}{Q:Exit->Act->World->Prop}{a:Act}{w:World}(hb0w:b0<w.heap.size)
  (hro:F.round=none) (h1:1<=n) {gf:Nat} {lb:Array Value} (hg:a.eval g = .func (.func gf) #[] lb) (hFg:F.fn gf) (eg:∀args w,(callFunc gf args).run P w = .ok (.enter gf args) w)
  {encs:α->Array Value} {Kp:World->World->Prop} {S Sp:List α->Prop} {N:Nat} {w0:World} (hseq:Dz b0 F (n-1) P gf lb encs Kp S Sp N w0)
  (hKt:∀ {A B C:World},Kp A B->Kp B C->Kp A C) (hKb:∀(W:World)(l:Nat)(o o':Obj),w.heap.size<=l->W.heap[l]?=some o->o.isCells=false->o.isWalk=false->Kp W (W.putObj l o')) (hb0:Below w0.heap.size w0 w) (hps:∀x,(encs x).size=ps.size)
  (I:List α->World->Prop) (Ix:Code->List α->World->Prop) (hI:OwnFrom w.heap.size I) (hIx:∀c,OwnFrom w.heap.size (Ix c)) (hIc:∀s A v,I s A->I s (A.setCell ⟨b0,0,none⟩ v)) (h0:I [] w) (a₁:α->Act)
  (hassign:∀(l:Nat)(x:α)(W:World)(K:Act->World->Prop),K (a₁ x) W ->
   assign.wpIn (F.inRound l) (n-1-1) P (Exit.then K (fun _ _ _=>False)) { tmps:=(ps.zip (encs x)).foldl (fun t (p,v)=>t.setIfInBounds p v) a.tmps,defers:=[] } W)
  (hbody:∀(l:Nat)(pre:List α)(x:α)(W:World),I pre W->pre.length<N->body.wpIn (F.inRound l) (n-1-1) P (ownPostK Kp I Ix (pre++[x]) W) (a₁ x) W)
  (hdone:∀(D:Nat)(xs:List α)(W:World),w.heap.size<=D->S xs->I xs W->W.heap[D]?=some (.deferred (some []))->Q .normal { a with defers:={ target := .collected D,args := #[] }::a.defers } W)
  (hstop:∀(D:Nat)(c:Code)(pre:List α)(W:World),w.heap.size<=D->Sp pre->Ix c pre W->W.heap[D]?=some (.deferred (some []))->c.wpIn F n P Q { a with defers:={ target := .collected D,args := #[] }::a.defers } W) :
  (Code.rangeFunc g ps assign body).wpIn F n P Q a w:=by
 refine wpIn_rangeFunc ?_;intro fn hfn;rw[hro];obtain⟨rec,hrec⟩:∃rec:LoopState->Option Code->Loop,rec=fun st pe=>{ state:=st,pending:=pe,fn,tmps:=a.tmps,params:=ps,assign,body,defers:=w.heap.size }:=⟨_,rfl⟩
 obtain⟨W1,hW1⟩:∃W1,(w.alloc (.deferred (some []))).alloc (.loop (rec .ready none))=W1:=⟨_,rfl⟩
 have hL1:W1.heap[w.heap.size+1]?=some (.loop (rec .ready none)):=by
  rw[<-hW1]; have:=World.alloc_heap_new (w.alloc (.deferred (some []))) (.loop (rec .ready none)); rwa[World.size_alloc] at this
 have hK1:W1.heap[w.heap.size]?=some (.deferred (some [])):=by
  rw[<-hW1]; exact(Below.heap_alloc _ _ _ (by simp)).trans (World.alloc_heap_new w _)
 have hI1:I [] W1:=by rw[<-hW1]; exact hI.alloc _ (hI.alloc _ h0)
 have hb1:Below w0.heap.size w0 W1:=by
  rw[<-hW1]; exact hb0.trans ((((Below.refl _ w).alloc (aC _) _).alloc (by simp) _).mono hb0.size)
 refine⟨w.heap.size+1,[{ target := .collected w.heap.size,args := #[] }],W1,{ target := .fn (.func gf) lb,args := #[.func (.yield (w.heap.size+1)) #[] #[]] },W1,gf,
  #[.func (.yield (w.heap.size+1)) #[] #[]]++lb,W1,?_,?_,?_,?_,fun _=>h1,?_⟩
 ·rw[<-hW1,hrec]; exact run_enterLoop_outer _ _ _ _ _
 ·simp only[resolve,hg];simp[go_sem]
 ·intro f' hf'; simp[Target.leads] at hf'; subst hf'; exact hFg
 ·simp[invoke,go_sem,eg]
 ·have hnw:∀ {A B:World} {row:Option Nat},(∀r,row=some r->W1.heap.size<=r/\∃o:Obj,A.heap[r]?=some o/\o.isWalk=true)->(∀r,row=some r->w.heap.size<=r/\∃o:Obj,A.heap[r]?=some o/\o.isCells=false) :=
   fun hr r e=>by obtain⟨hB,o,ho,hw⟩:=hr r e; exact⟨by rw[<-hW1] at hB; simp at hB; omega,o,ho,Obj.not_cells_of_walk hw⟩
  refine(hseq (w.heap.size+1)
   (fun pre W=>I pre W/\W.heap[w.heap.size+1]?=some (.loop (rec .ready none))/\W.heap[w.heap.size]?=some (.deferred (some [])))
   (fun pre W=>∃c,Ix c pre W/\W.heap[w.heap.size+1]?=some (.loop (rec .done (some c)))/\W.heap[w.heap.size]?=some (.deferred (some [])))
   W1 hb1
   (fun s A B row hs hg' hr=>⟨hI s A B row hs.1 hg' (hnw (B:=B) hr),(grownBy_keeps hg' (fun r e=>(hr r e).2) hs.2.1 rfl).trans hs.2.1,(grownBy_keeps hg' (fun r e=>(hr r e).2) hs.2.2 rfl).trans hs.2.2⟩)
   (fun s A B row hs hg' hr=>by
    obtain⟨c,hc,hl,hk⟩:=hs;exact⟨c,hIx c s A B row hc hg' (hnw (B:=B) hr),(grownBy_keeps hg' (fun r e=>(hr r e).2) hl rfl).trans hl,(grownBy_keeps hg' (fun r e=>(hr r e).2) hk rfl).trans hk⟩)
   (fun s A v hs=>⟨hIc s A v hs.1,(Below.heap_setCell _ _ _ _ (by show _≠b0; omega)).trans hs.2.1,(Below.heap_setCell _ _ _ _ (by show _≠b0; omega)).trans hs.2.2⟩)
   ?_ ⟨hI1,hL1,hK1⟩).mono ?_
  ·rintro pre x W ⟨hi,hl,hk⟩ dR;have cn:w.heap.size+1<W.heap.size:=(fj.1 hl).1;have hy:=run_yield (P:=P) (args:=encs x) hl (by rw[hrec]; exact hps x)
   rw[hrec] at hy;refine⟨fn,_,assign,body,hy,roundIn_of_wpIn hfn (hassign _ x W _ ⟨_,run_beginRound hl (by rw[hrec]),?_⟩)⟩
   have hl2:(W.putObj (w.heap.size+1) (.loop { rec .ready none with state := .busy })).heap[w.heap.size+1]?=some (.loop { rec .ready none with state := .busy }):=World.putObj_heap_same cn
   have hk2:(W.putObj (w.heap.size+1) (.loop { rec .ready none with state := .busy })).heap[w.heap.size]?=some (.deferred (some [])):=(World.putObj_heap_other (by omega)).trans hk
   have hw2:Kp W (W.putObj (w.heap.size+1) (.loop { rec .ready none with state := .busy })):=hKb _ _ _ _ (by omega) hl rfl rfl
   refine wpIn_mono (hbody _ pre x _ (hI.putObj _ hi (by omega) hl rfl) dR) ?_
   have fin:∀(jump:Option Code)(W3:World),KeepsOthers (W.putObj (w.heap.size+1) (.loop { rec .ready none with state := .busy })) W3 ->
     (Instr.endRound (w.heap.size+1) jump).run P W3 = .ok (.bool jump.isNone) (W3.putObj (w.heap.size+1) (.loop (rec (if jump.isNone then .ready else .done) jump))) /\
     W3.heap[w.heap.size+1]?=some (.loop { rec .ready none with state := .busy }) /\
     (W3.putObj (w.heap.size+1) (.loop (rec (if jump.isNone then .ready else .done) jump))).heap[w.heap.size+1]?=some (.loop (rec (if jump.isNone then .ready else .done) jump)) /\
     (W3.putObj (w.heap.size+1) (.loop (rec (if jump.isNone then .ready else .done) jump))).heap[w.heap.size]?=some (.deferred (some [])):=fun jump W3 hk3=>by
    have hl3:=hk3.same _ _ hl2 rfl;have:=run_endRound (P:=P) jump hl3;rw[hrec] at this ⊢;exact⟨this,by rw[hrec] at hl3; exact hl3,World.putObj_heap_same (fj.1 hl3).1,(World.putObj_heap_other (by omega)).trans (hk3.same _ _ hk2 rfl)⟩
   rintro e a3 W3 hp;cases e with
   |normal =>
    obtain⟨hk3,hkp3,hi3⟩:=hp;obtain⟨hr,hl3,hl4,hk4⟩:=fin none W3 hk3;exact⟨_,_,hr,.inl ⟨rfl,⟨hI.putObj _ hi3 (by omega) hl3 rfl,hl4,hk4⟩,hKt (hKt hw2 hkp3) (hKb _ _ _ _ (by omega) hl3 rfl rfl)⟩⟩
   |ret =>
    obtain⟨hk3,hi3⟩:=hp;obtain⟨hr,hl3,hl4,hk4⟩:=fin (some .ret) W3 hk3;exact⟨_,_,hr,.inr ⟨rfl,.ret,(hIx _).putObj _ hi3 (by omega) hl3 rfl,hl4,hk4⟩⟩
   |exit id =>
    obtain⟨hk3,hi3⟩:=hp;obtain⟨hr,hl3,hl4,hk4⟩:=fin (some (.exit id)) W3 hk3;exact⟨_,_,hr,.inr ⟨rfl,.exit id,(hIx _).putObj _ hi3 (by omega) hl3 rfl,hl4,hk4⟩⟩
   |goto t =>
    obtain⟨hk3,hi3⟩:=hp;obtain⟨hr,hl3,hl4,hk4⟩:=fin (some (.goto t)) W3 hk3;exact⟨_,_,hr,.inr ⟨rfl,.goto t,(hIx _).putObj _ hi3 (by omega) hl3 rfl,hl4,hk4⟩⟩
   |panic ch=>exact hp.elim
   |outgrown=>exact hp.elim
  ·rintro e W2 ⟨⟨v,rfl⟩,(⟨xs,hS,hi,hl,hk⟩|⟨pre,hSp,c,hi,hl,hk⟩)⟩
   ·exact⟨none,_,by have:=run_endLoop (P:=P) hl (by rw[hrec]; simp); rw[hrec] at this; exact this,hdone _ xs _ (aC _) hS (hI.putObj _ hi (by omega) hl rfl) ((World.putObj_heap_other (by omega)).trans hk)⟩
   ·exact⟨some c,_,by have:=run_endLoop (P:=P) hl (by rw[hrec]; simp); rw[hrec] at this; exact this,hstop _ c pre _ (aC _) hSp ((hIx c).putObj _ hi (by omega) hl rfl) ((World.putObj_heap_other (by omega)).trans hk)⟩
def K6:J:=⟨fun _=>none,fun _ _=>False⟩
def UE(w:World):Rel K6 [] w where
 inj:=fun _ _ _ h=>by cases h
 lt:=fun _ _ h=>by cases h
 fix:=fun _ _ h=>by cases h
 tick:=fun _ _ _ _ h=>by cases h
 arr:=fun _ _ _ _ h=>by cases h
 um:=fun _ _ h=>by cases h
 zC:=fun _ _ h=>h.elim
@[reducible] def G0:kf:={ g:=fun _=>none }
def afh:@oS G0 Tryz.prog (DA [] f207) f207=some GQ:=by kernel_rfl
def afi:@oS G0 Tryz.prog (DA [] f273) f273=some KV:=by kernel_rfl
def afj:@oS G0 Tryz.prog (DA [] f307) f307=some KY:=by kernel_rfl
def afk:@oS G0 Tryz.prog (DA [] f325) f325=some GU:=by kernel_rfl
def Fw{α:Type}{x:α}{P:Prop}(h:(none:Option α)=some x):P:=by cases h
def aks(w:World):@rT G0 K6 [] w:=@rT.mk G0 _ _ _ (fun b vs k v h=>Fw (show(none:Option (List Value))=some vs from h)) (fun b vs h=>Fw (show(none:Option (List Value))=some vs from h)) (fun b p h=>Fw (show(none:Option (Value->Prop))=some p from h))
def ZA:Nat->Option dY
 |207=>some GQ
 |273=>some KV
 |307=>some KY
 |325=>some GU
 |_=>none
noncomputable def C9:yz:=⟨ZA,fun _=>none⟩
def Y3:@vV G0 Tryz.prog C9:=by
 refine @vV.mk G0 _ _ (fun f fn h=>?_) (fun f g h=>by cases h)
 simp only[C9] at h;unfold ZA at h;split at h
 ·cases h; exact⟨_,_,func207,afh⟩
 ·cases h; exact⟨_,_,func273,afi⟩
 ·cases h; exact⟨_,_,func307,afj⟩
 ·cases h; exact⟨_,_,func325,afk⟩
 ·cases h
def af3:@oQ G0 Tryz.prog (ar C9):=@ry G0 _ (by kernel_rfl) _ Y3
section
attribute [local irreducible] eW fQ lh gK dW kr ar aM cq bI
def Tm{s:Bytes}(hs:s.length<=100000)(ha:nH s){k:List K}{R:Bool->Option (ag×aH)}
  (hx:∀e p,kr (ar C9) [.tmp 2] 0 k ⟨.exit 0,e,[.mc s p]⟩=R true) (hr:∀p,kr (ar C9) [.tmp 2] 0 k ⟨.ret,[(2,.bool false)],[.mc s p]⟩=R false) :
  ∀(q:Nat)(l pre:Bytes),l.length<=q->s=pre++l->eW (ar C9) [.tmp 2] 0 k (.loop [21] Lg) [(21,.jq 0)] [.mc s pre.length]=R (l.all rX):=by
 intro q;induction q with
 |zero =>
  intro l pre hq h;have h0:l=[]:=dG (by omega)
  subst h0;rw[bt];have cn:(pre.length<s.length)=False:=by rw[h]; simp
  simp only[vG,cn,EN,seval];exact hx _ _
 |succ q ih =>
  intro l pre hq h;cases l with
  |nil =>
   rw[bt];have cn:(pre.length<s.length)=False:=by rw[h]; simp
   simp only[vG,cn,EN,seval];exact hx _ _
  |cons n r =>
   rw[bt];have cn:(pre.length<s.length)=True:=by rw[h]; simp
   rcases Ky h with ⟨hn,hd⟩|⟨c,m,r',hm,hne,hb,hc,hc2,hd⟩
   ·have hi:=ih r (pre++[n]) (by simp at hq; omega) (by rw[h]; simp)
    simp only[aD,au,av,aK] at hi;simp only[vG,cn,hd,EN,seval]
    repeat' ((first|apply bq|apply bU|apply dE)<;>intro hb<;>simp only[hb,vG,hd,EV,seval])
    all_goals first
     |(refine(hr _).trans ?_; congr 1; symm; clear hi ih hx hr hd h; simp_all [rX]; done)
     |(refine hi.trans ?_; congr 1; symm; clear hi ih hx hr hd h; simp_all [rX]; done)
   ·have hml:0<m.length:=gk.2 hne;have hl2:(n::r).length=m.length+r'.length:=by rw[hm]; simp
    have hi:=ih r' (pre++m) (by simp at hq hl2; omega) (by rw[h,hm]; simp)
    simp only[aD] at hi;have h32:decide ((c:Int)<32)=false:=by simp; omega
    have h47:((c:Int)==47)=false:=by rw[jL]; omega
    rw[hm,List.all_append,all_true hb,dD];simp only[vG,cn,hd,h32,h47,EN,seval];exact hi
def aiZ(s:Bytes)(hs:s.length<=100000)(ha:nH s):ar C9 207 [.str s] []=some (.bool (fD s),[]):=by
 refine aw ?_;simp only[GQ,vG,EN,seval];have hl:=fun k hx hr=>Tm (k:=k) (R:=fun b=>some (ag.bool b,[])) hs ha hx hr s.length s [] (aC _) rfl
 have he:(s==[])=decide ((s.length:Int)<1):=by cases s<;>simp; omega
 rw[he]
 repeat' ((first|apply bq|apply bU|apply dE)<;>intro hb<;>simp only[hb,EN,vG,seval])
 all_goals first
  |(clear hl he; simp_all [fD]; done)
  |(refine(hl _ (fun e p=>by simp only[vG,EN,seval]) (fun p=>by simp only[vG,EN,seval])).trans ?_; clear hl he; simp_all [fD]; done)
end
def CU{f:Nat}{args:List ag}{r:ag}(h:ar C9 f args []=some (r,[]))(hp:r.jx=false)(w:World)(vs:Array Value)(hl:args.length=vs.size)(hv:∀(i:Nat)(c:ag)(v:Value),args[i]?=some c->vs[i]?=some v->fY K6 [] w c v) :
  Calls Tryz.prog f vs w fun e w'=>∃v j',e = .returned v/\w.grownBy w' none/\fY j' [] w' r v:=by
 refine((af3 f args [] _ h).2 K6 w vs (UE w) (aks w) hl hv).mono ?_;intro e w' hce;obtain⟨v,rfl,j',_,hx,hr⟩:=hce.ret hp;exact⟨v,j',rfl,⟨hx.os,hx.tape,hx.output,hx.size,fun k hk _=>(hx.uo k hk fun i hi=>by cases hi).1⟩,hr⟩
def UJ(s:Bytes)(hs:s.length<=100000)(ha:nH s)(w:World):Calls Tryz.prog 207 #[.string (bs s)] w fun e w'=>e = .returned (.bool (fD s))/\w.grownBy w' none:=by
 refine(CU (aiZ s hs ha) rfl w #[.string (bs s)] rfl ?_).mono ?_
 ·intro i c v h1 h2
  match i with
  |0=>cases h1; cases h2; exact .plain (.str _)
  |i+1=>cases h1
 ·rintro e w' ⟨v,j',rfl,hg,hr⟩;rw[hr.jg];exact⟨rfl,hg⟩
set_option maxHeartbeats 1000000 in
set_option maxRecDepth 100000 in
def P8(a:ByteArray)(c:Int)(w:World) :
  Calls Tryz.prog 308 #[.string a,.int .u8 c] w fun e w'=>e = .returned (.int .i64 (Lib.indexByte a.data.toList c.toNat.toUInt8))/\w'=w:=by
 go_enter func308,ntmps308
 go_wp2
 rw[run_callFunc_extern func326 (by kernel_rfl) (by kernel_rfl) (by kernel_rfl) (e:=Extern.BytealgIndexByte.indexByte) (by kernel_rfl),Lib.run_indexByteString]
 simp only[Result.andThen];rw[Oper.upon_value]
 go_wp2
 go_ret
 exact⟨rfl,rfl⟩
set_option maxHeartbeats 1000000 in
set_option maxRecDepth 100000 in
def P7(a:ByteArray)(c:Int)(w:World) :
  Calls Tryz.prog 274 #[.string a,.int .u8 c] w fun e w'=>e = .returned (.int .i64 (Lib.indexByte a.data.toList c.toNat.toUInt8))/\w'=w:=by
 go_enter func274,ntmps274
 go_wp2_with (go_at_call 308; refine(P8 _ _ _).mono ?_; rintro e w' ⟨rfl,rfl⟩)
 go_ret
 exact⟨rfl,rfl⟩
section ev
attribute [local irreducible] eW fQ lh gK dW kr ar aM cq bI
def tb:Bytes->Bytes×Bool
 |b::r=>if b=47 then (r,true) else (b::r,false)
 | []=>([],false)
def MP:Bytes->Bool
 |b::_=>b==47
 | []=>false
def apU(s:Bytes):ar C9 325 [.str s,.str [47]] []=some (.bool (MP s),[]):=by
 refine aw ?_;cases s with
 |nil =>
  have h0:decide (((1:Nat):Int)<=((0:Nat):Int))=false:=by decide
  simp only[GU,VB,h0,EN,seval];simp only[MP,VB,h0,EN,seval]
 |cons b r =>
  have h1:(1:Int)<=(r.length:Int)+1:=by omega
  simp only[GU,VB,EN,seval];simp[MP,h1,fy,VB,EN,seval]
  try (cases hb:(b==47)<;>simp_all)
def alb s:=cP (apU s)
def apT(s:Bytes):ar C9 307 [.str s,.str [47]] []=some (.tuple [.str (tb s).1,.bool (tb s).2],[]):=by
 refine aw ?_;simp only[KY,VA,alb,EN,seval];cases s with
 |nil=>simp only[MP,VA,alb,EN,seval]; rfl
 |cons b r =>
  by_cases hb:b=47
  ·have h1:(1:Int)<=(r.length:Int)+1:=by omega
   have h2:(0:Int)<=(r.length:Int)+1:=by omega
   simp[MP,hb,VA,tb,fy,h1,h2,EN,seval]
  ·have hb':(b==47)=false:=by simpa using hb
   simp only[MP,hb',VA,EN,seval];simp[tb,hb]
def aq2 s:=cP (apT s)
def apO(s:Bytes):ar C9 273 [.str s,.str [47]] []=some (.tuple [.str (tb s).1,.bool (tb s).2],[]):=by
 refine aw ?_;simp only[KV,ann,aq2,EN,seval]
end ev
def ac1(s:Bytes)(w:World):Calls Tryz.prog 273 #[.string (bs s),.string ⟨#[47]⟩] w fun e w'=>e = .returned (.tuple #[.string (bs (tb s).1),.bool (tb s).2])/\w.grownBy w' none:=by
 refine(CU (apO s) rfl w #[.string (bs s),.string ⟨#[47]⟩] rfl ?_).mono ?_
 ·intro i c v h1 h2
  match i with
  |0=>cases h1; cases h2; exact .plain (.str _)
  |1=>cases h1; cases h2; exact .plain (.str [47])
  |i+2=>cases h1
 ·rintro e w' ⟨v,j',rfl,hg,hr⟩;obtain⟨vs,rfl,hl,hv⟩:=hr.sP;obtain⟨l⟩:=vs
  match l,hl with
  | [u1,u2],_ =>
   rw[(hv 0 _ u1 rfl rfl).jX,(hv 1 _ u2 rfl rfl).jg];exact⟨rfl,hg⟩
def GA(s:Bytes):Nat:=if Lib.indexByte s 47<0 then s.length else (Lib.indexByte s 47).toNat
def tq(s:Bytes):Bytes×Bool:=((tb s).1.take (GA (tb s).1),(tb s).2)
def rO(s:Bytes):Bytes:=(tb s).1.drop (GA (tb s).1)
def vo:Nat->Bytes->List (Bytes×Bool)
 |0,_=>[]
 |n+1,s=>match s with
  | []=>[]
  |b::r=>tq (b::r)::vo n (rO (b::r))
def index_le(l:Bytes)(c:UInt8):Lib.indexByte l c<=l.length:=by
 induction l with
 |nil=>simp[Lib.indexByte]
 |cons b r ih =>
  simp only[Lib.indexByte];split
  ·simp; omega
  ·split
   ·simp; omega
   ·simp; omega
def O6(s:Bytes):(tb s).1.length<=s.length:=by
 cases s with
 |nil=>simp[tb]
 |cons b r=>simp only[tb]; split<;>simp
def CY{s:Bytes}(h:s≠[]):(rO s).length<s.length:=by
 cases s with
 |nil=>exact absurd rfl h
 |cons b r =>
  unfold rO;rw[iW]
  by_cases hb:b=47
  ·have:tb (b::r)=(r,true):=by simp[tb,hb]
   rw[this]; simp; omega
  ·have e:tb (b::r)=(b::r,false):=by simp[tb,hb]
   rw[e]
   have:0<GA (b::r):=by
    unfold GA;have hb':(b==47)=false:=by simpa using hb
    have hg:=Lib.indexByte_ge r 47;split
    ·simp
    ·rename_i hn;simp only[Lib.indexByte,hb',af,az] at hn ⊢;split
     ·rename_i he; simp[he] at hn
     ·rename_i he;have:Lib.indexByte r 47 ≠ -1:=by simpa using he
      omega
   simp only[au];omega
def Fy:∀(n m:Nat)(s:Bytes),s.length<=n->s.length<=m->vo n s=vo m s:=by
 intro n;induction n with
 |zero =>
  intro m s h _;have:s=[]:=by cases s with|nil=>rfl|cons b r=>simp at h
  subst this;cases m<;>rfl
 |succ n ih =>
  intro m s h h';cases s with
  |nil=>cases m<;>rfl
  |cons b r =>
   cases m with
   |zero=>simp at h'
   |succ m =>
    have:=CY (s:=b::r) (by simp)
    simp only[vo];rw[ih m _ (by omega) (by omega)]
def mb(s:Bytes):List (Bytes×Bool):=vo s.length s
def zi{s:Bytes}(h:s≠[]):mb s=tq s::mb (rO s):=by
 cases s with
 |nil=>exact absurd rfl h
 |cons b r =>
  have:=CY (s:=b::r) (by simp)
  unfold mb;rw[show(b::r).length=r.length+1 from rfl,vo]
  rw[Fy r.length (rO (b::r)).length _ (by simp at this; omega) (by omega)]
def AG{s:Bytes}(h:nH s):nH (tq s).1:=trivial
def BO{s:Bytes}(h:nH s):nH (rO s):=trivial
def Nz(s:Bytes):(tq s).1.length<=s.length:=by
 have:=O6 s;unfold tq;rw[il];omega
abbrev PA:={ x:Bytes×Bool // nH x.1/\x.1.length<=100000 }
abbrev Wb(x:PA):Array Value := #[.string (bs x.1.1),.bool x.1.2]
def E4(b0:Nat)(w:World):Nat:=match w.cell? ⟨b0,0,none⟩ with
 |some (.string s)=>s.size
 |_=>0
section
attribute [local go_sem] Oper.semAt_some
set_option maxHeartbeats 1000000 in
def NA(n:Nat)(s:Bytes)(w:World) :
  CallsIn Fence.wide n Tryz.prog 231 #[.string (bs s)] w fun e w'=>e = .returned (.func (.func 272) #[] #[.pointer (some ⟨w.heap.size,0,none⟩)])/\w'=w.alloc (.cells #[.string (bs s)] 9):=by
 refine callsIn_of_wp func231 rfl trivial ?_ rfl;simp only[ntmps231,cR,au,av,Nat.reduceAdd,Nat.reduceSub,js,jt,ku,jG,aW,aU]
 gi_wp2
 go_ret
 exact⟨rfl,rfl⟩
def Kq(c:Bytes)(n:Nat):bs (c.drop n)=(bs c).extract n (bs c).size:=by
 rw[xY,show(bs c).size=c.length from rfl,cg]
def vh{b0:Nat}{w:World}{s:Bytes}(h:Boxed w b0 9 (.string (bs s))):E4 b0 w=s.length:=by
 unfold E4;rw[h.cell];rfl
set_option maxRecDepth 100000 in
set_option maxHeartbeats 1000000 in
def WB(n:Nat)(hn:3<=n)(l b0 N:Nat)(s0:Bytes)(ha:nH s0)(hs:s0.length<=100000)(hN:(mb s0).length<=N)(J Jx:List PA->World->Prop)(W:World)(hJ:AbidesFrom W.heap.size J)(hJc:∀s A v,J s A->J s (A.setCell ⟨b0,0,none⟩ v))
  (hY:∀pre x W1,J pre W1->pre.length<N->YieldAt Fence.wide (n-1) Tryz.prog l (Wb x) W1 fun e W' =>
   (e = .returned (.bool true)/\J (pre++[x]) W'/\W'.heap[b0]?=W1.heap[b0]?)\/(e = .returned (.bool false)/\Jx (pre++[x]) W'))
  (hB:Boxed W b0 9 (.string (bs s0))) (h0:J [] W) :
  CallsIn Fence.wide n Tryz.prog 272 #[.func (.yield l) #[] #[],.pointer (some ⟨b0,0,none⟩)] W fun e W'=>(∃v,e = .returned v) /\
   ((∃xs:List PA,xs.map (·.1)=mb s0/\J xs W')\/(∃pre:List PA,pre.map (·.1) <+: mb s0/\Jx pre W')):=by
 refine callsIn_of_wp func272 rfl trivial ?_ rfl;simp only[ntmps272,cR,au,av,Nat.reduceAdd,Nat.reduceSub,js,jt,ku,jG,aW,aU]
 gi_wp2
 gi_loopw [3] (fun _ wr=>∃(pre:List PA) (rest:Bytes),Boxed wr b0 9 (.string (bs rest))/\nH rest/\rest.length<=100000/\mb s0=pre.map (·.1)++mb rest/\J pre wr)
  (fun _ wr=>E4 b0 wr)
 case atStart =>
  exact⟨[],s0,hB,ha,hs,rfl,h0⟩
 case round =>
  obtain⟨pre,rest,hb,hra,hrl,hp,hJs⟩:=hrel;have hf:=hb.frozen;cases rest with
  |nil =>
   have hc:wr.cell? ⟨b0,0,none⟩=some (.string ⟨#[]⟩):=hb.cell
   gi_wp2
   go_end0
   exact⟨⟨_,rfl⟩,.inl ⟨pre,by rw[hp]; simp[mb,vo],hJs⟩⟩
  |cons x rest =>
   have hc:=hb.cell;have hne:(!(bs (x::rest)).toList.isEmpty)=true:=by simp[bs]
   gi_wp2
   refine⟨trivial,fun h=>(by cases h),(callsIn_wide.2 (ac1 _ _)).mono ?_⟩
   rintro e w1 ⟨rfl,hg⟩;have hb1:Boxed w1 b0 9 (.string (bs (x::rest))):=hb.kept hg (by simp)
   have hJ1:J pre w1:=hJ pre wr w1 none hJs hg (fun r e=>by cases e)
   have hbr:=hb;clear hb hc hf hJs;have hc1:=hb1.cell;have hf1:=hb1.frozen
   gi_wp2
   refine⟨trivial,fun h=>(by cases h),(callsIn_wide.2 (P7 _ _ _)).mono ?_⟩
   rintro e w2 ⟨rfl,rfl⟩
   have dR:pre.length<N:=by
    have:=congrArg List.length hp;rw[zi (s:=x::rest) (by simp)] at this
    simp at this;omega
   have hpl:=Nz (x::rest);have hrest:=CY (s:=x::rest) (by simp)
   obtain⟨fn,tmps,assign,body,hy,hR⟩:=hY pre ⟨tq (x::rest),AG hra,by omega⟩ w2 hJ1 dR
   have hpn:mb s0=(pre++[⟨tq (x::rest),AG hra,by omega⟩]:List PA).map (·.1)++mb (rO (x::rest)):=by
    rw[hp,zi (by simp)]; simp
   obtain⟨c,hc⟩:∃c,(tb (x::rest)).1=c:=⟨_,rfl⟩;have hix:=index_le c 47
   by_cases hi:Lib.indexByte c 47<0
   ·have he:tq (x::rest)=(c,(tb (x::rest)).2):=by simp[tq,hc,GA,hi]
    have hre:rO (x::rest)=[]:=by simp[rO,hc,GA,hi]
    simp only[Wb,he] at hy;rw[hc];have hi':Lib.indexByte (bs c).data.toList 47<0:=hi
    gi_wp2
    refine⟨fun h=>(by cases h),hR.mono ?_⟩
    rintro e W3 (⟨rfl,hJ3,hk3⟩|⟨rfl,hJx3⟩)
    ·have hb3:Boxed W3 b0 9 (.string (bs (x::rest))):=hk3.trans hb1;have hc3:=hb3.cell;have hf3:=hb3.frozen
     gi_wp2
     go_roundw
     case rel =>
      exact⟨_,rO (x::rest),(by rw[hre]; exact(hb3.set _)),BO hra,by omega,hpn,hJc _ _ _ hJ3⟩
     case measure =>
      rw[vh (s:=rO (x::rest)) (by rw[hre]; exact(hb3.set _)),vh hbr]
      exact hrest
    ·gi_wp2
     refine bodyPost_ret (results_none rfl _ _ _) rfl ?_;exact⟨⟨_,rfl⟩,.inr ⟨_,⟨mb (rO (x::rest)),hpn.symm⟩,hJx3⟩⟩
   ·have hi0:0<=Lib.indexByte c 47:=by omega
    have he:tq (x::rest)=(c.take (Lib.indexByte c 47).toNat,(tb (x::rest)).2):=by simp[tq,hc,GA,hi]
    have hre:rO (x::rest)=c.drop (Lib.indexByte c 47).toNat:=by simp[rO,hc,GA,hi]
    simp only[Wb,he] at hy;rw[show bs (c.take (Lib.indexByte c 47).toNat)=(bs c).extract 0 (Lib.indexByte (bs c).data.toList 47).toNat by rw[xY]; rfl] at hy
    rw[hc];have hi':¬Lib.indexByte (bs c).data.toList 47<0:=hi;have hi2:Lib.indexByte (bs c).data.toList 47<=(bs c).size:=hix
    gi_wp2
    refine⟨fun h=>(by cases h),hR.mono ?_⟩
    rintro e W3 (⟨rfl,hJ3,hk3⟩|⟨rfl,hJx3⟩)
    ·have hb3:Boxed W3 b0 9 (.string (bs (x::rest))):=hk3.trans hb1;have hc3:=hb3.cell;have hf3:=hb3.frozen
     gi_wp2
     go_roundw
     case rel =>
      exact⟨_,rO (x::rest),(by rw[hre,Kq]; exact(hb3.set _)),BO hra,by omega,hpn,hJc _ _ _ hJ3⟩
     case measure =>
      rw[vh (s:=rO (x::rest)) (by rw[hre,Kq]; exact(hb3.set _)),vh hbr]
      exact hrest
    ·gi_wp2
     refine bodyPost_ret (results_none rfl _ _ _) rfl ?_;exact⟨⟨_,rfl⟩,.inr ⟨_,⟨mb (rO (x::rest)),hpn.symm⟩,hJx3⟩⟩
def Dl(x:Bytes×Bool)(n:Nat):Bool := !x.2 || !fD x.1||n==12
def pt:List (Bytes×Bool)->Nat->Option (List Bytes)
 | [],_=>some []
 |x::r,n=>if Dl x n then none else (pt r (n+1)).map (x.1 :: ·)
def Au:∀(a b:List (Bytes×Bool)) (n:Nat),pt (a++b) n=(pt a n).bind fun l=>(pt b (n+a.length)).map (l ++ ·):=by
 intro a;induction a with
 |nil=>intro b n; simp[pt]
 |cons x r ih =>
  intro b n;simp only[aU,pt];split
  ·rfl
  ·rw[ih,show n+1+r.length=n+(x::r).length by simp; omega]
   cases pt r (n+1) with
   |none=>rfl
   |some l=>simp; rfl
def gx(s:Bytes):List Bytes×Int:=if s=[47] then ([],0) else match pt (mb s) 0 with
 |none=>([],60)
 |some []=>([],60)
 |some l=>(l,0)
def KZ(pre:List PA):Prop:=pt (pre.map (·.1)) 0=some (pre.map (·.1.1))/\pre.length<=12
def Jw{pre:List PA}{x:PA}(h:KZ pre)(hb:Dl x.1 pre.length=false):KZ (pre++[x]):=by
 refine⟨?_,?_⟩
 ·rw[bu,Au,h.1];simp[pt,hb]
 ·have:pre.length≠12:=by intro e; rw[e] at hb; simp[Dl] at hb
  have:=h.2;simp; omega
def zI{pre:List PA}{x:PA}(h:KZ pre)(hb:Dl x.1 pre.length=true):pt ((pre++[x]).map (·.1)) 0=none:=by
 rw[bu,Au,h.1];simp[pt,hb]
def NL{a l:List (Bytes×Bool)}(h:a <+: l)(hn:pt a 0=none):pt l 0=none:=by
 obtain⟨b,rfl⟩:=h;rw[Au,hn]; rfl
def akA:(Tryz.prog.info? 9).map (fun i=>(i.zero,i.size,i.bytes))=some (some (.string ⟨#[]⟩),1,16):=by kernel_rfl
abbrev Ff(b:Bytes):Value := .string (bs b)
def appended{W w1:World}{n₀ B:Nat}{v v':Value}{k m:Nat}{xs ys:List Value}{tmp:Obj}
  (hv:Boxed W B 43 v) (hrow:W.ownsRow n₀ 9 1 v k xs) (hown':w1.ownsRow n₀ 9 1 v' m ys) (hgrow:(W.alloc tmp).grownBy w1 v.ownBlock) :
  Boxed w1 B 43 v/\Boxed (w1.setCell ⟨B,0,none⟩ v') B 43 v'/\(w1.setCell ⟨B,0,none⟩ v').ownsRow n₀ 9 1 v' m ys/\KeepsOthers W (w1.setCell ⟨B,0,none⟩ v') /\
  (w1.setCell ⟨B,0,none⟩ v').os=W.os/\(w1.setCell ⟨B,0,none⟩ v').tape=W.tape/\(w1.setCell ⟨B,0,none⟩ v').output=W.output/\W.heap.size<=(w1.setCell ⟨B,0,none⟩ v').heap.size /\
  ∀q,q<n₀->q<W.heap.size->q≠B->(w1.setCell ⟨B,0,none⟩ v').heap[q]?=W.heap[q]?:=by
 have hv1:Boxed w1 B 43 v:=(hv.alloc tmp).kept hgrow (hv.not_row (by decide) hrow)
 have hs:=grownBy_setCell' w1 B v';refine⟨hv1,hv1.set v',hown'.kept hs (.inr (hv1.not_row (by decide) hown').symm),?_,?_,?_,?_,?_,?_⟩
 ·refine((KeepsOthers.alloc W tmp).trans (KeepsOthers.of_grownBy hgrow fun j o ej hj=>?_)).trans (KeepsOthers.setCell _ _ _)
  rcases(hrow.alloc tmp).2 with ⟨rfl,_⟩|⟨g,cap,cur,rfl,_,hgb,_⟩
  ·simp[Value.ownBlock] at ej
  ·obtain rfl:g=j:=by simpa[Value.ownBlock] using ej
   rw[hgb] at hj; cases hj; rfl
 ·exact hs.os.trans hgrow.os
 ·exact hs.tape.trans hgrow.tape
 ·exact hs.output.trans hgrow.output
 ·have h1:=hgrow.size;have h2:=hs.size;simp at h1;omega
 ·intro q hq hqw hqB;have cn:q<(W.alloc tmp).heap.size:=by simp; omega
  rw[hs.block q (bw cn hgrow.size) (fun e=>hqB (by cases e; rfl)),hgrow.block q cn ?_]
  ·exact Below.heap_alloc _ _ _ hqw
  ·intro e;rcases hrow.2 with ⟨rfl,_⟩|⟨g,cap,cur,rfl,hb,_,_⟩
   ·simp[Value.ownBlock] at e
   ·obtain rfl:q=g:=by simpa[Value.ownBlock] using e
    omega
structure Di(w:World)(pre:List PA)(W:World):Prop where
 Fh:KZ pre
 r0:Boxed W w.heap.size 43 (.slice none 0 0)
 r1:Boxed W (w.heap.size+1) 42 (.int .i64 0)
 row:∃v,Boxed W (w.heap.size+2) 43 v/\W.ownsRow (w.heap.size+4) 9 1 v pre.length (pre.map fun x=>Ff x.1.1)
 below:Below w.heap.size w W
 sz:w.heap.size+4<=W.heap.size
structure E1(w:World)(c:Code)(pre:List PA)(W:World):Prop where
 ret:c = .ret
 bad:pt (pre.map (·.1)) 0=none
 r0:Boxed W w.heap.size 43 (.slice none 0 0)
 r1:Boxed W (w.heap.size+1) 42 (.int .i64 60)
 below:Below w.heap.size w W
def sW{W W':World}{row:Option Nat}{B k:Nat}{t:TypeId}{v:Value}(h:Boxed W B t v)(hg:W.grownBy W' row)(hr:∀r,row=some r->k<=r/\∃o:Obj,W.heap[r]?=some o/\o.isCells=false):Boxed W' B t v :=
 h.kept hg fun e=>by obtain⟨_,o,ho,hc⟩:=hr B e.symm; rw[show W.heap[B]?=_ from h] at ho; cases ho; cases hc
def Di.own{w:World}:OwnFrom (w.heap.size+4) (Di w):=fun s A B row hs hg hr=>by
 obtain⟨v,hv,hrow⟩:=hs.row;exact⟨hs.Fh,sW hs.r0 hg hr,sW hs.r1 hg hr,⟨v,sW hv hg hr,((holdsRow_own (β:=Unit) (w.heap.size+4) (w.heap.size+2) 43 9 1 (fun _=>s.length) (fun _=>s.map fun x=>Ff x.1.1) (fun _ u=>u=v)) () A B row ⟨v,hv,hrow,rfl⟩ hg (fun r e=>(hr r e).2)).elim fun u hu=>hu.2.2▸hu.2.1⟩,ownFrom_below (β:=Unit) (aC _) (by omega) () A B row hs.below hg hr,aV hs.sz hg.size⟩
def E1.own{w:World}(c:Code):OwnFrom (w.heap.size+4) (E1 w c):=fun s A B row hs hg hr =>
 ⟨hs.ret,hs.bad,sW hs.r0 hg hr,sW hs.r1 hg hr,ownFrom_below (β:=Unit) (aC _) (by omega) () A B row hs.below hg hr⟩
def Di.cell{w:World}(s:List PA)(A:World)(u:Value)(hs:Di w s A):Di w s (A.setCell ⟨w.heap.size+3,0,none⟩ u):=by
 obtain⟨v,hv,hrow⟩:=hs.row;have hg:=grownBy_setCell' A (w.heap.size+3) u;refine⟨hs.Fh,hs.r0.other (by omega) _,hs.r1.other (by omega) _,⟨v,hv.other (by omega) _,hrow.kept hg ?_⟩,hs.below.setCell (p:=⟨w.heap.size+3,0,none⟩) (by simp) _,aV hs.sz hg.size⟩
 rcases hrow.2 with ⟨rfl,_⟩|⟨g,cap,cur,rfl,hb,_,_⟩
 ·exact .inl rfl
 ·refine .inr fun e=>?_
  have:g=w.heap.size+3:=by simpa[Value.ownBlock] using e
  omega
def E1.made{w W:World}{pre:List PA}(h0:Boxed W w.heap.size 43 (.slice none 0 0))(h1:Boxed W (w.heap.size+1) 42 (.int .i64 0))(hb:Below w.heap.size w W)(hbad:pt (pre.map (·.1)) 0=none) :
  KeepsOthers W ((W.setCell ⟨w.heap.size,0,none⟩ (.slice none 0 0)).setCell ⟨w.heap.size+1,0,none⟩ (.int .i64 60))/\E1 w .ret pre ((W.setCell ⟨w.heap.size,0,none⟩ (.slice none 0 0)).setCell ⟨w.heap.size+1,0,none⟩ (.int .i64 60)):=by
 refine⟨(KeepsOthers.setCell _ _ _).trans (KeepsOthers.setCell _ _ _),rfl,hbad,(h0.set _).other (by omega) _,?_,(hb.setCell (p:=⟨w.heap.size,0,none⟩) (aC _) _).setCell (p:=⟨w.heap.size+1,0,none⟩) (by simp) _⟩
 exact(h1.other (by omega) _).set _
def Ap{W:World}{n₀ k:Nat}{v:Value}{xs:List Value}(h:W.ownsRow n₀ 9 1 v k xs):∃p cap,v = .slice p k cap:=by
 rcases h.2 with ⟨rfl,rfl⟩|⟨g,cap,cur,rfl,_⟩
 ·exact⟨_,_,rfl⟩
 ·exact⟨_,_,rfl⟩
def YZ{W:World}{n₀ n₁ k D:Nat}{v:Value}{xs:List Value}{x:Option (List Deferred)}{o:Obj}(h:W.ownsRow n₀ 9 1 v k xs)(hn:n₁<=n₀)(hD:W.heap[D]?=some (.deferred x)):(W.putObj D o).ownsRow n₁ 9 1 v k xs:=by
 refine⟨h.1,?_⟩;rcases h.2 with h0|⟨g,cap,cur,e,hb,hg,hr⟩
 ·exact .inl h0
 ·refine .inr ⟨g,cap,cur,e,by omega,?_,hr⟩
  exact(World.putObj_heap_other (fun e=>by subst e; rw[hD] at hg; cases hg)).trans hg
def HT{W:World}{n₀ k B:Nat}{v:Value}{xs:List Value}(h:W.ownsRow n₀ 9 1 v k xs)(hB:B<n₀)(u:Value):(W.setCell ⟨B,0,none⟩ u).ownsRow n₀ 9 1 v k xs:=by
 refine⟨h.1,?_⟩;rcases h.2 with h0|⟨g,cap,cur,e,hb,hg,hr⟩
 ·exact .inl h0
 ·exact .inr ⟨g,cap,cur,e,hb,(Below.heap_setCell _ _ _ _ (by show _≠B; omega)).trans hg,hr⟩
def sI{W:World}{B D:Nat}{t:TypeId}{v:Value}{x:Option (List Deferred)}{o:Obj}(h:Boxed W B t v)(hD:W.heap[D]?=some (.deferred x)):Boxed (W.putObj D o) B t v :=
 (World.putObj_heap_other (fun e=>by subst e; rw[show W.heap[B]?=_ from h] at hD; cases hD)).trans h
def zK{w W:World}{D:Nat}{o:Obj}(h:Below w.heap.size w W)(hD:w.heap.size<=D):Below w.heap.size w (W.putObj D o) :=
 ⟨h.os,h.tape,h.output,by simpa[World.putObj] using h.size,fun k hk=>(World.putObj_heap_other (by omega)).trans (h.block k hk)⟩
def xf{W:World}{B D:Nat}{o:Obj}{u:Value}(h:W.heap[D]?=some o)(hB:D≠B):(W.setCell ⟨B,0,none⟩ u).heap[D]?=some o:=(Below.heap_setCell _ _ _ _ (by show _≠B; omega)).trans h
def results144{W:World}{b:Nat}{v u:Value}{tmps:Array Value}(h2:tmps[2]?=some (.pointer (some ⟨b,0,none⟩)))(h3:tmps[3]?=some (.pointer (some ⟨b+1,0,none⟩)))(hv:Boxed W b 43 v)(hu:Boxed W (b+1) 42 u):(results f144 tmps).run Tryz.prog W = .ok (.tuple #[v,u]) W:=by
 have c0:=hv.cell;have c1:=hu.cell;simp[results,f144,go_sem,c0,c1,h2,h3]
def wo{F:Fence}{n:Nat}{P:Program}{fn:Func}{tmps:Array Value}{R:Ending->World->Prop}{D:Nat}{W W':World}{v:Value}(hD:(Instr.takeDeferred D).run P W = .ok [] W')(hv:(results fn tmps).run P W' = .ok v W')(hR:R (.returned v) W') :
  LeavesInM F n P fn tmps R [{ target := .collected D,args := #[] }] .returning W :=
 ⟨by simp,.inl ⟨D,W',rfl,hD,⟨v,hv,hR⟩⟩⟩
set_option maxRecDepth 100000 in
set_option maxHeartbeats 2000000 in
def U1(n:Nat)(hn:6<=n)(s:Bytes)(ha:nH s)(hs:s.length<=100000)(w:World) :
  CallsIn Fence.wide n Tryz.prog 144 #[.string (bs s)] w fun e W'=>∃v,e = .returned (.tuple #[v,.int .i64 (gx s).2])/\W'.ownsRow w.heap.size 9 1 v (gx s).1.length ((gx s).1.map Ff)/\Below w.heap.size w W':=by
 have h1:1<=n:=by omega
 obtain⟨i0,hi,hz0,hz1,hz2⟩:=info_parts akA;refine callsIn_of_wp_marks func144 rfl trivial ?_ rfl;simp only[ntmps144,cR,au,av,Nat.reduceAdd,Nat.reduceSub,js,jt,ku,jG,aW,aU];have b0:=Boxed.new w 43 (.slice none 0 0);have b1:=Boxed.new (w.alloc (.cells #[.slice none 0 0] 43)) 42 (.int .i64 0);have b2:=Boxed.new ((w.alloc (.cells #[.slice none 0 0] 43)).alloc (.cells #[.int .i64 0] 42)) 43 (.slice none 0 0);have b3:=Boxed.new (((w.alloc (.cells #[.slice none 0 0] 43)).alloc (.cells #[.int .i64 0] 42)).alloc (.cells #[.slice none 0 0] 43)) 9 (.string (bs s));simp only[World.size_alloc] at b1 b2 b3;have hB2:Below w.heap.size w ((w.alloc (.cells #[.slice none 0 0] 43)).alloc (.cells #[.int .i64 0] 42)):=((Below.refl _ w).alloc (aC _) _).alloc (by simp) _
 have hB4:=(hB2.alloc (by simp; omega) (.cells #[.slice none 0 0] 43)).alloc (by simp; omega) (.cells #[.string (bs s)] 9)
 by_cases hs47:s=[47]
 ·subst hs47;have ht:((bs [47]).toList==[47])=true:=by rw[uv]; rfl
  gi_wp2
  have c0:=(b0.alloc (.cells #[.int .i64 0] 42)).cell;have c1:=b1.cell;refine⟨.tuple #[.slice none 0 0,.int .i64 0],?_,_,rfl,World.ownsRow_nil _ _ _ _,hB2⟩;simp[results,f144,go_sem,c0,c1]
 have ht:((bs s).toList==[47])=false:=by rw[uv]; simpa using hs47
 gi_wp2
 refine⟨trivial,(NA _ s _).mono ?_⟩;rintro e w' ⟨rfl,rfl⟩
 gi_wp2
 obtain⟨W4,hW4⟩:∃W4,(((w.alloc (.cells #[.slice none 0 0] 43)).alloc (.cells #[.int .i64 0] 42)).alloc (.cells #[.slice none 0 0] 43)).alloc (.cells #[.string (bs s)] 9)=W4:=⟨_,rfl⟩;have hsz:W4.heap.size=w.heap.size+4:=by rw[<-hW4]; simp
 have e0:Boxed W4 w.heap.size 43 (.slice none 0 0):=by rw[<-hW4]; exact((b0.alloc _).alloc _).alloc _
 have e1:Boxed W4 (w.heap.size+1) 42 (.int .i64 0):=by rw[<-hW4]; exact(b1.alloc _).alloc _
 have e2:Boxed W4 (w.heap.size+2) 43 (.slice none 0 0):=by rw[<-hW4]; exact b2.alloc _
 rw[hW4] at b3 hB4 ⊢
 have hseq:Dz (w.heap.size+3) Fence.wide (n-1) Tryz.prog 272 #[.pointer (some ⟨w.heap.size+3,0,none⟩)] Wb (fun A B=>B.heap[w.heap.size+3]?=A.heap[w.heap.size+3]?) (fun xs=>xs.map (·.1)=mb s) (fun pre=>pre.map (·.1) <+: mb s) (mb s).length W4 :=
  fun l J Jx W hW hJ hJx hJc hY h0=>WB (n-1) (by omega) l _ _ s ha hs (aC _) J Jx W hJ hJc hY ((hW.block _ (by omega)).trans b3) h0
 refine xA (b0:=w.heap.size+3) (by omega) rfl h1 (gf:=272) (lb := #[.pointer (some ⟨w.heap.size+3,0,none⟩)]) rfl trivial (enters_of func272 (by kernel_rfl) rfl) hseq
  (fun h k=>k.trans h) (fun W l o o' hl _ _ _=>World.putObj_heap_other (by omega)) (Below.refl _ _) (fun _=>rfl)
  (Di w) (E1 w) (by rw[hsz]; exact Di.own) (fun c=>by rw[hsz]; exact E1.own c) Di.cell
  ⟨⟨rfl,by simp⟩,e0,e1,⟨_,e2,World.ownsRow_nil _ _ _ _⟩,hB4,by omega⟩
  (fun x=>{ tmps := #[.string (bs s),undef,.pointer (some ⟨w.heap.size,0,none⟩),.pointer (some ⟨w.heap.size+1,0,none⟩),.pointer (some ⟨w.heap.size+1+1,0,none⟩),.string (bs x.1.1),.bool x.1.2,.string (bs s),.bool false,.string (bs s),.func (.func 272) #[] #[.pointer (some ⟨w.heap.size+1+1+1,0,none⟩)],.string (bs x.1.1),.bool x.1.2,
   undef,undef,undef,undef,undef,undef,undef,undef,undef,undef,undef,undef,undef,undef,undef,undef,undef,undef,undef,undef],defers:=[] }) ?assign ?body ?done ?stop
 case assign =>
  intro l x W K hK
  gi_wp2
  exact hK
 case body =>
  rintro l pre ⟨⟨nm,ok⟩,hxa,hxl⟩ W hInv cn;obtain⟨v,hv,hrow⟩:=hInv.row;have hc0:=hInv.r0.cell;have hf0:=hInv.r0.frozen;have hc1:=hInv.r1.cell;have hf1:=hInv.r1.frozen;cases ok with
  |false =>
   gi_wp2
   refine⟨trivial,?_⟩
   gi_wp2
   exact E1.made hInv.r0 hInv.r1 hInv.below (zI hInv.Fh (by simp[Dl]))
  |true =>
   gi_wp2
   refine⟨trivial,fun h=>(by cases h),(CallsIn.inRound l (callsIn_wide.2 (UJ nm hxl hxa W))).mono ?_⟩
   rintro e W5 ⟨rfl,hg5⟩;have hInv5:Di w pre W5:=Di.own pre W W5 none hInv hg5 (fun r e=>by cases e)
   have hK5:KeepsOthers W W5:=KeepsOthers.of_grownBy hg5 (fun j o e=>by cases e)
   clear hc0 hf0 hc1 hf1 hrow hv v;obtain⟨v,hv,hrow⟩:=hInv5.row;have hc0:=hInv5.r0.cell;have hf0:=hInv5.r0.frozen;have hc1:=hInv5.r1.cell;have hf1:=hInv5.r1.frozen;have hc2:W5.cell? ⟨w.heap.size+1+1,0,none⟩=some v:=hv.cell;have hf2:W5.frozen? ⟨w.heap.size+1+1,0,none⟩=false:=hv.frozen;cases hnm:fD nm with
   |false =>
    gi_wp2
    have:=E1.made hInv5.r0 hInv5.r1 hInv5.below (zI (x:=⟨(nm,true),hxa,hxl⟩) hInv5.Fh (by simp[Dl,hnm]))
    exact⟨hK5.trans this.1,this.2⟩
   |true =>
    obtain⟨p,cap,rfl⟩:=Ap hrow
    by_cases hl:pre.length=12
    ·have hl':((pre.length:Int)==12)=true:=by simp[hl]
     gi_wp2
     have:=E1.made hInv5.r0 hInv5.r1 hInv5.below (zI (x:=⟨(nm,true),hxa,hxl⟩) hInv5.Fh (by simp[Dl,hnm,hl]))
     exact⟨hK5.trans this.1,this.2⟩
    ·have hl':((pre.length:Int)==12)=false:=by simp; omega
     gi_wp2_with (gi_at_builtin; generalize hX:wpListIn _ _ _ _ _ _ _ _=X)
     subst hX;refine wpListIn_append_own _ rfl _ _ 43 rfl (w.heap.size+4) 9 i0 (.string ⟨#[]⟩) 1 16 underlying43 hi hz0 hz1 hz2 rfl (by decide) _ _ _ rfl (hrow.alloc _) ⟨W5.heap.size,0,none⟩ 1 1 [Ff nm] rfl rfl (cell_one_new _ _ _) (by simp[Value.oneCell']) (by have:=hInv5.Fh.2; simp[maxLen]; omega) (by have:=hInv5.Fh.2; omega) (by have:=hv.lt; simp; omega) ?_
     intro v' w1 hown' hgrow hiff;obtain⟨q0,q1,q2,q3,q4,q5,q6,q7,q8⟩:=appended hv hrow hown' hgrow;have hc2':w1.cell? ⟨w.heap.size+1+1,0,none⟩=some (.slice p pre.length cap):=q0.cell;have hf2':w1.frozen? ⟨w.heap.size+1+1,0,none⟩=false:=q0.frozen;obtain⟨p',cap',rfl⟩:=Ap hown'
     gi_wp2
     refine⟨hK5.trans q3,(q8 _ (by omega) (by have:=hInv5.sz; omega) (by omega)).trans (hg5.block _ (by have:=hInv.sz; omega) (by simp)),?_⟩
     refine⟨Jw hInv5.Fh (by simp[Dl,hnm,hl]),(q8 _ (by omega) hInv5.r0.lt (by omega)).trans hInv5.r0,(q8 _ (by omega) hInv5.r1.lt (by omega)).trans hInv5.r1,⟨_,q1,by simpa using q2⟩,?_,aV hInv5.sz q7⟩
     exact hInv5.below.trans ⟨q4,q5,q6,q7,fun q hq=>q8 q (by omega) (by have:=hInv5.below.size; omega) (by omega)⟩
 case done =>
  rintro D ys W hD hys hInv hK;obtain⟨v,hv,hrow⟩:=hInv.row;have hc0:=hInv.r0.cell;have hf0:=hInv.r0.frozen;have hc1:=hInv.r1.cell;have hf1:=hInv.r1.frozen;have hc2:W.cell? ⟨w.heap.size+1+1,0,none⟩=some v:=hv.cell;have hf2:W.frozen? ⟨w.heap.size+1+1,0,none⟩=false:=hv.frozen;obtain⟨p,cap,rfl⟩:=Ap hrow
  by_cases hl:ys.length=0
  ·have hl':((ys.length:Int)==0)=true:=by simp[hl]
   have hy:ys=[]:=ck.1 hl
   have hsp:gx s=([],60):=by
    rw[hy] at hys;simp[gx,hs47,<-hys,pt]
   gi_wp2
   have hm:=xf (u := .int .i64 60) (xf (u := .slice none 0 0) hK (B:=w.heap.size) (by omega)) (B:=w.heap.size+1) (by omega)
   have k0:Boxed ((W.setCell ⟨w.heap.size,0,none⟩ (.slice none 0 0)).setCell ⟨w.heap.size+1,0,none⟩ (.int .i64 60)) w.heap.size 43 (.slice none 0 0):=(hInv.r0.set _).other (by omega) _
   have k1:Boxed ((W.setCell ⟨w.heap.size,0,none⟩ (.slice none 0 0)).setCell ⟨w.heap.size+1,0,none⟩ (.int .i64 60)) (w.heap.size+1) 42 (.int .i64 60):=(hInv.r1.other (by omega) _).set _
   refine wo (run_takeDeferred hm) (results144 rfl rfl (sI k0 hm) (sI k1 hm)) ⟨_,rfl,World.ownsRow_nil _ _ _ _,zK ((hInv.below.setCell (p:=⟨w.heap.size,0,none⟩) (aC _) _).setCell (p:=⟨w.heap.size+1,0,none⟩) (by simp) _) (by omega)⟩
  ·have hl':((ys.length:Int)==0)=false:=by rw[jL]; omega
   have hsp:gx s=(ys.map (·.1.1),0):=by
    have h0:=hInv.Fh.1;rw[hys] at h0;cases ys with
    |nil=>simp at hl
    |cons y ys=>simp[gx,hs47,h0]
   gi_wp2
   have hm:=xf (u := .int .i64 0) (xf (u := .slice p ys.length cap) hK (B:=w.heap.size) (by omega)) (B:=w.heap.size+1) (by omega)
   have k0:Boxed ((W.setCell ⟨w.heap.size,0,none⟩ (.slice p ys.length cap)).setCell ⟨w.heap.size+1,0,none⟩ (.int .i64 0)) w.heap.size 43 (.slice p ys.length cap):=(hInv.r0.set _).other (by omega) _
   have k1:Boxed ((W.setCell ⟨w.heap.size,0,none⟩ (.slice p ys.length cap)).setCell ⟨w.heap.size+1,0,none⟩ (.int .i64 0)) (w.heap.size+1) 42 (.int .i64 0):=(hInv.r1.other (by omega) _).set _
   refine wo (run_takeDeferred hm) (results144 rfl rfl (sI k0 hm) (sI k1 hm)) ⟨_,rfl,?_,zK ((hInv.below.setCell (p:=⟨w.heap.size,0,none⟩) (aC _) _).setCell (p:=⟨w.heap.size+1,0,none⟩) (by simp) _) (by omega)⟩
   have:=YZ (HT (HT hrow (by omega:w.heap.size<_) (.slice p ys.length cap)) (by omega:w.heap.size+1<_) (.int .i64 0)) (by omega:w.heap.size<=_) hm (o := .deferred none)
   simpa[Function.comp_def] using this
 case stop =>
  rintro D c pre W hD hpre hOut hK;obtain rfl:=hOut.ret;have hsp:gx s=([],60):=by simp[gx,hs47,NL hpre hOut.bad]
  gi_wp2
  refine wo (run_takeDeferred hK) (results144 rfl rfl (sI hOut.r0 hK) (sI hOut.r1 hK)) ⟨_,rfl,World.ownsRow_nil _ _ _ _,zK hOut.below (by omega)⟩
def U0(s:Bytes)(ha:nH s)(hs:s.length<=100000)(w:World) :
  Calls Tryz.prog 144 #[.string (bs s)] w fun e W'=>∃v,e = .returned (.tuple #[v,.int .i64 (gx s).2])/\W'.ownsRow w.heap.size 9 1 v (gx s).1.length ((gx s).1.map Ff)/\Below w.heap.size w W' :=
 callsIn_wide.1 (U1 6 (by omega) s ha hs w)
end
end
instance (s:Bytes):Decidable (nH s):=inferInstanceAs (Decidable True)
def CQ:List ag->aH->Option (ag×aH)
 | [.str s],M=>if nH s/\s.length<=100000 then some (.tuple [.slice .sh ((gx s).1.map .str),.int .i64 (gx s).2],M) else none
 |_,_=>none
def NM{args:List ag}{M:aH}{x:ag×aH}(h:CQ args M=some x):dC Tryz.prog 144 args M x:=by
 unfold CQ at h;split at h
 ·rename_i s;split at h
  ·rename_i hs;cases h;refine mD.call ?_;intro j w vs hr hG hl hv;obtain⟨u,rfl⟩:=BC hl;have h1:=(hv 0 _ u rfl rfl).jX;subst h1;refine(U0 s hs.1 hs.2 w).mono ?_;rintro e w' ⟨v,rfl,⟨dR,hown⟩,hb⟩;refine⟨_,j,rfl,hr.grow hb.size hb.os hb.tape hb.output hb.block,Ext.grow hb.size hb.os hb.tape hb.output hb.block,.tuple rfl ?_⟩;intro i c v' hi hv'
   match i with
   |0 =>
    cases hi; cases hv';refine .plain ?_;rcases hown with ⟨rfl,h0⟩|⟨g,cap,cur,rfl,hg,hg',hn1,_,hcs,htk⟩
    ·rw[ck.1 h0];exact fF.nil _ _ _
    ·refine .slice _ _ _ _ g 0 1 (fun k=>Ff ((gx s).1.getD k [])) (by simp) (by simpa using hn1) (fun _=>rfl) ?_ ?_ ?_
     ·intro x hx;obtain⟨b,_,rfl⟩:=cE.1 hx;rfl
     ·intro i x k c hx hc;rw[bd] at hx;obtain⟨b,hb',rfl⟩:=aR.1 hx
      match k with
      |0 =>
       have hi:i<(gx s).1.length:=(ak.1 hb').1;refine⟨?_,?_,?_,?_⟩
       ·have h1:cur.toList[i]?=some (Ff b):=by
         have:(cur.toList.take ((gx s).1.length*1))[i]?=some (Ff b):=by rw[htk,bd,hb']; rfl
         rwa[bE (by omega)] at this
        have h2:cur[i]?=some (Ff b):=by simpa using h1
        have h3:(gx s).1.getD i []=b:=by simp[List.getD,hb']
        simp only[Nat.mul_one,dg,aK];rw[h3];simp[World.cell?,hg',h2]
       ·exact lt_of_block hg'
       ·intro id hid hji;have:=hr.lt id g hid hji; omega
       ·intro hx; have:=hr.zC g _ hx; omega
      |k+1=>cases hc
     ·intro i x k c hx hc;rw[bd] at hx;obtain⟨b,hb',rfl⟩:=aR.1 hx
      match k with
      |0 =>
       cases hc;have h3:(gx s).1.getD i []=b:=by simp[List.getD,hb']
       simp only[Nat.mul_one,dg];rw[h3];exact .str _
      |k+1=>cases hc
   |1=>cases hi; cases hv'; exact .plain (.int _ _)
   |i+2=>cases hi
  ·cases h
 ·cases h
section
attribute [local irreducible] eW fQ lh gK dW kr ar aM cq bI
def nF:∀a:Bytes,strLt a a=false
 | []=>rfl
 |a::x=>by simp[strLt,nF x,ny]
def wO:∀ {a b c:Bytes},strLt a b=true->strLt b c=true->strLt a c=true
 | [],b,[],_,h2=>by cases b<;>simp[strLt] at h2
 | [],_,_::_,_,_=>rfl
 |_::_,[],_,h1,_=>by simp[strLt] at h1
 |_::_,_::_,[],_,h2=>by simp[strLt] at h2
 |a::x,b::y,c::z,h1,h2=>by
  simp only[strLt,dj,bm,ba,eG] at h1 h2 ⊢;simp only[kj] at h1 h2 ⊢;rcases h1 with h1|⟨h1,h1'⟩
  ·rcases h2 with h2|⟨h2,_⟩
   ·left; omega
   ·left; rw[<-h2]; exact h1
  ·rcases h2 with h2|⟨h2,h2'⟩
   ·left; rw[h1]; exact h2
   ·right; exact⟨h1.trans h2,wO h1' h2'⟩
def rm{l:List fg}(h:ou l)(s:Bytes):Iy l s (lf l s):=by
 unfold lf;induction l with
 |nil=>exact⟨by simp,fun h n hn=>by simp at hn⟩
 |cons a r ih =>
  obtain⟨h1,h2⟩:=cd.1 h;obtain⟨i1,i2⟩:=ih h2
  by_cases ha:strLt a.name s=true
  ·rw[gZ,bh ha];refine⟨by simpa using i1,fun k n hn=>?_⟩
   cases k with
   |zero=>simp at hn; subst hn; simp[ha]
   |succ k=>rw[i2 k n (by simpa using hn)]; simp
  ·rw[gZ,aQ ha];refine⟨by simp,fun k n hn=>?_⟩
   simp only[av,j8,o5];cases k with
   |zero=>simp at hn; subst hn; exact ha
   |succ k=>exact fun hc=>ha (wO (h1 n (aO (by simpa using hn))) hc)
def gY{l:List fg}{s:Bytes}{e:fg}(h:fb l s=some e):e∈l/\e.name=s:=by
 unfold fb at h;exact⟨gi h,by simpa using nt h⟩
def vW{l:List fg}(h:ou l)(s:Bytes):(AU l s (lf l s)=true/\∃n,l[lf l s]?=some n/\fb l s=some n/\n.name=s)\/(AU l s (lf l s)=false/\fb l s=none):=by
 obtain⟨l1,l2⟩:=rm h s;cases hf:fb l s with
 |some n =>
  left;obtain⟨hm,he⟩:=gY hf;obtain⟨k,hk⟩:=bJ hm;have hkb:¬k<lf l s:=fun hc=>by have:=(l2 k n hk).2 hc; rw[he,nF] at this; cases this
  have hb:lf l s<l.length:=by have:=(ak.1 hk).1; omega
  have hx:=ai hb;have hnl:¬strLt l[lf l s].name s=true:=fun hc=>ij _ ((l2 _ _ hx).1 hc)
  have hke:k=lf l s:=by
   rcases bF (lf l s) k with cn|hge
   ·have hkl:=(ak.1 hk).1;have h3:=bV.1 h _ _ hb hkl cn;have h4:l[k]=n:=by rw[ai hkl] at hk; injection hk
    rw[h4,he] at h3;exact absurd h3 hnl
   ·omega
  subst hke;exact⟨by unfold AU; rw[hk]; simp[he],n,hk,rfl,he⟩
 |none =>
  right;refine⟨?_,rfl⟩;unfold AU;split
  ·rename_i n hn;have:=dQ.1 hf n (aO hn);simpa using this
  ·rfl
structure qx(t:Tree):Prop where
 jd:lL t.ae
 aL:∀n,n∈t.ae->ou n.aL
def qx.dir{t:Tree}(h:qx t)(aq:Int):ou (gA t.ae aq).1.aL:=by
 unfold gA;split
 ·exact List.Pairwise.nil
 ·rename_i n hn;split
  ·exact h.aL n (bR hn).1
  ·exact List.Pairwise.nil
def an7(t:Tree)(aq:Int)(s:Bytes)(ht:Small t)(hr:qx t)(hs:s.length<=100000)(ha:nH s):ar bK 130 [bo t,aE aq,.str s] []=some (.tuple [aE (eE t.ae aq s).1,aE (eE t.ae aq s).2],[]):=by
 obtain⟨ae,next,aj⟩:=t
 have hn:ae.length<=100000:=ht.ae;have hd:(gA ae aq).1.aL.length<=100000:=sJ ht aq;have hE:ou (gA ae aq).1.aL:=hr.dir aq;have hk:=fun b M=>WL ae next aj aq hr.jd hn 1 (b :: bO [aN ae,aE next,aE aj]::M) rfl
 refine aw ?_;simp only[Z2,Il,bo,aI,hk,bD,aF,EN,seval];unfold eE;refine bq (fun hb=>?_) (fun hb=>?_)
 ·simp only[Il,EN,seval];clear hk;simp_all
 ·simp only[Il,WM,hs,ha,EN,seval];refine bq (fun hb'=>?_) (fun hb'=>?_)
  ·simp only[Il,EN,seval];clear hk;simp_all
  ·have hk2:=fun a b c d u M=>Qk a b c d (gA ae aq).1.aL u s _ (rm hE s) hd M
   simp only[Il,hk2,EN,seval];rcases vW hE s with ⟨h1,e,h2,h3,_⟩|⟨h1,h2⟩
   ·simp only[Il,h1,h2,fa,EN,seval];clear hk hk2;simp_all
   ·simp only[Il,h1,EN,seval];clear hk hk2;simp_all
def WH(ae:List Node)(next aj aq:Int)(s:Bytes)(ht:Small ⟨ae,next,aj⟩)(hr:qx ⟨ae,next,aj⟩)(hs:s.length<=100000)(ha:nH s)(M:aH):aM (ar bK) 130 [.agg [aN ae,aE next,aE aj],aE aq,.str s] M =
  some (.tuple [aE (eE ae aq s).1,aE (eE ae aq s).2],M):=cO (an7 ⟨ae,next,aj⟩ aq s ht hr hs ha) M
def c86(t:Tree)(aq:Int)(ht:Small t)(hr:qx t):ar bK 86 [bo t,aE aq] []=some (.tuple [bD (aY t.ae aq),.bool (find t.ae aq).isSome],[]):=by
 obtain⟨ae,next,aj⟩:=t
 have hn:ae.length<=100000:=ht.ae;have hk:=fun b c M=>Dv ae next aj aq hr.jd hn 2 (b::c :: bO [aN ae,aE next,aE aj]::M) rfl
 refine aw ?_;simp only[aj8,E86,bo,aI,hk,bD,aF,EN,seval]
abbrev kv(n:Int):ag := .int .i64 n
def rS(l:List Int):wid (l.map kv) 1=True:=by
 simp only[eH,im];intro x hx;obtain⟨n,_,rfl⟩:=cE.1 hx;rfl
def qF(ae:List Node):Nat->Int->List Int->List Int
 |0,_,out=>out
 |m+1,aq,out=>if aq != 1 then (if !(find ae aq).isSome||(aY ae aq).kind != 2 then out else qF ae m (aY ae aq).up (out++[(aY ae aq).up])) else out
def rf(ae:List Node)(aq:Int):List Int:=qF ae ae.length aq [aq]
def X7{ae:List Node}{next aj:Int}(h:lL ae)(hn:ae.length<=100000){k:List K}{R:List Int->Option (ag×aH)}
  (hx:∀(out:List Int) v q,kr (ar bK) [.tmp 4] 1 k ⟨.exit 0,[(0,bX 0),(1,v),(5,.slice (.own 1) (out.map kv)),(22,q)],[bO [aN ae,aE next,aE aj],.tick 1 out.length]⟩=R out)
  (hr:∀(out:List Int) b,kr (ar bK) [.tmp 4] 1 k ⟨.ret,[(4,.slice (.own 1) (out.map kv))],[bO [aN ae,aE next,aE aj],.tick 1 out.length,b]⟩=R out) :
  ∀(m:Nat)(aq:Int)(out:List Int),out.length+m=ae.length+1->eW (ar bK) [.tmp 4] 1 k (.loop [0,1,5] Xt) [(0,bX 0),(1,aE aq),(5,.slice (.own 1) (out.map kv))] [bO [aN ae,aE next,aE aj],.tick 1 out.length]=R (qF ae m aq out):=by
 intro m;induction m with
 |zero =>
  intro aq out ho;rw[bt];have hd':((out.length:Int)<=(ae.length:Int))=False:=by simp; omega
  simp only[Bh,EN,seval]
  repeat' ((first|apply bq|apply bU|apply dE)<;>intro hb<;>simp only[hb,EN,Bh,hd',seval])
  all_goals exact hx _ _ _
 |succ m ih =>
  intro aq out ho;rw[bt];have hd':((out.length:Int)<=(ae.length:Int))=True:=by simp; omega
  have r1:cu (out.length+1) 8=True:=qm;have hk:=fun M=>Dv ae next aj aq h hn 0 (bO [aN ae,aE next,aE aj]::M) rfl
  have hi:=ih (aY ae aq).up (out++[(aY ae aq).up]) (by simp; omega)
  simp only[bu,aP,bc,aD,au,av,aK] at hi;rw[qF];simp only[Bh,EN,seval];refine bU (fun hb=>?_) (fun hb=>?_)
  ·simp only[Bh,hb,hd',hk,bD,aF,EN,seval];refine bU (fun hb1=>?_) (fun hb1=>?_)
   ·simp only[Bh,hb1,EN,seval];refine bq (fun hb2=>?_) (fun hb2=>?_)
    ·simp only[Bh,hb2,hb1,ei,cY,EN,seval];exact hr _ _
    ·simp only[Bh,hb2,hb1,r1,rS,fu,af,EN,seval];exact hi
   ·simp only[Bh,hb1,dH,EN,seval];exact hr _ _
  ·simp only[Bh,hb,af,EN,seval];exact hx _ _ _
def apb(ae:List Node)(next aj aq:Int)(h:lL ae)(hn:ae.length<=100000):ar bK 209 [bX 0,aE aq] [bO [aN ae,aE next,aE aj]] =
  some (gH ((rf ae aq).map kv),[bO [aN ae,aE next,aE aj]]):=by
 refine aw ?_;simp only[PN,Bh,EN,seval];exact X7 (R:=fun out=>some (gH (out.map kv),[bO [aN ae,aE next,aE aj]])) h hn (fun out v q=>by simp only[Bh,EN,seval]) (fun out b=>by simp only[Bh,EN,seval]) ae.length aq [aq] (by simp; omega)
def WN ae next aj aq h hn p M hM:=cM (p:=p) (M:=M) hM (apb ae next aj aq h hn)
def xt(ae:List Node):∀(m:Nat)(aq:Int)(out:List Int),out.length<=(qF ae m aq out).length/\(qF ae m aq out).length<=out.length+m
 |0,_,out=>⟨aC _,aC _⟩
 |m+1,aq,out=>by
  rw[qF];split
  ·split
   ·exact⟨aC _,by omega⟩
   ·have:=xt ae m (aY ae aq).up (out++[(aY ae aq).up]);simp at this;omega
  ·exact⟨aC _,by omega⟩
def rR(ae:List Node)(aq:Int):1<=(rf ae aq).length/\(rf ae aq).length<=ae.length+1:=by
 have:=xt ae ae.length aq [aq];simp at this;unfold rf;omega
def apF(ae:List Node)(next aj aq:Int)(h:lL ae)(hn:ae.length<=100000):ar bK 254 [bX 0,aE aq] [bO [aN ae,aE next,aE aj]] =
  some (aE (((rf ae aq).length-1:Nat):Int),[bO [aN ae,aE next,aE aj]]):=by
 refine aw ?_;have hk:=fun M=>WN ae next aj aq h hn 0 (bO [aN ae,aE next,aE aj]::M) rfl
 have hl:=rR ae aq;have hw:IntKind.i64.wrap (((rf ae aq).length:Int)-1)=(((rf ae aq).length-1:Nat):Int):=by rw[fW (by omega) (by omega)]; omega
 simp only[aa4,anj,hk,hw,EN,seval]
def ak7 ae next aj aq h hn p M hM:=cM (p:=p) (M:=M) hM (apF ae next aj aq h hn)
def AD(n:Node)(rest:List Node):∀(pre out:List Node),(∀m,m∈pre->m.aq<n.aq)->nq n (pre++rest) out false=nq n rest (out++pre) false
 | [],out,_=>by simp
 |m::r,out,h=>by
  have hm:=h m (bj ..);have h1:¬n.aq<=m.aq:=by omega
  have h2:¬m.aq=n.aq:=by omega
  rw[aU,nq];simp only[o4,h1,h2,decide_false,dP,fu,af,az];rw[AD n rest r _ fun x hx=>h x (aX _ hx)]
  simp
def yw(n:Node):∀(rest out:List Node),(∀m,m∈rest->n.aq<m.aq)->nq n rest out true=(out++rest,true)
 | [],out,_=>by simp[nq]
 |m::r,out,h=>by
  have hm:=h m (bj ..);have h2:¬m.aq=n.aq:=by omega
  rw[nq];simp only[di,dy,h2,dH,af,az];rw[yw n r _ fun x hx=>h x (aX _ hx)]
  simp
def uW{ae:List Node}{aq:Int}{b:Nat}(h:Ox ae aq b):∀m,m∈ae.take b->m.aq<aq:=fun m hm=>by
 obtain⟨k,hk⟩:=bJ hm;rw[gD] at hk;split at hk
 ·rename_i cn; exact(h.lt k m hk).2 cn
 ·cases hk
def DJ{ae:List Node}{aq:Int}{b:Nat}(h:Ox ae aq b):∀m,m∈ae.drop b->aq<=m.aq:=fun m hm=>by
 obtain⟨k,hk⟩:=bJ hm;rw[cH] at hk;have:=h.lt _ m hk;have hn:¬b+k<b:=by omega
 have:=fun hc=>hn (this.1 hc)
 omega
def xu{ae:List Node}(h:lL ae){n:Node}(hf:find ae n.aq=none):ef ae n=ae.take (kO ae n.aq)++n::ae.drop (kO ae n.aq):=by
 have hl:=tT h n.aq
 have hd:∀m,m∈ae.drop (kO ae n.aq)->n.aq<m.aq:=fun m hm=>by
  have h1:=DJ hl m hm;have h2:=dQ.1 hf m (dk hm);have:¬m.aq=n.aq:=by simpa using h2
  omega
 unfold ef;rw[show nq n ae [] false=nq n (ae.take (kO ae n.aq)++ae.drop (kO ae n.aq)) [] false by rw[cC]]
 rw[AD n _ _ _ (uW hl)];generalize ae.drop (kO ae n.aq)=rest at hd;cases rest with
 |nil=>simp[nq]
 |cons m r =>
  have hm:=hd m (bj ..);have h1:n.aq<=m.aq:=by omega
  have h2:¬m.aq=n.aq:=by omega
  rw[nq];simp only[o4,h1,h2,decide_true,ft,gJ,ei,aG,az];rw[yw n r _ fun x hx=>hd x (aX _ hx)]
  simp
def sQ{ae:List Node}(h:lL ae){n o:Node}(ho:ae[kO ae n.aq]?=some o)(he:o.aq=n.aq):ef ae n=ae.set (kO ae n.aq) n:=by
 have hl:=tT h n.aq;have cn:=(ak.1 ho).1
 have hdr:ae.drop (kO ae n.aq)=o::ae.drop (kO ae n.aq+1):=by
  rw[df cn];rw[ai cn] at ho; injection ho with ho; rw[ho]
 have hd:∀m,m∈ae.drop (kO ae n.aq+1)->n.aq<m.aq:=fun m hm=>by
  obtain⟨k,hk⟩:=bJ hm;rw[cH] at hk;have hkl:=(ak.1 hk).1;have h3:=bV.1 h _ _ cn hkl (by omega)
  have h4:ae[kO ae n.aq+1+k]=m:=by rw[ai hkl] at hk; injection hk
  have h5:ae[kO ae n.aq]=o:=by rw[ai cn] at ho; injection ho
  rw[h4,h5] at h3;omega
 unfold ef;rw[show nq n ae [] false=nq n (ae.take (kO ae n.aq)++ae.drop (kO ae n.aq)) [] false by rw[cC]]
 rw[AD n _ _ _ (uW hl),hdr,nq];simp only[o4,he,cZ,decide_true,ft,gJ,ei,aG,cW];rw[yw n _ _ hd,List.set_eq_take_append_cons_drop,bh cn];simp
def p85{ae:List Node}(h0:ae≠[])(hn:ae.length<=100000)(M:aH):ar bK 255 [aN ae] M=some (.cN M.length 0 6 0 ae.length,M++[.arr 6 0 (ae.map bD)]):=by
 refine eX (g:=lG 6 80) rfl ?_;obtain⟨a,r,rfl⟩:=dV h0;have hw:wid ((a::r).map bD) 6:=by have:=EG (a::r); simpa using this
 have hr:cu ((a::r).map bD).length 80:=by have:=pW (a:=(a::r).length) (b:=80) (by omega) (by omega); simpa using this
 unfold lG;simp only[aP] at hw hr ⊢;rw[dS ⟨hw,hr⟩];simp
def p86{ae:List Node}{b:Nat}(hb:b<=ae.length)(hn:ae.length<=100000)(n:Node)(c0 c1:dv) :
  ar bK 256 [.cN 2 0 6 0 ae.length,aE b,gH [.agg (aF n)]] [c0,c1,.arr 6 0 (ae.map bD)]=some (.cN 2 1 6 0 (ae.length+1),[c0,c1,.arr 6 1 ((ae.take b++n::ae.drop b).map bD)]):=by
 refine eX (g:=km 6 80) rfl ?_;have hr:cu ((ae.map bD).length+1) 80:=by have:=pW (a:=ae.length+1) (b:=80) (by omega) (by omega); simpa using this
 unfold km;simp only[nth];rw[dS ⟨trivial,trivial,trivial,by simp,by omega,by simpa using hb,rfl,hr⟩]
 simp[jk,bD]
def UT(ae:List Node)(b:Nat)(o n:Node)(h:ae[b]?=some o):(jk (ae.map bD) b (putCells (bD o) 0 (aF n)))=(ae.set b n).map bD:=by
 have:putCells (bD o) 0 (aF n)=bD n:=rfl;rw[this,gq,kI]
def ao1(ae:List Node)(next aj:Int)(n:Node)(h:lL ae)(h0:ae≠[])(hn:ae.length<=100000):ar bK 197 [bX 0,bD n] [bO [aN ae,aE next,aE aj]] =
  some (.tuple [],[bO [aN (ef ae n),aE next,aE aj]]):=by
 refine aw ?_;have hk:=fun M=>WO ae next aj n.aq h hn 0 (bO [aN ae,aE next,aE aj]::M) rfl
 have hp:=fun M=>p85 h0 hn M
 have hle:=(tT h n.aq).le;simp only[PK,ab5,bD,aF,hk,hp,EN,seval];rcases ri h n.aq with ⟨h1,o,h2,h3,h4⟩|⟨h1,h2⟩
 ·have cn:((kO ae n.aq:Int)<(ae.length:Int))=True:=by have:=(ak.1 h2).1; simp; omega
  simp only[ab5,h1,h2,cn,bN,eL,eb,EN,seval];have e:=UT ae _ o n h2;simp only[aF] at e;rw[e,sQ h h2 h4,bS (by simp)]
 ·have hi:=fun c0 c1=>p86 hle hn n c0 c1
  simp only[aF] at hi;simp only[ab5,h1,hi,eL,eb,EN,seval];rw[xu h h2,bS (by simp; omega)]
def JD(ae:List Node)(next aj a b c:Int)(d:Bytes)(e:List fg)(u:Int)(h:lL ae)(h0:ae≠[])(hn:ae.length<=100000)(p:Nat)(M:aH)(hM:nth M p=some (bO [aN ae,aE next,aE aj])) :
  aM (ar bK) 197 [bX p,.agg [aE a,aE b,aE c,cX d,gS e,aE u]] M=some (.tuple [],jk M p (bO [aN (ef ae ⟨a,b,c,d,e,u⟩),aE next,aE aj])) :=
 pM hM (ao1 ae next aj ⟨a,b,c,d,e,u⟩ h h0 hn) rfl rfl rfl rfl rfl rfl rfl rfl rfl rfl
def FZ:(∀M cs,ag.vI M (.agg cs) = .agg (cs.map (ag.oo M)))/\(∀M i o,ag.vI M (.ptr i o) = .ptr i o)/\(∀M k n,ag.vI M (.int k n) = .int k n)/\(∀M s,ag.vI M (.str s) = .str s) /\
  (∀M k n,ag.oo M (.int k n) = .int k n)/\(∀M s,ag.oo M (.str s) = .str s)/\(∀M tk xs,ag.oo M (.slice tk xs) = .slice tk xs)/\(∀M b,ag.oo M (.bool b) = .bool b) /\
  (∀M id ver sz lo hi,ag.oo M (.cN id ver sz lo hi)=match nth M id with
   |some (.arr _ v xs)=>if v=ver then gH ((xs.take hi).drop lo) else .any
   |_ => .any)/\(∀i a b c d,ag.ml (.cN i a b c d)=[i]):=by
 refine⟨?_,?_,?_,?_,?_,?_,?_,?_,?_,?_⟩<;>intros<;>rfl
def zB{ae:List Node}(h:lL ae){aq:Int}{o:Node}(ho:ae[kO ae aq]?=some o)(he:o.aq=aq):fz ae aq=ae.take (kO ae aq)++ae.drop (kO ae aq+1):=by
 have hl:=tT h aq;have cn:=(ak.1 ho).1
 have hd:∀m,m∈ae.drop (kO ae aq+1)->aq<m.aq:=fun m hm=>by
  obtain⟨k,hk⟩:=bJ hm;rw[cH] at hk;have hkl:=(ak.1 hk).1;have h3:=bV.1 h _ _ cn hkl (by omega)
  have h4:ae[kO ae aq+1+k]=m:=by rw[ai hkl] at hk; injection hk
  have h5:ae[kO ae aq]=o:=by rw[ai cn] at ho; injection ho
  rw[h4,h5] at h3;omega
 have hdr:ae.drop (kO ae aq)=o::ae.drop (kO ae aq+1):=by
  rw[df cn];rw[ai cn] at ho; injection ho with ho; rw[ho]
 unfold fz;rw[show ae.filter (fun n=>n.aq != aq)=(ae.take (kO ae aq)++ae.drop (kO ae aq)).filter (fun n=>n.aq != aq) by rw[cC]]
 rw[lH,hdr,eu];simp only[he,an,af,az];rw[iJ.2 fun m hm=>by have:=uW hl m hm; simp; omega,iJ.2 fun m hm=>by have:=hd m hm; simp; omega]
def xQ{ae:List Node}{aq:Int}(hf:find ae aq=none):fz ae aq=ae :=
 iJ.2 fun m hm=>by simpa using dQ.1 hf m hm
def arG{ae:List Node}{b:Nat}(hb:b<ae.length)(hn:ae.length<=100000)(c0:dv) :
  ar bK 294 [.cN 1 0 6 0 ae.length,aE b,aE ((b+1:Nat):Int)] [c0,.arr 6 0 (ae.map bD)]=some (.cN 1 1 6 0 (ae.length-1),[c0,.arr 6 1 ((ae.take b++ae.drop (b+1)).map bD)]):=by
 refine eX (g:=kE 6) rfl ?_;unfold kE;simp only[nth];rw[dS ⟨trivial,trivial,trivial,by simp,by omega,by simpa using hb,by omega,by simp; omega⟩]
 simp[jk]
def apG(ae:List Node)(next aj aq:Int)(h:lL ae)(hn:ae.length<=100000):ar bK 258 [bX 0,aE aq] [bO [aN ae,aE next,aE aj]] =
  some (.tuple [],[bO [aN (fz ae aq),aE next,aE aj]]):=by
 refine aw ?_;have hk:=fun M=>WO ae next aj aq h hn 0 (bO [aN ae,aE next,aE aj]::M) rfl
 simp only[PT,acb,hk,EN,seval];rcases ri h aq with ⟨h1,o,h2,h3,h4⟩|⟨h1,h2⟩
 ·have cn:=(ak.1 h2).1;have h0:ae≠[]:=by rintro rfl; simp at h2
  have hp:=fun M=>p85 h0 hn M
  have hd:=fun c0=>arG cn hn c0
  have hw:IntKind.i64.wrap ((kO ae aq:Int)+1)=((kO ae aq+1:Nat):Int):=by rw[fW (by omega) (by omega)]; rfl
  simp only[acb,h1,hp,hd,hw,eL,eb,EN,seval];rw[zB h h2 h4,bS (by simp; omega)]
 ·simp only[acb,h1,EN,seval];rw[xQ h2]
def ak8(ae:List Node)(next aj aq:Int)(h:lL ae)(hn:ae.length<=100000)(p:Nat)(M:aH)(hM:nth M p=some (bO [aN ae,aE next,aE aj])) :
  aM (ar bK) 258 [bX p,aE aq] M=some (.tuple [],jk M p (bO [aN (fz ae aq),aE next,aE aj])) :=
 pM hM (apG ae next aj aq h hn) rfl rfl rfl rfl rfl rfl rfl rfl rfl rfl
def Kc{a b:Bytes}(h:strLt a b=true):strLt b a=false:=by
 cases hb:strLt b a with
 |false=>rfl
 |true=>have:=wO h hb; rw[nF] at this; cases this
def wN:∀(a b:Bytes),strLt a b=true\/a=b\/strLt b a=true
 | [],[] => .inr (.inl rfl)
 | [],_::_ => .inl rfl
 |_::_,[] => .inr (.inr rfl)
 |a::x,b::y=>by
  simp only[strLt,dj,bm,ba,eG,List.cons.injEq,kj];rcases wN x y with h|h|h
  ·rcases gW a.toNat b.toNat with h1|h1|h1
   ·exact .inl (.inl h1)
   ·exact .inl (.inr ⟨lx.1 h1,h⟩)
   ·exact .inr (.inr (.inl h1))
  ·rcases gW a.toNat b.toNat with h1|h1|h1
   ·exact .inl (.inl h1)
   ·exact .inr (.inl ⟨lx.1 h1,h⟩)
   ·exact .inr (.inr (.inl h1))
  ·rcases gW a.toNat b.toNat with h1|h1|h1
   ·exact .inl (.inl h1)
   ·exact .inr (.inr (.inr ⟨(lx.1 h1).symm,h⟩))
   ·exact .inr (.inr (.inl h1))
def MM{a b:Bytes}(h:strLt a b=true):gtB a b=false:=by simp[gtB,h]
def ML{a b:Bytes}(h:strLt b a=true):gtB a b=true:=by
 have h1:=Kc h;have h2:¬a=b:=by rintro rfl; rw[nF] at h; cases h
 simp[gtB,h1,h2]
def Hb(e:fg)(rest:List fg):∀(pre out:List fg),(∀m,m∈pre->strLt m.name e.name=true)->uL e (pre++rest) out false=uL e rest (out++pre) false
 | [],out,_=>by simp
 |m::r,out,h=>by
  rw[aU,uL,MM (h m (bj ..))];simp only[dP,fu,af,az];rw[Hb e rest r _ fun x hx=>h x (aX _ hx)]
  simp
def D6(e:fg):∀(rest out:List fg),uL e rest out true=(out++rest,true)
 | [],out=>by simp[uL]
 |m::r,out=>by
  rw[uL];simp only[di,dy,dH,af,az];rw[D6 e r];simp
def Az{l:List fg}{s:Bytes}{b:Nat}(h:Iy l s b):∀m,m∈l.take b->strLt m.name s=true:=fun m hm=>by
 obtain⟨k,hk⟩:=bJ hm;rw[gD] at hk;split at hk
 ·rename_i cn; exact(h.lt k m hk).2 cn
 ·cases hk
def B8{l:List fg}{s:Bytes}{b:Nat}(h:Iy l s b):∀m,m∈l.drop b->strLt m.name s=false:=fun m hm=>by
 obtain⟨k,hk⟩:=bJ hm;rw[cH] at hk;have:=h.lt _ m hk;have hn:¬b+k<b:=by omega
 cases hc:strLt m.name s with
 |false=>rfl
 |true=>exact absurd (this.1 hc) hn
def uK{l:List fg}(h:ou l){e:fg}(hf:fb l e.name=none):vK l e=l.take (lf l e.name)++e::l.drop (lf l e.name):=by
 have hl:=rm h e.name
 have hd:∀m,m∈l.drop (lf l e.name)->strLt e.name m.name=true:=fun m hm=>by
  have h1:=B8 hl m hm;have h2:=dQ.1 hf m (dk hm);have h3:¬m.name=e.name:=by simpa using h2
  rcases wN m.name e.name with h4|h4|h4
  ·rw[h1] at h4; cases h4
  ·exact absurd h4 h3
  ·exact h4
 unfold vK;rw[show uL e l [] false=uL e (l.take (lf l e.name)++l.drop (lf l e.name)) [] false by rw[cC]]
 rw[Hb e _ _ _ (Az hl)];generalize l.drop (lf l e.name)=rest at hd;cases rest with
 |nil=>simp[uL]
 |cons m r =>
  rw[uL,ML (hd m (bj ..))];simp only[ft,gJ,ei,aG];rw[D6];simp
def DI{l:List fg}(h:ou l){s:Bytes}{o:fg}(ho:l[lf l s]?=some o)(he:o.name=s):fU l s=l.take (lf l s)++l.drop (lf l s+1):=by
 have hl:=rm h s;have cn:=(ak.1 ho).1
 have hdr:l.drop (lf l s)=o::l.drop (lf l s+1):=by
  rw[df cn];rw[ai cn] at ho; injection ho with ho; rw[ho]
 have hd:∀m,m∈l.drop (lf l s+1)->strLt s m.name=true:=fun m hm=>by
  obtain⟨k,hk⟩:=bJ hm;rw[cH] at hk;have hkl:=(ak.1 hk).1;have h3:=bV.1 h _ _ cn hkl (by omega)
  have h4:l[lf l s+1+k]=m:=by rw[ai hkl] at hk; injection hk
  have h5:l[lf l s]=o:=by rw[ai cn] at ho; injection ho
  rw[h4,h5,he] at h3;exact h3
 have ne:∀ {a b:Bytes},strLt a b=true->¬a=b:=fun {a b} h=>by rintro rfl; rw[nF] at h; cases h
 unfold fU;rw[show l.filter (fun n=>n.name != s)=(l.take (lf l s)++l.drop (lf l s)).filter (fun n=>n.name != s) by rw[cC]]
 rw[lH,hdr,eu];simp only[he,an,af,az];rw[iJ.2 fun m hm=>by simpa using ne (Az hl m hm),iJ.2 fun m hm=>by simpa using fun hc=>ne (hd m hm) hc.symm]
def B9{l:List fg}{s:Bytes}(hf:fb l s=none):fU l s=l :=
 iJ.2 fun m hm=>by simpa using dQ.1 hf m hm
def p58{l:List fg}(h0:l≠[])(hn:l.length<=100000)(M:aH):ar bK 214 [gS l] M=some (.cN M.length 0 3 0 l.length,M++[.arr 3 0 (l.map fH)]):=by
 refine eX (g:=lG 3 32) rfl ?_;obtain⟨a,r,rfl⟩:=dV h0;have hw:wid ((a::r).map fH) 3:=by have:=Ig (a::r); simpa using this
 have hr:cu ((a::r).map fH).length 32:=by have:=pW (a:=(a::r).length) (b:=32) (by omega) (by omega); simpa using this
 unfold lG;simp only[aP] at hw hr ⊢;rw[dS ⟨hw,hr⟩];simp
def alY(M:aH):ar bK 214 [gH []] M=some (.slice .c0 [],M):=eX (g:=lG 3 32) rfl rfl
def p87{l:List fg}{b:Nat}(hb:b<=l.length)(hn:l.length<=100000)(e:fg)(c0 c1:dv) :
  ar bK 257 [.cN 2 0 3 0 l.length,aE b,gH [.agg (fa e)]] [c0,c1,.arr 3 0 (l.map fH)]=some (.cN 2 1 3 0 (l.length+1),[c0,c1,.arr 3 1 ((l.take b++e::l.drop b).map fH)]):=by
 refine eX (g:=km 3 32) rfl ?_;have hr:cu ((l.map fH).length+1) 32:=by have:=pW (a:=l.length+1) (b:=32) (by omega) (by omega); simpa using this
 unfold km;simp only[nth];rw[dS ⟨trivial,trivial,trivial,by simp,by omega,by simpa using hb,rfl,hr⟩]
 simp[jk,fH]
def arI(e:fg)(M:aH):ar bK 257 [.slice .c0 [],aE 0,gH [.agg (fa e)]] M=some (.cN M.length 0 3 0 1,M++[.arr 3 0 [.agg (fa e)]]):=by
 refine eX (g:=km 3 32) rfl ?_
 show cq ((0:Int)=0/\(ag.agg (fa e)).cells.length=3) _=_
 exact dS ⟨rfl,rfl⟩
def p84{l:List fg}{b:Nat}(hb:b<l.length)(hn:l.length<=100000)(c0 c1:dv) :
  ar bK 260 [.cN 2 0 3 0 l.length,aE b,aE ((b+1:Nat):Int)] [c0,c1,.arr 3 0 (l.map fH)]=some (.cN 2 1 3 0 (l.length-1),[c0,c1,.arr 3 1 ((l.take b++l.drop (b+1)).map fH)]):=by
 refine eX (g:=kE 3) rfl ?_;unfold kE;simp only[nth];rw[dS ⟨trivial,trivial,trivial,by simp,by omega,by simpa using hb,by omega,by simp; omega⟩]
 simp[jk]
def Kg{ae:List Node}(h:lL ae){n:Node}(hf:find ae n.aq=some n):ef ae n=ae:=by
 rcases ri h n.aq with ⟨_,o,h2,h3,h4⟩|⟨_,h2⟩
 ·rw[hf] at h3; cases h3;rw[sQ h h2 rfl];apply dL;intro i
  by_cases e:kO ae n.aq=i
  ·subst e; rw[gh (ak.1 h2).1,h2]
  ·rw[gL e]
 ·rw[hf] at h2; cases h2
def c198(ae:List Node)(next aj dir:Int)(s:Bytes)(aq:Int)(h:lL ae)(hn:ae.length<=100000){n:Node}(hf:find ae dir=some n)(hE:ou n.aL)(hl:n.aL.length<=99999)(hs:fb n.aL s=none) :
  ar bK 198 [bX 0,aE dir,.str s,aE aq] [bO [aN ae,aE next,aE aj]]=some (.tuple [],[bO (aI (gz ⟨ae,next,aj⟩ dir s aq))]):=by
 refine aw ?_;have h0:ae≠[]:=by rintro rfl; simp[find] at hf
 have hnn:aY ae dir=n:=by simp[aY,hf]
 have hk:=fun M=>Dv ae next aj dir h hn 0 (bO [aN ae,aE next,aE aj]::M) rfl
 have hk2:=fun a b c d u M=>Qk a b c d n.aL u s _ (rm hE s) (by omega) M
 have hle:=(rm hE s).le
 have hres:gz ⟨ae,next,aj⟩ dir s aq=⟨ef ae { n with aL:=n.aL.take (lf n.aL s)++⟨s,aq,aj⟩::n.aL.drop (lf n.aL s) },next,lK (aj+1)⟩:=by
  have:=uK hE (e:=⟨s,aq,aj⟩) hs;simp only[gz,hf,bn,this]
 rw[hres,aI];have hp:=fun a b c d e u M=>JD ae next (lK (aj+1)) a b c d e u h h0 hn 0 (bO [aN ae,aE next,aE (lK (aj+1))]::M) rfl
 simp only[PL,Om,hk,hnn,bD,aF,hk2,EN,seval]
 by_cases hne:n.aL=[]
 ·have hlow:lf n.aL s=0:=by rw[hne]; rfl
  have hi:=fun M=>arI ⟨s,aq,aj⟩ M
  simp only[fa] at hi;have hlow0:lf [] s=0:=rfl;have hc0:((0:Nat):Int)=0:=rfl;simp only[Om,hne,hlow0,hc0,gS,alY,hi,FZ,sm,EN,seval];rw[show gH [ag.agg [.str s,aE aq,aE aj]]=gS [⟨s,aq,aj⟩] from rfl]
  simp only[Om,hp,EN,seval]
 ·have hc:=fun M=>p58 hne (show n.aL.length<=100000 by omega) M
  have hi:=fun c0 c1=>p87 hle (show n.aL.length<=100000 by omega) ⟨s,aq,aj⟩ c0 c1
  simp only[fa] at hi;simp only[Om,hc,hi,FZ,sm,EN,seval];have ht:List.take (n.aL.length+1) (List.map fH (List.take (lf n.aL s) n.aL++⟨s,aq,aj⟩::List.drop (lf n.aL s) n.aL))=List.map fH (List.take (lf n.aL s) n.aL++⟨s,aq,aj⟩::List.drop (lf n.aL s) n.aL):=bS (by simp; omega)
  rw[ht];simp only[Om,hp,EN,seval]
def WK(ae:List Node)(next aj dir:Int)(s:Bytes)(aq:Int)(h:lL ae)(hn:ae.length<=100000){n:Node}(hf:find ae dir=some n)(hE:ou n.aL)(hl:n.aL.length<=99999)(hs:fb n.aL s=none)(p:Nat)(M:aH)(hM:nth M p=some (bO [aN ae,aE next,aE aj])) :
  aM (ar bK) 198 [bX p,aE dir,.str s,aE aq] M=some (.tuple [],jk M p (bO (aI (gz ⟨ae,next,aj⟩ dir s aq)))) :=
 pM hM (c198 ae next aj dir s aq h hn hf hE hl hs) rfl rfl rfl rfl rfl rfl rfl rfl rfl rfl
def ao6(ae:List Node)(next aj dir:Int)(s:Bytes)(h:lL ae)(hn:ae.length<=100000){n:Node}(hf:find ae dir=some n)(hE:ou n.aL)(hl:n.aL.length<=99999) :
  ar bK 204 [bX 0,aE dir,.str s] [bO [aN ae,aE next,aE aj]]=some (.tuple [],[bO [aN (cV ae dir s),aE next,aE aj]]):=by
 refine aw ?_;have h0:ae≠[]:=by rintro rfl; simp[find] at hf
 have hnn:aY ae dir=n:=by simp[aY,hf]
 have hino:n.aq=dir:=(bR hf).2;have hk:=fun M=>Dv ae next aj dir h hn 0 (bO [aN ae,aE next,aE aj]::M) rfl
 have hk2:=fun a b c d u M=>Qk a b c d n.aL u s _ (rm hE s) (by omega) M
 have hp:=fun a b c d e u M=>JD ae next aj a b c d e u h h0 hn 0 (bO [aN ae,aE next,aE aj]::M) rfl
 have hres:cV ae dir s=ef ae { n with aL:=fU n.aL s }:=by simp only[cV,hf,bn]
 rw[hres];simp only[PM,Vt,hk,hnn,bD,aF,hk2,EN,seval];rcases vW hE s with ⟨h1,o,h2,h3,h4⟩|⟨h1,h2⟩
 ·have cn:=(ak.1 h2).1;have hne:n.aL≠[]:=by intro hc; rw[hc] at h2; simp at h2
  have hc:=fun M=>p58 hne (show n.aL.length<=100000 by omega) M
  have hd:=fun c0 c1=>p84 cn (show n.aL.length<=100000 by omega) c0 c1
  have hw:IntKind.i64.wrap ((lf n.aL s:Int)+1)=((lf n.aL s+1:Nat):Int):=by rw[fW (by omega) (by omega)]; rfl
  simp only[Vt,h1,hc,hd,hw,FZ,sm,EN,seval];have ht:List.take (n.aL.length-1) (List.map fH (List.take (lf n.aL s) n.aL++List.drop (lf n.aL s+1) n.aL))=List.map fH (List.take (lf n.aL s) n.aL++List.drop (lf n.aL s+1) n.aL):=bS (by simp; omega)
  rw[ht];simp only[Vt,hp,EN,seval];rw[DI hE h2 h4]
 ·simp only[Vt,h1,EN,seval];rw[B9 h2];have:ef ae n=ae:=Kg h (by rw[hino]; exact hf)
  rw[show({ n with aL:=n.aL }:Node)=n from rfl,this]
def ads(ae:List Node)(next aj dir:Int)(s:Bytes)(h:lL ae)(hn:ae.length<=100000){n:Node}(hf:find ae dir=some n)(hE:ou n.aL)(hl:n.aL.length<=99999)(p:Nat)(M:aH)(hM:nth M p=some (bO [aN ae,aE next,aE aj])) :
  aM (ar bK) 204 [bX p,aE dir,.str s] M=some (.tuple [],jk M p (bO [aN (cV ae dir s),aE next,aE aj])) :=
 pM hM (ao6 ae next aj dir s h hn hf hE hl) rfl rfl rfl rfl rfl rfl rfl rfl rfl rfl
def jZ(ae:List Node)(n:Node):List Node:=if n.kind==2 then fz ae n.aq else ef ae { n with dz:=lK (n.dz-1) }
def ao7(ae:List Node)(next aj:Int)(n:Node)(h:lL ae)(h0:ae≠[])(hn:ae.length<=100000) :
  ar bK 205 [bX 0,bD n] [bO [aN ae,aE next,aE aj]]=some (.tuple [],[bO [aN (jZ ae n),aE next,aE aj]]):=by
 refine aw ?_;have hp:=fun a b c d e u M=>JD ae next aj a b c d e u h h0 hn 0 (bO [aN ae,aE next,aE aj]::M) rfl
 have hd:=fun M=>ak8 ae next aj n.aq h hn 0 (bO [aN ae,aE next,aE aj]::M) rfl
 simp only[aaG,ab6,bD,aF,EN,seval];unfold jZ;refine bq (fun hb=>?_) (fun hb=>?_)
 ·simp only[ab6,hb,hd,EN,seval]
 ·simp only[ab6,hb,hp,af,EN,seval]
def akY(ae:List Node)(next aj a b c:Int)(d:Bytes)(e:List fg)(u:Int)(h:lL ae)(h0:ae≠[])(hn:ae.length<=100000)(p:Nat)(M:aH)(hM:nth M p=some (bO [aN ae,aE next,aE aj])) :
  aM (ar bK) 205 [bX p,.agg [aE a,aE b,aE c,cX d,gS e,aE u]] M=some (.tuple [],jk M p (bO [aN (jZ ae ⟨a,b,c,d,e,u⟩),aE next,aE aj])) :=
 pM hM (ao7 ae next aj ⟨a,b,c,d,e,u⟩ h h0 hn) rfl rfl rfl rfl rfl rfl rfl rfl rfl rfl
def ru(ae:List Node)(aq:Int):Nat:=(rf ae aq).length-1
def oa(t:Tree)(dir:Int)(s:Bytes):Int :=
 if (gA t.ae dir).2 != 0 then (gA t.ae dir).2 else if !fD s then 60 else if (fb (gA t.ae dir).1.aL s).isSome=true then 71 else
 if decide ((64:Int)<=(gA t.ae dir).1.aL.length)||(decide ((12:Int)<=ru t.ae dir)||decide ((1099511627776:Int)<=t.aj)) then 76 else 0
def c196(ae:List Node)(next aj dir:Int)(s:Bytes)(ht:Small ⟨ae,next,aj⟩)(hr:qx ⟨ae,next,aj⟩)(hs:s.length<=100000)(ha:nH s) :
  ar bK 196 [bX 0,aE dir,.str s] [bO [aN ae,aE next,aE aj]]=some (aE (oa ⟨ae,next,aj⟩ dir s),[bO [aN ae,aE next,aE aj]]):=by
 have hn:ae.length<=100000:=ht.ae;have hd:(gA ae dir).1.aL.length<=100000:=sJ ht dir;have hE:ou (gA ae dir).1.aL:=hr.dir dir;have hk:=fun M=>WL ae next aj dir hr.jd hn 0 (bO [aN ae,aE next,aE aj]::M) rfl
 have hk2:=fun a b c d u M=>Qk a b c d (gA ae dir).1.aL u s _ (rm hE s) hd M
 have hk3:∀M,aM (ar bK) 254 [bX 0,aE dir] (bO [aN ae,aE next,aE aj]::M)=some (aE (ru ae dir),bO [aN ae,aE next,aE aj]::M):=fun M=>ak7 ae next aj dir hr.jd hn 0 (bO [aN ae,aE next,aE aj]::M) rfl
 refine aw ?_;simp only[aaC,FW,hk,bD,aF,EN,seval];refine bq (fun hb=>?_) (fun hb=>?_)
 ·simp only[FW,hb,EN,seval];clear hk hk2 hk3;simp_all only[oa,pj,↓reduceIte,reduceCtorEq,an]
 simp only[FW,hb,WM,hs,ha,EN,seval];refine bq (fun hb1=>?_) (fun hb1=>?_)
 ·simp only[FW,hb1,EN,seval];clear hk hk2 hk3;simp_all only[oa,pj,↓reduceIte,reduceCtorEq,an]
 simp only[FW,hb1,hk2,EN,seval];rcases vW hE s with ⟨h1,o,h2,h3,h4⟩|⟨h1,h2⟩
 ·simp only[FW,h1,EN,seval];clear hk hk2 hk3;simp_all only[oa,bW,pj,↓reduceIte,reduceCtorEq,an]
 ·simp only[FW,h1,EN,seval]
  repeat' ((first|apply bq|apply bU|apply dE)<;>intro hb<;>simp only[hb,EN,FW,hk3,seval])
  all_goals (clear hk hk2 hk3; simp_all only[oa,eA,pj,↓reduceIte,reduceCtorEq,an]; done)
def akU ae next aj dir s ht hr hs ha p M hM:=cM (p:=p) (M:=M) hM (c196 ae next aj dir s ht hr hs ha)
def zf(x y:Node):Int:=if x.kind==2&&y.kind != 2 then 73 else if x.kind != 2&&y.kind==2 then 72 else if decide ((0:Int)<y.aL.length) then 74 else 0
def apd(x y:Node):ar bK 211 [bD x,bD y] []=some (aE (zf x y),[]):=by
 refine aw ?_;simp only[aaK,agO,bD,aF,EN,seval]
 repeat' ((first|apply bq|apply bU|apply dE)<;>intro hb<;>simp only[hb,EN,agO,seval])
 all_goals (simp_all only[zf,pj,↓reduceIte,reduceCtorEq,an]; done)
def ao3(t:Tree)(aq:Int)(ht:Small t)(hr:qx t):ar bK 200 [bo t,aE aq] []=some (.tuple [bo (jU t aq).1,aE (jU t aq).2],[]):=by
 obtain⟨ae,next,aj⟩:=t
 have hn:ae.length<=100000:=ht.ae;refine aw ?_;have hk:=fun b c M=>Dv ae next aj aq hr.jd hn 2 (b::c :: bO [aN ae,aE next,aE aj]::M) rfl
 have hd:=fun b c M=>ak8 ae next aj aq hr.jd hn 2 (b::c :: bO [aN ae,aE next,aE aj]::M) rfl
 simp only[aaE,agN,bo,aI,hk,bD,aF,EN,seval]
 repeat' ((first|apply bq|apply bU|apply dE)<;>intro hb<;>simp only[hb,EN,agN,hd,seval])
 all_goals (clear hk hd; simp_all only[jU,bo,aI,pj,↓reduceIte,reduceCtorEq,an]; done)
def aqt(data:Bytes)(hd:data.length<=100000)(M:aH):aM (ar bK) 139 [cX data] M=some (cX data,M):=by
 refine cO (eX (g:=pCC 1 1) rfl ?_) M;have hw:wid (data.map pE) 1:=by have:=rh data; simpa using this
 have hr:cu (data.map pE).length 1:=by have:=pW (a:=data.length) (b:=1) (by omega) (by omega); simpa using this
 exact dS ⟨hw,hr⟩
def apk(t:Tree)(aq:Int)(data:Bytes)(ht:Small t)(hr:qx t)(hd:data.length<=100000):ar bK 227 [bo t,aE aq,cX data] []=some (.tuple [bo (qt t aq data).1,aE (qt t aq data).2],[]):=by
 obtain⟨ae,next,aj⟩:=t
 have hn:ae.length<=100000:=ht.ae;refine aw ?_;have hk:=fun b c M=>Dv ae next aj aq hr.jd hn 2 (b::c :: bO [aN ae,aE next,aE aj]::M) rfl
 simp only[aaR,Vv,bo,aI,hk,bD,aF,EN,seval];cases hf:find ae aq with
 |none =>
  simp only[Vv,eA,EN,seval];clear hk;simp_all only[qt,bo,aI,eA,pj,↓reduceIte,reduceCtorEq,an]
 |some n =>
  have h0:ae≠[]:=by rintro rfl; simp[find] at hf
  have hp:=fun x y a b c d e u M=>JD ae next aj a b c d e u hr.jd h0 hn 2 (x::y :: bO [aN ae,aE next,aE aj]::M) rfl
  have hc:=fun M=>aqt data hd M
  simp only[Vv,bW,EN,seval]
  repeat' ((first|apply bq|apply bU|apply dE)<;>intro hb<;>simp only[hb,EN,Vv,hp,hc,seval])
  all_goals (clear hk hp hc; simp_all only[qt,bo,aI,bW,pj,↓reduceIte,reduceCtorEq,an]; done)
end
def II{ae:List Node}(h:lL ae){a b:Node}(ha:a∈ae)(hb:b∈ae)(he:a.aq=b.aq):a=b:=by
 obtain⟨i,hi⟩:=bJ ha;obtain⟨k,hk⟩:=bJ hb;have hil:=(ak.1 hi).1;have hkl:=(ak.1 hk).1;have e1:ae[i]=a:=by rw[ai hil] at hi; injection hi
 have e2:ae[k]=b:=by rw[ai hkl] at hk; injection hk
 rcases gW i k with cn|heq|hgt
 ·have:=bV.1 h _ _ hil hkl cn;rw[e1,e2] at this; omega
 ·subst heq; rw[<-e1,<-e2]
 ·have:=bV.1 h _ _ hkl hil hgt;rw[e1,e2] at this; omega
def eD{ae:List Node}(h:lL ae){i:Int}{m:Node}:find ae i=some m↔m∈ae/\m.aq=i:=by
 refine⟨bR,fun⟨h1,h2⟩=>?_⟩
 cases hf:find ae i with
 |none =>
  have:=dQ.1 hf m h1;simp[h2] at this
 |some k =>
  obtain⟨k1,k2⟩:=bR hf;rw[II h h1 k1 (by omega)]
def pr{ae:List Node}{i:Int}:find ae i=none↔∀m,m∈ae->m.aq≠i:=by
 unfold find;rw[dQ];simp
def xl{ae:List Node}{b:Nat}{o n:Node}(ho:ae[b]?=some o):ae=ae.take b++o::ae.drop (b+1)/\ae.set b n=ae.take b++n::ae.drop (b+1):=by
 have cn:=(ak.1 ho).1;constructor
 ·rw[ai cn] at ho; injection ho with ho
  conv=>lhs; rw[<-cC b ae]
  rw[df cn,ho]
 ·rw[List.set_eq_take_append_cons_drop,bh cn]
def uN{ae:List Node}(h:lL ae){n m:Node}:m∈ef ae n↔m=n\/(m∈ae/\m.aq≠n.aq):=by
 rcases ri h n.aq with ⟨_,o,h2,h3,h4⟩|⟨_,h2⟩
 ·rw[sQ h h2 h4];obtain⟨s1,s2⟩:=xl (n:=n) h2;have hon:o∈ae:=(bR h3).1;constructor
  ·intro hm;rw[s2] at hm;rcases bB.1 hm with hm|hm
   ·have hmn:=dI hm;have:=uW (tT h n.aq) m hm;exact .inr ⟨hmn,by omega⟩
   ·rcases bC.1 hm with rfl|hm
    ·exact .inl rfl
    ·refine .inr ⟨dk hm,fun he=>?_⟩
     have hp:=h;unfold lL at hp;rw[s1,dn] at hp;have:=(cd.1 hp.2.1).1 m hm;omega
  ·rintro(rfl|⟨hm,hne⟩)
   ·rw[s2]; simp
   ·rw[s1] at hm;rw[s2];rcases bB.1 hm with hm|hm
    ·exact ew _ hm
    ·rcases bC.1 hm with rfl|hm
     ·exact absurd h4 hne
     ·exact gu _ (aX _ hm)
 ·rw[xu h h2];rw[pr] at h2;constructor
  ·intro hm;rcases bB.1 hm with hm|hm
   ·have:=dI hm;exact .inr ⟨this,h2 m this⟩
   ·rcases bC.1 hm with rfl|hm
    ·exact .inl rfl
    ·have:=dk hm;exact .inr ⟨this,h2 m this⟩
  ·rintro(rfl|⟨hm,_⟩)
   ·simp
   ·rw[<-cC (kO ae n.aq) ae] at hm;rcases bB.1 hm with hm|hm
    ·exact ew _ hm
    ·exact gu _ (aX _ hm)
def kd{ae:List Node}(h:lL ae)(n:Node):lL (ef ae n):=by
 have hl:=tT h n.aq;rcases ri h n.aq with ⟨_,o,h2,h3,h4⟩|⟨_,h2⟩
 ·rw[sQ h h2 h4];obtain⟨s1,s2⟩:=xl (n:=n) h2;have hp:=h;unfold lL at hp ⊢;rw[s1,dn] at hp;obtain⟨p1,p2,p3⟩:=hp;obtain⟨p4,p5⟩:=cd.1 p2;rw[s2,dn];refine⟨p1,cd.2 ⟨fun m hm=>by have:=p4 m hm; omega,p5⟩,fun a ha c hc=>?_⟩
  rcases bC.1 hc with rfl|hc
  ·exact uW hl a ha
  ·exact p3 a ha c (aX _ hc)
 ·rw[xu h h2];have hp:=h;unfold lL at hp ⊢;rw[<-cC (kO ae n.aq) ae,dn] at hp;obtain⟨p1,p2,p3⟩:=hp;rw[pr] at h2;rw[dn];refine⟨p1,cd.2 ⟨fun m hm=>?_,p2⟩,fun a ha c hc=>?_⟩
  ·have k1:=DJ hl m hm;have k2:=h2 m (dk hm);omega
  ·rcases bC.1 hc with rfl|hc
   ·exact uW hl a ha
   ·exact p3 a ha c hc
def fC{ae:List Node}(h:lL ae)(n:Node)(i:Int):find (ef ae n) i=if i=n.aq then some n else find ae i:=by
 split
 ·rename_i he;exact(eD (kd h n)).2 ⟨(uN h).2 (.inl rfl),he.symm⟩
 ·rename_i hne;cases hf:find ae i with
  |none =>
   rw[pr] at hf ⊢;intro m hm;rcases(uN h).1 hm with rfl|⟨hm,_⟩
   ·exact fun he=>hne he.symm
   ·exact hf m hm
  |some m =>
   obtain⟨h1,h2⟩:=bR hf;exact(eD (kd h n)).2 ⟨(uN h).2 (.inr ⟨h1,by omega⟩),h2⟩
def p8{ae:List Node}(h:lL ae)(i:Int):lL (fz ae i):=jv _ h
def kW{ae:List Node}(h:lL ae)(k i:Int):find (fz ae k) i=if i=k then none else find ae i:=by
 split
 ·rename_i he;rw[pr];intro m hm;have:=(cr.1 hm).2;simp at this;omega
 ·rename_i hne;cases hf:find ae i with
  |none =>
   rw[pr] at hf ⊢;exact fun m hm=>hf m (cr.1 hm).1
  |some m =>
   obtain⟨h1,h2⟩:=bR hf;exact(eD (p8 h k)).2 ⟨cr.2 ⟨h1,by simp; omega⟩,h2⟩
def G8{l:List fg}(h:ou l){e:fg}(hf:fb l e.name=none):ou (vK l e):=by
 rw[uK h hf];have hl:=rm h e.name;have hp:=h;unfold ou at hp ⊢;rw[<-cC (lf l e.name) l,dn] at hp;obtain⟨p1,p2,p3⟩:=hp;rw[dn];refine⟨p1,cd.2 ⟨fun m hm=>?_,p2⟩,fun a ha c hc=>?_⟩
 ·have k1:=B8 hl m hm;have k2:¬m.name=e.name:=by simpa using dQ.1 hf m (dk hm)
  rcases wN m.name e.name with h4|h4|h4
  ·rw[k1] at h4; cases h4
  ·exact absurd h4 k2
  ·exact h4
 ·rcases bC.1 hc with rfl|hc
  ·exact Az hl a ha
  ·exact p3 a ha c hc
def uE{l:List fg}(h:ou l)(s:Bytes):ou (fU l s):=jv _ h
def qx.with{t:Tree}(h:qx t){n:Node}(hn:ou n.aL)(next aj:Int):qx ⟨ef t.ae n,next,aj⟩ :=
 ⟨kd h.jd n,fun m hm=>by
  rcases(uN h.jd).1 hm with rfl|⟨hm,_⟩
  ·exact hn
  ·exact h.aL m hm⟩
def qx.tZ{t:Tree}(h:qx t)(i next aj:Int):qx ⟨fz t.ae i,next,aj⟩ :=
 ⟨p8 h.jd i,fun m hm=>h.aL m (cr.1 hm).1⟩
def qx.node{t:Tree}(h:qx t)(i:Int):ou (aY t.ae i).aL:=by
 cases hf:find t.ae i with
 |none=>simp[aY,hf,Node.zero]; exact List.Pairwise.nil
 |some n=>simp[aY,hf]; exact h.aL n (bR hf).1
def qx.left{t:Tree}(h:qx t)(i:Int)(s:Bytes)(next aj:Int):qx ⟨cV t.ae i s,next,aj⟩ :=
 h.with (n:={ aY t.ae i with aL:=fU (aY t.ae i).aL s }) (uE (h.node i) s) next aj
def qx.mC{t:Tree}(h:qx t)(i:Int)(s:Bytes)(of:Int)(hf:fb (aY t.ae i).aL s=none):qx (gz t i s of) :=
 h.with (n:={ aY t.ae i with aL:=vK (aY t.ae i).aL ⟨s,of,t.aj⟩ }) (G8 (h.node i) hf) t.next (lK (t.aj+1))
section
attribute [local irreducible] eW fQ lh gK dW kr ar aM cq bI
def x7{ae:List Node}{dir:Int}(h:(gA ae dir).2=0):∃d,find ae dir=some d/\d.kind=2/\gA ae dir=(d,0):=by
 unfold gA at h ⊢;split at h
 ·cases h
 ·rename_i d hd;split at h
  ·rename_i hk; exact⟨d,hd,hk,by simp[hd,hk]⟩
  ·cases h
def TC{t:Tree}{dir:Int}{s:Bytes}(h:(oa t dir s != 0)=false):∃d,find t.ae dir=some d/\d.kind=2/\fD s=true/\fb d.aL s=none/\d.aL.length<64/\ru t.ae dir<12/\t.aj<1099511627776:=by
 have h:oa t dir s=0:=by simpa using h
 unfold oa at h;split at h
 ·rename_i hc;rw[h] at hc; cases hc
 ·rename_i hc;obtain⟨d,h1,h2,h3⟩:=x7 (by simpa using hc)
  rw[h3] at h;split at h
  ·cases h
  ·rename_i hk;split at h
   ·cases h
   ·rename_i hf;split at h
    ·cases h
    ·rename_i hm;simp at hk hf hm;exact⟨d,h1,h2,hk,hf,by omega,by omega,by omega⟩
def IG(t:Tree)(aq:Int)(s:Bytes)(kind:Int):Tree×Int×Int :=
 if kind != 1&&kind != 2 then (t,0,1) else if oa t aq s != 0 then (t,0,oa t aq s) else
 if decide ((200:Int)<=t.ae.length)||decide ((1099511627776:Int)<=t.next) then (t,0,76) else
 (gz ⟨ef t.ae ⟨t.next,kind,1,[],[],if kind==2 then aq else 0⟩,lK (t.next+1),t.aj⟩ aq s t.next,t.next,0)
def an3(t:Tree)(dir:Int)(s:Bytes)(kind:Int)(hz:Sz 1000 t)(hr:qx t)(hs:s.length<=100000)(ha:nH s)(je:∀m,m∈t.ae->m.aq<t.next) :
  ar bK 126 [bo t,aE dir,.str s,aE kind] []=some (.tuple [bo (IG t dir s kind).1,aE (IG t dir s kind).2.1,aE (IG t dir s kind).2.2],[]):=by
 obtain⟨ae,next,aj⟩:=t
 have ht:Small ⟨ae,next,aj⟩:=hz.small (by omega)
 have hn:ae.length<=100000:=ht.ae;have hk:=fun b c M=>akU ae next aj dir s ht hr hs ha 2 (b::c :: bO [aN ae,aE next,aE aj]::M) rfl
 have last:(oa ⟨ae,next,aj⟩ dir s != 0)=false->∀u,ae≠[]/\∀b c M,aM (ar bK) 198 [bX 2,aE dir,.str s,aE next] (b::c :: bO [aN (ef ae ⟨next,kind,1,[],[],u⟩),aE (lK (next+1)),aE aj]::M) =
   some (.tuple [],b::c :: bO (aI (gz ⟨ef ae ⟨next,kind,1,[],[],u⟩,lK (next+1),aj⟩ dir s next))::M):=fun hm u=>by
  obtain⟨d,d1,d2,d3,d4,d5,d6,d7⟩:=TC hm;have dm:=bR d1;have cn:=je d dm.1;simp only at cn;refine⟨by rintro rfl; simp[find] at d1,fun b c M=>?_⟩
  have hz1:Sz 1001 ⟨ef ae ⟨next,kind,1,[],[],u⟩,lK (next+1),aj⟩:=hz.with (n:=⟨next,kind,1,[],[],u⟩) (by simp) (by simp) (lK (next+1)) aj
  have hf:find (ef ae ⟨next,kind,1,[],[],u⟩) dir=some d:=by rw[fC hr.jd,aQ (by simp; omega)]; exact d1
  exact WK (ef ae ⟨next,kind,1,[],[],u⟩) (lK (next+1)) aj dir s next (kd hr.jd _) (hz1.small (by omega)).ae hf (hr.aL d dm.1) (by omega) d4 2 (b::c :: bO [aN (ef ae ⟨next,kind,1,[],[],u⟩),aE (lK (next+1)),aE aj]::M) rfl
 refine aw ?_;simp only[ZZ,abR,bo,aI,hk,EN,seval]
 repeat' ((first|apply bq|apply bU|apply dE)<;>intro hb<;>simp only[hb,EN,abR,hk,seval])
 all_goals try (clear hk last; simp_all only[IG,bo,aI,pj,↓reduceIte,reduceCtorEq,an]; done)
 all_goals
  have hm:(oa ⟨ae,next,aj⟩ dir s != 0)=false:=by assumption
  have h0:=(last hm 0).1
  have hp:∀u b c M,aM (ar bK) 197 [bX 2,.agg [aE next,aE kind,aE 1,gH [],gH [],aE u]] (b::c :: bO [aN ae,aE (lK (next+1)),aE aj]::M) =
    some (.tuple [],b::c :: bO [aN (ef ae ⟨next,kind,1,[],[],u⟩),aE (lK (next+1)),aE aj]::M):=fun u b c M=>JD ae (lK (next+1)) aj next kind 1 [] [] u hr.jd h0 hn 2 (b::c :: bO [aN ae,aE (lK (next+1)),aE aj]::M) rfl
  have hl:=fun u=>(last hm u).2
  simp only[abR,hp,hl,aI,EN,seval];clear hk last hp hl;simp_all only[IG,bo,aI,pj,↓reduceIte,reduceCtorEq,an]
def lnW(t:Tree)(aq to:Int)(s:Bytes):Tree×Int :=
 if !(find t.ae aq).isSome||((aY t.ae aq).kind==1&&(aY t.ae aq).dz==0) then (t,70) else if (aY t.ae aq).kind==2 then (t,72) else
 if oa t to s != 0 then (t,oa t to s) else
 (gz ⟨ef t.ae { aY t.ae aq with dz:=lK ((aY t.ae aq).dz+1) },t.next,t.aj⟩ to s aq,0)
def an5(t:Tree)(aq dir:Int)(s:Bytes)(hz:Sz 1000 t)(hr:qx t)(hs:s.length<=100000)(ha:nH s) :
  ar bK 128 [bo t,aE aq,aE dir,.str s] []=some (.tuple [bo (lnW t aq dir s).1,aE (lnW t aq dir s).2],[]):=by
 obtain⟨ae,next,aj⟩:=t
 have ht:Small ⟨ae,next,aj⟩:=hz.small (by omega)
 have hn:ae.length<=100000:=ht.ae;have hg:=fun b c M=>Dv ae next aj aq hr.jd hn 2 (b::c :: bO [aN ae,aE next,aE aj]::M) rfl
 have hk:=fun b c M=>akU ae next aj dir s ht hr hs ha 2 (b::c :: bO [aN ae,aE next,aE aj]::M) rfl
 have last:(oa ⟨ae,next,aj⟩ dir s != 0)=false->(find ae aq).isSome=true->((aY ae aq).kind==2)=false->∀l,ae≠[]/\∀b c M,aM (ar bK) 198 [bX 2,aE dir,.str s,aE aq] (b::c :: bO [aN (ef ae { aY ae aq with dz:=l }),aE next,aE aj]::M) =
   some (.tuple [],b::c :: bO (aI (gz ⟨ef ae { aY ae aq with dz:=l },next,aj⟩ dir s aq))::M):=fun hm hi hkd l=>by
  obtain⟨d,d1,d2,d3,d4,d5,d6,d7⟩:=TC hm;have dm:=bR d1;refine⟨by rintro rfl; simp[find] at d1,fun b c M=>?_⟩
  have hfd:=hz.find aq;have hz1:Sz 1001 ⟨ef ae { aY ae aq with dz:=l },next,aj⟩:=hz.with (n:={ aY ae aq with dz:=l }) (iA hfd.1) hfd.2 next aj
  obtain⟨n,hfn⟩:=ct.1 hi;have hnn:aY ae aq=n:=by simp[aY,hfn]
  have hne:¬dir=(aY ae aq).aq:=fun he=>by
   rw[hnn] at he hkd;have h1:=(bR hfn).2;rw[he,h1,hfn] at d1;injection d1 with d1
   subst d1;simp[d2] at hkd
  have hf:find (ef ae { aY ae aq with dz:=l }) dir=some d:=by rw[fC hr.jd,aQ hne]; exact d1
  exact WK (ef ae { aY ae aq with dz:=l }) next aj dir s aq (kd hr.jd _) (hz1.small (by omega)).ae hf (hr.aL d dm.1) (by omega) d4 2 (b::c :: bO [aN (ef ae { aY ae aq with dz:=l }),aE next,aE aj]::M) rfl
 refine aw ?_;simp only[Z0,abT,bo,aI,hg,bD,aF,EN,seval]
 repeat' ((first|apply bq|apply bU|apply dE)<;>intro hb<;>simp only[hb,EN,abT,hk,seval])
 all_goals try (clear hk hg last; simp_all only[lnW,bo,aI,pj,↓reduceIte,reduceCtorEq,an]; done)
 all_goals
  have hm:(oa ⟨ae,next,aj⟩ dir s != 0)=false:=by assumption
  have h2:((aY ae aq).kind==2)=false:=by assumption
  have h3:(!(find ae aq).isSome)=false:=by assumption
  have h3:(find ae aq).isSome=true:=by simpa using h3
  have h0:=(last hm h3 h2 0).1;have hp:=fun a b c d e u x y M=>JD ae next aj a b c d e u hr.jd h0 hn 2 (x::y :: bO [aN ae,aE next,aE aj]::M) rfl
  have hl:=fun l=>(last hm h3 h2 l).2
  simp only[abT,hp,hl,aI,EN,seval];clear hk hg last hp hl;simp_all only[lnW,bo,aI,pj,↓reduceIte,reduceCtorEq,an]
def look_ok{ae:List Node}{dir:Int}{s:Bytes}(h:((eE ae dir s).2 != 0)=false):∃d e,find ae dir=some d/\d.kind=2/\fD s=true/\fb d.aL s=some e/\eE ae dir s=(e.aq,0):=by
 have h:(eE ae dir s).2=0:=by simpa using h
 have h':=h;unfold eE at h;split at h
 ·rename_i hc; exact absurd h hc
 ·rename_i hc;obtain⟨d,h1,h2,h3⟩:=x7 (by simpa using hc)
  rw[h3] at h;split at h
  ·cases h
  ·rename_i hk;split at h
   ·cases h
   ·rename_i e he;have hk:fD s=true:=by simpa using hk
    refine⟨d,e,h1,h2,hk,he,?_⟩;unfold eE;rw[h3];simp[hk,he]
def unW(t:Tree)(dir:Int)(s:Bytes):Tree×Int×Int :=
 if (eE t.ae dir s).2 != 0 then (t,0,(eE t.ae dir s).2) else if decide ((0:Int)<(aY t.ae (eE t.ae dir s).1).aL.length) then (t,0,74) else
 (⟨jZ (cV t.ae dir s) (aY t.ae (eE t.ae dir s).1),t.next,t.aj⟩,(eE t.ae dir s).1,0)
def Ho{ae:List Node}(h:lL ae){dir:Int}{s:Bytes}{d:Node}(hf:find ae dir=some d):cV ae dir s≠[]:=by
 intro hc
 have:({ d with aL:=fU d.aL s }:Node)∈cV ae dir s:=by
  unfold cV;rw[hf];exact(uN h).2 (.inl rfl)
 rw[hc] at this;cases this
def an6(t:Tree)(dir:Int)(s:Bytes)(hz:Sz 1000 t)(hr:qx t)(hs:s.length<=100000)(ha:nH s) :
  ar bK 129 [bo t,aE dir,.str s] []=some (.tuple [bo (unW t dir s).1,aE (unW t dir s).2.1,aE (unW t dir s).2.2],[]):=by
 obtain⟨ae,next,aj⟩:=t
 have ht:Small ⟨ae,next,aj⟩:=hz.small (by omega)
 have hn:ae.length<=100000:=ht.ae;have hg:=fun b c M=>Dv ae next aj (eE ae dir s).1 hr.jd hn 2 (b::c :: bO [aN ae,aE next,aE aj]::M) rfl
 have hl:=fun M=>WH ae next aj dir s ht hr hs ha M
 refine aw ?_;simp only[Z1,Og,bo,aI,hl,EN,seval];refine bq (fun hb=>?_) (fun hb=>?_)
 ·simp only[Og,hb,EN,seval];clear hg hl;simp_all only[unW,bo,aI,pj,↓reduceIte,reduceCtorEq,an]
 obtain⟨d,e,d1,d2,d3,d4,d5⟩:=look_ok hb;have dm:=bR d1;have hde:d.aL.length<=1000:=hz.aL d dm.1;have hsz:Sz 1001 ⟨cV ae dir s,next,aj⟩:=hz.left dir s next aj
 have hv:=fun x y M=>ads ae next aj dir s hr.jd hn d1 (hr.aL d dm.1) (by omega) 2 (x::y :: bO [aN ae,aE next,aE aj]::M) rfl
 have hu:=fun a b c d' e' u x y M=>akY (cV ae dir s) next aj a b c d' e' u (hr.left dir s next aj).jd (Ho hr.jd d1) (hsz.small (by omega)).ae 2 (x::y :: bO [aN (cV ae dir s),aE next,aE aj]::M) rfl
 simp only[Og,hb,hg,bD,aF,EN,seval];refine bq (fun hb1=>?_) (fun hb1=>?_)
 ·simp only[Og,hb1,EN,seval];clear hg hl hv hu;simp_all only[unW,bo,aI,pj,↓reduceIte,reduceCtorEq,an]
 ·simp only[Og,hb1,hv,hu,EN,seval];clear hg hl hv hu d5;simp_all only[unW,bo,aI,pj,↓reduceIte,reduceCtorEq,an]
def Jy(x:Int):List Int->Nat->Int
 | [],_ => -1
 |n::r,i=>if x==n then i else Jy x r (i+1)
def K1(x:Int):∀(l:List Int)(i:Nat),decide ((0:Int)<=Jy x l i)=l.contains x
 | [],i=>by simp[Jy]
 |n::r,i=>by
  unfold Jy
  by_cases h:x=n
  ·simp[h]
  ·simp only[eG,h,az,K1 x r (i+1),List.contains_cons];simp[h]
def Yg{l0:List Int}{x:Int}(hl:l0.length<=100000){k:List K}{R:Int->Option (ag×aH)}
  (hx:∀e,kr (ar bK) [.tmp 4] 0 k ⟨.exit 0,e,[]⟩=R (-1)) (hr:∀(i:Nat),kr (ar bK) [.tmp 4] 0 k ⟨.ret,[(4,aE i)],[]⟩=R i) :
  ∀(l pre:List Int),l0=pre++l->eW (ar bK) [.tmp 4] 0 k (.loop [0,1,7,8] XH) [(0,gH (l0.map kv)),(1,aE x),(7,aE l0.length),(8,aE pre.length)] []=R (Jy x l pre.length):=by
 intro l;induction l with
 |nil =>
  intro pre h;rw[bt];simp only[Iu,gM h,EN,seval];exact hx _
 |cons n r ih =>
  intro pre h;rw[bt];have dR:pre.length+1<=100000:=by rw[h] at hl; simp at hl; omega
  have hw:=vu pre n;have hi:=ih (pre++[n]) (by rw[h]; simp)
  simp only[aD,au,av,aK] at hi;rw[Jy];simp only[Iu,fV h,fc h,EN,seval];refine bq (fun hb=>?_) (fun hb=>?_)
  ·simp only[Iu,hb,EN,seval];exact hr _
  ·simp only[Iu,hb,hw,af,EN,seval];exact hi
def apL(l:List Int)(x:Int)(hl:l.length<=100000):ar bK 264 [gH (l.map kv),aE x] []=some (aE (Jy x l 0),[]):=by
 refine aw ?_;simp only[aa8,Iu,EN,seval];exact Yg (R:=fun z=>some (aE z,[])) hl (fun e=>by simp only[Iu,EN,seval]) (fun i=>by simp only[Iu,EN,seval]) l [] rfl
def aqW l x hl:=cP (apL l x hl)
def apc(l:List Int)(x:Int)(hl:l.length<=100000):ar bK 210 [gH (l.map kv),aE x] []=some (.bool (l.contains x),[]):=by
 refine aw ?_;simp only[aaJ,am7,aqW,hl,K1,EN,seval]
def akZ l x hl:=cP (apc l x hl)
def tc(ae:List Node)(at' own aq:Int)(n:Node):Bool :=
 n.kind==2&&((rf ae n.aq).contains aq&&(decide ((12:Int)<lK (lK (lK (at'+(rf ae n.aq).length)-1)-own))||(lK (lK (lK (at'+(rf ae n.aq).length)-1)-own)==12&&decide ((0:Int)<n.aL.length))))
abbrev nM(ae:List Node)(next aj at' own aq:Int):aH:=[.cells [.ptr 4 0],.cells [.int .i64 at'],.cells [.int .i64 own],.cells [.int .i64 aq],.cells [aN ae,.int .i64 next,.int .i64 aj]]
def apN(ae:List Node)(next aj at' own aq:Int)(n:Node)(h:lL ae)(hn:ae.length<=99999) :
  ar bK 266 [bD n,bX 0,bX 1,bX 2,bX 3] (nM ae next aj at' own aq)=some (.bool (tc ae at' own aq n),nM ae next aj at' own aq):=by
 refine aw ?_;have hk:=fun a b c d M=>WN ae next aj n.aq h (by omega) 4 (a::b::c::d :: bO [aN ae,aE next,aE aj]::M) rfl
 have hl:=rR ae n.aq;have hc:=fun M=>akZ (rf ae n.aq) aq (by omega) M
 simp only[aba,agS,nM,bD,aF,EN,seval]
 repeat' ((first|apply bq|apply bU|apply dE)<;>intro hb<;>simp only[hb,EN,agS,hk,hc,seval])
 all_goals (clear hk hc; simp_all only[tc,lK,bne,gV,jY,pj,↓reduceIte,reduceCtorEq,an]; done)
end
def jc{C:eB}{f:Nat}{args args':List ag}{M B:aH}{ids:List Nat}{r r':ag}{B' M':aH}(h1:args.all ag.flat=true)(h2:reach M (args.flatMap ag.ids)=ids)(h3:iU M (hZ ids) ids=some B)(h4:ky M ids=ids)
  (h5:args.map (ag.pv (hZ ids))=args') (h:C f args' B=some (r,B')) (h6:B'.length=B.length) (h7:r.vA=true) (h8:B'.all dv.flat=true) (h9:r.Ao (vN ids)=r') (h10:kR ids M ids B'=M'):aM C f args M=some (r',M'):=by
 unfold aM;rw[bh h1,h2,h3];simp only[bT];rw[bh h4,h5,h];simp only[bT];rw[bh ⟨h6,h7,h8⟩,h9,h10]
def abu(ae:List Node)(next aj at' own aq:Int):iU (nM ae next aj at' own aq) (hZ [0,1,2,3,4]) [0,1,2,3,4]=some (nM ae next aj at' own aq):=rfl
def al0(ae:List Node)(next aj at' own aq:Int):iU [bO [aN ae,aE next,aE aj],bO [bX 0],bO [aE aq],bO [aE at'],bO [aE own]] (hZ [1,3,4,2,0]) [1,3,4,2,0]=some (nM ae next aj at' own aq):=rfl
section
attribute [local irreducible] eW fQ lh gK dW kr ar aM cq bI
def aqY(ae:List Node)(next aj at' own aq:Int)(n:Node)(h:lL ae)(hn:ae.length<=99999) :
  aM (ar bK) 266 [.agg (aF n),bX 0,bX 1,bX 2,bX 3] (nM ae next aj at' own aq)=some (.bool (tc ae at' own aq n),nM ae next aj at' own aq) :=
 jc (ids:=[0,1,2,3,4]) rfl rfl (abu ..) rfl rfl (apN ae next aj at' own aq n h hn) rfl rfl rfl rfl rfl
def G7(p:Node->Bool):List Node->Nat->Int
 | [],_ => -1
 |n::r,i=>if p n then i else G7 p r (i+1)
def K0(p:Node->Bool):∀(l:List Node)(i:Nat),decide ((0:Int)<=G7 p l i)=l.any p
 | [],i=>by simp[G7]
 |n::r,i=>by
  unfold G7;cases h:p n with
  |true=>simp[h]
  |false=>simp only[af,az,K0 p r (i+1),kY,h,cY]
def Yh{ae:List Node}{next aj at' own aq:Int}(h:lL ae)(hn:ae.length<=99999){k:List K}{R:Int->Option (ag×aH)}
  (hx:∀e,kr (ar bK) [.tmp 4] 5 k ⟨.exit 0,e,nM ae next aj at' own aq⟩=R (-1)) (hr:∀(i:Nat),kr (ar bK) [.tmp 4] 5 k ⟨.ret,[(4,aE i)],nM ae next aj at' own aq⟩=R i) :
  ∀(l pre:List Node),ae=pre++l->eW (ar bK) [.tmp 4] 5 k (.loop [0,1,7,8] XJ) [(0,aN ae),(1,.func 266 [bX 0,bX 1,bX 2,bX 3]),(7,aE ae.length),(8,aE pre.length)] (nM ae next aj at' own aq)=R (G7 (tc ae at' own aq) l pre.length):=by
 intro l;induction l with
 |nil =>
  intro pre h;rw[bt];simp only[Iv,gM h,EN,seval];exact hx _
 |cons n r ih =>
  intro pre hp;rw[bt];have dR:pre.length+1<=100000:=by rw[hp] at hn; simp at hn; omega
  have hw:=vu pre n;have hi:=ih (pre++[n]) (by rw[hp]; simp)
  have hk:=aqY ae next aj at' own aq n h hn
  simp only[aD,au,av,aK,nM] at hi;simp only[nM] at hk;rw[G7];simp only[Iv,nM,fV hp,fc hp,hk,tkN,shN,EN,seval];refine bq (fun hb=>?_) (fun hb=>?_)
  ·simp only[Iv,hb,EN,seval];exact hr _
  ·simp only[Iv,hb,hw,af,EN,seval];exact hi
def apS(ae:List Node)(next aj at' own aq:Int)(h:lL ae)(hn:ae.length<=99999):ar bK 296 [aN ae,.func 266 [bX 0,bX 1,bX 2,bX 3]] (nM ae next aj at' own aq) =
  some (aE (G7 (tc ae at' own aq) ae 0),nM ae next aj at' own aq):=by
 refine aw ?_;simp only[abd,Iv,EN,seval];exact Yh (R:=fun z=>some (aE z,nM ae next aj at' own aq)) h hn (fun e=>by simp only[Iv,nM,EN,seval]) (fun i=>by simp only[Iv,nM,EN,seval]) ae [] rfl
def aq1(ae:List Node)(next aj at' own aq:Int)(h:lL ae)(hn:ae.length<=99999):aM (ar bK) 296 [aN ae,.func 266 [bX 0,bX 1,bX 2,bX 3]] (nM ae next aj at' own aq) =
  some (aE (G7 (tc ae at' own aq) ae 0),nM ae next aj at' own aq) :=
 jc (ids:=[0,1,2,3,4]) rfl rfl (abu ..) rfl rfl (apS ae next aj at' own aq h hn) rfl rfl rfl rfl rfl
def apM(ae:List Node)(next aj at' own aq:Int)(h:lL ae)(hn:ae.length<=99999):ar bK 265 [aN ae,.func 266 [bX 0,bX 1,bX 2,bX 3]] (nM ae next aj at' own aq) =
  some (.bool (ae.any (tc ae at' own aq)),nM ae next aj at' own aq):=by
 refine aw ?_;have hk:=aq1 ae next aj at' own aq h hn
 simp only[nM] at hk;simp only[aa9,anm,nM,hk,K0,EN,seval]
def aqX(ae:List Node)(next aj at' own aq:Int)(h:lL ae)(hn:ae.length<=99999) :
  aM (ar bK) 265 [aN ae,.func 266 [bX 1,bX 3,bX 4,bX 2]] [bO [aN ae,aE next,aE aj],bO [bX 0],bO [aE aq],bO [aE at'],bO [aE own]] =
  some (.bool (ae.any (tc ae at' own aq)),[bO [aN ae,aE next,aE aj],bO [bX 0],bO [aE aq],bO [aE at'],bO [aE own]]) :=
 jc (ids:=[1,3,4,2,0]) rfl rfl (al0 ..) rfl rfl (apM ae next aj at' own aq h hn) rfl rfl rfl rfl rfl
def Gw(ae:List Node)(aq at':Int):Bool:=ae.any (tc ae at' (ru ae aq) aq)
def ape(ae:List Node)(next aj aq at':Int)(h:lL ae)(hn:ae.length<=99999):ar bK 212 [bX 0,aE aq,aE at'] [bO [aN ae,aE next,aE aj]] =
  some (.bool (Gw ae aq at'),[bO [aN ae,aE next,aE aj]]):=by
 refine aw ?_;have hk:∀M,aM (ar bK) 254 [bX 0,aE aq] (bO [aN ae,aE next,aE aj]::M)=some (aE (ru ae aq),bO [aN ae,aE next,aE aj]::M):=fun M=>ak7 ae next aj aq h (by omega) 0 (bO [aN ae,aE next,aE aj]::M) rfl
 have hd:=aqX ae next aj at' (ru ae aq) aq h hn
 unfold Gw;simp only[aaL,am8,hk,hd,EN,seval]
def aqI ae next aj aq at' h hn p M hM:=cM (p:=p) (M:=M) hM (ape ae next aj aq at' h hn)
def wh(l:List fg)(s:Bytes):fb (fU l s) s=none:=by
 unfold fb fU;rw[dQ];intro e he;have:=(cr.1 he).2;simpa using this
def qZ{l:List fg}{s r:Bytes}(h:fb l r=none):fb (fU l s) r=none:=by
 unfold fb fU at *;rw[dQ] at *;exact fun e he=>h e (cr.1 he).1
def jo{ae:List Node}(h:lL ae){dir:Int}{s:Bytes}{d:Node}(hf:find ae dir=some d)(i:Int):find (cV ae dir s) i=if i=dir then some { d with aL:=fU d.aL s } else find ae i:=by
 have hd:=(bR hf).2;unfold cV;rw[hf];simp only[bn];rw[fC h,show({ d with aL:=fU d.aL s }:Node).aq=dir from hd]
def FO{ae:List Node}(h:lL ae)(n:Node):lL (jZ ae n):=by
 unfold jZ;split
 ·exact p8 h _
 ·exact kd h _
def Ds{ae:List Node}(h:lL ae)(n:Node){i:Int}(hi:i≠n.aq):find (jZ ae n) i=find ae i:=by
 unfold jZ;split
 ·rw[kW h,aQ hi]
 ·rw[fC h,aQ hi]
def Sz.jZ{b:Nat}{t:Tree}(h:Sz b t){n:Node}(h1:n.aL.length<=b+1)(h2:n.data.length<=100000)(next aj:Int):Sz (b+1) ⟨jZ t.ae n,next,aj⟩:=by
 unfold Go.Proofs.YtahkjijkflobhaaGreatDoor.jZ;split
 ·exact(h.tZ _ next aj).up (by omega)
 ·exact h.with (n:={ n with dz:=lK (n.dz-1) }) h1 h2 next aj
def xI(t:Tree)(dir:Int)(s:Bytes)(to:Int)(nm:Bytes)(aq:Int)(x y:Node)(there:Bool):Tree :=
 gz ⟨if x.kind==2 then ef (if there then jZ (cV (cV t.ae dir s) to nm) y else cV t.ae dir s) { x with up:=to }
  else if there then jZ (cV (cV t.ae dir s) to nm) y else cV t.ae dir s,t.next,t.aj⟩ to nm aq
set_option maxHeartbeats 1000000 in
def af8(ae:List Node)(next aj dir:Int)(s:Bytes)(to:Int)(nm:Bytes)(aq:Int)(x y:Node)(there:Bool)(v5 v140:ag)(B0 Bd:dv)(yr:List ag)(hyr:there=true->aE y.aq::yr=aF y)(hz:Sz 1000 ⟨ae,next,aj⟩)(hr:qx ⟨ae,next,aj⟩){dd dt:Node}(hdir:find ae dir=some dd)(hto:find ae to=some dt)
  (hth:there=false->fb dt.aL nm=none) (hx:(x.kind==2)=true->x.aq≠to) (hy:there=true->y.aq≠to) (hx1:x.aL.length<=1000) (hx2:x.data.length<=100000) (hy1:y.aL.length<=1000) (hy2:y.data.length<=100000) :
  eW (ar bK) [.dB 10 3,.tmp 11,.tmp 12] 0 [] LA [(1,aE dir),(2,.str s),(3,aE to),(4,.str nm),(5,v5),(10,bX 1),(13,aE aq),(15,bX 2),(17,bX 4),(19,bX 5),(21,.bool there),(140,v140)]
   [B0,.cells zT,bO [aN ae,aE next,aE aj],Bd,bO (aF x),bO (aE y.aq::yr)]=some (.tuple [bo (xI ⟨ae,next,aj⟩ dir s to nm aq x y there),aE y.aq,aE 0],[]):=by
 have hasc:lL ae:=hr.jd;have n1:=hz.left dir s next aj
 have a1:lL (cV ae dir s):=(hr.left dir s next aj).jd
 have e1:ou dd.aL:=hr.aL dd (bR hdir).1;have e2:ou dt.aL:=hr.aL dt (bR hto).1;have l1:dd.aL.length<=1000:=hz.aL dd (bR hdir).1;have l2:dt.aL.length<=1000:=hz.aL dt (bR hto).1
 obtain⟨d1,f1,g1,m1,q1⟩:∃d1,find (cV ae dir s) to=some d1/\ou d1.aL/\d1.aL.length<=1000/\(fb dt.aL nm=none->fb d1.aL nm=none):=by
  rw[jo hasc hdir];split
  ·rename_i he;subst he;rw[hdir] at hto; cases hto;exact⟨_,rfl,uE e1 s,aV (zR _ _) l1,qZ⟩
  ·exact⟨dt,hto,e2,l2,id⟩
 have hv1:=fun a b M=>ads ae next aj dir s hasc (hz.small (by omega)).ae hdir e1 (by omega) 2 (a::b :: bO [aN ae,aE next,aE aj]::M) rfl
 have fin:∀(n3:List Node)(d3:Node),lL n3->Sz 1003 ⟨n3,next,aj⟩->find n3 to=some d3->ou d3.aL->d3.aL.length<=1000->fb d3.aL nm=none ->
   (∀a b M,aM (ar bK) 198 [bX 2,aE to,.str nm,aE aq] (a::b :: bO [aN n3,aE next,aE aj]::M)=some (.tuple [],a::b :: bO (aI (gz ⟨n3,next,aj⟩ to nm aq))::M)) /\
   ((x.kind==2)=true->(∀a b M,aM (ar bK) 197 [bX 2,.agg [aE x.aq,aE x.kind,aE x.dz,cX x.data,gS x.aL,aE to]] (a::b :: bO [aN n3,aE next,aE aj]::M) =
     some (.tuple [],a::b :: bO [aN (ef n3 { x with up:=to }),aE next,aE aj]::M)) /\
    ∀a b M,aM (ar bK) 198 [bX 2,aE to,.str nm,aE aq] (a::b :: bO [aN (ef n3 { x with up:=to }),aE next,aE aj]::M)=some (.tuple [],a::b :: bO (aI (gz ⟨ef n3 { x with up:=to },next,aj⟩ to nm aq))::M)):=by
  intro n3 d3 b1 b2 b3 b4 b5 b6;have h0:n3≠[]:=by rintro rfl; simp[find] at b3
  refine⟨fun a b M=>WK n3 next aj to nm aq b1 (b2.small (by omega)).ae b3 b4 (by omega) b6 2 (a::b :: bO [aN n3,aE next,aE aj]::M) rfl,fun hk=>⟨fun a b M=>JD n3 next aj x.aq x.kind x.dz x.data x.aL to b1 h0 (b2.small (by omega)).ae 2 (a::b :: bO [aN n3,aE next,aE aj]::M) rfl,fun a b M=>?_⟩⟩
  have b7:Sz 1004 ⟨ef n3 { x with up:=to },next,aj⟩:=b2.with (n:={ x with up:=to }) (aV hx1 (by omega)) hx2 next aj
  have b8:find (ef n3 { x with up:=to }) to=some d3:=by rw[fC b1,aQ (fun he=>hx hk he.symm)]; exact b3
  exact WK (ef n3 { x with up:=to }) next aj to nm aq (kd b1 _) (b7.small (by omega)).ae b8 b4 (by omega) b6 2 (a::b :: bO [aN (ef n3 { x with up:=to }),aE next,aE aj]::M) rfl
 cases hth':there with
 |false =>
  obtain⟨w1,w2⟩:=fin (cV ae dir s) d1 a1 (n1.up (by omega)) f1 g1 m1 (q1 (hth hth'))
  cases hkx:(x.kind==2) with
  |false =>
   simp only[xU,hv1,zT,aF,hkx,w1,aI,EN,seval];simp only[xI,hkx,bo,aI,pj,↓reduceIte,reduceCtorEq,an]
  |true =>
   obtain⟨w3,w4⟩:=w2 hkx;simp only[xU,hv1,zT,aF,hkx,w3,w4,aI,EN,seval];simp only[xI,hkx,bo,aI,pj,↓reduceIte,reduceCtorEq,an]
 |true =>
  have hyr':yr=[aE y.kind,aE y.dz,cX y.data,gS y.aL,aE y.up]:=by have:=hyr hth'; simpa[aF] using this
  subst hyr';have a2:lL (cV (cV ae dir s) to nm):=(qx.left (t:=⟨cV ae dir s,next,aj⟩) (hr.left dir s next aj) to nm next aj).jd
  have n2:=n1.left to nm next aj
  have f2:find (cV (cV ae dir s) to nm) to=some { d1 with aL:=fU d1.aL nm }:=by rw[jo a1 f1,bh rfl]
  have hv2:=fun a b M=>ads (cV ae dir s) next aj to nm a1 (n1.small (by omega)).ae f1 g1 (by omega) 2 (a::b :: bO [aN (cV ae dir s),aE next,aE aj]::M) rfl
  have hu:=fun a b M=>akY (cV (cV ae dir s) to nm) next aj y.aq y.kind y.dz y.data y.aL y.up a2 (Ho a1 f1) (n2.small (by omega)).ae 2 (a::b :: bO [aN (cV (cV ae dir s) to nm),aE next,aE aj]::M) rfl
  have f3:find (jZ (cV (cV ae dir s) to nm) y) to=some { d1 with aL:=fU d1.aL nm }:=by rw[Ds a2 y (fun he=>hy hth' he.symm)]; exact f2
  obtain⟨w1,w2⟩:=fin (jZ (cV (cV ae dir s) to nm) y) { d1 with aL:=fU d1.aL nm } (FO a2 y) (n2.jZ (aV hy1 (by omega)) hy2 next aj) f3 (uE g1 nm) (aV (zR _ _) m1) (wh _ _)
  cases hkx:(x.kind==2) with
  |false =>
   simp only[xU,hv1,hv2,hu,zT,aF,hkx,w1,aI,EN,seval];simp only[xI,hkx,bo,aI,pj,↓reduceIte,reduceCtorEq,an]
  |true =>
   obtain⟨w3,w4⟩:=w2 hkx;simp only[xU,hv1,hv2,hu,zT,aF,hkx,w3,w4,aI,EN,seval];simp only[xI,hkx,bo,aI,pj,↓reduceIte,reduceCtorEq,an]
def lg(ae:List Node)(l:List fg)(s:Bytes):Node:=match fb l s with
 |none=>Node.zero
 |some e=>aY ae e.aq
def CF(t:Tree)(dir to:Int)(aL:List fg)(there:Bool)(kind aq:Int):Bool :=
 ((!there&&to != dir)&&decide ((64:Int)<=aL.length))||(decide ((12:Int)<(rf t.ae to).length)||((kind==2&&Gw t.ae aq (rf t.ae to).length)||decide ((1099511627776:Int)<=t.aj)))
def Lo(t:Tree)(dir:Int)(s:Bytes)(to:Int)(nm:Bytes):Tree×Int×Int :=
 if (eE t.ae dir s).2 != 0 then (t,0,(eE t.ae dir s).2) else
 if (gA t.ae to).2 != 0 then (t,0,(gA t.ae to).2) else
 if !fD nm then (t,0,60) else
 if (lg t.ae (gA t.ae to).1.aL nm).aq==(eE t.ae dir s).1 then (t,0,0) else
 if (aY t.ae (eE t.ae dir s).1).kind==2&&(rf t.ae to).contains (eE t.ae dir s).1 then (t,0,75) else
 if (fb (gA t.ae to).1.aL nm).isSome&&zf (aY t.ae (eE t.ae dir s).1) (lg t.ae (gA t.ae to).1.aL nm) != 0 then (t,0,zf (aY t.ae (eE t.ae dir s).1) (lg t.ae (gA t.ae to).1.aL nm)) else
 if CF t dir to (gA t.ae to).1.aL (fb (gA t.ae to).1.aL nm).isSome (aY t.ae (eE t.ae dir s).1).kind (eE t.ae dir s).1 then (t,0,76) else
 (xI t dir s to nm (eE t.ae dir s).1 (aY t.ae (eE t.ae dir s).1) (lg t.ae (gA t.ae to).1.aL nm) (fb (gA t.ae to).1.aL nm).isSome,(lg t.ae (gA t.ae to).1.aL nm).aq,0)
def ak0(a b c:Int)(d:Bytes)(e:List fg)(u:Int)(a' b' c':Int)(d':Bytes)(e':List fg)(u':Int)(M:aH):aM (ar bK) 211 [.agg [aE a,aE b,aE c,cX d,gS e,aE u],.agg [aE a',aE b',aE c',cX d',gS e',aE u']] M=some (aE (zf ⟨a,b,c,d,e,u⟩ ⟨a',b',c',d',e',u'⟩),M) :=
 cO (apd ⟨a,b,c,d,e,u⟩ ⟨a',b',c',d',e',u'⟩) M
def Vb(ae:List Node)(to:Int):(rf ae to).contains to=true:=by
 have key:∀(m:Nat)(aq:Int)(out:List Int),out.contains to=true->(qF ae m aq out).contains to=true:=by
  intro m;induction m with
  |zero=>intro aq out h; exact h
  |succ m ih =>
   intro aq out h;rw[qF];split
   ·split
    ·exact h
    ·exact ih _ _ (by simp at h ⊢; exact .inl h)
   ·exact h
 exact key _ _ _ (by simp)
def TF{ae:List Node}{i:Int}(h:(aY ae i).kind=2):(aY ae i).aq=i:=by
 cases hf:find ae i with
 |none=>simp[aY,hf,Node.zero] at h
 |some n=>simp[aY,hf]; exact(bR hf).2
set_option maxHeartbeats 4000000 in
def an8(t:Tree)(dir:Int)(s:Bytes)(to:Int)(nm:Bytes)(hz:Sz 1000 t)(hr:qx t)(hs:s.length<=100000)(ha:nH s)(hs':nm.length<=100000)(ha':nH nm)
  (Vi:∀e,fb (gA t.ae to).1.aL nm=some e->(aY t.ae e.aq).aq≠to) :
  ar bK 131 [bo t,aE dir,.str s,aE to,.str nm] []=some (.tuple [bo (Lo t dir s to nm).1,aE (Lo t dir s to nm).2.1,aE (Lo t dir s to nm).2.2],[]):=by
 obtain⟨Q,hQ⟩:∃Q,LA=Q:=⟨_,rfl⟩;obtain⟨ae,next,aj⟩:=t
 have ht:Small ⟨ae,next,aj⟩:=hz.small (by omega)
 have hn:ae.length<=100000:=ht.ae;have hasc:lL ae:=hr.jd;have hl:=fun M=>WH ae next aj dir s ht hr hs ha M
 have hg:=fun i b c M=>Dv ae next aj i hasc hn 2 (b::c :: bO [aN ae,aE next,aE aj]::M) rfl
 have hd:=fun b c M=>WL ae next aj to hasc hn 2 (b::c :: bO [aN ae,aE next,aE aj]::M) rfl
 have hup:=fun b c M=>WN ae next aj to hasc hn 2 (b::c :: bO [aN ae,aE next,aE aj]::M) rfl
 have hul:=rR ae to;have hn1:ae.length<=1000:=hz.ae;have hc:=fun x M=>akZ (rf ae to) x (by omega) M
 have hdp:=fun i a b c M=>aqI ae next aj i a hasc (by omega) 2 (b::c :: bO [aN ae,aE next,aE aj]::M) rfl
 have hE:ou (gA ae to).1.aL:=hr.dir to;have hde:(gA ae to).1.aL.length<=100000:=sJ ht to;have hen:=fun a b c d u M=>Qk a b c d (gA ae to).1.aL u nm _ (rm hE nm) hde M
 refine aw ?_;simp only[Z3,xU,hQ,bo,aI,hl,EN,seval];refine bq (fun hb0=>?_) (fun hb0=>?_)
 ·simp only[xU,hQ,hb0,EN,seval];clear hl hg hd hup hc hdp hen Vi;simp_all only[Lo,bo,aI,pj,↓reduceIte,reduceCtorEq,an]
 simp only[xU,hQ,hb0,hd,bD,aF,EN,seval];refine bq (fun hb1=>?_) (fun hb1=>?_)
 ·simp only[xU,hQ,hb1,EN,seval];clear hl hg hd hup hc hdp hen Vi;simp_all only[Lo,bo,aI,pj,↓reduceIte,reduceCtorEq,an]
 simp only[xU,hQ,hb1,WM,hs',ha',EN,seval];refine bq (fun hb2=>?_) (fun hb2=>?_)
 ·simp only[xU,hQ,hb2,EN,seval];clear hl hg hd hup hc hdp hen Vi;simp_all only[Lo,bo,aI,pj,↓reduceIte,reduceCtorEq,an]
 simp only[xU,hQ,hb2,hg,hen,bD,aF,EN,seval];obtain⟨dd,de,e1,e2,e3,e4,e5⟩:=look_ok hb0;obtain⟨dt,g1,g2,g3⟩:=x7 (show(gA ae to).2=0 by simpa using hb1)
 have hx0:=hz.find (eE ae dir s).1;have tail:=fun there y yr hyr hth hy hy1 hy2 v5 v140 B0 Bd hxx=>af8 ae next aj dir s to nm (eE ae dir s).1 (aY ae (eE ae dir s).1) y there v5 v140 B0 Bd yr hyr hz hr e1 g1 hth hxx hy hx0.1 hx0.2 hy1 hy2
 have hxne:((aY ae (eE ae dir s).1).kind==2)=true->(rf ae to).contains (eE ae dir s).1=false->(aY ae (eE ae dir s).1).aq≠to:=fun h1 h2 h3=>by
  rw[TF (by simpa using h1)] at h3
  rw[h3,Vb] at h2; cases h2
 have hdte:dt.aL=(gA ae to).1.aL:=by rw[g3]
 rcases vW hE nm with ⟨h1,o,h2,h3,h4⟩|⟨h1,h2⟩
 ·have hnu:lg ae (gA ae to).1.aL nm=aY ae o.aq:=by simp[lg,h3]
  have hy0:=hz.find o.aq;have tl:=tail true (aY ae o.aq) _ (fun _=>rfl) (by simp) (fun _=>Vi o h3) hy0.1 hy0.2
  simp only[aF,zT] at tl;simp only[xU,hQ,h1,h2,hg,bD,aF,fa,EN,seval]
  repeat' ((first|apply bq|apply bU|apply dE)<;>intro hb<;>simp only[hb,EN,xU,hQ,hup,hc,hdp,ak0,seval])
  all_goals try (clear hl hg hd hup hc hdp hen Vi tail tl hxne e5 g3; simp_all only[Lo,CF,bo,aI,bW,pj,↓reduceIte,reduceCtorEq,an]; done)
  all_goals
   subst hQ;refine(tl _ _ _ _ (fun hk=>by first|exact hxne hk (by assumption)|(exfalso; simp_all; done))).trans ?_
   have hmv:Lo ⟨ae,next,aj⟩ dir s to nm=(xI ⟨ae,next,aj⟩ dir s to nm (eE ae dir s).1 (aY ae (eE ae dir s).1) (aY ae o.aq) true,(aY ae o.aq).aq,0):=by
    clear hl hg hd hup hc hdp hen Vi tail tl hxne e5 g3;simp_all only[Lo,CF,bW,pj,↓reduceIte,reduceCtorEq,an]
   rw[hmv];rfl
 ·have hnu:lg ae (gA ae to).1.aL nm=Node.zero:=by simp[lg,h2]
  have tl:=tail false Node.zero [aE 0,aE 0,.slice .c0 [],.slice .c0 [],aE 0] (by simp) (fun _=>by rw[hdte]; exact h2) (by simp) (by simp[Node.zero]) (by simp[Node.zero])
  have hz0:Node.zero.aq=0:=rfl;simp only[aF,zT,hz0] at tl;simp only[xU,hQ,h1,EN,seval]
  repeat' ((first|apply bq|apply bU|apply dE)<;>intro hb<;>simp only[hb,EN,xU,hQ,hup,hc,hdp,ak0,seval])
  all_goals try (clear hl hg hd hup hc hdp hen Vi tail tl hxne e5 g3; simp_all only[Lo,CF,bo,aI,eA,pj,↓reduceIte,reduceCtorEq,an]; done)
  all_goals
   subst hQ;refine(tl _ _ _ _ (fun hk=>by first|exact hxne hk (by assumption)|(exfalso; simp_all; done))).trans ?_
   have hmv:Lo ⟨ae,next,aj⟩ dir s to nm=(xI ⟨ae,next,aj⟩ dir s to nm (eE ae dir s).1 (aY ae (eE ae dir s).1) Node.zero false,0,0):=by
    clear hl hg hd hup hc hdp hen Vi tail tl hxne e5 g3;simp_all only[Lo,CF,eA,pj,↓reduceIte,reduceCtorEq,an]
   rw[hmv];rfl
end
def o7(l:List fg)(i:Int):Nat:=l.countP fun e=>e.aq==i
def qk(ns:List Node)(i:Int):Nat:=(ns.map fun n=>o7 n.aL i).sum
def uC(i:Int):o7 [] i=0:=rfl
def yK(a b:List fg)(i:Int):o7 (a++b) i=o7 a i+o7 b i:=List.countP_append
def uB(e:fg)(l:List fg)(i:Int):o7 (e::l) i=o7 l i+(if e.aq=i then 1 else 0):=by simp[o7,kK]
def w6(a b:List Node)(i:Int):qk (a++b) i=qk a i+qk b i:=by simp[qk]
def rB(n:Node)(l:List Node)(i:Int):qk (n::l) i=o7 n.aL i+qk l i:=by simp[qk]
def uD{ns:List Node}(h:lL ns)(n:Node)(i:Int):qk (ef ns n) i+o7 (aY ns n.aq).aL i=qk ns i+o7 n.aL i:=by
 rcases ri h n.aq with ⟨_,o,h2,h3,h4⟩|⟨_,h2⟩
 ·rw[sQ h h2 h4];obtain⟨s1,s2⟩:=xl (n:=n) h2
  have e1:qk ns i=qk (ns.take (kO ns n.aq)) i+(o7 o.aL i+qk (ns.drop (kO ns n.aq+1)) i):=by
   rw[<-rB,<-w6,<-s1]
  rw[s2,w6,rB,e1];simp only[aY,h3,bn];omega
 ·rw[xu h h2]
  have e1:qk ns i=qk (ns.take (kO ns n.aq)) i+qk (ns.drop (kO ns n.aq)) i:=by
   rw[<-w6,cC]
  rw[w6,rB,e1];simp only[aY,h2,iY,Node.zero,uC];omega
def E7{ns:List Node}(h:lL ns)(k i:Int):qk (fz ns k) i+o7 (aY ns k).aL i=qk ns i:=by
 rcases ri h k with ⟨_,o,h2,h3,h4⟩|⟨_,h2⟩
 ·rw[zB h h2 h4];obtain⟨s1,_⟩:=xl (n:=o) h2
  have e1:qk ns i=qk (ns.take (kO ns k)) i+(o7 o.aL i+qk (ns.drop (kO ns k+1)) i):=by
   rw[<-rB,<-w6,<-s1]
  rw[w6,e1];simp only[aY,h3,bn];omega
 ·rw[xQ h2];simp only[aY,h2,iY,Node.zero,uC];omega
def Gu{l:List fg}{i:Int}:0<o7 l i↔∃e,e∈l/\e.aq=i:=by simp[o7,List.countP_pos_iff]
def si{i:Int}:∀ {ns:List Node},0<qk ns i↔∃n e,n∈ns/\e∈n.aL/\e.aq=i
 | []=>by simp[qk]
 |n::ns=>by
  rw[rB];constructor
  ·intro h;rcases fA (o7 n.aL i) with h0|h0
   ·obtain⟨m,e,h1,h2,h3⟩:=(si (i:=i) (ns:=ns)).1 (by omega)
    exact⟨m,e,aX _ h1,h2,h3⟩
   ·obtain⟨e,h1,h2⟩:=Gu.1 h0;exact⟨n,e,bj,h1,h2⟩
  ·rintro⟨m,e,h1,h2,h3⟩;rcases bC.1 h1 with rfl|h1
   ·have:=Gu.2 ⟨e,h2,h3⟩; omega
   ·have:=(si (i:=i) (ns:=ns)).2 ⟨m,e,h1,h2,h3⟩; omega
def za{l:List fg}(h:ou l){e:fg}(hf:fb l e.name=none){x:fg}:x∈vK l e↔x=e\/x∈l:=by
 rw[uK h hf];have:x∈l↔x∈l.take (lf l e.name)\/x∈l.drop (lf l e.name):=by rw[<-bB,cC]
 rw[this,bB,bC];constructor
 ·rintro(h|h|h)
  ·exact .inr (.inl h)
  ·exact .inl h
  ·exact .inr (.inr h)
 ·rintro(h|h|h)
  ·exact .inr (.inl h)
  ·exact .inl h
  ·exact .inr (.inr h)
def Mt{l:List fg}(h:ou l){e:fg}(hf:fb l e.name=none)(i:Int):o7 (vK l e) i=o7 l i+(if e.aq=i then 1 else 0):=by
 rw[uK h hf,yK,uB];have:o7 l i=o7 (l.take (lf l e.name)) i+o7 (l.drop (lf l e.name)) i:=by rw[<-yK,cC]
 omega
def Nb{l:List fg}{s:Bytes}{x:fg}:x∈fU l s↔x∈l/\x.name≠s:=by simp[fU,cr]
def J7{l:List fg}{b:Nat}{o:fg}(ho:l[b]?=some o):l=l.take b++o::l.drop (b+1):=by
 have cn:=(ak.1 ho).1;rw[ai cn] at ho; injection ho with ho
 conv=>lhs; rw[<-cC b l]
 rw[df cn,ho]
def I4{l:List fg}(h:ou l){s:Bytes}{o:fg}(hf:fb l s=some o)(i:Int):o7 (fU l s) i+(if o.aq=i then 1 else 0)=o7 l i:=by
 rcases vW h s with ⟨_,o',h2,h3,h4⟩|⟨_,h2⟩
 ·rw[hf] at h3; cases h3;rw[DI h h2 h4]
  have e1:o7 l i=o7 (l.take (lf l s)) i+(o7 (l.drop (lf l s+1)) i+(if o.aq=i then 1 else 0)):=by
   rw[<-uB,<-yK,<-J7 h2]
  rw[yK,e1];omega
 ·rw[hf] at h2; cases h2
def xd{ns:List Node}(h:lL ns){n o:Node}(hf:find ns n.aq=some o):(ef ns n).length=ns.length:=by
 rcases ri h n.aq with ⟨_,o,h2,h3,h4⟩|⟨_,h2⟩
 ·rw[sQ h h2 h4,fi]
 ·rw[hf] at h2; cases h2
def Nm(s:Bytes):Prop:=fD s=true
structure cF(t:Tree)(cz:Int->Nat)(x:Int):Prop where
 ja:qx t
 root:∃r,find t.ae 1=some r/\r.kind=2/\r.up=1
 num:∀i n,find t.ae i=some n->1<=i/\i<t.next
 kind:∀i n,find t.ae i=some n->n.kind=1\/n.kind=2
 file:∀i n,find t.ae i=some n->n.kind=1->n.aL=[]/\n.up=0/\n.data.length<=4096
 dir:∀i n,find t.ae i=some n->n.kind=2->n.data=[]
 x9:∀i n e,find t.ae i=some n->e∈n.aL->1<=e.aj/\e.aj<t.aj/\e.aq≠1/\Nm e.name/\∃m,find t.ae e.aq=some m/\(m.kind=2->m.up=i)
 v8:∀i n,find t.ae i=some n->(n.aL.Pairwise fun a b=>a.aj≠b.aj)/\n.aL.length<=64
 dz:∀i n,find t.ae i=some n->n.dz=(qk t.ae i:Int)+(if i=x then 1 else 0)
 one:∀i n,find t.ae i=some n->n.kind=2->i≠1->n.dz=1
 yL:cz 1=0
 n9:∀i n,find t.ae i=some n->n.kind=2->i≠1->cz i=cz n.up+1/\∃p,find t.ae n.up=some p/\p.kind=2
 deep:∀i n,find t.ae i=some n->n.kind=2->cz i<=12/\(cz i=12->n.aL=[])
 ae:t.ae.length<=200
 next:t.next<=1099511627776
 aj:1<=t.aj/\t.aj<=1099511627776
def cF.aq{t:Tree}{cz:Int->Nat}{x:Int}(_:cF t cz x){i:Int}{n:Node}(hf:find t.ae i=some n):n.aq=i:=(bR hf).2
theorem cF.gy{t t':Tree}{cz:Int->Nat}{x x' d:Int}{n n':Node}(h:cF t cz x)(hs:qx t')(hd:find t.ae d=some n)
  (hf:∀i,find t'.ae i=if i=d then some n' else find t.ae i) (hk:n'.kind=n.kind) (hu:n'.up=n.up)
  (hfile:n.kind=1->n'.aL=[]/\n'.data.length<=4096) (hdir:n.kind=2->n'.data=[])
  (hent:∀e,e∈n'.aL->1<=e.aj/\e.aj<t'.aj/\e.aq≠1/\Nm e.name/\∃m,find t.ae e.aq=some m/\(m.kind=2->m.up=d))
  (hcook:(n'.aL.Pairwise fun a b=>a.aj≠b.aj)/\n'.aL.length<=64)
  (hc:∀i,1<=i->(qk t'.ae i:Int)+(if i=x' then 1 else 0)=qk t.ae i+(if i=x then 1 else 0)+(if i=d then n'.dz-n.dz else 0))
  (h1:n.kind=2->n'.dz=n.dz) (hdeep:cz d=12->n'.aL=[]) (hn:t'.ae.length<=200) (hnx:t'.next=t.next) (hck:t.aj<=t'.aj) (hck':t'.aj<=1099511627776):cF t' cz x':=by
 have oq:∀j m,find t.ae j=some m->∃m',find t'.ae j=some m'/\m'.kind=m.kind/\m'.up=m.up:=by
  intro j m hm;rw[hf];split
  ·rename_i he;subst he;rw[hd] at hm; cases hm;exact⟨n',rfl,hk,hu⟩
  ·exact⟨m,hm,rfl,rfl⟩
 have back:∀j m',find t'.ae j=some m'->(j=d/\m'=n')\/(j≠d/\find t.ae j=some m'):=by
  intro j m' hm;rw[hf] at hm;split at hm
  ·rename_i he; injection hm with hm; exact .inl ⟨he,hm.symm⟩
  ·rename_i he; exact .inr ⟨he,hm⟩
 refine⟨hs,?_,?_,?_,?_,?_,?_,?_,?_,?_,h.yL,?_,?_,hn,by rw[hnx]; exact h.next,⟨by have:=h.aj.1; omega,hck'⟩⟩
 ·obtain⟨r,h1,h2,h3⟩:=h.root;obtain⟨r',k1,k2,k3⟩:=oq _ _ h1;exact⟨r',k1,by omega,by omega⟩
 ·intro i m hm;rw[hnx];rcases back i m hm with ⟨rfl,rfl⟩|⟨_,hm⟩
  ·exact h.num _ _ hd
  ·exact h.num _ _ hm
 ·intro i m hm;rcases back i m hm with ⟨rfl,rfl⟩|⟨_,hm⟩
  ·rw[hk]; exact h.kind _ _ hd
  ·exact h.kind _ _ hm
 ·intro i m hm hk1;rcases back i m hm with ⟨rfl,rfl⟩|⟨_,hm⟩
  ·rw[hk] at hk1;exact⟨(hfile hk1).1,by rw[hu]; exact(h.file _ _ hd hk1).2.1,(hfile hk1).2⟩
  ·exact h.file _ _ hm hk1
 ·intro i m hm hk1;rcases back i m hm with ⟨rfl,rfl⟩|⟨_,hm⟩
  ·rw[hk] at hk1;exact hdir hk1
  ·exact h.dir _ _ hm hk1
 ·intro i m e hm he
  have key:∀m,find t.ae e.aq=some m/\(m.kind=2->m.up=i)->∃m,find t'.ae e.aq=some m/\(m.kind=2->m.up=i):=by
   rintro m ⟨k1,k2⟩;obtain⟨m',j1,j2,j3⟩:=oq _ _ k1;exact⟨m',j1,fun hk=>by rw[j3]; exact k2 (by omega)⟩
  rcases back i m hm with ⟨rfl,rfl⟩|⟨_,hm⟩
  ·obtain⟨a1,a2,a3,a4,k,a5⟩:=hent e he;exact⟨a1,a2,a3,a4,key k a5⟩
  ·obtain⟨a1,a2,a3,a4,k,a5⟩:=h.x9 _ _ e hm he;exact⟨a1,by omega,a3,a4,key k a5⟩
 ·intro i m hm;rcases back i m hm with ⟨rfl,rfl⟩|⟨_,hm⟩
  ·exact hcook
  ·exact h.v8 _ _ hm
 ·intro i m hm;rcases back i m hm with ⟨rfl,rfl⟩|⟨hne,hm⟩
  ·have:=hc i (h.num _ _ hd).1;have:=h.dz _ _ hd;simp only[↓reduceIte] at *;omega
  ·have:=hc i (h.num _ _ hm).1;have:=h.dz _ _ hm;simp only[hne,↓reduceIte] at *;omega
 ·intro i m hm hk1 hi;rcases back i m hm with ⟨rfl,rfl⟩|⟨_,hm⟩
  ·rw[hk] at hk1;rw[h1 hk1]; exact h.one _ _ hd hk1 hi
  ·exact h.one _ _ hm hk1 hi
 ·intro i m hm hk1 hi;rcases back i m hm with ⟨rfl,rfl⟩|⟨_,hm⟩
  ·rw[hk] at hk1;obtain⟨a,p,b,c⟩:=h.n9 _ _ hd hk1 hi;obtain⟨p',k1,k2,_⟩:=oq _ _ b;rw[hu]; exact⟨a,p',k1,by omega⟩
  ·obtain⟨a,p,b,c⟩:=h.n9 _ _ hm hk1 hi;obtain⟨p',k1,k2,_⟩:=oq _ _ b;exact⟨a,p',k1,by omega⟩
 ·intro i m hm hk1;rcases back i m hm with ⟨rfl,rfl⟩|⟨_,hm⟩
  ·rw[hk] at hk1;exact⟨(h.deep _ _ hd hk1).1,hdeep⟩
  ·exact h.deep _ _ hm hk1
def cF.left{t:Tree}{cz:Int->Nat}{d:Int}{n:Node}{s:Bytes}{e:fg}(h:cF t cz 0)(hd:find t.ae d=some n)(he:fb n.aL s=some e):cF ⟨cV t.ae d s,t.next,t.aj⟩ cz e.aq:=by
 have hE:ou n.aL:=h.ja.aL n (bR hd).1;have hi:n.aq=d:=h.aq hd;have hem:=gY he;have hw:cV t.ae d s=ef t.ae { n with aL:=fU n.aL s }:=by simp[cV,hd]
 have hc:∀i,qk (cV t.ae d s) i+(if e.aq=i then 1 else 0)=qk t.ae i:=by
  intro i;have h1:=uD h.ja.jd { n with aL:=fU n.aL s } i
  have h2:=I4 hE he i;rw[hw];have h3:aY t.ae n.aq=n:=by simp only[aY,hi,hd,bn]
  simp only[h3] at h1;omega
 refine h.gy (h.ja.left d s t.next t.aj) hd (jo h.ja.jd hd) rfl rfl ?_ ?_ ?_ ?_ ?_ (fun _=>rfl) ?_ ?_ rfl (cZ _) h.aj.2
 ·intro hk;obtain⟨h1,_,h3⟩:=h.file _ _ hd hk;exact⟨by simp[h1,fU],h3⟩
 ·exact h.dir _ _ hd
 ·intro x hx;exact h.x9 _ _ x hd (Nb.1 hx).1
 ·exact⟨jv _ (h.v8 _ _ hd).1,aV (bZ _ _) (h.v8 _ _ hd).2⟩
 ·intro i h0;have h1:=hc i;rw[aQ (show i≠0 by omega)]
  have e1:(if i=d then (n.dz-n.dz:Int) else 0)=0:=by split<;>omega
  simp only[e1]
  by_cases h0:i=e.aq
  ·subst h0;simp only[↓reduceIte] at h1 ⊢;omega
  ·rw[aQ (fun hh=>h0 hh.symm)] at h1
   rw[aQ h0];omega
 ·intro h12;have:=(h.deep _ _ hd ?_).2 h12
  ·simp[this,fU]
  ·rcases h.kind _ _ hd with hk|hk
   ·have:=(h.file _ _ hd hk).1;rw[this] at hem; cases hem.1
   ·exact hk
 ·show(cV t.ae d s).length<=200
  rw[hw,xd h.ja.jd (o:=n) (by simp only[hi]; exact hd)]
  exact h.ae
def cF.mC{t:Tree}{cz:Int->Nat}{x d:Int}{n m:Node}{s:Bytes}(h:cF t cz x)(hd:find t.ae d=some n)(hk:n.kind=2)(he:fb n.aL s=none)(h64:n.aL.length<64)(hnm:Nm s)
  (hx:find t.ae x=some m) (hx1:x≠1) (hup:m.kind=2->m.up=d) (hdp:cz d<12) (hck:t.aj<1099511627776):cF (gz t d s x) cz 0:=by
 have hE:ou n.aL:=h.ja.aL n (bR hd).1;have hi:n.aq=d:=h.aq hd;have hcw:lK (t.aj+1)=t.aj+1:=fW (by have:=h.aj; omega) (by omega)
 have hw:gz t d s x=⟨ef t.ae { n with aL:=vK n.aL ⟨s,x,t.aj⟩ },t.next,t.aj+1⟩:=by simp only[gz,hd,bn,hcw]
 have hfn:fb n.aL (fg.mk s x t.aj).name=none:=he
 have hc:∀i,qk (gz t d s x).ae i=qk t.ae i+(if x=i then 1 else 0):=by
  intro i;have h1:=uD h.ja.jd { n with aL:=vK n.aL ⟨s,x,t.aj⟩ } i
  have h2:=Mt hE hfn i;rw[hw];have h3:aY t.ae n.aq=n:=by simp only[aY,hi,hd,bn]
  simp only[h3] at h1 h2 ⊢;omega
 have hff:∀i,find (gz t d s x).ae i=if i=d then some { n with aL:=vK n.aL ⟨s,x,t.aj⟩ } else find t.ae i:=by
  intro i;rw[hw];have:=fC h.ja.jd { n with aL:=vK n.aL ⟨s,x,t.aj⟩ } i
  rw[this];simp only[hi]
 refine h.gy (h.ja.mC d s x (by simp[aY,hd,he])) hd hff rfl rfl ?_ ?_ ?_ ?_ ?_ (fun _=>rfl) ?_ ?_ ?_ ?_ ?_
 ·intro hk1; omega
 ·exact h.dir _ _ hd
 ·intro e hem;rw[hw];rcases(za hE hfn).1 hem with rfl|hem
  ·exact⟨h.aj.1,by simp only; omega,hx1,hnm,m,hx,hup⟩
  ·obtain⟨a1,a2,a3,a4,a5⟩:=h.x9 _ _ e hd hem;exact⟨a1,by simp only; omega,a3,a4,a5⟩
 ·refine⟨?_,by simp only[uK hE hfn,aD,au,il,iW]; omega⟩
  rw[uK hE hfn];have hp:=(h.v8 _ _ hd).1;rw[<-cC (lf n.aL s) n.aL,dn] at hp;obtain⟨p1,p2,p3⟩:=hp;rw[dn];refine⟨p1,cd.2 ⟨fun a ha=>?_,p2⟩,fun a ha c hc=>?_⟩
  ·have:=(h.x9 _ _ a hd (dk ha)).2.1;simp only; omega
  ·rcases bC.1 hc with rfl|hc
   ·have:=(h.x9 _ _ a hd (dI ha)).2.1;simp only; omega
   ·exact p3 a ha c hc
 ·intro i h0;have h1:=hc i;rw[aQ (show i≠0 by omega)]
  have e1:(if i=d then (n.dz-n.dz:Int) else 0)=0:=by split<;>omega
  simp only[e1]
  by_cases h0:i=x
  ·subst h0;simp only[↓reduceIte] at h1 ⊢;omega
  ·rw[aQ (fun hh=>h0 hh.symm)] at h1
   rw[aQ h0];omega
 ·intro h12; omega
 ·rw[hw];simp only;rw[xd h.ja.jd (o:=n) (by simp only[hi]; exact hd)]
  exact h.ae
 ·rw[hw]
 ·rw[hw]; simp only; omega
 ·rw[hw]; simp only; omega
def cF.Pj{t:Tree}{cz:Int->Nat}{x x' d:Int}{n n':Node}(h:cF t cz x)(hd:find t.ae d=some n)(hk:n.kind=1)(hi':n'.aq=d)(hk':n'.kind=1)(hu:n'.up=n.up)(he:n'.aL=n.aL)(hda:n'.data.length<=4096)
  (hx:∀i:Int,1<=i->(if i=x' then 1 else 0:Int)=(if i=x then 1 else 0)+(if i=d then n'.dz-n.dz else 0)):cF ⟨ef t.ae n',t.next,t.aj⟩ cz x':=by
 have hi:n.aq=d:=h.aq hd;have hE:ou n'.aL:=by rw[he]; exact h.ja.aL n (bR hd).1
 have hff:∀i,find (ef t.ae n') i=if i=d then some n' else find t.ae i:=by
  intro i;rw[fC h.ja.jd n' i,hi']
 obtain⟨f1,f2,f3⟩:=h.file _ _ hd hk;refine h.gy (h.ja.with hE t.next t.aj) hd hff (by omega) hu ?_ ?_ ?_ ?_ ?_ ?_ ?_ ?_ rfl (cZ _) h.aj.2
 ·intro _; exact⟨by rw[he]; exact f1,hda⟩
 ·intro h2; omega
 ·intro e hem; rw[he,f1] at hem; cases hem
 ·rw[he,f1]; exact⟨List.Pairwise.nil,by simp⟩
 ·intro i h0;have h1:=uD h.ja.jd n' i;have h2:=hx i h0;simp only[aY,hi',hd,bn,he] at h1;simp only;omega
 ·intro h2; omega
 ·intro _; rw[he,f1]
 ·simp only;rw[xd h.ja.jd (o:=n) (by simp only[hi']; exact hd)]
  exact h.ae
def cF.named{t:Tree}{cz:Int->Nat}{x:Int}(h:cF t cz x){i:Int}{n:Node}(hi:find t.ae i=some n)(hk:n.kind=2)(h1:i≠1)(hx:i≠x):∃p e,find t.ae n.up=some p/\p.kind=2/\e∈p.aL/\e.aq=i:=by
 have a:=h.dz _ _ hi;have b:=h.one _ _ hi hk h1;rw[aQ hx] at a;obtain⟨m,e,e1,e2,e3⟩:=si.1 (show 0<qk t.ae i by omega)
 have hm:find t.ae m.aq=some m:=(eD h.ja.jd).2 ⟨e1,rfl⟩;obtain⟨_,_,_,_,k,k1,k2⟩:=h.x9 _ _ e hm e2;rw[e3,hi] at k1; cases k1;obtain⟨_,p,p1,p2⟩:=h.n9 _ _ hi hk h1;rw[k2 hk] at p1 ⊢;rw[hm] at p1; cases p1;exact⟨m,e,hm,p2,e2,e3⟩
def cF.drop{t:Tree}{cz:Int->Nat}{x k:Int}{n:Node}(h:cF t cz x)(hx:x=k\/x=0)(hk:find t.ae k=some n)(he:n.aL=[])(h1:k≠1)(hc:qk t.ae k=0):cF ⟨fz t.ae k,t.next,t.aj⟩ cz 0:=by
 have hff:∀i m,find (fz t.ae k) i=some m↔i≠k/\find t.ae i=some m:=by
  intro i m;rw[kW h.ja.jd];split<;>simp_all
 have hcn:∀i,qk (fz t.ae k) i=qk t.ae i:=by
  intro i;have:=E7 h.ja.jd k i;simp only[aY,hk,bn,he,uC] at this;omega
 have hno:∀i m e,find t.ae i=some m->e∈m.aL->e.aq≠k:=by
  intro i m e hm hem hh;have:=si.2 ⟨m,e,(bR hm).1,hem,hh⟩;omega
 refine⟨h.ja.tZ k t.next t.aj,?_,?_,?_,?_,?_,?_,?_,?_,?_,h.yL,?_,?_,?_,h.next,h.aj⟩
 ·obtain⟨r,r1,r2⟩:=h.root;exact⟨r,(hff _ _).2 ⟨fun hh=>h1 hh.symm,r1⟩,r2⟩
 ·intro i m hm; exact h.num _ _ ((hff _ _).1 hm).2
 ·intro i m hm; exact h.kind _ _ ((hff _ _).1 hm).2
 ·intro i m hm; exact h.file _ _ ((hff _ _).1 hm).2
 ·intro i m hm; exact h.dir _ _ ((hff _ _).1 hm).2
 ·intro i m e hm hem;have hm':=((hff _ _).1 hm).2;obtain⟨a1,a2,a3,a4,q,a5,a6⟩:=h.x9 _ _ e hm' hem;exact⟨a1,a2,a3,a4,q,(hff _ _).2 ⟨hno _ _ e hm' hem,a5⟩,a6⟩
 ·intro i m hm; exact h.v8 _ _ ((hff _ _).1 hm).2
 ·intro i m hm;obtain⟨m1,m2⟩:=(hff _ _).1 hm;have:=h.dz _ _ m2;have h0:=(h.num _ _ m2).1;rw[aQ (show i≠0 by omega)]
  rw[aQ (by rcases hx with rfl|rfl<;>omega)] at this
  simp only[hcn];exact this
 ·intro i m hm; exact h.one _ _ ((hff _ _).1 hm).2
 ·intro i m hm hk2 hi1;obtain⟨m1,m2⟩:=(hff _ _).1 hm;obtain⟨a,p,b,c⟩:=h.n9 _ _ m2 hk2 hi1;refine⟨a,p,(hff _ _).2 ⟨fun hh=>?_,b⟩,c⟩
  have h0:=(h.num _ _ m2).1;obtain⟨q,e,q1,_,q3,_⟩:=h.named m2 hk2 hi1 (by rcases hx with rfl|rfl<;>omega)
  rw[hh,hk] at q1; cases q1;rw[he] at q3; cases q3
 ·intro i m hm; exact h.deep _ _ ((hff _ _).1 hm).2
 ·exact aV (bZ _ _) h.ae
def cF.amh{t:Tree}{cz dep':Int->Nat}{x to:Int}{n p:Node}(h:cF t cz x)(hx:find t.ae x=some n)(hk:n.kind=2)(hx1:x≠1)(hp:find t.ae to=some p)(hpk:p.kind=2)
  (h1:dep' 1=0) (hds:∀i m,find t.ae i=some m->m.kind=2->i≠1->i≠x->dep' i=dep' m.up+1) (hdx:dep' x=dep' to+1)
  (hdeep:∀i m,find t.ae i=some m->m.kind=2->dep' i<=12/\(dep' i=12->m.aL=[])):cF ⟨ef t.ae { n with up:=to },t.next,t.aj⟩ dep' x:=by
 have hi:n.aq=x:=h.aq hx
 have hff:∀i,find (ef t.ae { n with up:=to }) i=if i=x then some { n with up:=to } else find t.ae i:=by
  intro i;rw[fC h.ja.jd { n with up:=to } i]
  simp only[hi]
 have oq:∀j m,find t.ae j=some m->∃m',find (ef t.ae { n with up:=to }) j=some m'/\m'.kind=m.kind/\(j≠x->m'.up=m.up):=by
  intro j m hm;rw[hff];split
  ·rename_i he;subst he;rw[hx] at hm; cases hm;exact⟨_,rfl,rfl,fun hh=>absurd rfl hh⟩
  ·exact⟨m,hm,rfl,fun _=>rfl⟩
 have back:∀j m',find (ef t.ae { n with up:=to }) j=some m'->(j=x/\m'={ n with up:=to })\/(j≠x/\find t.ae j=some m'):=by
  intro j m' hm;rw[hff] at hm;split at hm
  ·rename_i he; injection hm with hm; exact .inl ⟨he,hm.symm⟩
  ·rename_i he; exact .inr ⟨he,hm⟩
 have hcn:∀i,qk (ef t.ae { n with up:=to }) i=qk t.ae i:=by
  intro i;have:=uD h.ja.jd { n with up:=to } i
  have h3:aY t.ae n.aq=n:=by simp only[aY,hi,hx,bn]
  simp only[h3] at this;omega
 have hc0:qk t.ae x=0:=by
  have a:=h.dz _ n hx;have b:=h.one _ n hx hk hx1;simp only[↓reduceIte] at a;omega
 have hno:∀i m e,find t.ae i=some m->e∈m.aL->e.aq≠x:=by
  intro i m e hm hem hh;have:=si.2 ⟨m,e,(bR hm).1,hem,hh⟩;omega
 have hent:∀i m e,find t.ae i=some m->e∈m.aL->1<=e.aj/\e.aj<t.aj/\e.aq≠1/\Nm e.name/\∃m,find (ef t.ae { n with up:=to }) e.aq=some m/\(m.kind=2->m.up=i):=by
  intro i m e hm hem;obtain⟨a1,a2,a3,a4,q,a5,a6⟩:=h.x9 _ _ e hm hem;obtain⟨q',j1,j2,j3⟩:=oq _ _ a5;exact⟨a1,a2,a3,a4,q',j1,fun hk=>by rw[j3 (hno _ _ e hm hem)]; exact a6 (by omega)⟩
 refine⟨h.ja.with (n:={ n with up:=to }) (h.ja.aL n (bR hx).1) t.next t.aj,?_,?_,?_,?_,?_,?_,?_,?_,?_,h1,?_,?_,?_,h.next,h.aj⟩
 ·obtain⟨r,r1,r2,r3⟩:=h.root;obtain⟨r',k1,k2,k3⟩:=oq _ _ r1;exact⟨r',k1,by omega,by rw[k3 (fun hh=>hx1 hh.symm)]; exact r3⟩
 ·intro i m hm;rcases back i m hm with ⟨rfl,rfl⟩|⟨_,hm⟩
  ·exact h.num _ n hx
  ·exact h.num _ _ hm
 ·intro i m hm;rcases back i m hm with ⟨rfl,rfl⟩|⟨_,hm⟩
  ·exact h.kind _ n hx
  ·exact h.kind _ _ hm
 ·intro i m hm hk1;rcases back i m hm with ⟨rfl,rfl⟩|⟨_,hm⟩
  ·simp only at hk1; omega
  ·exact h.file _ _ hm hk1
 ·intro i m hm hk1;rcases back i m hm with ⟨rfl,rfl⟩|⟨_,hm⟩
  ·exact h.dir _ n hx hk
  ·exact h.dir _ _ hm hk1
 ·intro i m e hm hem;rcases back i m hm with ⟨rfl,rfl⟩|⟨_,hm⟩
  ·exact hent _ n e hx hem
  ·exact hent _ _ e hm hem
 ·intro i m hm;rcases back i m hm with ⟨rfl,rfl⟩|⟨_,hm⟩
  ·exact h.v8 _ n hx
  ·exact h.v8 _ _ hm
 ·intro i m hm;simp only[hcn];rcases back i m hm with ⟨rfl,rfl⟩|⟨_,hm⟩
  ·exact h.dz _ n hx
  ·exact h.dz _ _ hm
 ·intro i m hm hk1 hi1;rcases back i m hm with ⟨rfl,rfl⟩|⟨_,hm⟩
  ·exact h.one _ n hx hk hi1
  ·exact h.one _ _ hm hk1 hi1
 ·intro i m hm hk1 hi1;rcases back i m hm with ⟨rfl,rfl⟩|⟨hne,hm⟩
  ·obtain⟨p',k1,k2,_⟩:=oq _ _ hp;exact⟨hdx,p',k1,by omega⟩
  ·obtain⟨_,q,b,c⟩:=h.n9 _ _ hm hk1 hi1;obtain⟨q',k1,k2,_⟩:=oq _ _ b;exact⟨hds _ _ hm hk1 hi1 hne,q',k1,by omega⟩
 ·intro i m hm hk1;rcases back i m hm with ⟨rfl,rfl⟩|⟨_,hm⟩
  ·exact hdeep _ n hx hk
  ·exact hdeep _ _ hm hk1
 ·simp only;rw[xd h.ja.jd (o:=n) (by simp only[hi]; exact hx)]
  exact h.ae
def cF.made{t:Tree}{cz:Int->Nat}{d kind:Int}{p:Node}(h:cF t cz 0)(hp:find t.ae d=some p)(hpk:p.kind=2)(hk:kind=1\/kind=2)(hdp:cz d<12)(hl:t.ae.length<200)(hn:t.next<1099511627776) :
  cF ⟨ef t.ae ⟨t.next,kind,1,[],[],if kind==2 then d else 0⟩,t.next+1,t.aj⟩ (fun i=>if i=t.next then cz d+1 else cz i) t.next:=by
 have je:find t.ae t.next=none:=by
  cases hz:find t.ae t.next with
  |none=>rfl
  |some m=>have:=h.num _ _ hz; omega
 have hnx:2<=t.next:=by
  obtain⟨r,r1,_⟩:=h.root;have:=(h.num _ _ r1).2; omega
 generalize hn':Node.mk t.next kind 1 [] [] (if kind==2 then d else 0)=n'
 have i1:n'.aq=t.next:=by rw[<-hn']
 have i2:n'.kind=kind:=by rw[<-hn']
 have i3:n'.dz=1:=by rw[<-hn']
 have i4:n'.data=[]:=by rw[<-hn']
 have i5:n'.aL=[]:=by rw[<-hn']
 have i6:n'.up=if kind==2 then d else 0:=by rw[<-hn']
 have hff:∀i,find (ef t.ae n') i=if i=t.next then some n' else find t.ae i:=by
  intro i;rw[fC h.ja.jd n' i,i1]
 have oq:∀j m,find t.ae j=some m->find (ef t.ae n') j=some m/\j≠t.next:=by
  intro j m hm;have:=(h.num _ _ hm).2;rw[hff,aQ (by omega)]
  exact⟨hm,by omega⟩
 have back:∀j m',find (ef t.ae n') j=some m'->(j=t.next/\m'=n')\/(j≠t.next/\find t.ae j=some m'):=by
  intro j m' hm;rw[hff] at hm;split at hm
  ·rename_i he; injection hm with hm; exact .inl ⟨he,hm.symm⟩
  ·rename_i he; exact .inr ⟨he,hm⟩
 have hcn:∀i,qk (ef t.ae n') i=qk t.ae i:=by
  intro i;have:=uD h.ja.jd n' i;simp only[aY,i1,je,iY,Node.zero,i5,uC] at this;omega
 have hc0:qk t.ae t.next=0:=by
  rcases fA (qk t.ae t.next) with h0|h0
  ·exact h0
  ·obtain⟨m,e,e1,e2,e3⟩:=si.1 h0;obtain⟨_,_,_,_,k,k1,_⟩:=h.x9 _ _ e ((eD h.ja.jd).2 ⟨e1,rfl⟩) e2;rw[e3,je] at k1; cases k1
 refine⟨h.ja.with (n:=n') (by rw[i5]; exact List.Pairwise.nil) _ _,?_,?_,?_,?_,?_,?_,?_,?_,?_,?_,?_,?_,?_,?_,h.aj⟩
 ·obtain⟨r,r1,r2⟩:=h.root;exact⟨r,(oq _ _ r1).1,r2⟩
 ·intro i m hm;simp only;rcases back i m hm with ⟨rfl,rfl⟩|⟨_,hm⟩
  ·omega
  ·have:=h.num _ _ hm; omega
 ·intro i m hm;rcases back i m hm with ⟨rfl,rfl⟩|⟨_,hm⟩
  ·rw[i2]; exact hk
  ·exact h.kind _ _ hm
 ·intro i m hm hk1;rcases back i m hm with ⟨rfl,rfl⟩|⟨_,hm⟩
  ·rw[i2] at hk1;exact⟨i5,by rw[i6,hk1]; rfl,by rw[i4]; simp⟩
  ·exact h.file _ _ hm hk1
 ·intro i m hm hk1;rcases back i m hm with ⟨rfl,rfl⟩|⟨_,hm⟩
  ·exact i4
  ·exact h.dir _ _ hm hk1
 ·intro i m e hm hem;rcases back i m hm with ⟨rfl,rfl⟩|⟨_,hm⟩
  ·rw[i5] at hem; cases hem
  ·obtain⟨a1,a2,a3,a4,q,a5,a6⟩:=h.x9 _ _ e hm hem;exact⟨a1,a2,a3,a4,q,(oq _ _ a5).1,a6⟩
 ·intro i m hm;rcases back i m hm with ⟨rfl,rfl⟩|⟨_,hm⟩
  ·rw[i5]; exact⟨List.Pairwise.nil,by simp⟩
  ·exact h.v8 _ _ hm
 ·intro i m hm;simp only[hcn];rcases back i m hm with ⟨rfl,rfl⟩|⟨hne,hm⟩
  ·rw[hc0,i3]; simp
  ·rw[aQ hne];have:=h.dz _ _ hm;rw[aQ (by have:=(h.num _ _ hm).1; omega)] at this
   exact this
 ·intro i m hm hk1 hi1;rcases back i m hm with ⟨rfl,rfl⟩|⟨_,hm⟩
  ·exact i3
  ·exact h.one _ _ hm hk1 hi1
 ·show(if (1:Int)=t.next then cz d+1 else cz 1)=0
  rw[aQ (by omega)]; exact h.yL
 ·intro i m hm hk1 hi1
  show(if i=t.next then cz d+1 else cz i)=(if m.up=t.next then cz d+1 else cz m.up)+1/\_
  rcases back i m hm with ⟨rfl,rfl⟩|⟨hne,hm⟩
  ·rw[i2] at hk1;have hu:m.up=d:=by rw[i6,hk1]; rfl
   rw[hu,bh rfl,aQ (oq _ _ hp).2];exact⟨rfl,p,(oq _ _ hp).1,hpk⟩
  ·obtain⟨a,q,b,c⟩:=h.n9 _ _ hm hk1 hi1;rw[aQ hne,aQ (oq _ _ b).2];exact⟨a,q,(oq _ _ b).1,c⟩
 ·intro i m hm hk1
  show(if i=t.next then cz d+1 else cz i)<=12/\((if i=t.next then cz d+1 else cz i)=12->_)
  rcases back i m hm with ⟨rfl,rfl⟩|⟨hne,hm⟩
  ·rw[bh rfl]; exact⟨by omega,fun _=>i5⟩
  ·rw[aQ hne]; exact h.deep _ _ hm hk1
 ·have:=EJ t.ae n';simp only; omega
 ·simp only; omega
def cover:∀(k:Nat)(l:List Nat),(∀j,j<k->j∈l)->k<=l.length
 |0,_,_=>cS _
 |k+1,l,h=>by
  have hk:=h k (by omega)
  have:=cover k (l.erase k) (fun j hj=>(List.mem_erase_of_ne (by omega)).2 (h j (by omega)))
  rw[List.length_erase_of_mem hk] at this;have:=List.length_pos_of_mem hk;omega
def cF.ams{t:Tree}{cz:Int->Nat}{x:Int}(h:cF t cz x):∀(m:Nat)(i:Int)(n:Node),find t.ae i=some n->n.kind=2->cz i=m->∀k,k<=m->∃j p,find t.ae j=some p/\cz j=k:=by
 intro m;induction m with
 |zero=>intro i n hi _ hm k hk; exact⟨i,n,hi,by omega⟩
 |succ m ih =>
  intro i n hi hk2 hm k hk;rcases Nat.eq_or_lt_of_le hk with rfl|cn
  ·exact⟨i,n,hi,hm⟩
  ·have h1:i≠1:=fun hh=>by subst hh; have:=h.yL; omega
   obtain⟨a,p,b,c⟩:=h.n9 _ _ hi hk2 h1;exact ih _ p b c (by omega) k (by omega)
def cF.zO{t:Tree}{cz:Int->Nat}{x:Int}(h:cF t cz x){i:Int}{n:Node}(hi:find t.ae i=some n)(hk:n.kind=2):cz i<t.ae.length:=by
 have:=cover (cz i+1) (t.ae.map fun n=>cz n.aq) (fun j hj=>by
  obtain⟨a,p,h1,h2⟩:=h.ams _ _ _ hi hk rfl j (by omega)
  rw[cE];exact⟨p,(bR h1).1,by rw[(bR h1).2,h2]⟩)
 rw[fT] at this;omega
def cF.Jc{t:Tree}{cz:Int->Nat}{x:Int}(h:cF t cz x):∀(m:Nat)(i:Int)(d:Nat)(n:Node),find t.ae i=some n->n.kind=2->cz i<=m->vi t.ae m i d=d+cz i:=by
 intro m;induction m with
 |zero=>intro i d n _ _ hd; simp only[vi]; omega
 |succ m ih =>
  intro i d n hi hk hd;simp only[vi];split
  ·rename_i h1; subst h1; have:=h.yL; omega
  ·rename_i h1;obtain⟨a,p,b,c⟩:=h.n9 _ _ hi hk h1;have hu:NQ t.ae i=n.up:=by simp[NQ,hi]
   rw[hu,ih _ _ p b c (by omega)]
   omega
def cF.o8{t:Tree}{cz:Int->Nat}{x:Int}(h:cF t cz x){i:Int}{n:Node}(hi:find t.ae i=some n)(hk:n.kind=2):oT t.ae i=cz i:=by
 have:=h.Jc 201 i 0 n hi hk (by have:=(h.deep _ _ hi hk).1; omega)
 simp only[oT,this]; omega
def cF.xt{t:Tree}{cz:Int->Nat}{x:Int}(h:cF t cz x):∀(m:Nat)(i:Int)(out:List Int)(n:Node),find t.ae i=some n->n.kind=2->cz i<=m->(qF t.ae m i out).length=out.length+cz i:=by
 intro m;induction m with
 |zero=>intro i out n _ _ hd; simp only[qF]; omega
 |succ m ih =>
  intro i out n hi hk hd;simp only[qF]
  by_cases h1:i=1
  ·subst h1; have:=h.yL; simp; omega
  ·obtain⟨a,p,b,c⟩:=h.n9 _ _ hi hk h1;simp only[mj,ne_eq,h1,lV,↓reduceIte,aY,hi,bW,di,bn,hk,an,eR,af];rw[ih _ _ p b c (by omega)]
   simp only[aD,au,av];omega
def cF.rR{t:Tree}{cz:Int->Nat}{x:Int}(h:cF t cz x){i:Int}{n:Node}(hi:find t.ae i=some n)(hk:n.kind=2):(rf t.ae i).length=cz i+1:=by
 have:=h.xt t.ae.length i [i] n hi hk (by have:=h.zO hi hk; omega)
 simp only[rf,this,au,av]; omega
def cF.U9{t:Tree}{cz:Int->Nat}{x:Int}(_:cF t cz x){i:Int}{n:Node}(hi:find t.ae i=some n):NQ t.ae i=n.up:=by simp[NQ,hi]
def cF.BV{t:Tree}{cz:Int->Nat}{x:Int}(h:cF t cz x)(of:Int):∀(m:Nat)(i:Int)(n:Node),find t.ae i=some n->n.kind=2->cz i<m->lZ t.ae of m i=lZ t.ae of (cz i+1) i:=by
 intro m;induction m with
 |zero=>intro i n _ _ hd; omega
 |succ m ih =>
  intro i n hi hk hd
  by_cases h1:i=1
  ·subst h1; simp only[lZ]; split<;>rfl
  ·obtain⟨a,p,b,c⟩:=h.n9 _ _ hi hk h1;simp only[lZ,h1,↓reduceIte,h.U9 hi];rw[ih _ p b c (by omega),a]
def cF.ka{t:Tree}(i:Int):hU t.ae i i=true:=by simp[hU,lZ]
def cF.nz{t:Tree}{of:Int}(h1:of≠1):hU t.ae 1 of=false:=by
 simp only[hU,lZ];rw[aQ (fun hh=>h1 hh.symm)]
 rfl
def cF.po{t:Tree}{cz:Int->Nat}{x:Int}(h:cF t cz x){of i:Int}{n:Node}(hi:find t.ae i=some n)(hk:n.kind=2)(h1:i≠1)(ho:i≠of):hU t.ae i of=hU t.ae n.up of:=by
 obtain⟨a,p,b,c⟩:=h.n9 _ _ hi hk h1;have d1:=h.zO b c;have d2:=h.zO hi hk;simp only[hU];rw[h.BV of _ _ p b c (by omega)]
 rw[h.BV of _ _ n hi hk (by omega)]
 conv=>lhs; rw[lZ]
 simp only[ho,h1,↓reduceIte,h.U9 hi];rw[a]
def cF.zJ{t:Tree}{cz:Int->Nat}{x:Int}(h:cF t cz x){of:Int}:∀(m:Nat)(i:Int)(n:Node),find t.ae i=some n->n.kind=2->cz i=m->hU t.ae i of=true->cz of<=cz i:=by
 intro m;induction m with
 |zero =>
  intro i n hi hk hm hb
  by_cases h1:i=1
  ·by_cases h2:of=1
   ·subst h1; subst h2; exact aC _
   ·subst h1; rw[cF.nz h2] at hb; cases hb
  ·obtain⟨a,_⟩:=h.n9 _ _ hi hk h1;omega
 |succ m ih =>
  intro i n hi hk hm hb;have h1:i≠1:=fun hh=>by subst hh; have:=h.yL; omega
  obtain⟨a,p,b,c⟩:=h.n9 _ _ hi hk h1
  by_cases ho:i=of
  ·subst ho; exact aC _
  ·rw[h.po hi hk h1 ho] at hb;have:=ih _ p b c (by omega) hb
   omega
def ze{α:Type}[DecidableEq α]:∀(l k:List α),l.Nodup->(∀x,x∈l->x∈k)->l.length<=k.length
 | [],_,_,_=>cS _
 |a::l,k,h,hs=>by
  have ha:=hs a bj;obtain⟨h1,h2⟩:=lr.1 h;have:=ze l (k.erase a) h2 (fun x hx=>(List.mem_erase_of_ne (by rintro rfl; exact h1 hx)).2 (hs x (aX _ hx)))
  rw[List.length_erase_of_mem ha] at this;have:=List.length_pos_of_mem ha;simp only[au];omega
def cF.few{t:Tree}{cz:Int->Nat}{x:Int}(h:cF t cz x){i:Int}{n:Node}(hi:find t.ae i=some n):n.aL.length<=64:=(h.v8 _ _ hi).2
def OZ(i:Int):∀(ns:List Node),(∀n,n∈ns->n.aL.length<=64)->qk ns i<=64*ns.length
 | [],_=>cS _
 |n::ns,h=>by
  have h1:=OZ i ns (fun m hm=>h m (aX _ hm))
  have h2:o7 n.aL i<=n.aL.length:=mh;have h3:=h n bj;rw[rB,au];omega
def cF.I5{t:Tree}{cz:Int->Nat}{x:Int}(h:cF t cz x)(i:Int):qk t.ae i<=12800:=by
 have:=OZ i t.ae (fun n hn=>h.few ((eD h.ja.jd).2 ⟨hn,rfl⟩))
 have:=h.ae;omega
def cF.wg{t:Tree}{cz:Int->Nat}{x:Int}(h:cF t cz x){i:Int}{n:Node}(hi:find t.ae i=some n){e:fg}(he:e∈n.aL):e.aq≠i:=by
 intro hh;obtain⟨_,_,h1,_,m,hm,hu⟩:=h.x9 _ _ e hi he;rw[hh,hi] at hm; cases hm
 have hk:n.kind=2:=by
  rcases h.kind _ _ hi with hk|hk
  ·rw[(h.file _ _ hi hk).1] at he; cases he
  ·exact hk
 have:=(h.n9 _ _ hi hk (by omega)).1
 rw[hu hk] at this;omega
def GB{t:Tree}{aq:Int}{s:Bytes}(h:(nP t aq s != 0)=false):∃d,find t.ae aq=some d/\d.kind=2/\fD s=true/\fb d.aL s=none/\d.aL.length<64/\oT t.ae aq<12/\t.aj<1099511627776:=by
 have h0:nP t aq s=0:=by simpa using h
 unfold nP at h0;split at h0
 ·rename_i h1; exact absurd h0 h1
 ·rename_i h1;obtain⟨d,d1,d2,d3⟩:=x7 (show(gA t.ae aq).2=0 by omega)
  rw[d3] at h0;split at h0
  ·cases h0
  ·rename_i h2;split at h0
   ·cases h0
   ·rename_i h3;split at h0
    ·cases h0
    ·rename_i h4;simp only[Cj,(bR d1).2,dj,ba,mL] at h4;refine⟨d,d1,d2,by simpa using h2,by simpa using h3,by omega,by omega,by omega⟩
def cF.cw{t:Tree}{cz:Int->Nat}{x:Int}(h:cF t cz x)(hn:t.next<1099511627776):lK (t.next+1)=t.next+1:=fW (by
 obtain⟨r,r1,_⟩:=h.root;have:=h.num _ _ r1; omega) (by omega)
def OC{t:Tree}{cz:Int->Nat}(h:cF t cz 0)(aq:Int)(s:Bytes)(kind:Int)(hs:fD s=true->Nm s):∃dep',cF (qR t aq s kind).1 dep' 0:=by
 unfold qR;split
 ·exact⟨cz,h⟩
 ·rename_i hk;split
  ·exact⟨cz,h⟩
  ·rename_i he;split
   ·exact⟨cz,h⟩
   ·rename_i hb;obtain⟨d,d1,d2,d3,d4,d5,d6,d7⟩:=GB (by simpa using he)
    simp only[dj,ba,mL] at hb;have hn:t.next<1099511627776:=by omega
    rw[h.o8 d1 d2] at d6
    have hk':kind=1\/kind=2:=by
     simp only[bm,mj,ne_eq,not_and,Decidable.not_not] at hk
     by_cases h1:kind=1
     ·exact .inl h1
     ·exact .inr (hk h1)
    have hm:=h.made d1 d2 hk' d6 (by omega) hn
    rw[h.cw hn];have cn:=(h.num _ _ d1).2;have hne:aq≠t.next:=by omega
    refine⟨_,hm.mC (d:=aq) (n:=d) (m:=⟨t.next,kind,1,[],[],if kind==2 then aq else 0⟩) ?_ d2 d4 (by simpa using d5) (hs d3) ?_ ?_ ?_ ?_ d7⟩
    ·simp only; rw[fC h.ja.jd]; simp only[hne,↓reduceIte]; exact d1
    ·simp only; rw[fC h.ja.jd]; simp only[↓reduceIte]
    ·have:=(h.num _ _ d1).1; omega
    ·intro h2;simp only at h2;simp[h2]
    ·simp only[hne,↓reduceIte]; exact d6
def XK{t:Tree}{cz:Int->Nat}(h:cF t cz 0)(aq to:Int)(s:Bytes)(hs:fD s=true->Nm s):cF (Bp t aq to s).1 cz 0:=by
 unfold Bp;split
 ·exact h
 ·rename_i hf;split
  ·exact h
  ·rename_i hk;split
   ·exact h
   ·rename_i he;obtain⟨d,d1,d2,d3,d4,d5,d6,d7⟩:=GB (by simpa using he)
    rw[h.o8 d1 d2] at d6;cases hi:find t.ae aq with
    |none=>simp[hi] at hf
    |some n =>
     simp only[aY,hi,bn] at hk ⊢
     have hk1:n.kind=1:=by
      rcases h.kind _ _ hi with h1|h1
      ·exact h1
      ·simp[h1] at hk
     have hlk:=h.dz _ _ hi;rw[aQ (by have:=(h.num _ _ hi).1; omega)] at hlk
     have hcl:=h.I5 aq;have hw:lK (n.dz+1)=n.dz+1:=fW (by omega) (by omega)
     rw[hw];obtain⟨f1,f2,f3⟩:=h.file _ _ hi hk1
     have hg:=h.Pj (n':={ n with dz:=n.dz+1 }) (x':=aq) hi hk1 (bR hi).2 hk1 rfl rfl f3 (fun i h0=>by
      simp only;rw[aQ (show i≠0 by omega)]
      split<;>omega)
     have hne:to≠aq:=fun hh=>by subst hh; rw[hi] at d1; cases d1; omega
     refine hg.mC (d:=to) (n:=d) (m:={ n with dz:=n.dz+1 }) ?_ d2 d4 (by simpa using d5) (hs d3) ?_ ?_ ?_ d6 d7
     ·simp only; rw[fC h.ja.jd]; simp only[h.aq hi,hne,↓reduceIte]; exact d1
     ·simp only; rw[fC h.ja.jd]; simp only[h.aq hi,↓reduceIte]
     ·intro hh; subst hh;obtain⟨r,r1,r2,_⟩:=h.root;rw[hi] at r1; cases r1; omega
     ·intro h2; simp only at h2; omega
def cF.unnamed{t:Tree}{cz:Int->Nat}{k:Int}{n:Node}(h:cF t cz k)(hk:find t.ae k=some n)(he:n.aL=[])(h1:k≠1):cF ⟨eF t.ae k,t.next,t.aj⟩ cz 0:=by
 unfold eF;simp only[aY,hk,bn];have hl:=h.dz _ _ hk;simp only[↓reduceIte] at hl;split
 ·rename_i h2;have:=h.one _ _ hk (by simpa using h2) h1
  exact h.drop (.inl rfl) hk he h1 (by omega)
 ·rename_i h2
  have hk1:n.kind=1:=by
   rcases h.kind _ _ hk with h1|h1
   ·exact h1
   ·simp[h1] at h2
  have hcl:=h.I5 k;have hw:lK (n.dz-1)=n.dz-1:=fW (by omega) (by omega)
  rw[hw];obtain⟨f1,f2,f3⟩:=h.file _ _ hk hk1
  exact h.Pj (n':={ n with dz:=n.dz-1 }) (x':=0) hk hk1 (bR hk).2 hk1 rfl rfl f3 (fun i h0=>by
   simp only;rw[aQ (show i≠0 by omega)]
   split<;>omega)
def cF.un{t:Tree}{cz:Int->Nat}(h:cF t cz 0){d:Int}{n m:Node}{s:Bytes}{e:fg}(hd:find t.ae d=some n)(he:fb n.aL s=some e)(hm:find t.ae e.aq=some m)(hm0:m.aL=[]):cF ⟨eF (cV t.ae d s) e.aq,t.next,t.aj⟩ cz 0:=by
 have hem:=(gY he).1;have hl:=h.left hd he;refine hl.unnamed (n:=m) ?_ hm0 (h.x9 _ _ e hd hem).2.2.1;simp only;rw[jo h.ja.jd hd,aQ (h.wg hd hem)];exact hm
def Zb{t:Tree}{cz:Int->Nat}(h:cF t cz 0)(aq:Int)(s:Bytes):cF (AA t aq s).1 cz 0:=by
 unfold AA;split
 ·exact h
 ·rename_i hl;obtain⟨d,e,d1,d2,d3,d4,d5⟩:=look_ok (by simpa using hl)
  rw[d5];split
  ·exact h
  ·rename_i h0;obtain⟨_,_,_,_,m,hm,_⟩:=h.x9 _ _ e d1 (gY d4).1;simp only[aY,hm,bn,ba] at h0;exact h.un d1 d4 hm (ck.1 (by omega))
def Uf{t:Tree}{cz:Int->Nat}(h:cF t cz 0)(aq:Int)(data:Bytes):cF (qt t aq data).1 cz 0:=by
 unfold qt;split
 ·exact h
 ·rename_i hf;split
  ·exact h
  ·rename_i hk;split
   ·exact h
   ·rename_i hd;cases hi:find t.ae aq with
    |none=>simp[hi] at hf
    |some n =>
     simp only[aY,hi,bn] at hk ⊢
     have hk1:n.kind=1:=by
      rcases h.kind _ _ hi with h1|h1
      ·exact h1
      ·simp[h1] at hk
     simp only[ba] at hd
     exact h.Pj (n':={ n with data:=data }) (x':=0) hi hk1 (bR hi).2 hk1 rfl rfl (by simp only; omega) (fun i h0=>by
      simp only;rw[aQ (show i≠0 by omega)]
      split<;>omega)
def DR{t:Tree}{cz:Int->Nat}(h:cF t cz 0)(aq:Int):cF (jU t aq).1 cz 0:=by
 unfold jU;split
 ·exact h
 ·rename_i hf;split
  ·exact h
  ·rename_i hk;split
   ·exact h
   ·rename_i hd;cases hi:find t.ae aq with
    |none=>simp[hi] at hf
    |some n =>
     simp only[aY,hi,bn] at hk hd
     have hk1:n.kind=1:=by
      rcases h.kind _ _ hi with h1|h1
      ·exact h1
      ·simp[h1] at hk
     simp only[ba] at hd;have hl:=h.dz _ _ hi;rw[aQ (by have:=(h.num _ _ hi).1; omega)] at hl
     refine h.drop (.inr rfl) hi (h.file _ _ hi hk1).1 ?_ (by omega)
     intro hh; subst hh;obtain⟨r,r1,r2,_⟩:=h.root;rw[hi] at r1; cases r1; omega
def Kl:∀ {a b:List Node},lL a->lL b->(∀m,m∈a↔m∈b)->a=b
 | [],[],_,_,_=>rfl
 | [],y::b,_,_,h=>by have:=(h y).2 bj; cases this
 |x::a,[],_,_,h=>by have:=(h x).1 bj; cases this
 |x::a,y::b,ha,hb,h=>by
  obtain⟨a1,a2⟩:=cd.1 ha;obtain⟨b1,b2⟩:=cd.1 hb
  have hxy:x=y:=by
   rcases bC.1 ((h x).1 bj) with h1|h1
   ·exact h1
   ·rcases bC.1 ((h y).2 bj) with h2|h2
    ·exact h2.symm
    ·have:=b1 x h1; have:=a1 y h2; omega
  subst hxy;rw[Kl a2 b2 (fun m=>?_)]
  constructor
  ·intro hm;rcases bC.1 ((h m).1 (aX _ hm)) with h1|h1
   ·subst h1; have:=a1 m hm; omega
   ·exact h1
  ·intro hm;rcases bC.1 ((h m).2 (aX _ hm)) with h1|h1
   ·subst h1; have:=b1 m hm; omega
   ·exact h1
def Po{a b:List Node}(ha:lL a)(hb:lL b)(h:∀i,find a i=find b i):a=b :=
 Kl ha hb fun m=>by
  constructor
  ·intro hm;have:=(eD ha).2 ⟨hm,rfl⟩;rw[h] at this;exact(bR this).1
  ·intro hm;have:=(eD hb).2 ⟨hm,rfl⟩;rw[<-h] at this;exact(bR this).1
def vr{ae:List Node}(h:lL ae)(k:Int):lL (eF ae k):=by
 unfold eF;split
 ·exact p8 h _
 ·exact kd h _
def lR{ae:List Node}(h:lL ae)(k:Int)(s:Bytes):lL (cV ae k s):=kd h _
def Hr(n:Node):Option Node:=if n.kind==2 then none else some { n with dz:=lK (n.dz-1) }
def rj{ae:List Node}(h:lL ae){k:Int}{n:Node}(hk:find ae k=some n)(i:Int):find (eF ae k) i=if i=k then Hr n else find ae i:=by
 unfold eF Hr;simp only[aY,hk,bn];split
 ·rw[kW h]
 ·rw[fC h];simp only[(bR hk).2]
def Jf(l:List fg)(a b:Bytes):fU (fU l a) b=fU (fU l b) a:=by
 simp only[fU,List.filter_filter];congr 1;funext e;rw[Bool.and_comm]
def U6{ae:List Node}(h:lL ae){f to y:Int}{s nm:Bytes}{dF dT m:Node}(hF:find ae f=some dF)(hT:find ae to=some dT)(hy:find ae y=some m)(h1:y≠f)(h2:y≠to) :
  eF (cV (cV ae f s) to nm) y=cV (eF (cV ae to nm) y) f s:=by
 have a1:=lR h f s;have a2:=lR h to nm;have a3:=lR a1 to nm;have a4:=vr a2 y;have f1:=jo h hF (s:=s);have f2:=jo h hT (s:=nm);have hy1:find (cV ae to nm) y=some m:=by rw[f2,aQ h2]; exact hy
 have f4:=rj a2 hy1;obtain⟨dT',hT'⟩:∃dT',find (cV ae f s) to=some dT':=by rw[f1]; split<;>simp_all
 have f3:=jo a1 hT' (s:=nm);have hy3:find (cV (cV ae f s) to nm) y=some m:=by rw[f3,aQ h2,f1,aQ h1]; exact hy
 have f5:=rj a3 hy3;obtain⟨dF',hF'⟩:∃dF',find (eF (cV ae to nm) y) f=some dF':=by rw[f4,aQ (fun hh=>h1 hh.symm),f2]; split<;>simp_all
 have f6:=jo a4 hF' (s:=s);refine Po (vr a3 y) (lR a4 f s) (fun i=>?_)
 rw[f5,f6,f4,f3];rw[f1] at hT';rw[f4,aQ (fun hh=>h1 hh.symm),f2] at hF'
 by_cases i1:i=y
 ·subst i1; simp[h1]
 ·simp only[i1,↓reduceIte]
  by_cases i2:i=to
  ·subst i2;simp only[↓reduceIte]
   by_cases i3:i=f
   ·subst i3;simp only[↓reduceIte] at hT' hF' ⊢;injection hT' with hT'; injection hF' with hF'
    rw[<-hT',<-hF'];rw[hF] at hT; cases hT;simp only[Jf]
   ·simp only[i3,↓reduceIte] at hT' ⊢;rw[f2]; simp only[↓reduceIte];rw[hT] at hT'; injection hT' with hT'; rw[hT']
  ·simp only[i2,↓reduceIte];rw[f1,f2]
   by_cases i3:i=f
   ·subst i3;simp only[↓reduceIte,i2] at hF' ⊢;rw[hF] at hF'; injection hF' with hF'; rw[hF']
   ·simp only[i3,i2,↓reduceIte]
def Gz{l:List fg}{s:Bytes}{e:fg}(h:fb l s=some e):(fU l s).length<l.length:=by
 obtain⟨h1,h2⟩:=gY h;refine Nat.lt_of_le_of_ne (bZ _ _) fun hh=>?_
 have:=List.length_filter_eq_length_iff.1 hh e h1;simp[h2] at this
def cF.abm{t:Tree}{cz dep':Int->Nat}{f to:Int}{s nm:Bytes}{dF dT m:Node}{e:fg}(h:cF t cz 0)(hF:find t.ae f=some dF)(he:fb dF.aL s=some e)(hT:find t.ae to=some dT)(hTk:dT.kind=2)(hfree:fb dT.aL nm=none)(hroom:to≠f->dT.aL.length<64)(hnm:Nm nm)
  (hm:find t.ae e.aq=some m) (hne:e.aq≠to) (hd12:dep' to<12) (hck:t.aj<1099511627776)
  (hcase:(m.kind=1/\dep'=cz)\/(m.kind=2/\dep' 1=0/\(∀i n,find t.ae i=some n->n.kind=2->i≠1->i≠e.aq->dep' i=dep' n.up+1)/\dep' e.aq=dep' to+1 /\
   ∀i n,find t.ae i=some n->n.kind=2->dep' i<=12/\(dep' i=12->n.aL=[]))):cF (pd t f s to nm e.aq 0) dep' 0:=by
 have hem:=(gY he).1;have hnf:e.aq≠f:=h.wg hF hem;have h1:e.aq≠1:=(h.x9 _ _ e hF hem).2.2.1;have hl:=h.left hF he;have fl:=jo h.ja.jd hF (s:=s);have hmx:find (cV t.ae f s) e.aq=some m:=by rw[fl,aQ hnf]; exact hm
 obtain⟨d1,g1,g2,g3,g4⟩:∃d1,find (cV t.ae f s) to=some d1/\d1.kind=2/\fb d1.aL nm=none/\d1.aL.length<64:=by
  rw[fl];split
  ·rename_i hh;subst hh;rw[hF] at hT; cases hT;exact⟨_,rfl,hTk,qZ hfree,bw (Gz he) (h.few hF)⟩
  ·rename_i hh;exact⟨dT,hT,hTk,hfree,hroom hh⟩
 have hnode:aY t.ae e.aq=m:=by simp[aY,hm]
 unfold pd;simp only[hnode,an,af,↓reduceIte];rcases hcase with ⟨hk,rfl⟩|⟨hk,c1,c2,c3,c4⟩
 ·rw[aQ (by simp[hk])]
  exact hl.mC g1 g2 g3 g4 hnm hmx h1 (fun h2=>by omega) hd12 hck
 ·rw[bh (by simp[hk])]
  have hs:=hl.amh (dep':=dep') hmx hk h1 g1 g2 c1 (fun i n hi hk2 hi1 hie=>by
    simp only[fl] at hi;split at hi
    ·rename_i hh; subst hh;cases hi;exact c2 i dF hF hk2 hi1 hie
    ·exact c2 _ _ hi hk2 hi1 hie) c3 (fun i n hi hk2=>by
    simp only[fl] at hi;split at hi
    ·rename_i hh; subst hh;cases hi;obtain⟨q1,q2⟩:=c4 i dF hF hk2;exact⟨q1,fun h12=>by simp[q2 h12,fU]⟩
    ·exact c4 _ _ hi hk2)
  have hmi:m.aq=e.aq:=(bR hm).2;have fw:=fC (lR h.ja.jd f s) { m with up:=to }
  refine hs.mC (n:=d1) (m:={ m with up:=to }) ?_ g2 g3 g4 hnm ?_ h1 (fun _=>rfl) hd12 hck
  ·simp only;rw[fw];rw[aQ (show ¬to=m.aq from fun hh=>hne (by omega))]
   exact g1
  ·simp only;rw[fw];simp only[hmi,↓reduceIte]
def ui(ae:List Node)(at' d:Int)(n:Node):Int :=
 if decide ((0:Int)<n.aL.length) then lK (lK (lK (at'+oT ae n.aq)-d)+1) else lK (lK (at'+oT ae n.aq)-d)
def G6(ae:List Node)(aq at' d:Int)(n:Node)(most:Int):most<=rG ae aq at' d n most/\((n.kind==2&&hU ae n.aq aq)=true->ui ae at' d n<=rG ae aq at' d n most):=by
 have e:rG ae aq at' d n most=if n.kind==2&&hU ae n.aq aq then (if ui ae at' d n>most then ui ae at' d n else most) else most:=rfl
 rw[e];split
 ·split
  ·exact⟨by omega,fun _=>cZ _⟩
  ·exact⟨cZ _,fun _=>by omega⟩
 ·rename_i h; exact⟨cZ _,fun hh=>absurd hh h⟩
def Aa(ae:List Node)(aq at' d:Int):∀(l:List Node)(most:Int),most<=vk ae aq at' d l most/\∀n,n∈l->(n.kind==2&&hU ae n.aq aq)=true->ui ae at' d n<=vk ae aq at' d l most
 | [],most=>⟨cZ _,fun n hn=>by cases hn⟩
 |m::l,most=>by
  obtain⟨h1,h2⟩:=Aa ae aq at' d l (rG ae aq at' d m most);obtain⟨h3,h4⟩:=G6 ae aq at' d m most;rw[vk];refine⟨by omega,fun n hn hb=>?_⟩
  rcases bC.1 hn with rfl|hn
  ·have:=h4 hb; omega
  ·exact h2 n hn hb
def pU(ae:List Node)(cz:Int->Nat)(x to:Int):Int->Nat:=fun i=>if hU ae i x then cz i+(cz to+1)-cz x else cz i
def cF.DW{t:Tree}{cz:Int->Nat}(h:cF t cz 0){x to i:Int}{m n:Node}(hx:find t.ae x=some m)(hk:m.kind=2)(hd:cz to<12)(hi:find t.ae i=some n)(hk2:n.kind=2)(hb:hU t.ae i x=true) :
  ui t.ae (((cz to+1:Nat):Int)) (cz x) n=((pU t.ae cz x to i+(if 0<n.aL.length then 1 else 0):Nat):Int):=by
 have d1:=(h.deep _ _ hi hk2).1;have d2:=(h.deep _ _ hx hk).1;have d3:=h.zJ _ i n hi hk2 rfl hb;have hdn:oT t.ae n.aq=cz i:=by rw[h.aq hi]; exact h.o8 hi hk2
 have w1:lK ((((cz to+1:Nat):Int))+(cz i:Nat))=(((cz to+1:Nat):Int))+(cz i:Nat):=fW (by omega) (by omega)
 have w2:lK ((((cz to+1:Nat):Int))+(cz i:Nat)-(cz x:Nat))=(((cz to+1:Nat):Int))+(cz i:Nat)-(cz x:Nat):=fW (by omega) (by omega)
 have w3:lK ((((cz to+1:Nat):Int))+(cz i:Nat)-(cz x:Nat)+1)=(((cz to+1:Nat):Int))+(cz i:Nat)-(cz x:Nat)+1:=fW (by omega) (by omega)
 unfold ui pU;rw[bh hb,hdn,w1,w2,w3]
 by_cases hl:0<n.aL.length
 ·rw[bh (by simpa using hl),bh hl]; omega
 ·rw[aQ (by simpa using hl),aQ hl]; omega
def cF.afU{t:Tree}{cz:Int->Nat}(h:cF t cz 0){x to:Int}{m dT:Node}(hx:find t.ae x=some m)(hk:m.kind=2)(hx1:x≠1)(hT:find t.ae to=some dT)(hTk:dT.kind=2)(hnb:hU t.ae to x=false)(hd:cz to<12)
  (hh:AR t.ae x (((cz to+1:Nat):Int))<=12) :
  pU t.ae cz x to 1=0/\(∀i n,find t.ae i=some n->n.kind=2->i≠1->i≠x->pU t.ae cz x to i=pU t.ae cz x to n.up+1)/\pU t.ae cz x to x=pU t.ae cz x to to+1 /\
   (∀i n,find t.ae i=some n->n.kind=2->pU t.ae cz x to i<=12/\(pU t.ae cz x to i=12->n.aL=[]))/\pU t.ae cz x to to=cz to:=by
 have hto:pU t.ae cz x to to=cz to:=by unfold pU; rw[aQ (by simp[hnb])]
 refine⟨?_,?_,?_,?_,hto⟩
 ·unfold pU;rw[aQ (by simp[cF.nz hx1])]
  exact h.yL
 ·intro i n hi hk2 hi1 hix;obtain⟨a,p,b,c⟩:=h.n9 _ _ hi hk2 hi1;have hb:=h.po hi hk2 hi1 hix;unfold pU;rw[hb];split
  ·rename_i hb2;have:=h.zJ _ _ p b c rfl hb2;omega
  ·exact a
 ·rw[hto];unfold pU;rw[bh (cF.ka x)];omega
 ·intro i n hi hk2
  by_cases hb:hU t.ae i x=true
  ·have h1:=(Aa t.ae x (((cz to+1:Nat):Int)) (oT t.ae x) t.ae 0).2 n (bR hi).1 (by rw[hk2,h.aq hi,hb]; rfl)
   rw[h.o8 hx hk,h.DW hx hk hd hi hk2 hb] at h1;unfold AR at hh;rw[h.o8 hx hk] at hh;have h2:=Int.le_trans h1 hh;split at h2
   ·rename_i hl;exact⟨by omega,fun h12=>by omega⟩
   ·rename_i hl;exact⟨by omega,fun _=>ck.1 (by omega)⟩
  ·have:pU t.ae cz x to i=cz i:=by unfold pU; rw[aQ hb]
   rw[this];exact h.deep _ _ hi hk2
def pR{l:List fg}{s r:Bytes}(h:r≠s):fb (fU l s) r=fb l r:=by
 unfold fb fU;rw[List.find?_filter];congr 1;funext e
 by_cases he:e.name=r
 ·have hn:e.name≠s:=he▸h;simp[he,h]
 ·simp[he]
structure Dj(t:Tree)(cz:Int->Nat)(f:Int)(s:Bytes)(to:Int)(nm:Bytes)(dF dT m:Node)(e:fg):Prop where
 hF:find t.ae f=some dF
 kF:dF.kind=2
 he:fb dF.aL s=some e
 hT:find t.ae to=some dT
 kT:dT.kind=2
 hn:fD nm=true
 hm:find t.ae e.aq=some m
 ne:e.aq≠to
 nf:e.aq≠f
 loop:m.kind=2->hU t.ae to e.aq=false
 deep:cz to<12
 high:m.kind=2->AR t.ae e.aq (((cz to+1:Nat):Int))<=12
 aj:t.aj<1099511627776
 room:fb dT.aL nm=none->to≠f->dT.aL.length<64
 YC:∀e2,fb dT.aL nm=some e2->e2.aq≠e.aq/\∃y,find t.ae e2.aq=some y/\y.aL=[]/\(m.kind=2↔y.kind=2)/\e2.aq≠f/\e2.aq≠to
def cF.mv{t:Tree}{cz:Int->Nat}(h:cF t cz 0){f:Int}{s:Bytes}{to:Int}{nm:Bytes}{dF dT m:Node}{e:fg}(hs:fD nm=true->Nm nm)(k:Dj t cz f s to nm dF dT m e):∃dep',cF (pd t f s to nm e.aq (eZ dT.aL nm)) dep' 0:=by
 have hem:=(gY k.he).1;have hx1:=(h.x9 _ _ e k.hF hem).2.2.1
 have hcase:∃dep':Int->Nat,dep' to<12/\((m.kind=1/\dep'=cz)\/(m.kind=2/\dep' 1=0/\(∀i n,find t.ae i=some n->n.kind=2->i≠1->i≠e.aq->dep' i=dep' n.up+1)/\dep' e.aq=dep' to+1 /\
   ∀i n,find t.ae i=some n->n.kind=2->dep' i<=12/\(dep' i=12->n.aL=[]))):=by
  rcases h.kind _ _ k.hm with hk|hk
  ·exact⟨cz,k.deep,.inl ⟨hk,rfl⟩⟩
  ·obtain⟨c1,c2,c3,c4,c5⟩:=h.afU k.hm hk hx1 k.hT k.kT (k.loop hk) k.deep (k.high hk);exact⟨pU t.ae cz e.aq to,by rw[c5]; exact k.deep,.inr ⟨hk,c1,c2,c3,c4⟩⟩
 obtain⟨dep',hd12,hcase⟩:=hcase;refine⟨dep',?_⟩;cases hfr:fb dT.aL nm with
 |none =>
  have hu:eZ dT.aL nm=0:=by simp[eZ,hfr]
  rw[hu];exact h.abm k.hF k.he k.hT k.kT hfr (k.room hfr) (hs k.hn) k.hm k.ne hd12 k.aj hcase
 |some e2 =>
  have hu:eZ dT.aL nm=e2.aq:=by simp[eZ,hfr]
  rw[hu];obtain⟨q1,y,q2,q3,q4,q5,q6⟩:=k.YC e2 hfr;have h1:=h.un k.hT hfr q2 q3;have a2:=lR h.ja.jd to nm;have f2:=jo h.ja.jd k.hT (s:=nm);have hy1:find (cV t.ae to nm) e2.aq=some y:=by rw[f2,aQ q6]; exact q2
  have f4:∀i,find (eF (cV t.ae to nm) e2.aq) i=if i=e2.aq then Hr y else if i=to then some { dT with aL:=fU dT.aL nm } else find t.ae i:=by
   intro i;rw[rj a2 hy1,f2]
  have hnn:aY (eF (cV t.ae to nm) e2.aq) e.aq=aY t.ae e.aq:=by
   simp only[aY];rw[f4,aQ (fun hh=>q1 hh.symm),aQ k.ne]
  have hy0:=(h.num _ _ q2).1
  have hmv:pd t f s to nm e.aq e2.aq=pd ⟨eF (cV t.ae to nm) e2.aq,t.next,t.aj⟩ f s to nm e.aq 0:=by
   unfold pd;simp only[hnn];rw[U6 h.ja.jd k.hF k.hT q2 q5 q6];have e1:(e2.aq != 0)=true:=by simp; omega
   simp only[e1,an,af,↓reduceIte]
  rw[hmv]
  have hsn:to=f->s≠nm:=fun hh hsn=>by
   subst hh; subst hsn;have:=k.hF; rw[k.hT] at this; cases this;have:=k.he; rw[hfr] at this; cases this;exact q1 rfl
  obtain⟨dF',g1,g2⟩:∃dF',find (eF (cV t.ae to nm) e2.aq) f=some dF'/\fb dF'.aL s=some e:=by
   rw[f4,aQ (fun hh=>q5 hh.symm)]
   split
   ·rename_i hh;refine⟨_,rfl,?_⟩;rw[pR (hsn hh.symm)];subst hh;have:=k.hF; rw[k.hT] at this; cases this;exact k.he
   ·exact⟨dF,k.hF,k.he⟩
  have back:∀i n,find (eF (cV t.ae to nm) e2.aq) i=some n->n.kind=2->∃n0,find t.ae i=some n0/\n0.kind=2/\n0.up=n.up/\(n0.aL=[]->n.aL=[]):=by
   intro i n hi hk;rw[f4] at hi;split at hi
   ·unfold Hr at hi;split at hi
    ·cases hi
    ·rename_i hh;cases hi;simp only at hk;simp[hk] at hh
   ·split at hi
    ·rename_i hh; subst hh;cases hi;exact⟨dT,k.hT,hk,rfl,fun h0=>by simp[h0,fU]⟩
    ·exact⟨n,hi,hk,rfl,fun h0=>h0⟩
  refine h1.abm (dep':=dep') g1 g2 (dT:={ dT with aL:=fU dT.aL nm }) ?_ k.kT (wh _ _) (fun _=>bw (Gz hfr) (h.few k.hT)) (hs k.hn) (m:=m) ?_ k.ne hd12 k.aj ?_
  ·simp only; rw[f4,aQ (fun hh=>q6 hh.symm),bh rfl]
  ·simp only; rw[f4,aQ (fun hh=>q1 hh.symm),aQ k.ne]; exact k.hm
  ·rcases hcase with hc|⟨hk,c1,c2,c3,c4⟩
   ·exact .inl hc
   ·refine .inr ⟨hk,c1,?_,c3,?_⟩
    ·intro i n hi hk2 hi1 hie;obtain⟨n0,b1,b2,b3,_⟩:=back i n hi hk2;rw[<-b3]; exact c2 i n0 b1 b2 hi1 hie
    ·intro i n hi hk2;obtain⟨n0,b1,b2,_,b4⟩:=back i n hi hk2;exact⟨(c4 i n0 b1 b2).1,fun h12=>b4 ((c4 i n0 b1 b2).2 h12)⟩
def cF.zero{t:Tree}{cz:Int->Nat}{x:Int}(h:cF t cz x):find t.ae 0=none:=by
 cases hz:find t.ae 0 with
 |none=>rfl
 |some m=>have:=h.num _ _ hz; omega
def Nf{t:Tree}{cz:Int->Nat}(h:cF t cz 0)(f:Int)(s:Bytes)(to:Int)(nm:Bytes) :
  ((vO t f s to nm).1=t/\(vO t f s to nm).2.1=0/\(vO t f s to nm).2.2≠0) \/
  (vO t f s to nm=(t,0,0)/\∃dF dT e e2,find t.ae f=some dF/\dF.kind=2/\fD s=true/\fb dF.aL s=some e/\eE t.ae f s=(e.aq,0)/\find t.ae to=some dT/\dT.kind=2/\fD nm=true/\fb dT.aL nm=some e2/\e2.aq=e.aq) \/
  ∃dF dT m e,Dj t cz f s to nm dF dT m e/\fD s=true/\eE t.ae f s=(e.aq,0)/\vO t f s to nm=(pd t f s to nm e.aq (eZ dT.aL nm),eZ dT.aL nm,0):=by
 unfold vO;split
 ·rename_i c1; exact .inl ⟨rfl,rfl,by simpa using c1⟩
 rename_i c1;split
 ·rename_i c2; exact .inl ⟨rfl,rfl,by simpa using c2⟩
 rename_i c2;split
 ·exact .inl ⟨rfl,rfl,by simp⟩
 rename_i c3;obtain⟨dF,e,e1,e2,e3,e4,e5⟩:=look_ok (by simpa using c1)
 obtain⟨dT,g1,g2,g3⟩:=x7 (show(gA t.ae to).2=0 by simpa using c2)
 have hem:=(gY e4).1;obtain⟨_,_,x1,_,m,hm,hup⟩:=h.x9 _ _ e e1 hem;have hnode:aY t.ae e.aq=m:=by simp[aY,hm]
 simp only[e5,g3,hnode];split
 ·rename_i c4;right; left;refine⟨rfl,dF,dT,e,?_⟩;have c4':eZ dT.aL nm=e.aq:=by simpa using c4
  cases hfr:fb dT.aL nm with
  |none=>simp only[eZ,hfr] at c4'; have:=(h.num _ _ hm).1; omega
  |some e2'=>simp only[eZ,hfr] at c4'; exact⟨e2',e1,e2,e3,e4,rfl,g1,g2,by simpa using c3,rfl,c4'⟩
 rename_i c4;split
 ·exact .inl ⟨rfl,rfl,by simp⟩
 rename_i c5;split
 ·rename_i c6; exact .inl ⟨rfl,rfl,by simpa using c6⟩
 rename_i c6;split
 ·exact .inl ⟨rfl,rfl,by simp⟩
 rename_i c7;right; right;have hdt:=h.o8 g1 g2;simp only[manyN,hdt,dj,bm,eG,ba,mL,not_and,mj] at c7;obtain⟨r1,r2,r3,r4⟩:=c7
 have hw:lK (((cz to:Nat):Int)+1)=((cz to+1:Nat):Int):=by
  have:=(h.deep _ _ g1 g2).1;rw[show(((cz to:Nat):Int)+1)=((cz to+1:Nat):Int) by omega]
  exact fW (by omega) (by omega)
 rw[hw] at r3;have hnf:=h.wg e1 hem
 have hne:e.aq≠to:=fun hh=>by
  rw[hh,g1] at hm; cases hm;simp only[g2,kL,dD] at c5;rw[hh,cF.ka] at c5;exact c5 rfl
 refine⟨dF,dT,m,e,⟨e1,e2,e4,g1,g2,by simpa using c3,hm,hne,hnf,?_,by omega,?_,by omega,?_,?_⟩,e3,rfl,rfl⟩
 ·intro hk;simpa[hk] using c5
 ·intro hk;have:=r3 hk; omega
 ·intro hfr hne;have hu:eZ dT.aL nm=0:=by simp[eZ,hfr]
  have:=r1 ⟨hu,hne⟩;omega
 ·intro e2' hfr;have hu:eZ dT.aL nm=e2'.aq:=by simp[eZ,hfr]
  rw[hu] at c4 c6;obtain⟨_,_,_,_,y,hy,_⟩:=h.x9 _ _ e2' g1 (gY hfr).1;have hny:aY t.ae e2'.aq=y:=by simp[aY,hy]
  have hto:=h.wg g1 (gY hfr).1;simp only[ud,hy,bW,di,af,↓reduceIte,hny,mj,ne_eq,Decidable.not_not] at c6;split at c6
  ·cases c6
  ·rename_i k1;split at c6
   ·cases c6
   ·rename_i k2;split at c6
    ·cases c6
    ·rename_i k3;have hy0:y.aL=[]:=ck.1 (by simpa using k3)
     refine⟨by simpa using c4,y,hy,hy0,?_,?_,hto⟩
     ·simp at k1 k2;constructor
      ·exact k1
      ·intro hy2;rcases h.kind _ _ hm with hk|hk
       ·exact absurd hy2 (k2 (by omega))
       ·exact hk
     ·intro hh;rw[hh,e1] at hy; cases hy;rw[hy0] at hem; cases hem
def Yz{t:Tree}{cz:Int->Nat}(h:cF t cz 0)(f:Int)(s:Bytes)(to:Int)(nm:Bytes)(hs:fD nm=true->Nm nm):∃dep',cF (vO t f s to nm).1 dep' 0:=by
 rcases Nf h f s to nm with ⟨h1,_⟩|⟨h1,_⟩|⟨dF,dT,m,e,k,_,_,hk⟩
 ·rw[h1]; exact⟨cz,h⟩
 ·rw[h1]; exact⟨cz,h⟩
 ·rw[hk]; exact h.mv hs k
def TD:cF vM (fun _=>0) 0:=by
 have hf:∀i n,find vM.ae i=some n->i=1/\n=⟨1,2,0,[],[],1⟩:=by
  intro i n hi;obtain⟨h1,h2⟩:=bR hi;simp[vM] at h1;subst h1;exact⟨h2.symm,rfl⟩
 refine⟨⟨?_,?_⟩,⟨_,rfl,rfl,rfl⟩,?_,?_,?_,?_,?_,?_,?_,?_,rfl,?_,?_,by simp[vM],by simp[vM],by simp[vM]⟩
 ·simp[vM,lL]
 ·intro n hn; simp[vM] at hn; subst hn; exact List.Pairwise.nil
 ·intro i n hi; obtain⟨rfl,rfl⟩:=hf i n hi; simp[vM]
 ·intro i n hi; obtain⟨rfl,rfl⟩:=hf i n hi; simp
 ·intro i n hi; obtain⟨rfl,rfl⟩:=hf i n hi; simp
 ·intro i n hi; obtain⟨rfl,rfl⟩:=hf i n hi; simp
 ·intro i n e hi he; obtain⟨rfl,rfl⟩:=hf i n hi; cases he
 ·intro i n hi; obtain⟨rfl,rfl⟩:=hf i n hi; exact⟨List.Pairwise.nil,by simp⟩
 ·intro i n hi; obtain⟨rfl,rfl⟩:=hf i n hi; simp[vM,qk,o7]
 ·intro i n hi _ h1; exact absurd (hf i n hi).1 h1
 ·intro i n hi _ h1; exact absurd (hf i n hi).1 h1
 ·intro i n hi; obtain⟨rfl,rfl⟩:=hf i n hi; simp
section
attribute [local irreducible] eW fQ lh gK dW kr ar aM cq bI
def uw:∀(d:Bytes),bytesOf (d.map pE)=some d
 | []=>rfl
 |b::d=>by
  rw[aP]
  show bI (bytesOf (d.map pE)) (fun l=>some (UInt8.ofNat ((b.toNat:Int)).toNat::l))=some (b::d)
  rw[uw d,bT];simp
def c99(a b:Bytes):ar bK 99 [cX a,cX b] []=some (.bool (a==b),[]):=by
 refine aw ?_;simp only[akk,E99,uw,EN,seval]
def k99 a b:=cP (c99 a b)
def apX(x y:fg):decide (x=y)=(x.name==y.name&&(x.aq==y.aq&&(x.aj==y.aj&&true))):=by
 cases x; cases y;simp only[fg.mk.injEq,gJ];rw[eJ];simp
def Pa(x y:fg):kl [.s,.i,.i] (fa x) (fa y)=some (decide (x=y)):=by
 rw[apX];simp only[fa,kl,jW,bT,↓reduceIte]
def OE(x:fg):(fa x).all ag.iM=true:=rfl
def anz(x:Node):(aF x).all ag.iM=true:=rfl
def XL{a b:List fg}(ha:a.length<=100000){k:List K}{R:Bool->Option (ag×aH)}
  (hx:∀e,kr (ar bK) [.tmp 4] 0 k ⟨.exit 0,e,[]⟩=R true) (hr:kr (ar bK) [.tmp 4] 0 k ⟨.ret,[(4,.bool false)],[]⟩=R false) :
  ∀(l m pre pre':List fg),a=pre++l->b=pre'++m->pre.length=pre'.length->l.length=m.length->eW (ar bK) [.tmp 4] 0 k (.loop [0,1,12,13] WT) [(0,gS a),(1,gS b),(12,aE a.length),(13,aE pre.length)] []=R (decide (l=m)):=by
 intro l;induction l with
 |nil =>
  intro m pre pre' h h' hp hl;have hm:m=[]:=ck.1 hl.symm;subst hm;rw[bt];simp only[EO,gM h,EN,seval];exact hx _
 |cons n r ih =>
  intro m pre pre' h h' hp hl;cases m with
  |nil=>cases hl
  |cons n' m =>
  rw[bt];have dR:pre.length+1<=100000:=by rw[h] at ha; simp at ha; omega
  have hw:=vu pre n;have hi:=ih m (pre++[n]) (pre'++[n']) (by rw[h]; simp) (by rw[h']; simp) (by simp[hp]) (by simpa using hl)
  have ha2:b[pre.length]?=some n':=by rw[hp]; exact fc h'
  have hdc:decide (n::r=n'::m)=(decide (n=n')&&decide (r=m)):=by
   rw[eJ]; simp
  rw[hdc];simp only[aD,au,av] at hi;simp only[EO,fV h,fc h,ha2,tkE,shE,Pa,OE,EN,seval];refine bq (fun hb=>?_) (fun hb=>?_)
  ·have hb':decide (n=n')=false:=by simpa using hb
   simp only[EO,hb',dy,EN,seval];exact hr
  ·have hb':decide (n=n')=true:=by simpa using hb
   simp only[EO,hb',dD,hw,EN,seval];exact hi
def aiM(a b:List fg)(ha:a.length<=100000):ar bK 100 [gS a,gS b] []=some (.bool (decide (a=b)),[]):=by
 refine aw ?_;simp only[ZN,EO,EN,seval];refine bq (fun hb=>?_) (fun hb=>?_)
 ·have:decide (a=b)=false:=by
   simp at hb ⊢;rintro rfl; exact hb rfl
  simp only[EO,this,EN,seval]
 ·simp only[EO,EN,seval];exact XL (R:=fun z=>some (.bool z,[])) ha (fun e=>by simp only[EO,EN,seval]) (by simp only[EO,EN,seval]) a b [] [] rfl rfl rfl (by simp at hb; omega)
def aqg a b ha:=cP (aiM a b ha)
def abo(x y:Node):decide (x=y)=(x.aq==y.aq&&(x.kind==y.kind&&(x.dz==y.dz&&(x.up==y.up&&(x.data==y.data&&decide (x.aL=y.aL)))))):=by
 cases x; cases y;simp only[Node.mk.injEq];rw[eJ];simp only[ba,bm,eG];constructor
 ·rintro⟨h1,h2,h3,h4,h5,h6⟩; exact⟨h1,h2,h3,h6,h4,h5⟩
 ·rintro⟨h1,h2,h3,h6,h4,h5⟩; exact⟨h1,h2,h3,h4,h5,h6⟩
def c98(x y:Node)(hx:x.aL.length<=100000):ar bK 98 [.agg (aF x),.agg (aF y)] []=some (.bool (decide (x=y)),[]):=by
 rw[abo];refine aw ?_;simp only[akj,E98,bD,aF,EN,seval]
 repeat' ((first|apply bq|apply bU|apply dE)<;>intro hb<;>simp only[hb,EN,E98,k99,aqg,hx,seval])
 all_goals simp_all only[pj,↓reduceIte,reduceCtorEq,an]
def k98 x y hx:=cP (c98 x y hx)
def XM{a b:List Node}(ha:a.length<=100000)(he:∀n,n∈a->n.aL.length<=100000){k:List K}{R:Bool->Option (ag×aH)}
  (hx:∀e,kr (ar bK) [.tmp 6] 0 k ⟨.exit 0,e,[]⟩=R true) (hr:∀M,kr (ar bK) [.tmp 6] 0 k ⟨.ret,[(6,.bool false)],M⟩=R false) :
  ∀(l m pre pre':List Node),a=pre++l->b=pre'++m->pre.length=pre'.length->l.length=m.length->eW (ar bK) [.tmp 6] 0 k (.loop [1,2,15,16,17] WU) [(1,aN b),(2,.func 98 []),(15,aN a),(16,aE a.length),(17,aE pre.length)] []=R (decide (l=m)):=by
 intro l;induction l with
 |nil =>
  intro m pre pre' h h' hp hl;have hm:m=[]:=ck.1 hl.symm;subst hm;rw[bt];simp only[EP,gM h,EN,seval];exact hx _
 |cons n r ih =>
  intro m pre pre' h h' hp hl;cases m with
  |nil=>cases hl
  |cons n' m =>
  rw[bt];have dR:pre.length+1<=100000:=by rw[h] at ha; simp at ha; omega
  have hw:=vu pre n;have hi:=ih m (pre++[n]) (pre'++[n']) (by rw[h]; simp) (by rw[h']; simp) (by simp[hp]) (by simpa using hl)
  have ha2:b[pre.length]?=some n':=by rw[hp]; exact fc h'
  have hen:=he n (by rw[h]; simp)
  have hdc:decide (n::r=n'::m)=(decide (n=n')&&decide (r=m)):=by
   rw[eJ]; simp
  have hfl:List.flatMap ag.ml (aF n)=[]:=rfl;have hfl':List.flatMap ag.ml (aF n')=[]:=rfl;rw[hdc];simp only[aD,au,av] at hi;simp only[EP,fV h,fc h,ha2,tkN,shN,anz,k98,hen,hfl,hfl',EN,seval];refine bq (fun hb=>?_) (fun hb=>?_)
  ·have hb':decide (n=n')=false:=by simpa using hb
   simp only[EP,hb',dy,EN,seval];exact hr _
  ·have hb':decide (n=n')=true:=by simpa using hb
   simp only[EP,hb',dD,hw,EN,seval];exact hi
def anL(a b:List Node)(ha:a.length<=100000)(he:∀n,n∈a->n.aL.length<=100000):ar bK 101 [aN a,aN b,.func 98 []] []=some (.bool (decide (a=b)),[]):=by
 refine aw ?_;simp only[ZO,EP,EN,seval];refine bq (fun hb=>?_) (fun hb=>?_)
 ·have:decide (a=b)=false:=by
   simp at hb ⊢;rintro rfl; exact hb rfl
  simp only[EP,this,EN,seval]
 ·simp only[EP,EN,seval];exact XM (R:=fun z=>some (.bool z,[])) ha he (fun e=>by simp only[EP,EN,seval]) (fun M=>by simp only[EP,EN,seval]) a b [] [] rfl rfl rfl (by simp at hb; omega)
def aqh a b ha he:=cP (anL a b ha he)
def amr(x y:Tree):decide (x=y)=(x.next==y.next&&(x.aj==y.aj&&decide (x.ae=y.ae))):=by
 cases x; cases y;simp only[Tree.mk.injEq];rw[eJ];simp only[ba,bm,eG];constructor
 ·rintro⟨h1,h2,h3⟩; exact⟨h2,h3,h1⟩
 ·rintro⟨h2,h3,h1⟩; exact⟨h1,h2,h3⟩
def c41(a b:Tree)(ha:Small a):ar bK 41 [bo a,bo b] []=some (.bool (decide (a=b)),[]):=by
 rw[amr];have h1:=ha.ae;have h2:=ha.aL;refine aw ?_;simp only[ajW,E41,bo,aI,EN,seval]
 repeat' ((first|apply bq|apply bU|apply dE)<;>intro hb<;>simp only[hb,EN,E41,aqh _ _ h1 h2,seval])
 all_goals simp_all only[pj,↓reduceIte,reduceCtorEq,an]
def cF.je{t:Tree}{cz:Int->Nat}{x:Int}(h:cF t cz x):∀m,m∈t.ae->m.aq<t.next:=fun m hm=>(h.num _ _ ((eD h.ja.jd).2 ⟨hm,rfl⟩)).2
end
def cF.Dc{t:Tree}{cz:Int->Nat}{x:Int}(h:cF t cz x){i:Int}{n:Node}(hi:find t.ae i=some n)(hk:n.kind=2):ru t.ae i=cz i:=by
 simp only[ru,h.rR hi hk]; omega
def cF.NS{t:Tree}{cz:Int->Nat}{x:Int}(h:cF t cz x)(of:Int):∀(m:Nat)(i:Int)(out:List Int)(n:Node),find t.ae i=some n->n.kind=2->cz i<=m->out.contains i=true->(qF t.ae m i out).contains of=(out.contains of||lZ t.ae of (m+1) i):=by
 intro m;induction m with
 |zero =>
  intro i out n hi hk hd ho;simp only[qF,lZ]
  by_cases h1:i=of
  ·subst h1; rw[ho]; rfl
  ·simp[h1]
 |succ m ih =>
  intro i out n hi hk hd ho;simp only[qF];rw[lZ]
  by_cases h1:i=1
  ·by_cases h2:i=of
   ·subst h2; simp[h1] at ho ⊢; exact ho
   ·simp[h1,h2];intro h3; exact absurd (h1.trans h3) h2
  ·obtain⟨a,p,b,c⟩:=h.n9 _ _ hi hk h1;simp only[mj,ne_eq,h1,lV,↓reduceIte,aY,hi,bW,di,bn,hk,an,eR,af];rw[ih _ _ p b c (by omega) (by simp),h.U9 hi]
   by_cases h2:i=of
   ·subst h2;have:(out++[n.up]).contains i=true:=by simp at ho ⊢; exact .inl ho
    rw[this,ho]; simp
   ·rw[aQ h2]
    by_cases h3:n.up=of
    ·have:lZ t.ae of (m+1) n.up=true:=by simp[lZ,h3]
     rw[this]; simp
    ·have:(out++[n.up]).contains of=out.contains of:=by
      simp;intro hh; exact absurd hh.symm h3
     rw[this]
def cF.xM{t:Tree}{cz:Int->Nat}{x:Int}(h:cF t cz x)(of:Int){i:Int}{n:Node}(hi:find t.ae i=some n)(hk:n.kind=2):(rf t.ae i).contains of=hU t.ae i of:=by
 have:=h.NS of t.ae.length i [i] n hi hk (by have:=h.zO hi hk; omega) (by simp)
 simp only[rf,this,hU]
 by_cases h2:i=of
 ·subst h2; simp[lZ]
 ·have:([i]:List Int).contains of=false:=by simp; exact fun hh=>h2 hh.symm
  rw[this]; rfl
def cF.under{t:Tree}{cz:Int->Nat}(h:cF t cz 0){to:Int}{nm:Bytes}{dT:Node}(hT:find t.ae to=some dT):(lg t.ae dT.aL nm).aq=eZ dT.aL nm:=by
 unfold lg eZ;cases he:fb dT.aL nm with
 |none=>rfl
 |some e =>
  obtain⟨_,_,_,_,m,hm,_⟩:=h.x9 _ _ e hT (gY he).1;simp[aY,hm,(bR hm).2]
def TB{t:Tree}{cz:Int->Nat}(h:cF t cz 0)(dir:Int)(s:Bytes):oa t dir s=nP t dir s:=by
 unfold oa nP
 by_cases h0:(gA t.ae dir).2=0
 ·obtain⟨d,d1,d2,d3⟩:=x7 h0
  have hf:Cj t d=(decide ((64:Int)<=d.aL.length)||(decide ((12:Int)<=ru t.ae dir)||decide ((1099511627776:Int)<=t.aj))):=by
   unfold Cj;rw[(bR d1).2,h.o8 d1 d2,h.Dc d1 d2]
  simp only[d3,hf,an,af,↓reduceIte,ne_eq,not_true_eq_false];cases fD s<;>simp
 ·rw[bh (by simpa using h0),bh h0]
def VF{t:Tree}{cz:Int->Nat}(h:cF t cz 0)(dir:Int)(s:Bytes)(kind:Int):IG t dir s kind=qR t dir s kind:=by
 unfold IG qR;rw[TB h]
def ae4{t:Tree}{cz:Int->Nat}(h:cF t cz 0)(aq dir:Int)(s:Bytes):lnW t aq dir s=Bp t aq dir s:=by
 unfold lnW Bp;rw[TB h]
def Bf{ae:List Node}{x:Int}{m:Node}(hx:find ae x=some m):jZ ae m=eF ae x:=by
 unfold jZ eF;simp only[aY,hx,bn,(bR hx).2]
def age{t:Tree}{cz:Int->Nat}(h:cF t cz 0)(dir:Int)(s:Bytes):unW t dir s=AA t dir s:=by
 unfold unW AA;split
 ·rfl
 ·rename_i hl;obtain⟨d,e,d1,d2,d3,d4,d5⟩:=look_ok (by simpa using hl)
  simp only[d5];obtain⟨_,_,_,_,m,hm,_⟩:=h.x9 _ _ e d1 (gY d4).1
  have hm':find (cV t.ae dir s) e.aq=some m:=by
   rw[jo h.ja.jd d1,aQ (h.wg d1 (gY d4).1)]; exact hm
  have hn:aY t.ae e.aq=m:=by simp[aY,hm]
  rw[hn,Bf hm']
def DX(ae:List Node)(aq at' d:Int)(b:Int):∀(l:List Node)(most:Int),b<vk ae aq at' d l most->b<most\/∃n,n∈l/\(n.kind==2&&hU ae n.aq aq)=true/\b<ui ae at' d n
 | [],most,h => .inl h
 |m::l,most,h=>by
  rw[vk] at h;rcases DX ae aq at' d b l _ h with h1|⟨n,h1,h2,h3⟩
  ·have e:rG ae aq at' d m most=if m.kind==2&&hU ae m.aq aq then (if ui ae at' d m>most then ui ae at' d m else most) else most:=rfl
   rw[e] at h1;split at h1
   ·rename_i hb;split at h1
    ·exact .inr ⟨m,bj,hb,h1⟩
    ·exact .inl h1
   ·exact .inl h1
  ·exact .inr ⟨n,aX _ h1,h2,h3⟩
def cF.V2{t:Tree}{cz:Int->Nat}(h:cF t cz 0){x to:Int}{m:Node}(hx:find t.ae x=some m)(hk:m.kind=2)(hd:cz to<12) :
  Gw t.ae x (((cz to+1:Nat):Int))=decide ((12:Int)<AR t.ae x (((cz to+1:Nat):Int))):=by
 have key:∀n,n∈t.ae->tc t.ae (((cz to+1:Nat):Int)) ((cz x:Nat):Int) x n=((n.kind==2&&hU t.ae n.aq x)&&decide ((12:Int)<ui t.ae (((cz to+1:Nat):Int)) ((cz x:Nat):Int) n)):=by
  intro n hn;have hi:find t.ae n.aq=some n:=(eD h.ja.jd).2 ⟨hn,rfl⟩;unfold tc
  by_cases hk2:n.kind=2
  ·rw[h.xM x hi hk2,h.rR hi hk2]
   by_cases hb:hU t.ae n.aq x=true
   ·rw[h.DW hx hk hd hi hk2 hb];have d1:=(h.deep _ _ hi hk2).1;have d2:=(h.deep _ _ hx hk).1;have d3:=h.zJ _ _ n hi hk2 rfl hb;have w1:lK ((((cz to+1:Nat):Int))+((cz n.aq+1:Nat):Int))=(((cz to+1:Nat):Int))+((cz n.aq+1:Nat):Int):=fW (by omega) (by omega)
    have w2:lK ((((cz to+1:Nat):Int))+((cz n.aq+1:Nat):Int)-1)=(((cz to+1:Nat):Int))+((cz n.aq+1:Nat):Int)-1:=fW (by omega) (by omega)
    have w3:lK ((((cz to+1:Nat):Int))+((cz n.aq+1:Nat):Int)-1-(cz x:Nat))=(((cz to+1:Nat):Int))+((cz n.aq+1:Nat):Int)-1-(cz x:Nat):=fW (by omega) (by omega)
    rw[w1,w2,w3];unfold pU;rw[bh hb,hb];simp only[hk2,kL,dD];rw[eJ];simp only[dj,bm,ba,eG];split<;>omega
   ·have:hU t.ae n.aq x=false:=by simpa using hb
    simp[this]
  ·have:(n.kind==2)=false:=by simpa using hk2
   simp[this]
 have hdx:(ru t.ae x:Int)=((cz x:Nat):Int):=by rw[h.Dc hx hk]
 unfold Gw AR;rw[h.o8 hx hk,hdx];rw[eJ];simp only[fZ,ba];constructor
 ·rintro⟨n,hn,hp⟩;rw[key n hn] at hp;simp only[bm,ba] at hp;have:=(Aa t.ae x (((cz to+1:Nat):Int)) ((cz x:Nat):Int) t.ae 0).2 n hn (by simp[hp.1.1,hp.1.2])
  omega
 ·intro hh;rcases DX t.ae x _ _ 12 t.ae 0 hh with h1|⟨n,h1,h2,h3⟩
  ·omega
  ·exact⟨n,h1,by rw[key n h1,h2]; simpa using h3⟩
def afc{t:Tree}{cz:Int->Nat}(h:cF t cz 0)(f:Int)(s:Bytes)(to:Int)(nm:Bytes):Lo t f s to nm=vO t f s to nm:=by
 unfold Lo vO;split
 ·rfl
 rename_i c1;split
 ·rfl
 rename_i c2;split
 ·rfl
 obtain⟨dF,e,e1,e2,e3,e4,e5⟩:=look_ok (by simpa using c1)
 obtain⟨dT,g1,g2,g3⟩:=x7 (show(gA t.ae to).2=0 by simpa using c2)
 have hem:=(gY e4).1;obtain⟨_,_,x1,_,m,hm,hup⟩:=h.x9 _ _ e e1 hem;have hnode:aY t.ae e.aq=m:=by simp[aY,hm]
 simp only[e5,g3,hnode,h.under g1,h.xM e.aq g1 g2];split
 ·rfl
 rename_i c4;split
 ·rfl
 rename_i c5;have hup':eZ dT.aL nm≠e.aq:=by simpa using c4
 have hnf:=h.wg e1 hem
 have hne:e.aq≠to:=fun hh=>by
  rw[hh,g1] at hm; cases hm;simp only[g2,kL,dD] at c5;rw[hh,cF.ka] at c5;exact c5 rfl
 have hmany:∀there:Bool,(eZ dT.aL nm==0) = !there->CF t f to dT.aL there m.kind e.aq=manyN t f to dT.aL m.kind (eZ dT.aL nm) e.aq:=by
  intro there hth;unfold CF manyN;rw[hth,h.rR g1 g2,h.o8 g1 g2]
  by_cases hd:cz to<12
  ·have hw:lK (((cz to:Nat):Int)+1)=((cz to+1:Nat):Int):=by
    rw[show(((cz to:Nat):Int)+1)=((cz to+1:Nat):Int) by omega]
    exact fW (by omega) (by omega)
   rw[hw]
   have hdd:decide ((12:Int)<((cz to+1:Nat):Int))=decide ((12:Int)<=((cz to:Nat):Int)):=by
    rw[decide_eq_decide]; omega
   rw[hdd];rcases h.kind _ _ hm with hk|hk
   ·simp[hk]
   ·rw[h.V2 hm hk hd]
  ·have h1:decide ((12:Int)<((cz to+1:Nat):Int))=true:=by rw[ba]; omega
   have h2:decide ((12:Int)<=((cz to:Nat):Int))=true:=by rw[ba]; omega
   rw[h1,h2]; simp
 cases hfr:fb dT.aL nm with
 |none =>
  have hu:eZ dT.aL nm=0:=by simp[eZ,hfr]
  have hm1:=hmany false (by rw[hu]; rfl)
  rw[hu] at hm1 ⊢;have hcl:ud t.ae m.kind 0=0:=by simp[ud,h.zero]
  simp only[eA,dy,af,↓reduceIte,hcl,an,hm1];split
  ·rfl
  ·unfold xI pd;simp only[hnode,af,↓reduceIte,an]
 |some e2 =>
  have hu:eZ dT.aL nm=e2.aq:=by simp[eZ,hfr]
  obtain⟨_,_,_,_,y,hy,_⟩:=h.x9 _ _ e2 g1 (gY hfr).1;have hny:aY t.ae e2.aq=y:=by simp[aY,hy]
  have hto:=h.wg g1 (gY hfr).1;have hy0:=(h.num _ _ hy).1;have hm1:=hmany true (by rw[hu]; simp; omega)
  have hnu:lg t.ae dT.aL nm=y:=by simp[lg,hfr,hny]
  rw[hu] at hm1 ⊢
  have hcl:ud t.ae m.kind e2.aq=zf m y:=by
   unfold ud zf;simp only[hy,bW,di,af,↓reduceIte,hny]
  rw[hnu,hcl];simp only[bW,dD,hm1];split
  ·rfl
  rename_i c6;split
  ·rfl
  have hy00:y.aL=[]:=by
   have:zf m y=0:=by simpa using c6
   unfold zf at this;split at this
   ·cases this
   split at this
   ·cases this
   split at this
   ·cases this
   ·rename_i k3; exact ck.1 (by simpa using k3)
  have hnf2:e2.aq≠f:=fun hh=>by
   rw[hh,e1] at hy; cases hy;rw[hy00] at hem; cases hem
  have hyl:find (cV (cV t.ae f s) to nm) e2.aq=some y:=by
   have f1:=jo h.ja.jd e1 (s:=s);obtain⟨dT',hT'⟩:∃dT',find (cV t.ae f s) to=some dT':=by rw[f1]; split<;>simp_all
   rw[jo (lR h.ja.jd f s) hT',aQ hto,f1,aQ hnf2];exact hy
  have hb:(e2.aq != 0)=true:=by simp; omega
  unfold xI pd;simp only[hnode,↓reduceIte,hb,Bf hyl]
def V0{C:eB}{f p:Nat}{x:fg}{r:ag}{M:aH}{z:Int}(hM:nth M p=some (bO [aE z]))(h:C f [.agg (fa x),bX 0] [bO [aE z]]=some (r,[bO [aE z]]))(h3:r.vA=true)(h5:r.Ao (vN [p])=r) :
  aM C f [.agg (fa x),bX p] M=some (r,M):=by
 have hids:[ag.agg (fa x),bX p].flatMap ag.ids=[p]:=rfl;have hi:pG M [p]=[]:=by simp[pG,hM,dv.ids,ag.ml,ag.ib]
 have e0:ky M [p]=[p]:=by simp[ky,hi,j6]
 have e1:reach M [p]=[p]:=by
  have ea:j6 [] [p]=[p]:=rfl;simp only[reach,ea,e0]
 have hfl:[ag.agg (fa x),bX p].all ag.flat=true:=rfl;unfold aM;rw[bh hfl,hids,e1];have hpk:iU M (hZ [p]) [p]=some [bO [aE z]]:=by simp[iU,hM,dv.flat,dv.pv,ag.rN,ag.sx,ag.uG,ag.DM]
 rw[hpk];simp only[bT];rw[bh e0]
 have hrn:[ag.agg (fa x),bX p].map (ag.pv (hZ [p]))=[ag.agg (fa x),bX 0]:=by
  simp[ag.pv,ag.rN,ag.sx,hZ,fa]
 rw[hrn,h];simp only[bT];rw[bh ⟨by trivial,h3,rfl⟩,h5]
 have hs:kR [p] M [p] [bO [aE z]]=M:=by
  simp only[kR,dv.pv,aP,bc,ag.rN,ag.sx];exact rq hM
 rw[hs]
def al1(xs:List ag)(z:Int):iU [.arr 3 0 xs,bO [aE z]] (hZ [0,1]) [0,1]=some [.arr 3 0 xs,bO [aE z]]:=rfl
section
attribute [local irreducible] eW fQ lh gK dW kr ar aM cq bI
def apf(e:fg)(z:Int):ar bK 215 [fH e,bX 0] [bO [aE z]]=some (.bool (decide (e.aj<z)),[bO [aE z]]):=by
 refine aw ?_;simp only[aaM,am9,fH,fa,EN,seval]
def ak3(e:fg)(z:Int)(p:Nat)(M:aH)(hM:nth M p=some (bO [aE z])):aM (ar bK) 215 [.agg (fa e),bX p] M=some (.bool (decide (e.aj<z)),M) :=
 V0 hM (apf e z) rfl rfl
def Ab(z:Int):List fg->Nat->Int
 | [],_ => -1
 |e::r,i=>if decide (e.aj<z) then (i:Int) else Ab z r (i+1)
def XR{xs:List fg}{z:Int}(hn:xs.length<=100000){k:List K}{R:Int->Option (ag×aH)}
  (hx:∀e,kr (ar bK) [.tmp 4] 2 k ⟨.exit 0,e,[.arr 3 0 (xs.map fH),bO [aE z]]⟩=R (-1)) (hr:∀(i:Nat),kr (ar bK) [.tmp 4] 2 k ⟨.ret,[(4,aE i)],[.arr 3 0 (xs.map fH),bO [aE z]]⟩=R i) :
  ∀(l pre:List fg),xs=pre++l->eW (ar bK) [.tmp 4] 2 k (.loop [0,1,7,8] Ld) [(0,.cN 0 0 3 0 xs.length),(1,.func 215 [bX 1]),(7,aE xs.length),(8,aE pre.length)] [.arr 3 0 (xs.map fH),bO [aE z]]=R (Ab z l pre.length):=by
 intro l;induction l with
 |nil =>
  intro pre h;rw[bt];simp only[xw,gM h,EN,seval];exact hx _
 |cons n rest ih =>
  intro pre h;rw[bt];have dR:pre.length+1<=100000:=by rw[h] at hn; simp at hn; omega
  have hw:=vu pre n;have hi:=ih (pre++[n]) (by rw[h]; simp)
  simp only[aD,au,av] at hi;have q59:=fun e=>ak3 e z 1 [.arr 3 0 (xs.map fH),bO [aE z]] rfl
  have cn:((pre.length:Int)<((xs.length-0:Nat):Int))=True:=by simp only[eH,im]; rw[h]; simp; omega
  rw[Ab];simp only[xw,fV h,fc h,tkE,shE,q59,cn,EN,seval];refine bq (fun hb=>?_) (fun hb=>?_)
  ·simp only[xw,hb,EN,seval];exact hr _
  ·simp only[xw,hb,hw,af,EN,seval];exact hi
def aoj(xs:List fg)(z:Int)(hn:xs.length<=100000):ar bK 145 [.cN 0 0 3 0 xs.length,.func 215 [bX 1]] [.arr 3 0 (xs.map fH),bO [aE z]]=some (aE (Ab z xs 0),[.arr 3 0 (xs.map fH),bO [aE z]]):=by
 refine aw ?_;simp only[KJ,xw,bN,EN,seval];exact XR (R:=fun i=>some (aE i,[.arr 3 0 (xs.map fH),bO [aE z]])) hn (fun e=>by simp only[xw,EN,seval]) (fun i=>by simp only[xw,EN,seval]) xs [] rfl
def aqx(xs:List fg)(z:Int)(hn:xs.length<=100000):aM (ar bK) 145 [.cN 0 0 3 0 xs.length,.func 215 [bX 1]] [.arr 3 0 (xs.map fH),bO [aE z]]=some (aE (Ab z xs 0),[.arr 3 0 (xs.map fH),bO [aE z]]) :=
 jc (ids:=[0,1]) rfl rfl (al1 ..) rfl rfl (aoj xs z hn) rfl rfl rfl rfl rfl
def kM(z:Int)(l:List fg):List fg:=l.filter fun e => !decide (e.aj<z)
def ye(z:Int)(x:fg)(l:List fg):kM z (x::l)=if decide (x.aj<z) then kM z l else x::kM z l:=by
 unfold kM;rw[eu];cases decide (x.aj<z)<;>rfl
def US(xs:List fg)(b:Nat)(o n:fg)(h:xs[b]?=some o):(jk (xs.map fH) b (putCells (fH o) 0 (fa n)))=(xs.set b n).map fH:=by
 have:putCells (fH o) 0 (fa n)=fH n:=rfl;rw[this,gq,kI]
def afF(x:fg):(fa x).all ag.plainCell=true:=rfl
def X8{z:Int}{N:Nat}(hN:N<=100000){k:List K}{R:List fg->Nat->Option (ag×aH)}
  (hx:∀(A G:List fg) v q,A.length+G.length=N->G≠[]->kr (ar bK) [.tmp 4] 2 k ⟨.exit 0,[(0,.cN 0 0 3 0 N),(1,.func 215 [bX 1]),(5,aE A.length),(6,v),(19,q)],[.arr 3 0 ((A++G).map fH),bO [aE z]]⟩=R A G.length) :
  ∀(T A G:List fg),A.length+G.length+T.length=N->G≠[]->eW (ar bK) [.tmp 4] 2 k (.loop [0,1,5,6] Xu) [(0,.cN 0 0 3 0 N),(1,.func 215 [bX 1]),(5,aE A.length),(6,aE ((A.length+G.length:Nat):Int))] [.arr 3 0 ((A++G++T).map fH),bO [aE z]]=R (A++kM z T) (N-(A++kM z T).length):=by
 intro T;induction T with
 |nil =>
  intro A G hl hg;have cn:(((A.length+G.length:Nat):Int)<((N-0:Nat):Int))=False:=by simp only[eH,o5]; simp at hl ⊢; omega
  have hk:kM z []=[]:=rfl;have hgl:N-(A++kM z []).length=G.length:=by rw[hk]; simp at hl ⊢; omega
  rw[hgl,hk,cW,cW];rw[bt];simp only[EY,cn,EN,seval];exact hx A G _ _ (by simpa using hl) hg
 |cons x T ih =>
  intro A G hl hg;simp only[au] at hl;have cn:(((A.length+G.length:Nat):Int)<((N-0:Nat):Int))=True:=uq;have hnn:((0:Int)<=((A.length+G.length:Nat):Int))=True:=uq
  have hat:(A++G++x::T)[A.length+G.length]?=some x:=by
   rw[bz (by simp)]; simp
  have hw:IntKind.i64.wrap (((A.length+G.length:Nat):Int)+1)=((A.length+G.length+1:Nat):Int):=by rw[fW (by omega) (by omega)]; omega
  have hw1:IntKind.i64.wrap ((A.length:Int)+1)=((A.length+1:Nat):Int):=by rw[fW (by omega) (by omega)]; omega
  have q59:=fun e a b M=>ak3 e z 1 (a :: bO [aE z]::b::M) rfl
  obtain⟨g,G',hG⟩:=dV hg;have hga:(A++G++x::T)[A.length]?=some g:=by rw[hG]; simp
  have hset:(A++G++x::T).set A.length x=(A++[x])++(G'++[x])++T:=by rw[hG]; simp
  have hlt2:((A.length:Int)<((N-0:Nat):Int))=True:=uq;have h1:=ih (A++[x]) (G'++[x]) (by rw[hG] at hl; simp at hl ⊢; omega) (by simp)
  have h2:=ih A (G++[x]) (by simp; omega) (by simp)
  have hl1:(((A++[x]).length+(G'++[x]).length:Nat):Int)=((A.length+G.length+1:Nat):Int):=by rw[hG]; simp; omega
  have hl2:((A.length+(G++[x]).length:Nat):Int)=((A.length+G.length+1:Nat):Int):=by simp; omega
  have hl3:((A++[x]).length:Int)=((A.length+1:Nat):Int):=by simp
  have e2:A++(G++[x])++T=A++G++x::T:=by simp
  have e1:A++[x]++kM z T=A++x::kM z T:=by simp
  rw[hl1,hl3,e1] at h1;rw[hl2,e2] at h2;simp only[aD,au] at h1 h2;have hput:=US (A++G++x::T) A.length g x hga;rw[hset] at hput;rw[ye];rw[bt];simp only[EY,cn,hnn,hat,tkE,shE,OE,q59,EN,seval];refine bq (fun hb=>?_) (fun hb=>?_)
  ·have hb':decide (x.aj<z)=false:=by simpa using hb
   simp only[EY,hb',hlt2,hga,hput,tkE,shE,afF,hw,hw1,af,EN,seval];exact h1
  ·have hb':decide (x.aj<z)=true:=by simpa using hb
   simp only[EY,hb',hw,EN,seval];exact h2
def Ii:fg:=⟨[],0,0⟩
def DY(z:Int):∀(l:List fg)(i:Nat),Ab z l i = -1->kM z l=l
 | [],_,_=>rfl
 |x::l,i,h=>by
  rw[Ab] at h;split at h
  ·omega
  ·rename_i hx;rw[ye,aQ hx,DY z l _ h]
def DZ(z:Int):∀(l:List fg)(i:Nat),Ab z l i ≠ -1->∃A x T,l=A++x::T/\Ab z l i=((i+A.length:Nat):Int)/\kM z l=A++kM z T
 | [],_,h=>absurd rfl h
 |x::l,i,h=>by
  rw[Ab] at h ⊢;rw[ye];split
  ·rename_i hx; exact⟨[],x,l,rfl,rfl,rfl⟩
  ·rename_i hx;rw[aQ hx] at h;obtain⟨A,y,T,h1,h2,h3⟩:=DZ z l (i+1) h;exact⟨x::A,y,T,by rw[h1]; rfl,by rw[h2]; simp; omega,by rw[h3]; rfl⟩
def FF(m:Nat):ag:=if m=0 then .slice .sh [] else .cN 0 0 3 0 m
def Ml(A G:List fg):((A++G).map fH).take A.length++(List.replicate G.length (ag.agg [.str [],aE 0,aE 0])++((A++G).map fH).drop (A++G).length)=(A++List.replicate G.length Ii).map fH:=by
 have h1:((A++G).map fH).take A.length=A.map fH:=by simp[fx]
 have h2:((A++G).map fH).drop (A++G).length=[]:=by rw[List.drop_eq_nil_iff]; simp
 rw[h1,h2];simp[gF];exact .inr rfl
def ai0(xs:List fg)(z:Int)(hn:xs.length<=100000)(h0:xs≠[]):ar bK 213 [.cN 0 0 3 0 xs.length,.func 215 [bX 1]] [.arr 3 0 (xs.map fH),bO [aE z]] =
  some (FF (kM z xs).length,[.arr 3 0 ((kM z xs++List.replicate (xs.length-(kM z xs).length) Ii).map fH),bO [aE z]]):=by
 have q89:=aqx xs z hn;refine aw ?_
 by_cases hi:Ab z xs 0 = -1
 ·have hk:=DY z xs 0 hi;have hb:(Ab z xs 0 == -1)=true:=by simpa using hi
  have hl:xs.length≠0:=fun hh=>h0 (ck.1 hh)
  rw[hk];simp only[KR,EY,q89,hb,EN,seval];simp[FF,hl]
 ·obtain⟨A,x,T,h1,h2,h3⟩:=DZ z xs 0 hi;have hb:(Ab z xs 0 == -1)=false:=by simpa using hi
  simp only[aK] at h2;have dR:xs.length=A.length+(T.length+1):=by rw[h1]; simp
  have hw:IntKind.i64.wrap ((A.length:Int)+1)=((A.length+[x].length:Nat):Int):=by rw[fW (by omega) (by omega)]; simp
  have hlp:=fun k R hx=>X8 (z:=z) hn (k:=k) (R:=R) hx T A [x] (by simp; omega) (by simp)
  have e1:A++[x]++T=xs:=by rw[h1]; simp
  rw[e1] at hlp;rw[h2] at hb q89;rw[h3];simp only[KR,EY,q89,hb,hw,EN,seval];refine(hlp _ (fun A' g=>some (FF A'.length,[.arr 3 0 ((A'++List.replicate g Ii).map fH),bO [aE z]])) (fun A' G v q hl hg=>?_)).trans (by simp only[aD])
  have hgl:G.length≠0:=fun hh=>hg (ck.1 hh)
  have b1:(((A'.length:Nat):Int)<=(xs.length:Int))=True:=uq;have b2:(((A'.length:Nat):Int)==(xs.length:Int))=false:=by simp; omega
  have hcl:=Ml A' G;have hN:(A'++G).length=xs.length:=by simp; omega
  have hd:xs.length-A'.length=G.length:=by omega
  rw[hN] at hcl;have hz0:Int.toNat ((0:Nat):Int)=0:=rfl;have hb0:((0:Int)<=((A'.length:Nat):Int))=True:=by simp
  by_cases hA:A'.length=0
  ·have b3:((0:Int)==((A'.length:Nat):Int))=true:=by simp[hA]
   simp only[EY,fy,bN,cZ,b1,b2,hd,hcl,b3,hz0,hb0,EN,seval];simp[FF,hA]
  ·have b3:((0:Int)==((A'.length:Nat):Int))=false:=by simp; omega
   simp only[EY,fy,bN,cZ,b1,b2,hd,hcl,b3,hz0,hb0,EN,seval];simp[FF,hA]
end
end
end Go.Proofs.YtahkjijkflobhaaGreatDoor
