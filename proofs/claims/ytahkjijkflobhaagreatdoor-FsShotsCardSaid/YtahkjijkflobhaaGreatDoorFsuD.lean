import Derived.WalkKit
import Derived.Laws.RangeString
import Derived.RangeFuncBox
import Derived.RangeFuncFrom
import Derived.RangeFuncLeaves
import Derived.Shelf.Abstract
import Derived.OwnWalkIn
import Derived.TacticsInMore
import Derived.LoopNIn
import Derived.LoopIn
import Derived.Maps.AppendAt
import Derived.RangeFuncNested
import Derived.Test.YtahkjijkflobhaaGreatDoorFsuC
set_option linter.unusedSimpArgs false
set_option linter.unusedVariables false
set_option linter.unusedSectionVars false
set_option linter.defProp false
open Go.Proofs.Tryz
namespace Go.Abs
open Go
def TG0:(∀B M b,ag.jB B M (.bool b)=(.bool b)/\ag.kE B M (.bool b)=(.bool b)/\ag.kG B M (.bool b)=(.bool b)/\ag.nS B M (.bool b)=(.bool b)/\ag.j4 B M (.bool b)=(.bool b)/\ag.kd B M (.bool b)=(.bool b)/\ag.mu B M (.bool b)=(.bool b)) /\
  (∀b,ag.shut (.bool b)=(.bool b)/\ag.gb (.bool b)=(.bool b)/\ag.jx (.bool b)=false/\ag.cells? (.bool b)=some [(.bool b)]/\ag.iP (.bool b)=true/\ag.plainCell (.bool b)=true/\ag.plain (.bool b)=true/\ag.cells (.bool b)=[(.bool b)]/\ag.ig (.bool b)=[]/\ag.mM (.bool b)=[]/\ag.ids (.bool b)=[]) /\
  (∀M b,ag.ou M (.bool b)=(.bool b)/\ag.wx M (.bool b)=(.bool b)) /\
  (∀B M k n,ag.jB B M (.int k n)=(.int k n)/\ag.kE B M (.int k n)=(.int k n)/\ag.kG B M (.int k n)=(.int k n)/\ag.nS B M (.int k n)=(.int k n)/\ag.j4 B M (.int k n)=(.int k n)/\ag.kd B M (.int k n)=(.int k n)/\ag.mu B M (.int k n)=(.int k n)) /\
  (∀k n,ag.shut (.int k n)=(.int k n)/\ag.gb (.int k n)=(.int k n)/\ag.jx (.int k n)=false/\ag.cells? (.int k n)=some [(.int k n)]/\ag.iP (.int k n)=true/\ag.plainCell (.int k n)=true/\ag.plain (.int k n)=true/\ag.cells (.int k n)=[(.int k n)]/\ag.ig (.int k n)=[]/\ag.mM (.int k n)=[]/\ag.ids (.int k n)=[]) /\
  (∀M k n,ag.ou M (.int k n)=(.int k n)/\ag.wx M (.int k n)=(.int k n)) /\
  (∀B M s,ag.jB B M (.str s)=(.str s)/\ag.kE B M (.str s)=(.str s)/\ag.kG B M (.str s)=(.str s)/\ag.nS B M (.str s)=(.str s)/\ag.j4 B M (.str s)=(.str s)/\ag.kd B M (.str s)=(.str s)/\ag.mu B M (.str s)=(.str s)) /\
  (∀s,ag.shut (.str s)=(.str s)/\ag.gb (.str s)=(.str s)/\ag.jx (.str s)=false/\ag.cells? (.str s)=some [(.str s)]/\ag.iP (.str s)=true/\ag.plainCell (.str s)=true/\ag.plain (.str s)=true/\ag.cells (.str s)=[(.str s)]/\ag.ig (.str s)=[]/\ag.mM (.str s)=[]/\ag.ids (.str s)=[]):=by
 repeat' (first|rfl|intro _|apply And.intro)
def TG1:(∀M s,ag.ou M (.str s)=(.str s)/\ag.wx M (.str s)=(.str s)) /\
  (∀B M id off,ag.jB B M (.ptr id off)=(if id<B then (.ptr id off) else .any)/\ag.kE B M (.ptr id off)=(if id<B then (.ptr id off) else .any)/\ag.kG B M (.ptr id off)=(if id<B then (.ptr id off) else .any)/\ag.nS B M (.ptr id off)=(if id<B then (.ptr id off) else .any)/\ag.j4 B M (.ptr id off)=(if id<B then (.ptr id off) else .any)/\ag.kd B M (.ptr id off)=(if id<B then (.ptr id off) else .any)/\ag.mu B M (.ptr id off)=(if id<B then (.ptr id off) else .any)) /\
  (∀id off,ag.shut (.ptr id off)=(.ptr id off)/\ag.gb (.ptr id off)=(.ptr id off)/\ag.jx (.ptr id off)=false/\ag.cells? (.ptr id off)=some [(.ptr id off)]/\ag.iP (.ptr id off)=true/\ag.plainCell (.ptr id off)=false/\ag.plain (.ptr id off)=false/\ag.cells (.ptr id off)=[(.ptr id off)]/\ag.ig (.ptr id off)=[id]/\ag.mM (.ptr id off)=[id]/\ag.ids (.ptr id off)=[id]) /\
  (∀M id off,ag.ou M (.ptr id off)=(.ptr id off)/\ag.wx M (.ptr id off)=(.ptr id off)) /\
  (∀B M cs,ag.jB B M (.iQ cs)=(.iQ cs)/\ag.kE B M (.iQ cs)=(.iQ cs)/\ag.kG B M (.iQ cs)=(.iQ cs)/\ag.nS B M (.iQ cs)=(.iQ cs)/\ag.j4 B M (.iQ cs)=(.iQ cs)/\ag.kd B M (.iQ cs)=(.iQ cs)/\ag.mu B M (.iQ cs)=(.iQ cs)) /\
  (∀cs,ag.shut (.iQ cs)=(.iQ cs)/\ag.gb (.iQ cs)=(.iQ cs)/\ag.jx (.iQ cs)=false/\ag.cells? (.iQ cs)=some [(.iQ cs)]/\ag.iP (.iQ cs)=true/\ag.plainCell (.iQ cs)=false/\ag.plain (.iQ cs)=false/\ag.cells (.iQ cs)=[(.iQ cs)]/\ag.ig (.iQ cs)=[]/\ag.mM (.iQ cs)=[]/\ag.ids (.iQ cs)=[]) /\
  (∀M cs,ag.ou M (.iQ cs)=(.iQ cs)/\ag.wx M (.iQ cs)=(.iQ cs)) /\
  (∀B M f cs,ag.jB B M (.func f cs) = .any/\ag.kE B M (.func f cs) = .func f (cs.map (ag.jB B M))/\ag.kG B M (.func f cs) = .func f (cs.map (ag.jB B M))/\ag.nS B M (.func f cs) = .func f (cs.map (ag.jB B M))/\ag.j4 B M (.func f cs) = .func f (cs.map (ag.jB B M))/\ag.kd B M (.func f cs) = .func f (cs.map (ag.jB B M))/\ag.mu B M (.func f cs) = .func f (cs.map (ag.jB B M))):=by
 repeat' (first|rfl|intro _|apply And.intro)
def TG2:(∀f cs,ag.shut (.func f cs)=(.func f cs)/\ag.gb (.func f cs)=(.func f cs)/\ag.jx (.func f cs)=false/\ag.cells? (.func f cs)=some [(.func f cs)]/\ag.iP (.func f cs)=true/\ag.plainCell (.func f cs)=false/\ag.plain (.func f cs)=false/\ag.cells (.func f cs)=[(.func f cs)]/\ag.ig (.func f cs)=[]/\ag.mM (.func f cs)=cs.flatMap ag.ig/\ag.ids (.func f cs)=cs.flatMap ag.ig) /\
  (∀M f cs,ag.ou M (.func f cs)=(.func f cs)/\ag.wx M (.func f cs)=(.func f cs)) /\
  (∀B M id,ag.jB B M (.ia id)=(if id<B then (.ia id) else .any)/\ag.kE B M (.ia id)=(if id<B then (.ia id) else .any)/\ag.kG B M (.ia id)=(if id<B then (.ia id) else .any)/\ag.nS B M (.ia id)=(if id<B then (.ia id) else .any)/\ag.j4 B M (.ia id)=(if id<B then .ia id else match M[id]? with|some (.map ks vs)=>if vs.all ag.plain&&ks.all ag.plainCell then .jA ks vs else .any|_ => .any)/\ag.kd B M (.ia id)=(if id<B then .ia id else match M[id]? with|some (.map ks vs)=>if vs.all ag.plain&&ks.all ag.plainCell then .jA ks vs else .any|_ => .any)/\ag.mu B M (.ia id)=(if id<B then .ia id else match M[id]? with|some (.map ks vs)=>if vs.all ag.plain&&ks.all ag.plainCell then .jA ks vs else .any|_ => .any)) /\
  (∀id,ag.shut (.ia id)=(.ia id)/\ag.gb (.ia id)=(.ia id)/\ag.jx (.ia id)=false/\ag.cells? (.ia id)=some [(.ia id)]/\ag.iP (.ia id)=true/\ag.plainCell (.ia id)=false/\ag.plain (.ia id)=false/\ag.cells (.ia id)=[(.ia id)]/\ag.ig (.ia id)=[id]/\ag.mM (.ia id)=[id]/\ag.ids (.ia id)=[id]) /\
  (∀M id,ag.ou M (.ia id)=(.ia id)/\ag.wx M (.ia id)=(.ia id)) /\
  (∀B M id,ag.jB B M (.jn id)=(if id<B then (.jn id) else .any)/\ag.kE B M (.jn id)=(if id<B then (.jn id) else .any)/\ag.kG B M (.jn id)=(if id<B then (.jn id) else .any)/\ag.nS B M (.jn id)=(if id<B then (.jn id) else .any)/\ag.j4 B M (.jn id)=(if id<B then (.jn id) else .any)/\ag.kd B M (.jn id)=(if id<B then (.jn id) else .any)/\ag.mu B M (.jn id)=(if id<B then (.jn id) else .any)) /\
  (∀id,ag.shut (.jn id)=(.jn id)/\ag.gb (.jn id)=(.jn id)/\ag.jx (.jn id)=false/\ag.cells? (.jn id)=some [(.jn id)]/\ag.iP (.jn id)=true/\ag.plainCell (.jn id)=false/\ag.plain (.jn id)=false/\ag.cells (.jn id)=[(.jn id)]/\ag.ig (.jn id)=[id]/\ag.mM (.jn id)=[id]/\ag.ids (.jn id)=[id]) /\
  (∀M id,ag.ou M (.jn id)=(.jn id)/\ag.wx M (.jn id)=(.jn id)):=by
 repeat' (first|rfl|intro _|apply And.intro)
def TG3:(∀B M ks vs,ag.jB B M (.jA ks vs)=(.jA ks vs)/\ag.kE B M (.jA ks vs)=(.jA ks vs)/\ag.kG B M (.jA ks vs)=(.jA ks vs)/\ag.nS B M (.jA ks vs)=(.jA ks vs)/\ag.j4 B M (.jA ks vs)=(.jA ks vs)/\ag.kd B M (.jA ks vs)=(.jA ks vs)/\ag.mu B M (.jA ks vs)=(.jA ks vs)) /\
  (∀ks vs,ag.shut (.jA ks vs)=(.jA ks vs)/\ag.gb (.jA ks vs)=(.jA ks vs)/\ag.jx (.jA ks vs)=false/\ag.cells? (.jA ks vs)=some [(.jA ks vs)]/\ag.iP (.jA ks vs)=true/\ag.plainCell (.jA ks vs)=false/\ag.plain (.jA ks vs)=false/\ag.cells (.jA ks vs)=[(.jA ks vs)]/\ag.ig (.jA ks vs)=[]/\ag.mM (.jA ks vs)=[]/\ag.ids (.jA ks vs)=[]) /\
  (∀M ks vs,ag.ou M (.jA ks vs)=(.jA ks vs)/\ag.wx M (.jA ks vs)=(.jA ks vs)) /\
  (∀B M id ver sz lo hi,ag.jB B M (.cS id ver sz lo hi)=(if id<B then (.cS id ver sz lo hi) else match M[id]? with|some (.arr _ v xs)=>if v=ver then hZ ((xs.take hi).drop lo) else .any|_ => .any)/\ag.kE B M (.cS id ver sz lo hi)=(if id<B then (.cS id ver sz lo hi) else match M[id]? with|some (.arr _ v xs)=>if v=ver then hZ ((xs.take hi).drop lo) else .any|_ => .any)/\ag.kG B M (.cS id ver sz lo hi)=(if id<B then (.cS id ver sz lo hi) else match M[id]? with|some (.arr _ v xs)=>if v=ver then hZ ((xs.take hi).drop lo) else .any|_ => .any)/\ag.nS B M (.cS id ver sz lo hi)=(if id<B then (.cS id ver sz lo hi) else match M[id]? with|some (.arr _ v xs)=>if v=ver then hZ ((xs.take hi).drop lo) else .any|_ => .any)/\ag.j4 B M (.cS id ver sz lo hi)=(if id<B then (.cS id ver sz lo hi) else match M[id]? with|some (.arr _ v xs)=>if v=ver then hZ ((xs.take hi).drop lo) else .any|_ => .any)/\ag.kd B M (.cS id ver sz lo hi)=(if id<B then (.cS id ver sz lo hi) else match M[id]? with|some (.arr _ v xs)=>if v=ver then hZ ((xs.take hi).drop lo) else .any|_ => .any)/\ag.mu B M (.cS id ver sz lo hi)=(if id<B then (.cS id ver sz lo hi) else match M[id]? with|some (.arr _ v xs)=>if v=ver then hZ ((xs.take hi).drop lo) else .any|_ => .any)) /\
  (∀id ver sz lo hi,ag.shut (.cS id ver sz lo hi)=(.cS id ver sz lo hi)/\ag.gb (.cS id ver sz lo hi)=(.cS id ver sz lo hi)/\ag.jx (.cS id ver sz lo hi)=false/\ag.cells? (.cS id ver sz lo hi)=some [(.cS id ver sz lo hi)]/\ag.iP (.cS id ver sz lo hi)=true/\ag.plainCell (.cS id ver sz lo hi)=false/\ag.plain (.cS id ver sz lo hi)=false/\ag.cells (.cS id ver sz lo hi)=[(.cS id ver sz lo hi)]/\ag.ig (.cS id ver sz lo hi)=[id]/\ag.mM (.cS id ver sz lo hi)=[id]/\ag.ids (.cS id ver sz lo hi)=[id]) /\
  (∀B M id ver i off,ag.jB B M (.iJ id ver i off)=(if id<B then (.iJ id ver i off) else .any)/\ag.kE B M (.iJ id ver i off)=(if id<B then (.iJ id ver i off) else .any)/\ag.kG B M (.iJ id ver i off)=(if id<B then (.iJ id ver i off) else .any)/\ag.nS B M (.iJ id ver i off)=(if id<B then (.iJ id ver i off) else .any)/\ag.j4 B M (.iJ id ver i off)=(if id<B then (.iJ id ver i off) else .any)/\ag.kd B M (.iJ id ver i off)=(if id<B then (.iJ id ver i off) else .any)/\ag.mu B M (.iJ id ver i off)=(if id<B then (.iJ id ver i off) else .any)) /\
  (∀id ver i off,ag.shut (.iJ id ver i off)=(.iJ id ver i off)/\ag.gb (.iJ id ver i off)=(.iJ id ver i off)/\ag.jx (.iJ id ver i off)=false/\ag.cells? (.iJ id ver i off)=some [(.iJ id ver i off)]/\ag.iP (.iJ id ver i off)=true/\ag.plainCell (.iJ id ver i off)=false/\ag.plain (.iJ id ver i off)=false/\ag.cells (.iJ id ver i off)=[(.iJ id ver i off)]/\ag.ig (.iJ id ver i off)=[id]/\ag.mM (.iJ id ver i off)=[id]/\ag.ids (.iJ id ver i off)=[id]) /\
  (∀M id ver i off,ag.ou M (.iJ id ver i off)=(.iJ id ver i off)/\ag.wx M (.iJ id ver i off)=(.iJ id ver i off)):=by
 repeat' (first|rfl|intro _|apply And.intro)
def TG4:(∀B M f fs,ag.jB B M (.pR f fs)=(.pR f fs)/\ag.kE B M (.pR f fs)=(.pR f fs)/\ag.kG B M (.pR f fs)=(.pR f fs)/\ag.nS B M (.pR f fs)=(.pR f fs)/\ag.j4 B M (.pR f fs)=(.pR f fs)/\ag.kd B M (.pR f fs)=(.pR f fs)/\ag.mu B M (.pR f fs)=(.pR f fs)) /\
  (∀f fs,ag.shut (.pR f fs)=(.pR f fs)/\ag.gb (.pR f fs)=(.pR f fs)/\ag.jx (.pR f fs)=false/\ag.cells? (.pR f fs)=some [(.pR f fs)]/\ag.iP (.pR f fs)=true/\ag.plainCell (.pR f fs)=false/\ag.plain (.pR f fs)=false/\ag.cells (.pR f fs)=[(.pR f fs)]/\ag.ig (.pR f fs)=[]/\ag.mM (.pR f fs)=[]/\ag.ids (.pR f fs)=[]) /\
  (∀M f fs,ag.ou M (.pR f fs)=(.pR f fs)/\ag.wx M (.pR f fs)=(.pR f fs)) /\
  (∀B M t id off,ag.jB B M (.jF t id off)=(if id<B then (.jF t id off) else .any)/\ag.kE B M (.jF t id off)=(if id<B then (.jF t id off) else .any)/\ag.kG B M (.jF t id off)=(if id<B then (.jF t id off) else .any)/\ag.nS B M (.jF t id off)=(if id<B then (.jF t id off) else .any)/\ag.j4 B M (.jF t id off)=(if id<B then (.jF t id off) else .any)/\ag.kd B M (.jF t id off)=(if id<B then (.jF t id off) else .any)/\ag.mu B M (.jF t id off)=(if id<B then (.jF t id off) else .any)) /\
  (∀t id off,ag.shut (.jF t id off)=(.jF t id off)/\ag.gb (.jF t id off)=(.jF t id off)/\ag.jx (.jF t id off)=false/\ag.cells? (.jF t id off)=some [(.jF t id off)]/\ag.iP (.jF t id off)=true/\ag.plainCell (.jF t id off)=false/\ag.plain (.jF t id off)=false/\ag.cells (.jF t id off)=[(.jF t id off)]/\ag.ig (.jF t id off)=[id]/\ag.mM (.jF t id off)=[id]/\ag.ids (.jF t id off)=[id]) /\
  (∀M t id off,ag.ou M (.jF t id off)=(.jF t id off)/\ag.wx M (.jF t id off)=(.jF t id off)) /\
  (∀B M v,ag.jB B M (.mQ v)=(.mQ v)/\ag.kE B M (.mQ v)=(.mQ v)/\ag.kG B M (.mQ v)=(.mQ v)/\ag.nS B M (.mQ v)=(.mQ v)/\ag.j4 B M (.mQ v)=(.mQ v)/\ag.kd B M (.mQ v)=(.mQ v)/\ag.mu B M (.mQ v)=(.mQ v)) /\
  (∀v,ag.shut (.mQ v)=(.mQ v)/\ag.gb (.mQ v)=(.mQ v)/\ag.jx (.mQ v)=true/\ag.plainCell (.mQ v)=false/\ag.plain (.mQ v)=false/\ag.cells (.mQ v)=[(.mQ v)]/\ag.ig (.mQ v)=[]/\ag.mM (.mQ v)=[]/\ag.ids (.mQ v)=[]):=by
 repeat' (first|rfl|intro _|apply And.intro)
def TG5:(∀M v,ag.ou M (.mQ v)=(.mQ v)/\ag.wx M (.mQ v)=(.mQ v)) /\
  (∀B M v,ag.jB B M (.raw v)=(.raw v)/\ag.kE B M (.raw v)=(.raw v)/\ag.kG B M (.raw v)=(.raw v)/\ag.nS B M (.raw v)=(.raw v)/\ag.j4 B M (.raw v)=(.raw v)/\ag.kd B M (.raw v)=(.raw v)/\ag.mu B M (.raw v)=(.raw v)) /\
  (∀v,ag.shut (.raw v)=(.raw v)/\ag.gb (.raw v)=(.raw v)/\ag.jx (.raw v)=false/\ag.cells (.raw v)=[(.raw v)]/\ag.ig (.raw v)=[]/\ag.mM (.raw v)=[]/\ag.ids (.raw v)=[]) /\
  (∀M v,ag.ou M (.raw v)=(.raw v)/\ag.wx M (.raw v)=(.raw v)) /\
  (∀B M,ag.jB B M .any = .any/\ag.kE B M .any = .any/\ag.kG B M .any = .any/\ag.nS B M .any = .any/\ag.j4 B M .any = .any/\ag.kd B M .any = .any/\ag.mu B M .any = .any) /\
  (ag.shut .any = .any/\ag.gb .any = .any/\ag.jx .any=false/\ag.plainCell .any=false/\ag.plain .any=false/\ag.cells .any=[.any]/\ag.ig .any=[]/\ag.mM .any=[]/\ag.ids .any=[]) /\
  (∀M,ag.ou M .any = .any/\ag.wx M .any = .any) /\
  (∀B M xs,ag.jB B M (hZ xs)=(hZ xs)/\ag.kE B M (hZ xs)=(hZ xs)/\ag.kG B M (hZ xs)=(hZ xs)/\ag.nS B M (hZ xs)=(hZ xs)/\ag.j4 B M (hZ xs) = hZ xs/\ag.kd B M (hZ xs) = hZ xs/\ag.mu B M (hZ xs) = hZ xs):=by
 repeat' (first|rfl|intro _|apply And.intro)
def TG6:(∀xs,ag.shut (hZ xs) = hZ xs/\ag.gb (hZ xs) = hZ xs/\ag.jx (hZ xs)=false/\ag.cells? (hZ xs)=some [(hZ xs)]/\ag.iP (hZ xs)=true/\ag.plainCell (hZ xs)=true/\ag.plain (hZ xs)=true/\ag.cells (hZ xs)=[(hZ xs)]/\ag.ig (hZ xs)=[]/\ag.mM (hZ xs)=[]/\ag.ids (hZ xs)=[]) /\
  (∀M xs,ag.ou M (hZ xs)=(hZ xs)/\ag.wx M (hZ xs)=(hZ xs)) /\
  (∀B M xs,ag.jB B M (.slice .c0 xs)=(.slice .c0 xs)/\ag.kE B M (.slice .c0 xs)=(.slice .c0 xs)/\ag.kG B M (.slice .c0 xs)=(.slice .c0 xs)/\ag.nS B M (.slice .c0 xs)=(.slice .c0 xs)/\ag.j4 B M (.slice .c0 xs) = hZ xs/\ag.kd B M (.slice .c0 xs) = hZ xs/\ag.mu B M (.slice .c0 xs) = hZ xs) /\
  (∀xs,ag.shut (.slice .c0 xs) = hZ xs/\ag.gb (.slice .c0 xs) = hZ xs/\ag.jx (.slice .c0 xs)=false/\ag.cells? (.slice .c0 xs)=some [(.slice .c0 xs)]/\ag.iP (.slice .c0 xs)=true/\ag.plainCell (.slice .c0 xs)=false/\ag.plain (.slice .c0 xs)=false/\ag.cells (.slice .c0 xs)=[(.slice .c0 xs)]/\ag.ig (.slice .c0 xs)=[]/\ag.mM (.slice .c0 xs)=[]/\ag.ids (.slice .c0 xs)=[]) /\
  (∀M xs,ag.ou M (.slice .c0 xs)=(.slice .c0 xs)/\ag.wx M (.slice .c0 xs)=(.slice .c0 xs)) /\
  (∀B M k xs,ag.jB B M (.slice (.own k) xs)=(if k<B then (.slice (.own k) xs) else hZ xs)/\ag.kE B M (.slice (.own k) xs)=(if k<B then (.slice (.own k) xs) else hZ xs)/\ag.kG B M (.slice (.own k) xs)=(if k<B then (.slice (.own k) xs) else hZ xs)/\ag.nS B M (.slice (.own k) xs)=(if k<B then (.slice (.own k) xs) else hZ xs)/\ag.j4 B M (.slice (.own k) xs) = hZ xs/\ag.kd B M (.slice (.own k) xs) = hZ xs/\ag.mu B M (.slice (.own k) xs) = hZ xs) /\
  (∀k xs,ag.shut (.slice (.own k) xs) = hZ xs/\ag.gb (.slice (.own k) xs) = hZ xs/\ag.jx (.slice (.own k) xs)=false/\ag.cells? (.slice (.own k) xs)=some [(.slice (.own k) xs)]/\ag.iP (.slice (.own k) xs)=true/\ag.plainCell (.slice (.own k) xs)=false/\ag.plain (.slice (.own k) xs)=false/\ag.cells (.slice (.own k) xs)=[(.slice (.own k) xs)]/\ag.ig (.slice (.own k) xs)=[k]/\ag.mM (.slice (.own k) xs)=[k]/\ag.ids (.slice (.own k) xs)=[k]) /\
  (∀M k xs,ag.ou M (.slice (.own k) xs)=(.slice (.own k) xs)/\ag.wx M (.slice (.own k) xs)=(.slice (.own k) xs)):=by
 repeat' (first|rfl|intro _|apply And.intro)
def TG7:(∀B M cs,ag.jB B M (.agg cs) = .any/\ag.kE B M (.agg cs) = .any/\ag.kG B M (.agg cs) = .agg (cs.map (ag.kE B M))/\ag.nS B M (.agg cs) = .agg (cs.map (ag.kE B M))/\ag.j4 B M (.agg cs) = .any/\ag.kd B M (.agg cs) = .agg (cs.map (ag.j4 B M))/\ag.mu B M (.agg cs) = .agg (cs.map (ag.j4 B M))) /\
  (∀cs,ag.shut (.agg cs)=(.agg cs)/\ag.gb (.agg cs) = .agg (cs.map ag.shut)/\ag.jx (.agg cs)=false/\ag.cells? (.agg cs)=some cs/\ag.iP (.agg cs)=false/\ag.plainCell (.agg cs)=false/\ag.plain (.agg cs)=cs.all ag.plainCell/\ag.cells (.agg cs)=cs/\ag.ig (.agg cs)=[]/\ag.mM (.agg cs)=[]/\ag.ids (.agg cs)=cs.flatMap ag.mM) /\
  (∀M cs,ag.ou M (.agg cs)=(.agg cs)/\ag.wx M (.agg cs) = .agg (cs.map (ag.ou M))) /\
  (∀B M cs,ag.jB B M (.tuple cs) = .any/\ag.kE B M (.tuple cs) = .any/\ag.kG B M (.tuple cs) = .any/\ag.nS B M (.tuple cs) = .tuple (cs.map (ag.kG B M))/\ag.j4 B M (.tuple cs) = .any/\ag.kd B M (.tuple cs) = .any/\ag.mu B M (.tuple cs) = .tuple (cs.map (ag.kd B M))) /\
  (∀cs,ag.shut (.tuple cs)=(.tuple cs)/\ag.gb (.tuple cs)=(.tuple cs)/\ag.jx (.tuple cs)=false/\ag.plainCell (.tuple cs)=false/\ag.plain (.tuple cs)=false/\ag.cells (.tuple cs)=[(.tuple cs)]/\ag.ig (.tuple cs)=[]/\ag.mM (.tuple cs)=[]/\ag.ids (.tuple cs)=[]) /\
  (∀M cs,ag.ou M (.tuple cs)=(.tuple cs)/\ag.wx M (.tuple cs)=(.tuple cs)):=by
 repeat' (first|rfl|intro _|apply And.intro)
def bp{C:eK}{fn:List sv}{bL:Nat}{k:List K}{t:Bool}{x y:cB}{br:Env}{M:aG}{r:Option (ag×aG)}
  (h1:t=true->eV C fn bL k x br M=r) (h2:t=false->eV C fn bL k y br M=r):eo C fn bL k (.bool t) x y br M=r:=by
 cases t
 ·exact h2 rfl
 ·exact h1 rfl
def bR{C:eK}{fn:List sv}{bL:Nat}{k:List K}{live:List Nat}{t w:Bool}{o:cT}{l:List cT}{br:Env}{M:aG}{r:Option (ag×aG)}
  (h1:t=w->je C fn bL k live o.lets o.dst l br (oq C o br M)=r) (h2:t = !w->fZ C fn bL k live l (pD br o.dst (.tuple [])) M=r):gK C fn bL k live (.bool t) w o l br M=r:=by
 cases t<;>cases w
 ·exact h1 rfl
 ·exact h2 rfl
 ·exact h2 rfl
 ·exact h1 rfl
def dE{C:eK}{fn:List sv}{bL:Nat}{k:List K}{live:List Nat}{c:Bool}{d:Option Nat}{l:List cT}{br:Env}{t:Bool}{x y r:Option (ag×aG)}
  (h1:t=true->je C fn bL k live c d l br x=r) (h2:t=false->je C fn bL k live c d l br y=r):je C fn bL k live c d l br (yX t x y)=r:=by
 cases t
 ·exact h2 rfl
 ·exact h1 rfl
def qS{a b:Nat}(h:a<=1000000)(hb:b<=1000):cu a b=True:=by
 have:a*b<=1000000*1000:=Nat.mul_le_mul h hb;simp only[fq,jc];unfold cu;omega
def rb{a b:Nat}(h:a<=1000000:=by omega)(hb:b<=1000:=by omega):cu a b=True:=qS h hb
def vG{p:Prop}(h:p:=by omega):p=True:=eq_true h
def oyf{p:Prop}(h:¬p:=by omega):p=False:=eq_false h
def aaa(x:ag)(n:Nat):wid [x] n=(x.cells.length=n):=by simp[wid]
def Z8(a b:List ag)(n:Nat):wid (a++b) n=(wid a n/\wid b n):=by
 simp only[fq];exact⟨fun h=>⟨fun x hx=>h x (dq _ hx),fun x hx=>h x (eL _ hx)⟩,fun h x hx=>(bm.1 hx).elim (h.1 x) (h.2 x)⟩
def Z9(n:Nat):wid [] n=True:=by simp[wid]
def Zv(m:Nat):((m:Int)<0)=False:=by simp
def gn{n:Int}(h0 : -9223372036854775808<=n)(h1:n<=9223372036854775807):IntKind.i64.wrap n=n:=by rw[IntKind.wrap_i64]; omega
def Cj{C:eK}{f:Nat}{vs:List ag}{r:ag}(h:C f vs []=some (r,[]))(h1:vs.all ag.flat=true)(h2:vs.flatMap ag.ids=[])(h3:r.we=true)
  (h4:vs.map (ag.pL (iy []))=vs) (h5:r.Bg (wD [])=r) (M:aG):aU C f vs M=some (r,M):=by
 have e0:reach M []=[]:=rfl;have e1:kD M []=[]:=rfl;have e2:(vs.map (ag.pL (iy [])))=vs:=h4;unfold aU;rw[bc h1,h2,e0];simp only[jE,bV];rw[bc e1,e2,h];simp[h3,h5,kY]
def cO{C:eK}{f:Nat}{vs:List ag}{r:ag}(h:C f vs []=some (r,[]))(M:aG)(h1:vs.all ag.flat=true:=by exact rfl)(h2:vs.flatMap ag.ids=[]:=by exact rfl)(h3:r.we=true:=by exact rfl)(h4:vs.map (ag.pL (iy []))=vs:=by exact rfl)(h5:r.Bg (wD [])=r:=by exact rfl):aU C f vs M=some (r,M):=Cj h h1 h2 h3 h4 h5 M
def cP{C:eK}{f:Nat}{vs:List ag}{r:ag}(h:C f vs []=some (r,[]))(h1:vs.all ag.flat=true:=by exact rfl)(h2:vs.flatMap ag.ids=[]:=by exact rfl)(h3:r.we=true:=by exact rfl)(h4:vs.map (ag.pL (iy []))=vs:=by exact rfl)(h5:r.Bg (wD [])=r:=by exact rfl)(M:aG):aU C f vs M=some (r,M):=Cj h h1 h2 h3 h4 h5 M
def GY{M:aG}{p:Nat}{b:dy}(h:nth M p=some b):∀b',nth (jj M p b') p=some b':=by
 intro b';rw[fK] at h ⊢;rw[gy];exact dK (aK h)
def sI{C:eK}{f p:Nat}{vs:List ag}{r:ag}{M:aG}{cs cs':List ag}(hM:nth M p=some (.cells cs))(h:C f (.ptr 0 0::vs) [.cells cs]=some (r,[.cells cs']))(h1:vs.all ag.flat=true)(h2:vs.flatMap ag.ids=[])(h3:r.we=true)
  (h4:vs.map (ag.pL (iy [p]))=vs) (h5:r.Bg (wD [p])=r) (h6:cs.all ag.vf=true) (h7:cs.flatMap ag.mM=[]) (h8:cs.map (ag.r8 (iy [p]))=cs) (h9:cs'.all ag.vf=true) (h10:cs'.map (ag.r8 (wD [p]))=cs') :
  aU C f (.ptr p 0::vs) M=some (r,jj M p (.cells cs')):=by
 have hids:(ag.ptr p 0::vs).flatMap ag.ids=[p]:=by simp[ag.ids,ag.mM,ag.ig,h2]
 have hi:pX M [p]=[]:=by simp[pX,hM,dy.ids,h7]
 have e0:kD M [p]=[p]:=by simp[kD,hi,j8]
 have e1:reach M [p]=[p]:=by
  have ea:j8 [] [p]=[p]:=rfl;simp only[reach,ea,e0]
 have hfl:(ag.ptr p 0::vs).all ag.flat=true:=by simp only[lq,h1,gq]; rfl
 unfold aU;rw[bc hfl,hids,e1];have hpk:jE M (iy [p]) [p]=some [.cells cs]:=by simp[jE,hM,dy.flat,h6,dy.pL,h8]
 rw[hpk];simp only[bV];rw[bc e0]
 have hrn:(ag.ptr p 0::vs).map (ag.pL (iy [p])) = .ptr 0 0::vs:=by
  simp only[aP,h4];simp[ag.pL,ag.r8,ag.sZ,iy]
 rw[hrn,h];simp only[bV];rw[bc ⟨rfl,h3,by simp[dy.flat,h9]⟩,h5]
 simp only[kY,dy.pL,h10]
def max_lt(n:Nat)(h:n<=9223372036854775807):(IntKind.i64.max<(n:Int))=False:=by
 have:IntKind.i64.max=9223372036854775807:=rfl;simp only[fq,pn,this]; omega
set_option linter.defProp false in
def EVT:=bO @Qz (bO @Qy (bO @Xm (bO @Xn (bO @N0 (bO @Qx (bO @KH (bO @Vd (bO @OW (bO @OX (bO @UQ (bO @Zx (bO @Ov (bO @K3 (bO @K1 (bO @K2 (bO @K4 (bO @akN (bO @akK (bO @akM (bO @akL (bO @akO (bO @Xy (bO @Xx (bO @afh (bO @Iu (bO @KV (bO @KU (bO @GB (bO @Ir (bO @T7 (bO @Eo (bO @GC (bO @XL (bO @GD (bO @It (bO @afg (bO @aP.{0,0} (bO @a8.{0,0} (bO @bV (bO @xd (bO @p6 (bO @dk (bO @aL (bO @au.{0} (bO @av.{0} (bO @lq.{0} (bO @List.all_nil.{0} (bO @j9 (bO @List.take_zero.{0} (bO @aZ.{0} (bO @List.take_succ_cons.{0} (bO @List.drop_succ_cons.{0} (bO @List.drop_zero.{0} (bO @List.drop_nil.{0} (bO @List.take_nil.{0} (bO @cZ.{0} (bO @aR.{0} (bO @aC (bO @jZ (bO @not_true_eq_false (bO @oW (bO @Nat.one_ne_zero (bO @Nat.zero_ne_one (bO @ka (bO @im (bO @fj.{0,0} (bO @fH.{0,0} (bO @js (bO @bf.{0,0} (bO @eP.{0,0} (bO @Lg (bO @Int.natCast_nonneg (bO @decide_true (bO @decide_false (bO @BEq.rfl.{0} (bO @iX.{0} (bO @c8 (bO @fg (bO @Zv (bO @aaa (bO @Z9 (bO @and_true (bO @true_and (bO @gq (bO @aD.{0} (bO @pk.{0} (bO @gt_iff_lt.{0} (bO @Z8 (bO @jW.{0} (bO @true_or (bO @or_true (bO @List.cons_prefix_cons.{0} (bO @List.nil_prefix.{0} (bO @List.cons_ne_nil.{0} (bO @List.flatMap_cons.{0,0} (bO @List.flatMap_nil.{0,0} (bO @max_lt (bO @TG0 (bO @TG1 (bO @TG2 (bO @TG3 (bO @TG4 (bO @TG5 (bO @TG6 (@TG7)))))))))))))))))))))))))))))))))))))))))))))))))))))))))))))))))))))))))))))))))))))))))))))))))))))))))
set_option linter.defProp false in
def EVD:=bO @finish.eq_1 (bO @sm.eq_1 (bO @sm.eq_2 (bO @DR.eq_1 (bO @DR.eq_2 (bO @DR.eq_3 (bO @one.eq_1 (bO @one.eq_2 (bO @oq.eq_1 (bO @ef.eq_1 (bO @ef.eq_2 (bO @ef.eq_3 (bO @ef.eq_4 (bO @ef.eq_5 (bO @ef.eq_6 (bO @ef.eq_7 (bO @ef.eq_8 (bO @ef.eq_9 (bO @ef.eq_10 (bO @ef.eq_11 (bO @ef.eq_12 (bO @ef.eq_13 (bO @ef.eq_14 (bO @ef.eq_15 (bO @ef.eq_16 (bO @ef.eq_17 (bO @ef.eq_18 (bO @ef.eq_19 (bO @ef.eq_20 (bO @ef.eq_21 (bO @ef.eq_22 (bO @ef.eq_23 (bO @ef.eq_24 (bO @ef.eq_25 (bO @ef.eq_26 (bO @ef.eq_27 (bO @ef.eq_28 (bO @ef.eq_29 (bO @ef.eq_30 (bO @ef.eq_31 (bO @ef.eq_32 (bO @ef.eq_33 (bO @ef.eq_34 (bO @ef.eq_35 (bO @ef.eq_36 (bO @ef.eq_37 (bO @ef.eq_38 (bO @ef.eq_39 (bO @ef.eq_40 (bO @ef.eq_41 (bO @ef.eq_42 (bO @ef.eq_43 (bO @ef.eq_44 (bO @ef.eq_45 (bO @ef.eq_46 (bO @ef.eq_47 (bO @ef.eq_48 (bO @ef.eq_49 (bO @ef.eq_50 (bO @ef.eq_51 (bO @ef.eq_52 (bO @ef.eq_53 (bO @ef.eq_54 (bO @ef.eq_55 (bO @ef.eq_56 (bO @fe.eq_1 (bO @fe.eq_2 (bO @gV.ev.eq_1 (bO @gV.ev.eq_2 (bO @iB.eq_1 (bO @iB.eq_2 (bO @pD.eq_1 (bO @pD.eq_2 (bO @lQ.eq_1 (bO @nth.eq_1 (bO @nth.eq_2 (bO @nth.eq_3 (bO @jj.eq_1 (bO @jj.eq_2 (bO @jj.eq_3 (bO @pM.eq_1 (bO @pM.eq_2 (bO @pM.eq_3 (bO @pM.eq_4 (bO @pM.eq_5 (bO @pM.eq_6 (bO @pM.eq_7 (bO @pM.eq_8 (bO @pM.eq_9 (bO @pM.eq_10 (bO @pM.eq_11 (bO @pM.eq_12 (bO @pM.eq_13 (bO @pM.eq_14 (bO @pM.eq_15 (bO @pM.eq_16 (bO @pM.eq_17 (bO @pM.eq_18 (bO @pM.eq_19 (bO @pM.eq_20 (bO @pM.eq_21 (bO @pM.eq_22 (bO @pM.eq_23 (bO @pM.eq_24 (bO @pM.eq_25 (bO @mF.eq_1 (bO @zq.eq_1 (bO @lK.eq_1 (bO @dy.back.eq_1 (bO @dy.back.eq_2 (bO @dy.back.eq_3 (bO @dy.back.eq_4 (bO @dy.back.eq_5 (bO @sj.eq_1 (bO @sj.eq_2 (bO @xj.eq_1 (bO @xj.eq_2 (bO @lx.eq_1 (bO @lx.eq_2 (bO @kg.eb.eq_1 (bO @kg.eb.eq_2 (bO @kg.eb.eq_3 (bO @fF.eq_1 (bO @fF.eq_2 (bO @ob.eq_1 (bO @og.eq_1 (bO @ox.eq_1 (bO @bytesOf.eq_1 (bO @valOf.eq_1 (@valOf.eq_2)))))))))))))))))))))))))))))))))))))))))))))))))))))))))))))))))))))))))))))))))))))))))))))))))))))))))))))))))))))))))))))))))
set_option linter.defProp false in
def pE:=bO @gq (bO @c9 (bO @dG (bO @dw (bO @dS (bO @dA (bO @eT (bO @dp (bO @c8 (bO @fg (bO @j9 (bO @eH (bO @af (@iX.{0})))))))))))))
set_option linter.defProp false in
def EV:=And.intro @ne_eq.{1} (And.intro EVT EVD)
end Go.Abs
namespace Go.Proofs.YtahkjijkflobhaaGreatDoor
section
open Go Go.Abs
def Qm:Nat->Option ei
 |238=>some abN
 |239=>some abO
 |240=>some akg
 |243=>some abP
 |244=>some abQ
 |245=>some abR
 |246=>some abT
 |247=>some abU
 |248=>some Mc
 |249=>some Md
 |250=>some Q5
 |251=>some H0
 |252=>some H2
 |253=>some abV
 |254=>some abW
 |258=>some Q6
 |259=>some Q7
 |261=>some abX
 |262=>some abY
 |263=>some abZ
 |264=>some ab0
 |265=>some ab1
 |266=>some ab2
 |273=>some Mf
 |275=>some ab3
 |286=>some ab4
 |287=>some Mg
 |288=>some Mh
 |296=>some ab5
 |307=>some Mi
 |325=>some H3
 |_=>none
def Ql:Nat->Option ei
 |155=>some aj7
 |156=>some aj8
 |157=>some L5
 |159=>some aj9
 |160=>some QS
 |161=>some aa5
 |162=>some aa6
 |163=>some aa7
 |164=>some QT
 |165=>some aa8
 |166=>some aa9
 |167=>some aba
 |168=>some abb
 |169=>some abc
 |170=>some QU
 |171=>some QV
 |172=>some L6
 |173=>some abd
 |174=>some QW
 |175=>some QX
 |176=>some HW
 |177=>some abe
 |178=>some QY
 |179=>some abf
 |180=>some abg
 |181=>some abh
 |182=>some abi
 |183=>some abj
 |184=>some abk
 |185=>some abl
 |186=>some abm
 |187=>some L7
 |188=>some L8
 |189=>some abn
 |190=>some abo
 |191=>some L9
 |192=>some HX
 |193=>some abp
 |194=>some abq
 |195=>some abr
 |196=>some abt
 |197=>some QZ
 |198=>some Q0
 |199=>some abu
 |200=>some abv
 |203=>some abw
 |204=>some Q1
 |205=>some abx
 |206=>some aby
 |207=>some HZ
 |208=>some abz
 |209=>some Q2
 |210=>some abA
 |211=>some abB
 |212=>some abC
 |213=>some Ma
 |215=>some abD
 |217=>some ake
 |218=>some abE
 |221=>some Mb
 |222=>some abF
 |225=>some abG
 |226=>some abH
 |227=>some abI
 |232=>some Q3
 |233=>some abJ
 |234=>some Q4
 |235=>some abK
 |236=>some abL
 |237=>some abM
 |f=>Qm f
def Qk:Nat->Option ei
 |80=>some aqE
 |81=>some aqF
 |82=>some aqG
 |83=>some aqH
 |84=>some adV
 |85=>some akw
 |86=>some akx
 |87=>some aky
 |88=>some akz
 |89=>some akA
 |90=>some adW
 |91=>some aqI
 |92=>some akB
 |93=>some akC
 |94=>some akD
 |95=>some akE
 |96=>some akF
 |97=>some akG
 |98=>some akH
 |99=>some akI
 |100=>some aaI
 |101=>some aaJ
 |102=>some aaK
 |103=>some QH
 |104=>some aaL
 |105=>some L0
 |106=>some aaM
 |107=>some aaN
 |108=>some aaO
 |109=>some aaP
 |110=>some QI
 |111=>some zE
 |112=>some QJ
 |113=>some yl
 |114=>some Da
 |115=>some ES
 |116=>some QK
 |117=>some ET
 |118=>some QL
 |119=>some HT
 |120=>some aaQ
 |124=>some aaR
 |125=>some aaS
 |126=>some aaT
 |127=>some QM
 |128=>some aaU
 |129=>some aaV
 |130=>some aaW
 |131=>some aaX
 |132=>some ym
 |133=>some QN
 |134=>some aaY
 |135=>some QO
 |136=>some L1
 |137=>some QP
 |138=>some L2
 |140=>some L3
 |141=>some HU
 |142=>some QQ
 |143=>some aaZ
 |145=>some L4
 |146=>some aa0
 |147=>some aa1
 |148=>some aa2
 |149=>some aj4
 |150=>some aj5
 |151=>some aj6
 |152=>some aa3
 |153=>some QR
 |154=>some aa4
 |f=>Ql f
def code:Nat->Option ei
 |3=>some fn3
 |4=>some fn4
 |5=>some fn5
 |6=>some fn6
 |7=>some fn7
 |8=>some fn8
 |10=>some adN
 |11=>some aj2
 |12=>some aj3
 |13=>some Xp
 |15=>some aqs
 |16=>some HV
 |17=>some aka
 |18=>some akb
 |19=>some adO
 |20=>some akc
 |21=>some akd
 |22=>some aqt
 |23=>some akf
 |24=>some uf
 |27=>some akh
 |28=>some aki
 |29=>some aqu
 |30=>some aqv
 |31=>some aqw
 |32=>some akj
 |33=>some Db
 |34=>some akk
 |35=>some N2
 |36=>some akl
 |37=>some akm
 |38=>some akn
 |39=>some ako
 |40=>some aqx
 |41=>some akp
 |42=>some aqy
 |43=>some aqz
 |44=>some aqA
 |45=>some aqB
 |46=>some aqC
 |47=>some akq
 |48=>some akr
 |49=>some aks
 |50=>some Gu
 |51=>some zF
 |52=>some Cb
 |53=>some KK
 |54=>some Q8
 |55=>some Xq
 |56=>some N3
 |61=>some adQ
 |62=>some Q9
 |63=>some N4
 |64=>some Ra
 |65=>some KL
 |66=>some Xr
 |67=>some adR
 |68=>some Xt
 |69=>some adS
 |70=>some N5
 |71=>some Ek
 |72=>some Xu
 |73=>some Rb
 |74=>some Xv
 |75=>some Xw
 |76=>some adU
 |77=>some aku
 |78=>some akv
 |79=>some aqD
 |f=>Qk f
noncomputable def nc:Nat->Option (List ag->aG->Option (ag×aG))
 |216=>some (uB 3 2 217)
 |158=>some (uB 6 0 159)
 |274=>some (yY)
 |289=>some (I1)
 |295=>some (z6)
 |214=>some (lV 3 32)
 |255=>some (lV 6 80)
 |220=>some (lV 3 24)
 |202=>some (lV 3 24)
 |224=>some (rF 8 96)
 |230=>some (rF 3 24)
 |139=>some (pCC 1 1)
 |294=>some (kK 6)
 |260=>some (kK 3)
 |223=>some (rZ 3)
 |228=>some (rZ 3)
 |256=>some (ku 6 80)
 |257=>some (ku 3 32)
 |219=>some (ku 3 24)
 |229=>some (ku 3 24)
 |_=>none
noncomputable def bN:zg:=⟨code,nc⟩
set_option maxRecDepth 100000 in
def uD{f:Nat}{c fn:ei}{func:Func}{A:D8}(h:some c=some fn)(h1:Tryz.prog.funcs[f]?=some func)(h2:oY Tryz.prog A func=some c):∃ A func,Tryz.prog.funcs[f]?=some func/\oY Tryz.prog A func=some fn:=by
 cases h; exact⟨_,_,h1,h2⟩
def fX{f:Nat}{c fn:ei}{func:Func}(h:some c=some fn)(h1:Tryz.prog.funcs[f]?=some func)(h2:uI [] func c):∃ A func,Tryz.prog.funcs[f]?=some func/\oY Tryz.prog A func=some fn:=uD h h1 h2
def Qj(f:Nat)(fn:ei)(h:Qm f=some fn):∃A func,Tryz.prog.funcs[f]?=some func/\oY Tryz.prog A func=some fn:=by
 unfold Qm at h;split at h
 ·exact fX h func238 eR
 ·exact fX h func239 eR
 ·exact fX h func240 eR
 ·exact fX h func243 eR
 ·exact fX h func244 eR
 ·exact fX h func245 eR
 ·exact fX h func246 eR
 ·exact fX h func247 eR
 ·exact fX h func248 eR
 ·exact fX h func249 eR
 ·exact uD h func250 amm
 ·exact uD h func251 amn
 ·exact uD h func252 amo
 ·exact fX h func253 eR
 ·exact fX h func254 eR
 ·exact uD h func258 amp
 ·exact fX h func259 eR
 ·exact fX h func261 eR
 ·exact fX h func262 eR
 ·exact fX h func263 eR
 ·exact fX h func264 eR
 ·exact fX h func265 eR
 ·exact fX h func266 eR
 ·exact fX h func273 eR
 ·exact fX h func275 eR
 ·exact fX h func286 eR
 ·exact fX h func287 eR
 ·exact fX h func288 eR
 ·exact fX h func296 eR
 ·exact fX h func307 eR
 ·exact fX h func325 eR
 ·cases h
set_option maxRecDepth 100000 in
def Qi(f:Nat)(fn:ei)(h:Ql f=some fn):∃A func,Tryz.prog.funcs[f]?=some func/\oY Tryz.prog A func=some fn:=by
 unfold Ql at h;split at h
 ·exact fX h func155 eR
 ·exact fX h func156 eR
 ·exact fX h func157 eR
 ·exact fX h func159 eR
 ·exact fX h func160 eR
 ·exact fX h func161 eR
 ·exact fX h func162 eR
 ·exact fX h func163 eR
 ·exact fX h func164 eR
 ·exact fX h func165 eR
 ·exact fX h func166 eR
 ·exact fX h func167 eR
 ·exact fX h func168 eR
 ·exact fX h func169 eR
 ·exact fX h func170 eR
 ·exact fX h func171 eR
 ·exact fX h func172 eR
 ·exact fX h func173 eR
 ·exact uD h func174 al9
 ·exact uD h func175 ama
 ·exact uD h func176 amb
 ·exact fX h func177 eR
 ·exact uD h func178 amc
 ·exact fX h func179 eR
 ·exact fX h func180 eR
 ·exact fX h func181 eR
 ·exact fX h func182 eR
 ·exact fX h func183 eR
 ·exact fX h func184 eR
 ·exact fX h func185 eR
 ·exact fX h func186 eR
 ·exact fX h func187 eR
 ·exact fX h func188 eR
 ·exact fX h func189 eR
 ·exact fX h func190 eR
 ·exact fX h func191 eR
 ·exact uD h func192 amd
 ·exact fX h func193 eR
 ·exact fX h func194 eR
 ·exact fX h func195 eR
 ·exact fX h func196 eR
 ·exact uD h func197 ame
 ·exact uD h func198 amf
 ·exact fX h func199 eR
 ·exact fX h func200 eR
 ·exact fX h func203 eR
 ·exact uD h func204 amh
 ·exact fX h func205 eR
 ·exact fX h func206 eR
 ·exact fX h func207 eR
 ·exact fX h func208 eR
 ·exact uD h func209 ami
 ·exact fX h func210 eR
 ·exact fX h func211 eR
 ·exact fX h func212 eR
 ·exact fX h func213 eR
 ·exact fX h func215 eR
 ·exact fX h func217 eR
 ·exact fX h func218 eR
 ·exact fX h func221 eR
 ·exact fX h func222 eR
 ·exact fX h func225 eR
 ·exact fX h func226 eR
 ·exact fX h func227 eR
 ·exact uD h func232 amj
 ·exact fX h func233 eR
 ·exact uD h func234 amk
 ·exact fX h func235 eR
 ·exact uD h func236 aml
 ·exact fX h func237 eR
 ·exact Qj _ _ h
set_option maxRecDepth 100000 in
def Qh(f:Nat)(fn:ei)(h:Qk f=some fn):∃A func,Tryz.prog.funcs[f]?=some func/\oY Tryz.prog A func=some fn:=by
 unfold Qk at h;split at h
 ·exact fX h func80 eR
 ·exact fX h func81 eR
 ·exact fX h func82 eR
 ·exact fX h func83 eR
 ·exact uD h func84 asn
 ·exact fX h func85 eR
 ·exact fX h func86 eR
 ·exact fX h func87 eR
 ·exact fX h func88 eR
 ·exact fX h func89 eR
 ·exact uD h func90 aso
 ·exact fX h func91 eR
 ·exact fX h func92 eR
 ·exact fX h func93 eR
 ·exact fX h func94 eR
 ·exact fX h func95 eR
 ·exact fX h func96 eR
 ·exact fX h func97 eR
 ·exact fX h func98 eR
 ·exact fX h func99 eR
 ·exact fX h func100 eR
 ·exact fX h func101 eR
 ·exact fX h func102 eR
 ·exact fX h func103 eR
 ·exact fX h func104 eR
 ·exact fX h func105 eR
 ·exact fX h func106 eR
 ·exact fX h func107 eR
 ·exact fX h func108 eR
 ·exact fX h func109 eR
 ·exact fX h func110 eR
 ·exact uD h func111 alR
 ·exact uD h func112 alS
 ·exact uD h func113 alT
 ·exact uD h func114 alU
 ·exact uD h func115 alV
 ·exact fX h func116 eR
 ·exact uD h func117 alW
 ·exact uD h func118 alX
 ·exact uD h func119 alY
 ·exact fX h func120 eR
 ·exact fX h func124 eR
 ·exact fX h func125 eR
 ·exact fX h func126 eR
 ·exact uD h func127 alZ
 ·exact fX h func128 eR
 ·exact fX h func129 eR
 ·exact fX h func130 eR
 ·exact fX h func131 eR
 ·exact uD h func132 al0
 ·exact uD h func133 al1
 ·exact fX h func134 eR
 ·exact uD h func135 al2
 ·exact uD h func136 al3
 ·exact uD h func137 al4
 ·exact fX h func138 eR
 ·exact fX h func140 eR
 ·exact uD h func141 al5
 ·exact uD h func142 al6
 ·exact fX h func143 eR
 ·exact fX h func145 eR
 ·exact fX h func146 eR
 ·exact fX h func147 eR
 ·exact fX h func148 eR
 ·exact fX h func149 eR
 ·exact fX h func150 eR
 ·exact fX h func151 eR
 ·exact fX h func152 eR
 ·exact fX h func153 eR
 ·exact fX h func154 eR
 ·exact Qi _ _ h
set_option maxRecDepth 100000 in
def LP(f:Nat)(fn:ei)(h:code f=some fn):∃A func,Tryz.prog.funcs[f]?=some func/\oY Tryz.prog A func=some fn:=by
 unfold code at h;split at h
 ·exact fX h func3 eR
 ·exact fX h func4 eR
 ·exact fX h func5 eR
 ·exact fX h func6 eR
 ·exact fX h func7 eR
 ·exact fX h func8 eR
 ·exact uD h func10 asd
 ·exact fX h func11 eR
 ·exact fX h func12 eR
 ·exact fX h func13 eR
 ·exact fX h func15 eR
 ·exact fX h func16 eR
 ·exact fX h func17 eR
 ·exact fX h func18 eR
 ·exact uD h func19 ase
 ·exact fX h func20 eR
 ·exact uD h func21 asf
 ·exact fX h func22 eR
 ·exact fX h func23 eR
 ·exact fX h func24 eR
 ·exact fX h func27 eR
 ·exact fX h func28 eR
 ·exact fX h func29 eR
 ·exact fX h func30 eR
 ·exact fX h func31 eR
 ·exact fX h func32 eR
 ·exact fX h func33 eR
 ·exact fX h func34 eR
 ·exact uD h func35 asg
 ·exact fX h func36 eR
 ·exact fX h func37 eR
 ·exact fX h func38 eR
 ·exact fX h func39 eR
 ·exact fX h func40 eR
 ·exact fX h func41 eR
 ·exact fX h func42 eR
 ·exact fX h func43 eR
 ·exact fX h func44 eR
 ·exact fX h func45 eR
 ·exact fX h func46 eR
 ·exact fX h func47 eR
 ·exact fX h func48 eR
 ·exact fX h func49 eR
 ·exact fX h func50 eR
 ·exact uD h func51 ash
 ·exact fX h func52 eR
 ·exact uD h func53 asi
 ·exact uD h func54 asj
 ·exact fX h func55 eR
 ·exact uD h func56 asl
 ·exact fX h func61 eR
 ·exact fX h func62 eR
 ·exact fX h func63 eR
 ·exact fX h func64 eR
 ·exact fX h func65 eR
 ·exact fX h func66 eR
 ·exact fX h func67 eR
 ·exact fX h func68 eR
 ·exact fX h func69 eR
 ·exact fX h func70 eR
 ·exact uD h func71 asm
 ·exact fX h func72 eR
 ·exact fX h func73 eR
 ·exact fX h func74 eR
 ·exact fX h func75 eR
 ·exact fX h func76 eR
 ·exact fX h func77 eR
 ·exact fX h func78 eR
 ·exact fX h func79 eR
 ·exact Qh _ _ h
def MJ(f:Nat)(g:List ag->aG->Option (ag×aG))(h:nc f=some g)(args:List ag)(M:aG)(x:ag×aG)(hx:g args M=some x):mi Tryz.prog f=true/\dD Tryz.prog f args M x:=by
 unfold nc at h;split at h
 ·cases h; exact⟨by kernel_rfl,VV hx⟩
 ·cases h; exact⟨by kernel_rfl,VU hx⟩
 ·cases h; exact⟨by kernel_rfl,KQ hx⟩
 ·cases h; exact⟨by kernel_rfl,akY hx⟩
 ·cases h; exact⟨by kernel_rfl,HH hx⟩
 ·cases h; exact⟨by kernel_rfl,NJ hx⟩
 ·cases h; exact⟨by kernel_rfl,NL hx⟩
 ·cases h; exact⟨by kernel_rfl,NK hx⟩
 ·cases h; exact⟨by kernel_rfl,NI hx⟩
 ·cases h; exact⟨by kernel_rfl,Kg hx⟩
 ·cases h; exact⟨by kernel_rfl,Kh hx⟩
 ·cases h; exact⟨by kernel_rfl,adH hx⟩
 ·cases h; exact⟨by kernel_rfl,NT hx⟩
 ·cases h; exact⟨by kernel_rfl,NS hx⟩
 ·cases h; exact⟨by kernel_rfl,Kt hx⟩
 ·cases h; exact⟨by kernel_rfl,Ku hx⟩
 ·cases h; exact⟨by kernel_rfl,Oe hx⟩
 ·cases h; exact⟨by kernel_rfl,Og hx⟩
 ·cases h; exact⟨by kernel_rfl,Oc hx⟩
 ·cases h; exact⟨by kernel_rfl,Od hx⟩
 ·cases h
def V1:wN Tryz.prog bN:=⟨LP,MJ⟩
theorem sound:oV Tryz.prog (ar bN):=rK (by kernel_rfl) V1
abbrev Bytes:=List UInt8
structure fp where
 name:Bytes
 an:Int
 aj:Int
 deriving DecidableEq,Inhabited
structure Node where
 an:Int
 kind:Int
 cL:Int
 data:Bytes
 aM:List fp
 up:Int
 deriving DecidableEq,Inhabited
structure Tree where
 ae:List Node
 next:Int
 aj:Int
 deriving DecidableEq,Inhabited
def Node.zero:Node:=⟨0,0,0,[],[],0⟩
def fm(e:fp):List ag:=[.str e.name,.int .i64 e.an,.int .i64 e.aj]
def fW(e:fp):ag := .agg (fm e)
abbrev ic(l:List fp):ag := .slice .sh (l.map fW)
abbrev cR(d:Bytes):ag := .slice .sh (d.map pU)
def aI(n:Node):List ag:=[.int .i64 n.an,.int .i64 n.kind,.int .i64 n.cL,cR n.data,ic n.aM,.int .i64 n.up]
def bG(n:Node):ag := .agg (aI n)
abbrev aY(l:List Node):ag := .slice .sh (l.map bG)
def aJ(t:Tree):List ag:=[aY t.ae,.int .i64 t.next,.int .i64 t.aj]
def bq(t:Tree):ag := .agg (aJ t)
structure Small(t:Tree):Prop where
 ae:t.ae.length<=100000
 aM:∀n,n∈t.ae->n.aM.length<=100000
 data:∀n,n∈t.ae->n.data.length<=100000
def HC(n:Node):(bG n).cells=aI n:=rfl
def Kf(e:fp):(fW e).cells=fm e:=rfl
def KX(n:Node):(aI n).length=6:=rfl
def Ot(e:fp):(fm e).length=3:=rfl
def FT(l:List Node):wid (l.map bG) 6=True:=by
 simp only[fq,jc];intro x hx;obtain⟨n,_,rfl⟩:=dj.1 hx;rfl
def JI(l:List fp):wid (l.map fW) 3=True:=by
 simp only[fq,jc];intro x hx;obtain⟨n,_,rfl⟩:=dj.1 hx;rfl
def rC(l:Bytes):wid (l.map pU) 1=True:=by
 simp only[fq,jc];intro x hx;obtain⟨n,_,rfl⟩:=dj.1 hx;rfl
structure Step where
 kind:Nat
 a:Nat
 b:Nat
 n:Nat
 m:Nat
 data:Bytes
set_option linter.defProp false in
def EVN:=bO @HC (bO @Kf (bO @KX (bO @Ot (bO @FT (bO @JI @rC)))))
set_option linter.defProp false in
def EN:=And.intro EVN EV
section
attribute [local irreducible] eV fZ je gK eo kr ar aU cA bH
def fc{α:Type}{l:List α}{pre r:List α}{n:α}(h:l=pre++n::r):l[pre.length]?=some n:=by rw[h]; simp
def gd{α:Type}{l:List α}{pre r:List α}{n:α}(h:l=pre++n::r):((pre.length:Int)<(l.length:Int))=True:=by rw[h]; simp; omega
def gU{α:Type}{l:List α}{pre:List α}(h:l=pre++[]):((pre.length:Int)<(l.length:Int))=False:=by rw[h]; simp
def VY{α:Type}{pre:List α}{n:α}:((pre.length:Int)+1)=((pre++[n]).length:Int):=by simp
def vY{T:Type}(l:List T)(x:T)(h:(l.length:Int)+1<9223372036854775808:=by omega):IntKind.i64.wrap ((l.length:Int)+1)=((l++[x]).length:Int):=by rw[gn (by omega) (by omega)]; exact VY
def find(ae:List Node)(an:Int):Option Node:=ae.find? fun n=>n.an==an
def gr(ae:List Node)(an:Int):Node×Int:=match find ae an with
 |none=>(Node.zero,70)
 |some n=>if n.kind=2 then (n,0) else (Node.zero,73)
def eG(l:List fp)(s:Bytes):Option fp:=l.find? fun e=>e.name==s
def sk(b:UInt8):Bool := !(decide ((b.toNat:Int)<32)||((b.toNat:Int)==47))
def eh(s:Bytes):Bool := !(decide ((s.length:Int)<1)||(decide ((s.length:Int)>32)||(s==[46]||s==[46,46])))&&s.all sk
def dX(ae:List Node)(an:Int)(s:Bytes):Int×Int :=
 if (gr ae an).2≠0 then (0,(gr ae an).2) else if eh s=false then (0,60) else match eG (gr ae an).1.aM s with
  |none=>(0,70)
  |some e=>(e.an,0)
def bP{ae:List Node}{an:Int}{n:Node}(h:find ae an=some n):n∈ae/\n.an=an:=by
 unfold find at h;exact⟨fI h,by simpa using nF h⟩
def tg{t:Tree}(hs:Small t)(an:Int):(gr t.ae an).1.aM.length<=100000:=by
 unfold gr;split
 ·simp[Node.zero]
 ·rename_i n hn;split
  ·exact hs.aM n (bP hn).1
  ·simp[Node.zero]
def zT:List ag:=[.slice .c0 [],.int .i64 0,.int .i64 0]
def nC(n:Node):List Node->List Node->Bool->List Node×Bool
 | [],out,done=>(out,done)
 |m::r,out,done =>
  nC n r ((if !done&&decide (m.an>=n.an) then out++[n] else out)++(if m.an=n.an then [] else [m])) (done||decide (m.an>=n.an))
def eu(ae:List Node)(n:Node):List Node:=(nC n ae [] false).1++(if (nC n ae [] false).2=true then [] else [n])
def fG(ae:List Node)(an:Int):List Node:=ae.filter fun n=>n.an != an
def ga(l:List fp)(s:Bytes):List fp:=l.filter fun e=>e.name != s
def cK(ae:List Node)(an:Int)(s:Bytes):List Node:=eu ae { (find ae an).getD Node.zero with aM:=ga ((find ae an).getD Node.zero).aM s }
abbrev kR(n:Int):Int:=IntKind.i64.wrap n
def gtB(a b:Bytes):Bool := !(strLt a b||a==b)
def vk(e:fp):List fp->List fp->Bool->List fp×Bool
 | [],out,done=>(out,done)
 |m::r,out,done=>vk e r ((if !done&&gtB m.name e.name then out++[e] else out)++[m]) (done||gtB m.name e.name)
def wA(l:List fp)(e:fp):List fp:=(vk e l [] false).1++(if (vk e l [] false).2=true then [] else [e])
def gG(t:Tree)(an:Int)(s:Bytes)(of:Int):Tree :=
 ⟨eu t.ae { (find t.ae an).getD Node.zero with aM:=wA ((find t.ae an).getD Node.zero).aM ⟨s,of,t.aj⟩ },t.next,kR (t.aj+1)⟩
def Pj(ae:List Node)(an:Int):Int:=((find ae an).getD Node.zero).up
def vM(ae:List Node):Nat->Int->Nat->Nat
 |0,_,d=>d
 |m+1,an,d=>if an=1 then d else vM ae m (Pj ae an) (d+1)
def o7(ae:List Node)(an:Int):Nat:=vM ae 201 an 0
def mw(ae:List Node)(of:Int):Nat->Int->Bool
 |0,_=>false
 |m+1,an=>if an=of then true else if an=1 then false else mw ae of m (Pj ae an)
def gR(ae:List Node)(an of:Int):Bool:=mw ae of (ae.length+1) an
structure Sz(b:Nat)(t:Tree):Prop where
 ae:t.ae.length<=b
 aM:∀n,n∈t.ae->n.aM.length<=b
 data:∀n,n∈t.ae->n.data.length<=100000
def Sz.small{b:Nat}{t:Tree}(h:Sz b t)(hb:b<=100000):Small t:=⟨aW h.ae hb,fun n hn=>aW (h.aM n hn) hb,h.data⟩
def FU(n:Node):∀(l out:List Node)(d:Bool),(nC n l out d).1.length+(if (nC n l out d).2=true then 0 else 1)<=out.length+l.length+(if d then 0 else 1)
 | [],out,d=>by simp only[nC,av,dk]; exact aC _
 |m::r,out,d=>by
  rw[nC];refine aW (FU n r _ _) ?_;cases d<;>by_cases h1:n.an<=m.an<;>by_cases h2:m.an=n.an<;>simp[h1,h2]<;>omega
def FV(n:Node):∀(l out:List Node)(d:Bool)(x:Node),x∈(nC n l out d).1->x=n\/x∈out\/x∈l
 | [],out,d,x,h=>by simp[nC] at h; exact .inr (.inl h)
 |m::r,out,d,x,h=>by
  rw[nC] at h;rcases FV n r _ _ x h with h|h|h
  ·exact .inl h
  ·rcases bm.1 h with h|h
   ·split at h
    ·rcases bm.1 h with h|h
     ·exact .inr (.inl h)
     ·exact .inl (by simpa using h)
    ·exact .inr (.inl h)
   ·split at h
    ·cases h
    ·exact .inr (.inr (by simp at h; simp[h]))
  ·exact .inr (.inr (aO _ h))
def FW(ae:List Node)(n:Node):(eu ae n).length<=ae.length+1:=by
 have:=FU n ae [] false;unfold eu;split at this<;>simp_all
def FX{ae:List Node}{n x:Node}(h:x∈eu ae n):x=n\/x∈ae:=by
 unfold eu at h;rcases bm.1 h with h|h
 ·rcases FV n ae [] false x h with h|h|h
  ·exact .inl h
  ·cases h
  ·exact .inr h
 ·split at h
  ·cases h
  ·exact .inl (by simpa using h)
def Sz.with{b:Nat}{t:Tree}(h:Sz b t){n:Node}(h1:n.aM.length<=b+1)(h2:n.data.length<=100000)(next aj:Int):Sz (b+1) ⟨eu t.ae n,next,aj⟩ :=
 ⟨aW (FW _ _) (by have:=h.ae; simp; omega),fun x hx=>by
  rcases FX hx with rfl|hx
  ·exact h1
  ·exact iG (h.aM x hx),fun x hx=>by
  rcases FX hx with rfl|hx
  ·exact h2
  ·exact h.data x hx⟩
def Sz.up{b c:Nat}{t:Tree}(h:Sz b t)(hbc:b<=c):Sz c t:=⟨aW h.ae hbc,fun n hn=>aW (h.aM n hn) hbc,h.data⟩
def Sz.find{b:Nat}{t:Tree}(h:Sz b t)(an:Int):((find t.ae an).getD Node.zero).aM.length<=b/\((find t.ae an).getD Node.zero).data.length<=100000:=by
 cases hf:Go.Proofs.YtahkjijkflobhaaGreatDoor.find t.ae an with
 |none=>simp[Node.zero]
 |some n=>exact⟨h.aM n (bP hf).1,h.data n (bP hf).1⟩
def AJ(l:List fp)(s:Bytes):(ga l s).length<=l.length:=bU _ _
def Sz.left{b:Nat}{t:Tree}(h:Sz b t)(an:Int)(s:Bytes)(next aj:Int):Sz (b+1) ⟨cK t.ae an s,next,aj⟩ :=
 h.with (n:={ (Go.Proofs.YtahkjijkflobhaaGreatDoor.find t.ae an).getD Node.zero with aM:=ga ((Go.Proofs.YtahkjijkflobhaaGreatDoor.find t.ae an).getD Node.zero).aM s }) (aW (AJ _ _) (iG (h.find an).1)) (h.find an).2 next aj
def Sz.uG{b:Nat}{t:Tree}(h:Sz b t)(an:Int)(next aj:Int):Sz b ⟨fG t.ae an,next,aj⟩ :=
 ⟨aW (bU _ _) h.ae,fun x hx=>h.aM x ((cm.1 hx).1),fun x hx=>h.data x ((cm.1 hx).1)⟩
def Dc(t:Tree)(n:Node):Bool:=decide ((64:Int)<=n.aM.length)||(decide ((12:Int)<=o7 t.ae n.an)||decide ((1099511627776:Int)<=t.aj))
def nW(t:Tree)(an:Int)(s:Bytes):Int :=
 if (gr t.ae an).2≠0 then (gr t.ae an).2 else if eh s=false then 60 else if (eG (gr t.ae an).1.aM s).isSome=true then 71 else if Dc t (gr t.ae an).1 then 76 else 0
def rl(t:Tree)(an:Int)(s:Bytes)(kind:Int):Tree×Int×Int :=
 if kind != 1&&kind != 2 then (t,0,1) else if nW t an s != 0 then (t,0,nW t an s) else
 if decide ((200:Int)<=t.ae.length)||decide ((1099511627776:Int)<=t.next) then (t,0,76) else
 (gG ⟨eu t.ae ⟨t.next,kind,1,[],[],if kind==2 then an else 0⟩,kR (t.next+1),t.aj⟩ an s t.next,t.next,0)
abbrev aX(ae:List Node)(an:Int):Node:=(find ae an).getD Node.zero
def Cd(t:Tree)(an to:Int)(s:Bytes):Tree×Int :=
 if !(find t.ae an).isSome||((aX t.ae an).kind==1&&(aX t.ae an).cL==0) then (t,70) else if (aX t.ae an).kind==2 then (t,72) else
 if nW t to s != 0 then (t,nW t to s) else
 (gG ⟨eu t.ae { aX t.ae an with cL:=kR ((aX t.ae an).cL+1) },t.next,t.aj⟩ to s an,0)
def dY(ae:List Node)(an:Int):List Node :=
 if (aX ae an).kind==2 then fG ae an else eu ae { aX ae an with cL:=kR ((aX ae an).cL-1) }
def Aj(t:Tree)(an:Int)(s:Bytes):Tree×Int×Int :=
 if (dX t.ae an s).2 != 0 then (t,0,(dX t.ae an s).2) else if decide ((0:Int)<(aX t.ae (dX t.ae an s).1).aM.length) then (t,0,74) else
 (⟨dY (cK t.ae an s) (dX t.ae an s).1,t.next,t.aj⟩,(dX t.ae an s).1,0)
def uK(ae:List Node)(kind:Int)(y:Int):Int :=
 if !(find ae y).isSome then 0 else if kind==2&&(aX ae y).kind != 2 then 73 else if kind != 2&&(aX ae y).kind==2 then 72 else if decide ((0:Int)<(aX ae y).aM.length) then 74 else 0
def rf(t:Tree)(an:Int)(data:Bytes):Tree×Int :=
 if !(find t.ae an).isSome then (t,70) else if (aX t.ae an).kind==2 then (t,72) else if decide ((4096:Int)<data.length) then (t,2) else
 (⟨eu t.ae { aX t.ae an with data:=data },t.next,t.aj⟩,0)
def jO(t:Tree)(an:Int):Tree×Int :=
 if !(find t.ae an).isSome then (t,70) else if (aX t.ae an).kind==2 then (t,72) else if decide ((0:Int)<(aX t.ae an).cL) then (t,71) else
 (⟨fG t.ae an,t.next,t.aj⟩,0)
def wC:Tree:=⟨[⟨1,2,0,[],[],1⟩],2,1⟩
def rU(ae:List Node)(an at' d:Int)(n:Node)(most:Int):Int :=
 if n.kind==2&&gR ae n.an an then
  (if (if decide ((0:Int)<n.aM.length) then kR (kR (kR (at'+o7 ae n.an)-d)+1) else kR (kR (at'+o7 ae n.an)-d))>most
   then (if decide ((0:Int)<n.aM.length) then kR (kR (kR (at'+o7 ae n.an)-d)+1) else kR (kR (at'+o7 ae n.an)-d)) else most)
 else most
def vP(ae:List Node)(an at' d:Int):List Node->Int->Int
 | [],most=>most
 |n::r,most=>vP ae an at' d r (rU ae an at' d n most)
def BF(ae:List Node)(an at':Int):Int:=vP ae an at' (o7 ae an) ae 0
def dB(l:List fp)(s:Bytes):Int:=match eG l s with
 |none=>0
 |some e=>e.an
def manyN(t:Tree)(jw to:Int)(aM:List fp)(kind y an:Int):Bool :=
 ((y==0&&to != jw)&&decide ((64:Int)<=aM.length))||(decide ((12:Int)<=o7 t.ae to)||((kind==2&&decide ((12:Int)<BF t.ae an (kR (o7 t.ae to+1))))||decide ((1099511627776:Int)<=t.aj)))
def jQ(t:Tree)(jw:Int)(s:Bytes)(to:Int)(nm:Bytes)(an y:Int):Tree :=
 gG ⟨if (aX t.ae an).kind==2 then
   eu (if y != 0 then dY (cK (cK t.ae jw s) to nm) y else cK t.ae jw s) { aX t.ae an with up:=to }
  else if y != 0 then dY (cK (cK t.ae jw s) to nm) y else cK t.ae jw s,t.next,t.aj⟩ to nm an
def wE(t:Tree)(jw:Int)(s:Bytes)(to:Int)(nm:Bytes):Tree×Int×Int :=
 if (dX t.ae jw s).2 != 0 then (t,0,(dX t.ae jw s).2) else
 if (gr t.ae to).2 != 0 then (t,0,(gr t.ae to).2) else
 if !eh nm then (t,0,60) else
 if dB (gr t.ae to).1.aM nm==(dX t.ae jw s).1 then (t,0,0) else
 if (aX t.ae (dX t.ae jw s).1).kind==2&&gR t.ae to (dX t.ae jw s).1 then (t,0,75) else
 if uK t.ae (aX t.ae (dX t.ae jw s).1).kind (dB (gr t.ae to).1.aM nm) != 0 then (t,0,uK t.ae (aX t.ae (dX t.ae jw s).1).kind (dB (gr t.ae to).1.aM nm)) else
 if manyN t jw to (gr t.ae to).1.aM (aX t.ae (dX t.ae jw s).1).kind (dB (gr t.ae to).1.aM nm) (dX t.ae jw s).1 then (t,0,76) else
 (jQ t jw s to nm (dX t.ae jw s).1 (dB (gr t.ae to).1.aM nm),dB (gr t.ae to).1.aM nm,0)
def Sz.unnamed{b:Nat}{t:Tree}(h:Sz b t)(an next aj:Int):Sz (b+1) ⟨dY t.ae an,next,aj⟩:=by
 unfold dY;split
 ·exact(h.uG an next aj).up (by omega)
 ·exact h.with (n:={ aX t.ae an with cL:=kR ((aX t.ae an).cL-1) }) (iG (h.find an).1) (h.find an).2 next aj
structure Step.Ok(s:Step):Prop where
 kind:s.kind<256
 a:s.a<256
 b:s.b<256
 n:s.n<256
 m:s.m<256
 data:s.data.length<=100000
def nameOf(n:Nat):Bytes:=match n % 6 with
 |0=>[97]
 |1=>[98]
 |2=>[99]
 |3=>[100]
 |4=>[101]
 |_=>[46,46]
def wg(t:Tree)(n:Nat):Int:=match t.ae[n % (t.ae.length+1)]? with
 |some m=>m.an
 |none=>t.next
def aaz(t:Tree)(s:Step):Tree×Int×Int :=
 if ((s.kind % 8:Nat):Int)==0||((s.kind % 8:Nat):Int)==1 then rl t (wg t s.a) (nameOf s.n) (((s.m % 2:Nat):Int)+1) else
 if ((s.kind % 8:Nat):Int)==2 then ((Cd t (wg t s.b) (wg t s.a) (nameOf s.n)).1,0,(Cd t (wg t s.b) (wg t s.a) (nameOf s.n)).2) else
 if ((s.kind % 8:Nat):Int)==3 then Aj t (wg t s.a) (nameOf s.n) else
 if ((s.kind % 8:Nat):Int)==4||((s.kind % 8:Nat):Int)==5 then wE t (wg t s.a) (nameOf s.n) (wg t s.b) (nameOf s.m) else
 if ((s.kind % 8:Nat):Int)==6 then ((rf t (wg t s.a) s.data).1,0,(rf t (wg t s.a) s.data).2) else
 ((jO t (wg t s.a)).1,0,(jO t (wg t s.a)).2)
def Ig(e:fp):∀(l out:List fp)(d:Bool),(vk e l out d).1.length+(if (vk e l out d).2=true then 0 else 1)<=out.length+l.length+(if d then 0 else 1)
 | [],out,d=>by simp only[vk,av,dk]; exact aC _
 |m::r,out,d=>by
  rw[vk];refine aW (Ig e r _ _) ?_;cases d<;>cases h1:gtB m.name e.name<;>simp<;>omega
def Rm(l:List fp)(e:fp):(wA l e).length<=l.length+1:=by
 have:=Ig e l [] false;unfold wA;split at this<;>simp_all
def Sz.mR{b:Nat}{t:Tree}(h:Sz b t)(an:Int)(s:Bytes)(of:Int):Sz (b+1) (gG t an s of) :=
 h.with (n:={ aX t.ae an with aM:=wA (aX t.ae an).aM ⟨s,of,t.aj⟩ }) (aW (Rm _ _) (Nat.succ_le_succ (h.find an).1)) (h.find an).2 t.next (kR (t.aj+1))
def Sz.add{b:Nat}{t:Tree}(h:Sz b t)(an:Int)(s:Bytes)(kind:Int):Sz (b+5) (rl t an s kind).1:=by
 unfold rl;split
 ·exact h.up (by omega)
 ·split
  ·exact h.up (by omega)
  ·split
   ·exact h.up (by omega)
   ·exact((h.with (n:=⟨t.next,kind,1,[],[],if kind==2 then an else 0⟩) (by simp) (by simp) (kR (t.next+1)) t.aj).mR an s t.next).up (by omega)
def Sz.ln{b:Nat}{t:Tree}(h:Sz b t)(an to:Int)(s:Bytes):Sz (b+5) (Cd t an to s).1:=by
 unfold Cd;split
 ·exact h.up (by omega)
 ·split
  ·exact h.up (by omega)
  ·split
   ·exact h.up (by omega)
   ·exact((h.with (n:={ aX t.ae an with cL:=kR ((aX t.ae an).cL+1) }) (iG (h.find an).1) (h.find an).2 t.next t.aj).mR to s an).up (by omega)
def Sz.un{b:Nat}{t:Tree}(h:Sz b t)(an:Int)(s:Bytes):Sz (b+5) (Aj t an s).1:=by
 unfold Aj;split
 ·exact h.up (by omega)
 ·split
  ·exact h.up (by omega)
  ·exact((h.left an s t.next t.aj).unnamed _ t.next t.aj).up (by omega)
def Sz.put{b:Nat}{t:Tree}(h:Sz b t)(an:Int)(data:Bytes)(hd:data.length<=100000):Sz (b+5) (rf t an data).1:=by
 unfold rf;split
 ·exact h.up (by omega)
 ·split
  ·exact h.up (by omega)
  ·split
   ·exact h.up (by omega)
   ·exact(h.with (n:={ aX t.ae an with data:=data }) (iG (h.find an).1) hd t.next t.aj).up (by omega)
def Sz.free{b:Nat}{t:Tree}(h:Sz b t)(an:Int):Sz (b+5) (jO t an).1:=by
 unfold jO;split
 ·exact h.up (by omega)
 ·split
  ·exact h.up (by omega)
  ·split
   ·exact h.up (by omega)
   ·exact(h.uG an t.next t.aj).up (by omega)
def Sz.move{b:Nat}{t:Tree}(h:Sz b t)(jw:Int)(s:Bytes)(to:Int)(nm:Bytes)(an y:Int):Sz (b+5) (jQ t jw s to nm an y):=by
 unfold jQ;have z1:=h.left jw s t.next t.aj
 have z3:=(z1.left to nm t.next t.aj).unnamed y t.next t.aj
 have z:Sz (b+3) ⟨if y != 0 then dY (cK (cK t.ae jw s) to nm) y else cK t.ae jw s,t.next,t.aj⟩:=by
  split
  ·exact z3
  ·exact z1.up (by omega)
 split
 ·exact((z.with (n:={ aX t.ae an with up:=to }) (aW (h.find an).1 (by omega)) (h.find an).2 t.next t.aj).mR to nm an).up (by omega)
 ·exact(z.mR to nm an).up (by omega)
def Sz.mv{b:Nat}{t:Tree}(h:Sz b t)(jw:Int)(s:Bytes)(to:Int)(nm:Bytes):Sz (b+5) (wE t jw s to nm).1:=by
 unfold wE
 repeat' split
 all_goals first
  |exact h.up (by omega)
  |exact h.move jw s to nm _ _
def Sz.done{b:Nat}{t:Tree}(h:Sz b t)(s:Step)(hs:s.Ok):Sz (b+5) (aaz t s).1:=by
 unfold aaz
 repeat' split
 all_goals first
  |exact h.add _ _ _
  |exact h.ln _ _ _
  |exact h.un _ _
  |exact h.mv _ _ _ _
  |exact h.put _ _ hs.data
  |exact h.free _
def Sz.wC:Sz 1 wC:=⟨by simp[Go.Proofs.YtahkjijkflobhaaGreatDoor.wC],fun n hn=>by simp[Go.Proofs.YtahkjijkflobhaaGreatDoor.wC] at hn; subst hn; simp,fun n hn=>by simp[Go.Proofs.YtahkjijkflobhaaGreatDoor.wC] at hn; subst hn; simp⟩
def tkN(n:Node):List.take 6 (aI n)=aI n:=rfl
def shN(n:Node):List.map ag.shut (aI n)=aI n:=rfl
def tkE(n:fp):List.take 3 (fm n)=fm n:=rfl
def shE(n:fp):List.map ag.shut (fm n)=fm n:=rfl
def apQ(a:Int):ar bN 239 [aF a] []=some (.bool false,[]):=by
 refine az ?_;simp only[abO,anC,ak,EN,seval]
def arq a:=cP (apQ a)
def pB(a b:Int):Int:=if decide (a<b) then -1 else if decide (b<a) then 1 else 0
def aoQ(a b:Int):ar bN 154 [aF a,aF b] []=some (aF (pB a b),[]):=by
 refine az ?_;simp only[aa4,ahj,arq,EN,seval]
 repeat' ((first|apply bp|apply bR|apply dE)<;>intro hb<;>simp only[hb,EN,ahj,seval])
 all_goals (simp_all only[pB,pE,↓reduceIte,reduceCtorEq,ak]; done)
def XD a b:=cP (aoQ a b)
def xF(a b:Int):(pB a b<0)=(a<b):=by
 unfold pB
 by_cases h1:a<b
 ·simp[h1]
 ·by_cases h2:b<a<;>simp[h1,h2]
def Gj(a b:Int):(pB a b==0)=(a==b):=by
 unfold pB
 by_cases h1:a<b
 ·have:¬a=b:=by omega
  simp[h1,this]
 ·by_cases h2:b<a
  ·have:¬a=b:=by omega
   simp[h1,h2,this]
  ·have:a=b:=by omega
   simp[this]
def aqc(n:Node)(an:Int):ar bN 286 [.agg (aI n),aF an] []=some (aF (pB n.an an),[]):=by
 refine az ?_;simp only[ab4,anL,bG,aI,XD,EN,seval]
def aly n an:=cP (aqc n an)
structure PT(ae:List Node)(an:Int)(b:Nat):Prop where
 le:b<=ae.length
 lt:∀h n,ae[h]?=some n->(n.an<an↔h<b)
def DC(i j:Nat)(hj:j<=100000)(hi:i<=j):IntKind.i64.wrap ((i:Int)+(j:Int))=((i+j:Nat):Int)/\IntKind.u64.wrap ((i+j:Nat):Int)=((i+j:Nat):Int) /\
  (((i+j:Nat):Int)).fdiv (2 ^ min 1 IntKind.u64.bits)=(((i+j) / 2:Nat):Int)/\IntKind.i64.wrap (((i+j) / 2:Nat):Int)=(((i+j) / 2:Nat):Int)/\IntKind.i64.wrap ((((i+j) / 2:Nat):Int)+1)=(((i+j) / 2+1:Nat):Int):=by
 refine⟨?_,?_,?_,?_,?_⟩
 ·rw[gn (by omega) (by omega)]; rfl
 ·have:IntKind.u64.wrap ((i+j:Nat):Int)=((i+j:Nat):Int) % 18446744073709551616:=by simp[IntKind.wrap,IntKind.bits,IntKind.signed]
  rw[this]; omega
 ·have:(2:Int) ^ min 1 IntKind.u64.bits=2:=by decide
  rw[this,Int.fdiv_eq_ediv_of_nonneg _ (by omega)]; omega
 ·exact gn (by omega) (by omega)
 ·rw[gn (by omega) (by omega)]; rfl
def YO{ae:List Node}{an:Int}{b:Nat}(hb:PT ae an b)(hn:ae.length<=100000){k:List K}{r:Option (ag×aG)}
  (hx:∀v q,kr (ar bN) [.tmp 6,.tmp 7] 0 k ⟨.exit 0,[(0,aY ae),(1,aF an),(2,.func 286 []),(8,aF ae.length),(9,aF b),(10,v),(17,q)],[]⟩=r) :
  ∀(f i j:Nat),j-i<=f->i<=b->b<=j->j<=ae.length->eV (ar bN) [.tmp 6,.tmp 7] 0 k (.loop [0,1,2,8,9,10] Mu) [(0,aY ae),(1,aF an),(2,.func 286 []),(8,aF ae.length),(9,aF i),(10,aF j)] []=r:=by
 intro f;induction f with
 |zero =>
  intro i j h1 h2 h3 h4;obtain rfl:i=b:=by omega
  rw[bt];have cz:((i:Int)<(j:Int))=False:=by simp; omega
  simp only[x8,cz,EN,seval];exact hx _ _
 |succ f ih =>
  intro i j h1 h2 h3 h4;rw[bt]
  by_cases hij:i<j
  ·have cz:((i:Int)<(j:Int))=True:=by simp; omega
   obtain⟨m1,m2,m3,m4,m5⟩:=DC i j (by omega) (by omega)
   have hmid:(i+j) / 2<ae.length:=by omega
   have hx:=ai hmid;have hl:=hb.lt _ _ hx;simp only[x8,cz,m1,m2,m3,m4,hx,aly,xF,tkN,shN,EN,seval];refine bp (fun hq=>?_) (fun hq=>?_)
   ·have hq:ae[(i+j) / 2].an<an:=by simpa using hq
    simp only[x8,m5,EN,seval];exact ih ((i+j) / 2+1) j (by omega) (hl.1 hq) h3 h4
   ·have hq:¬ae[(i+j) / 2].an<an:=by simpa using hq
    simp only[x8,EN,seval];exact ih i ((i+j) / 2) (by omega) h2 (n9.1 fun h=>hq (hl.2 h)) (by omega)
  ·obtain rfl:i=b:=by omega
   have cz:((i:Int)<(j:Int))=False:=by simp; omega
   simp only[x8,cz,EN,seval];exact hx _ _
def KR(ae:List Node)(an:Int)(b:Nat):Bool:=match ae[b]? with
 |some n=>n.an==an
 |none=>false
def aoS(ae:List Node)(an:Int)(b:Nat)(hb:PT ae an b)(hn:ae.length<=100000):ar bN 160 [aY ae,aF an,.func 286 []] []=some (.tuple [aF b,.bool (KR ae an b)],[]):=by
 refine az ?_;simp only[QS,x8,EN,seval];refine YO hb hn (fun v q=>?_) ae.length 0 ae.length (by omega) (by omega) hb.le (by omega)
 unfold KR
 by_cases cz:b<ae.length
 ·have hx:=ai cz;have h1:((b:Int)<(ae.length:Int))=True:=by simp; omega
  simp only[x8,hx,h1,aly,Gj,tkN,shN,EN,seval]
 ·have hx:ae[b]?=none:=er (by omega)
  have h1:((b:Int)<(ae.length:Int))=False:=by simp; omega
  simp only[x8,hx,h1,EN,seval]
def arb ae an b hb hn:=cP (aoS ae an b hb hn)
def mG(ae:List Node):Prop:=ae.Pairwise fun a b=>a.an<b.an
def lj(ae:List Node)(an:Int):Nat:=(ae.takeWhile fun n=>decide (n.an<an)).length
def uA{ae:List Node}(h:mG ae)(an:Int):PT ae an (lj ae an):=by
 unfold lj;induction ae with
 |nil=>exact⟨by simp,fun h n hn=>by simp at hn⟩
 |cons a r ih =>
  obtain⟨h1,h2⟩:=cv.1 h;obtain⟨i1,i2⟩:=ih h2
  by_cases ha:a.an<an
  ·rw[hV,bc (by simpa using ha)]
   refine⟨by simpa using i1,fun k n hn=>?_⟩
   cases k with
   |zero=>simp at hn; subst hn; simp[ha]
   |succ k=>rw[i2 k n (by simpa using hn)]; simp
  ·rw[hV,aH (by simpa using ha)]
   refine⟨by simp,fun k n hn=>?_⟩
   simp only[av,ka,pn];cases k with
   |zero=>simp at hn; subst hn; exact ha
   |succ k =>
    have:=h1 n (aQ (by simpa using hn))
    omega
def sH{ae:List Node}(h:mG ae)(an:Int):(KR ae an (lj ae an)=true/\∃n,ae[lj ae an]?=some n/\find ae an=some n/\n.an=an)\/(KR ae an (lj ae an)=false/\find ae an=none):=by
 obtain⟨l1,l2⟩:=uA h an;cases hf:find ae an with
 |some n =>
  left;obtain⟨hm,he⟩:=bP hf;obtain⟨k,hk⟩:=bE hm;have hkb:¬k<lj ae an:=fun hc=>by have:=(l2 k n hk).2 hc; omega
  have hb:lj ae an<ae.length:=by have:=(aq.1 hk).1; omega
  have hx:=ai hb;have hnl:¬ae[lj ae an].an<an:=fun hc=>im _ ((l2 _ _ hx).1 hc)
  have hke:k=lj ae an:=by
   rcases bD (lj ae an) k with cz|hge
   ·have hkl:=(aq.1 hk).1;have h3:=bS.1 h _ _ hb hkl cz;have h4:ae[k]=n:=by rw[ai hkl] at hk; injection hk
    rw[h4] at h3;omega
   ·omega
  subst hke;exact⟨by unfold KR; rw[hk]; simp[he],n,hk,rfl,he⟩
 |none =>
  right;refine⟨?_,rfl⟩;unfold KR;split
  ·rename_i n hn;have:=df.1 hf n (aQ hn);simpa using this
  ·rfl
def uC{M:aG}{p:Nat}{b:dy}(h:nth M p=some b):jj M p b=M:=by
 rw[fK] at h; rw[gy];apply dM;intro i
 by_cases e:p=i
 ·subst e; rw[dK (aK h),h]
 ·rw[cJ e]
def cM{C:eK}{f p:Nat}{vs:List ag}{r:ag}{M:aG}{cs:List ag}(hM:nth M p=some (.cells cs))(h:C f (.ptr 0 0::vs) [.cells cs]=some (r,[.cells cs]))(h1:vs.all ag.flat=true:=by exact rfl)(h2:vs.flatMap ag.ids=[]:=by exact rfl)(h3:r.we=true:=by exact rfl)(h4:vs.map (ag.pL (iy [p]))=vs:=by exact rfl)(h5:r.Bg (wD [p])=r:=by exact rfl)(h6:cs.all ag.vf=true:=by exact rfl)(h7:cs.flatMap ag.mM=[]:=by exact rfl)(h8:cs.map (ag.r8 (iy [p]))=cs:=by exact rfl)(h10:cs.map (ag.r8 (wD [p]))=cs:=by exact rfl):aU C f (.ptr p 0::vs) M=some (r,M):=by
 have:=sI hM h h1 h2 h3 h4 h5 h6 h7 h8 h6 h10;rwa[uC hM] at this
def apR(ae:List Node)(next aj an:Int)(h:mG ae)(hn:ae.length<=100000):ar bN 243 [b9 0,aF an] [bT [aY ae,aF next,aF aj]] =
  some (.tuple [aF (lj ae an),.bool (KR ae an (lj ae an))],[bT [aY ae,aF next,aF aj]]):=by
 refine az ?_;have hk:=arb ae an _ (uA h an) hn;simp only[abP,anE,hk,EN,seval]
def aec ae next aj an h hn p M hM:=cM (p:=p) (M:=M) hM (apR ae next aj an h hn)
def aoU(ae:List Node)(next aj an:Int)(h:mG ae)(hn:ae.length<=100000):ar bN 162 [b9 0,aF an] [bT [aY ae,aF next,aF aj]] =
  some (.tuple [bG (aX ae an),.bool (find ae an).isSome],[bT [aY ae,aF next,aF aj]]):=by
 refine az ?_;have hk:=fun M=>aec ae next aj an h hn 0 (bT [aY ae,aF next,aF aj]::M) rfl
 simp only[aa6,acM,hk,EN,seval];rcases sH h an with ⟨h1,n,h2,h3,h4⟩|⟨h1,h2⟩
 ·simp only[acM,h1,h2,h3,aX,aI,EN,seval];rfl
 ·simp only[acM,h1,h2,aX,EN,seval];rfl
def En ae next aj an h hn p M hM:=cM (p:=p) (M:=M) hM (aoU ae next aj an h hn)
def apy(ae:List Node)(next aj an:Int)(h:mG ae)(hn:ae.length<=100000):ar bN 206 [b9 0,aF an] [bT [aY ae,aF next,aF aj]] =
  some (.tuple [bG (gr ae an).1,aF (gr ae an).2],[bT [aY ae,aF next,aF aj]]):=by
 refine az ?_;have hk:=fun M=>En ae next aj an h hn 0 (bT [aY ae,aF next,aF aj]::M) rfl
 simp only[aby,Wv,hk,bG,aI,EN,seval];unfold gr;cases hf:find ae an with
 |none=>simp only[Wv,aX,hf,Option.isSome,EN,seval]; first|done|rfl
 |some n =>
  simp only[Wv,aX,hf,Option.isSome,bh,EN,seval]
  repeat' ((first|apply bp|apply bR|apply dE)<;>intro hb<;>simp only[hb,EN,Wv,seval])
  all_goals (clear hk; simp_all [Node.zero])
def XH ae next aj an h hn p M hM:=cM (p:=p) (M:=M) hM (apy ae next aj an h hn)
end
end
section
open Go
set_option maxRecDepth 100000 in
def LQ{s pre r:List UInt8}{n:UInt8}(h:s=pre++n::r) :
  (n.toNat<128/\Utf8.decode ⟨s.toArray⟩ pre.length=(n.toNat,1)) \/
  ∃c m r',n::r=m++r'/\m≠[]/\(∀b,b∈m->128<=b.toNat)/\128<=c/\c<2147483648/\Utf8.decode ⟨s.toArray⟩ pre.length=(c,m.length):=by
 have hg:∀k,(⟨s.toArray⟩:ByteArray).get! (pre.length+k)=(n::r).getD k 0:=fun k=>by
  subst h
  show((pre++n::r).toArray)[pre.length+k]! = _
  simp only[List.getElem!_toArray,List.getElem!_eq_getElem?_getD,kx];rw[bA (by omega),iE]
  rfl
 have hsz:(⟨s.toArray⟩:ByteArray).size=pre.length+(n::r).length:=by
  show s.toArray.size=_
  subst h; simp
 by_cases hn:n.toNat<128
 ·refine .inl ⟨hn,?_⟩;have h0:=hg 0;simp only[dk,List.getD_cons_zero] at h0;simp[Utf8.decode,h0,hn]
 ·refine .inr ?_;have hn':128<=n.toNat:=by omega
  have h0:=hg 0;have h1:=hg 1;have h2:=hg 2;have h3:=hg 3;simp only[dk,List.getD_cons_zero,List.getD_cons_succ] at h0 h1 h2 h3
  have one:∀c,128<=c->c<2147483648->Utf8.decode ⟨s.toArray⟩ pre.length=(c,1)->∃c m r',n::r=m++r'/\m≠[]/\(∀b,b∈m->128<=b.toNat)/\128<=c/\c<2147483648/\Utf8.decode ⟨s.toArray⟩ pre.length=(c,m.length) :=
   fun c hc hc2 hd=>⟨c,[n],r,rfl,by simp,by simpa using hn',hc,hc2,hd⟩
  have big:∀k,k<r.length->128<=(r.getD k 0).toNat->∃b,r[k]?=some b/\128<=b.toNat:=fun k hk hb=>by
   refine⟨r[k],ai hk,?_⟩;simpa[kx,ai hk] using hb
  have cz:¬n.toNat<0x80:=by omega
  have hN:n.toNat<256:=n.toNat_lt;unfold Utf8.decode at one ⊢;simp only[dk,h0,h1,h2,h3,hsz,au,cz,aw] at one ⊢
  by_cases hA:(n.toNat / 32==6&&(decide (pre.length+1<pre.length+(r.length+1))&&(r.getD 0 0).toNat / 64==2))=true
  ·simp only[hA,aE] at one ⊢;simp only[bn,eM,bg] at hA;obtain⟨hA1,hA2,hA3⟩:=hA
   by_cases hc:n.toNat % 32*64+(r.getD 0 0).toNat % 64>=0x80
   ·simp only[hc,aE] at one ⊢;obtain⟨b0,g0,g1⟩:=big 0 (by omega) (by omega)
    match r,g0 with
    |_::r',g0 =>
     cases g0;exact⟨_,[n,_],r',rfl,by simp,by simp[hn',g1],hc,by omega,rfl⟩
   ·simp only[hc,aw] at one ⊢;exact one _ (by decide) (by decide) rfl
  ·simp only[hA,aw] at one ⊢
   by_cases hB:(n.toNat / 16==14&&(decide (pre.length+1<pre.length+(r.length+1))&&(r.getD 0 0).toNat / 64==2)&&(decide (pre.length+2<pre.length+(r.length+1))&&(r.getD 1 0).toNat / 64==2))=true
   ·simp only[hB,aE] at one ⊢;simp only[bn,eM,bg] at hB;obtain⟨⟨hB1,hB2,hB3⟩,hB4,hB5⟩:=hB
    by_cases hc:((n.toNat % 16*4096+(r.getD 0 0).toNat % 64*64+(r.getD 1 0).toNat % 64>=0x800:Bool)&&Utf8.valid ((n.toNat % 16*4096+(r.getD 0 0).toNat % 64*64+(r.getD 1 0).toNat % 64:Nat):Int))=true
    ·simp only[hc,aE] at one ⊢;simp only[bn,bg] at hc;obtain⟨b0,g0,g1⟩:=big 0 (by omega) (by omega)
     obtain⟨b1,k0,k1⟩:=big 1 (by omega) (by omega)
     match r,g0,k0 with
     |_::_::r',g0,k0 =>
      cases g0;cases k0;exact⟨_,[n,_,_],r',rfl,by simp,by simp[hn',g1,k1],by omega,by omega,rfl⟩
    ·simp only[hc,aw] at one ⊢;exact one _ (by decide) (by decide) rfl
   ·simp only[hB,aw] at one ⊢
    by_cases hC:(n.toNat / 8==30&&(decide (pre.length+1<pre.length+(r.length+1))&&(r.getD 0 0).toNat / 64==2)&&(decide (pre.length+2<pre.length+(r.length+1))&&(r.getD 1 0).toNat / 64==2)&&(decide (pre.length+3<pre.length+(r.length+1))&&(r.getD 2 0).toNat / 64==2))=true
    ·simp only[hC,aE] at one ⊢;simp only[bn,eM,bg] at hC;obtain⟨⟨⟨hB1,hB2,hB3⟩,hB4,hB5⟩,hB6,hB7⟩:=hC
     by_cases hc:((n.toNat % 8*262144+(r.getD 0 0).toNat % 64*4096+(r.getD 1 0).toNat % 64*64+(r.getD 2 0).toNat % 64>=0x10000:Bool)&&Utf8.valid ((n.toNat % 8*262144+(r.getD 0 0).toNat % 64*4096+(r.getD 1 0).toNat % 64*64+(r.getD 2 0).toNat % 64:Nat):Int))=true
     ·simp only[hc,aE] at one ⊢;simp only[bn,bg] at hc;obtain⟨b0,g0,g1⟩:=big 0 (by omega) (by omega)
      obtain⟨b1,k0,k1⟩:=big 1 (by omega) (by omega)
      obtain⟨b2,l0,l1⟩:=big 2 (by omega) (by omega)
      match r,g0,k0,l0 with
      |_::_::_::r',g0,k0,l0 =>
       cases g0;cases k0;cases l0;exact⟨_,[n,_,_,_],r',rfl,by simp,by simp[hn',g1,k1,l1],by omega,by omega,rfl⟩
     ·simp only[hc,aw] at one ⊢;exact one _ (by decide) (by decide) rfl
    ·simp only[hC,aw] at one ⊢;exact one _ (by decide) (by decide) rfl
end
section
open Go Go.Abs
section
attribute [local irreducible] eV fZ je gK eo kr ar aU cA bH
def om(_:Bytes):Prop:=True
def all_true{m:Bytes}(h:∀b,b∈m->128<=b.toNat):m.all sk=true:=by
 rw[bI];intro b hb;have:=h b hb;have h1:¬((b.toNat:Int)<32):=by omega
 have h2:¬((b.toNat:Int)=47):=by omega
 simp[sk,h1,h2]
def Y0{s:Bytes}(hs:s.length<=100000)(ha:om s){k:List K}{R:Bool->Option (ag×aG)}
  (hx:∀e p,kr (ar bN) [.tmp 2] 0 k ⟨.exit 0,e,[.mC s p]⟩=R true) (hr:∀p,kr (ar bN) [.tmp 2] 0 k ⟨.ret,[(2,.bool false)],[.mC s p]⟩=R false) :
  ∀(q:Nat)(l pre:Bytes),l.length<=q->s=pre++l->eV (ar bN) [.tmp 2] 0 k (.loop [21] Mv) [(21,.jn 0)] [.mC s pre.length]=R (l.all sk):=by
 intro q;induction q with
 |zero =>
  intro l pre hq h;have h0:l=[]:=cG (by omega)
  subst h0;rw[bt];have cz:(pre.length<s.length)=False:=by rw[h]; simp
  simp only[wu,cz,EN,seval];exact hx _ _
 |succ q ih =>
  intro l pre hq h;cases l with
  |nil =>
   rw[bt];have cz:(pre.length<s.length)=False:=by rw[h]; simp
   simp only[wu,cz,EN,seval];exact hx _ _
  |cons n r =>
   rw[bt];have cz:(pre.length<s.length)=True:=by rw[h]; simp
   rcases LQ h with ⟨hn,hd⟩|⟨c,m,r',hm,hne,hb,hc,hc2,hd⟩
   ·have hi:=ih r (pre++[n]) (by simp at hq; omega) (by rw[h]; simp)
    simp only[aD,au,av,aL] at hi;simp only[wu,cz,hd,EN,seval]
    repeat' ((first|apply bp|apply bR|apply dE)<;>intro hb<;>simp only[hb,wu,hd,EV,seval])
    all_goals first
     |(refine(hr _).trans ?_; congr 1; symm; clear hi ih hx hr hd h; simp_all [sk]; done)
     |(refine hi.trans ?_; congr 1; symm; clear hi ih hx hr hd h; simp_all [sk]; done)
   ·have hml:0<m.length:=gw.2 hne;have hl2:(n::r).length=m.length+r'.length:=by rw[hm]; simp
    have hi:=ih r' (pre++m) (by simp at hq hl2; omega) (by rw[h,hm]; simp)
    simp only[aD] at hi;have h32:decide ((c:Int)<32)=false:=by simp; omega
    have h47:((c:Int)==47)=false:=by rw[jL]; omega
    rw[hm,List.all_append,all_true hb,c9];simp only[wu,cz,hd,h32,h47,EN,seval];exact hi
def apz(s:Bytes)(hs:s.length<=100000)(ha:om s):ar bN 207 [.str s] []=some (.bool (eh s),[]):=by
 refine az ?_;simp only[HZ,wu,EN,seval];have hl:=fun k hx hr=>Y0 (k:=k) (R:=fun b=>some (ag.bool b,[])) hs ha hx hr s.length s [] (aC _) rfl
 have he:(s==[])=decide ((s.length:Int)<1):=by cases s<;>simp; omega
 rw[he]
 repeat' ((first|apply bp|apply bR|apply dE)<;>intro hb<;>simp only[hb,EN,wu,seval])
 all_goals first
  |(clear hl he; simp_all [eh]; done)
  |(refine(hl _ (fun e p=>by simp only[wu,EN,seval]) (fun p=>by simp only[wu,EN,seval])).trans ?_; clear hl he; simp_all [eh]; done)
def aea s hs ha:=cP (apz s hs ha)
def arD(a b:Bytes)(M:aG):aU (ar bN) 295 [.str a,.str b] M=some (aF (Lib.compareBytes a b),M) :=
 cO (eY (g:=z6) rfl rfl) M
def ap7(a b:Bytes):ar bN 263 [.str a,.str b] []=some (aF (Lib.compareBytes a b),[]):=by
 refine az ?_;simp only[abZ,anI,arD,EN,seval]
def ary a b:=cP (ap7 a b)
def LO:∀(a b:Bytes),(Lib.compareBytes a b<0)=(strLt a b=true)
 | [],[]=>by simp[Lib.compareBytes,strLt]
 | [],_::_=>by simp[Lib.compareBytes,strLt]
 |_::_,[]=>by simp[Lib.compareBytes,strLt]
 |a::x,b::y=>by
  rw[Lib.compareBytes,strLt]
  by_cases h1:a<b
  ·simp[h1]
  ·by_cases h2:b<a
   ·have h3:¬a=b:=by rintro rfl; exact nJ _ h2
    simp[h1,h2,h3]
   ·have h3:a=b:=by rw[<-kb]; simp only[km] at h1 h2; omega
    subst h3;simp[h1,LO x y]
def LN:∀(a b:Bytes),(Lib.compareBytes a b==0)=(a==b)
 | [],[]=>by simp[Lib.compareBytes]
 | [],_::_=>by simp[Lib.compareBytes]
 |_::_,[]=>by simp[Lib.compareBytes]
 |a::x,b::y=>by
  rw[Lib.compareBytes]
  by_cases h1:a<b
  ·have h3:¬a=b:=by rintro rfl; exact nJ _ h1
   simp[h1,h3]
  ·by_cases h2:b<a
   ·have h3:¬a=b:=by rintro rfl; exact nJ _ h2
    simp[h1,h2,h3]
   ·have h3:a=b:=by rw[<-kb]; simp only[km] at h1 h2; omega
    subst h3;simp only[h1,aw,LN x y];simp
def ap6(e:fp)(s:Bytes):ar bN 262 [.agg (fm e),.str s] []=some (aF (Lib.compareBytes e.name s),[]):=by
 refine az ?_;simp only[abY,anH,fW,fm,ary,EN,seval]
def alx e s:=cP (ap6 e s)
structure JY(aM:List fp)(s:Bytes)(b:Nat):Prop where
 le:b<=aM.length
 lt:∀h n,aM[h]?=some n->(strLt n.name s=true↔h<b)
def Y9{aM:List fp}{s:Bytes}{b:Nat}(hb:JY aM s b)(hn:aM.length<=100000){k:List K}{r:Option (ag×aG)}
  (hx:∀v q,kr (ar bN) [.tmp 6,.tmp 7] 0 k ⟨.exit 0,[(0,ic aM),(1,.str s),(2,.func 262 []),(8,aF aM.length),(9,aF b),(10,v),(17,q)],[]⟩=r) :
  ∀(f i j:Nat),j-i<=f->i<=b->b<=j->j<=aM.length->eV (ar bN) [.tmp 6,.tmp 7] 0 k (.loop [0,1,2,8,9,10] Yx) [(0,ic aM),(1,.str s),(2,.func 262 []),(8,aF aM.length),(9,aF i),(10,aF j)] []=r:=by
 intro f;induction f with
 |zero =>
  intro i j h1 h2 h3 h4;obtain rfl:i=b:=by omega
  rw[bt];have cz:((i:Int)<(j:Int))=False:=by simp; omega
  simp only[Hh,cz,EN,seval];exact hx _ _
 |succ f ih =>
  intro i j h1 h2 h3 h4;rw[bt]
  by_cases hij:i<j
  ·have cz:((i:Int)<(j:Int))=True:=by simp; omega
   obtain⟨m1,m2,m3,m4,m5⟩:=DC i j (by omega) (by omega)
   have hmid:(i+j) / 2<aM.length:=by omega
   have hx:=ai hmid;have hl:=hb.lt _ _ hx;simp only[Hh,cz,m1,m2,m3,m4,hx,alx,LO,tkE,shE,EN,seval];refine bp (fun hq=>?_) (fun hq=>?_)
   ·have hq:strLt aM[(i+j) / 2].name s=true:=by simpa using hq
    simp only[Hh,m5,EN,seval];exact ih ((i+j) / 2+1) j (by omega) (hl.1 hq) h3 h4
   ·have hq:¬strLt aM[(i+j) / 2].name s=true:=by simpa using hq
    simp only[Hh,EN,seval];exact ih i ((i+j) / 2) (by omega) h2 (n9.1 fun h=>hq (hl.2 h)) (by omega)
  ·obtain rfl:i=b:=by omega
   have cz:((i:Int)<(j:Int))=False:=by simp; omega
   simp only[Hh,cz,EN,seval];exact hx _ _
def BG(aM:List fp)(s:Bytes)(b:Nat):Bool:=match aM[b]? with
 |some n=>n.name==s
 |none=>false
def ap5(aM:List fp)(s:Bytes)(b:Nat)(hb:JY aM s b)(hn:aM.length<=100000):ar bN 261 [ic aM,.str s,.func 262 []] []=some (.tuple [aF b,.bool (BG aM s b)],[]):=by
 refine az ?_;simp only[abX,Hh,EN,seval];refine Y9 hb hn (fun v q=>?_) aM.length 0 aM.length (by omega) (by omega) hb.le (by omega)
 unfold BG
 by_cases cz:b<aM.length
 ·have hx:=ai cz;have h1:((b:Int)<(aM.length:Int))=True:=by simp; omega
  simp only[Hh,hx,h1,alx,LN,tkE,shE,EN,seval]
 ·have hx:aM[b]?=none:=er (by omega)
  have h1:((b:Int)<(aM.length:Int))=False:=by simp; omega
  simp only[Hh,hx,h1,EN,seval]
def arx aM s b hb hn:=cP (ap5 aM s b hb hn)
def ph(l:List fp):Prop:=l.Pairwise fun a b=>strLt a.name b.name=true
def lA(l:List fp)(s:Bytes):Nat:=(l.takeWhile fun n=>strLt n.name s).length
def apA(n:Node)(s:Bytes)(b:Nat)(hb:JY n.aM s b)(hn:n.aM.length<=100000):ar bN 208 [bG n,.str s] []=some (.tuple [aF b,.bool (BG n.aM s b)],[]):=by
 refine az ?_;have hk:=arx n.aM s b hb hn;simp only[abz,anr,bG,aI,hk,EN,seval]
def Rv(a b c:Int)(d:Bytes)(e:List fp)(u:Int)(s:Bytes)(i:Nat)(hb:JY e s i)(hn:e.length<=100000)(M:aG):aU (ar bN) 208 [.agg [aF a,aF b,aF c,cR d,ic e,aF u],.str s] M=some (.tuple [aF i,.bool (BG e s i)],M) :=
 cO (apA ⟨a,b,c,d,e,u⟩ s i hb hn) M
end
section
open Go.RowKit Go.Shelf
def Ex{α:Type}(b0:Nat)(F:Fence)(n:Nat)(P:Program)(g:Nat)(lb:Array Value)(encs:α->Array Value)(Kp:World->World->Prop)(S Sp:List α->Prop)(N:Nat)(w:World):Prop :=
 ∀(l:Nat)(J Jx:List α->World->Prop)(W:World),Below w.heap.size w W->AbidesFrom W.heap.size J->AbidesFrom W.heap.size Jx->(∀s A v,J s A->J s (A.setCell ⟨b0,0,none⟩ v)) ->
  (∀pre x W1,J pre W1->pre.length<N->YieldAt F (n-1) P l (encs x) W1 fun e W' =>
   (e = .returned (.bool true)/\J (pre++[x]) W'/\Kp W1 W')\/(e = .returned (.bool false)/\Jx (pre++[x]) W')) ->
  J [] W ->
  CallsIn F n P g (#[.func (.yield l) #[] #[]]++lb) W fun e W'=>(∃v,e = .returned v)/\((∃xs,S xs/\J xs W')\/(∃pre,Sp pre/\Jx pre W'))
def ye{F:Fence}{n:Nat}{P:Program}{b0:Nat}{α:Type}{g:Operand}{ps:Array Tmp}{assign body:Code}{Q:Exit->Act->World->Prop}{a:Act}{w:World}(hb0w:b0<w.heap.size)
  (hro:F.round=none) (h1:1<=n) {gf:Nat} {lb:Array Value} (hg:a.eval g = .func (.func gf) #[] lb) (hFg:F.fn gf) (eg:∀args w,(callFunc gf args).run P w = .ok (.enter gf args) w)
  {encs:α->Array Value} {Kp:World->World->Prop} {S Sp:List α->Prop} {N:Nat} {w0:World} (hseq:Ex b0 F (n-1) P gf lb encs Kp S Sp N w0)
  (hKt:∀ {A B C:World},Kp A B->Kp B C->Kp A C) (hKb:∀(W:World)(l:Nat)(o o':Obj),w.heap.size<=l->W.heap[l]?=some o->o.isCells=false->o.isWalk=false->Kp W (W.putObj l o')) (hb0:Below w0.heap.size w0 w) (hps:∀x,(encs x).size=ps.size)
  (I:List α->World->Prop) (Ix:Code->List α->World->Prop) (hI:OwnFrom w.heap.size I) (hIx:∀c,OwnFrom w.heap.size (Ix c)) (hIc:∀s A v,I s A->I s (A.setCell ⟨b0,0,none⟩ v)) (h0:I [] w) (a₁:α->Act)
  (hassign:∀(l:Nat)(x:α)(W:World)(K:Act->World->Prop),K (a₁ x) W ->
   assign.wpIn (F.inRound l) (n-1-1) P (Exit.then K (fun _ _ _=>False)) { tmps:=(ps.zip (encs x)).foldl (fun t (p,v)=>t.setIfInBounds p v) a.tmps,defers:=[] } W)
  (hbody:∀(l:Nat)(pre:List α)(x:α)(W:World),I pre W->pre.length<N->body.wpIn (F.inRound l) (n-1-1) P (ownPostK Kp I Ix (pre++[x]) W) (a₁ x) W)
  (hdone:∀(D:Nat)(xs:List α)(W:World),w.heap.size<=D->S xs->I xs W->W.heap[D]?=some (.deferred (some []))->Q .normal { a with defers:={ target := .collected D,args := #[] }::a.defers } W)
  (hstop:∀(D:Nat)(c:Code)(pre:List α)(W:World),w.heap.size<=D->Sp pre->Ix c pre W->W.heap[D]?=some (.deferred (some []))->c.wpIn F n P Q { a with defers:={ target := .collected D,args := #[] }::a.defers } W) :
  (Code.rangeFunc g ps assign body).wpIn F n P Q a w:=by
 refine wpIn_rangeFunc ?_;intro fn hfn;rw[hro];obtain⟨rec,hrec⟩:∃rec:LoopState->Option Code->Loop,rec=fun st pe=>{ state:=st,pending:=pe,fn,tmps:=a.tmps,params:=ps,assign,body,defers:=w.heap.size }:=⟨_,rfl⟩
 obtain⟨W1,hW1⟩:∃W1,(w.alloc (.deferred (some []))).alloc (.loop (rec .ready none))=W1:=⟨_,rfl⟩
 have hL1:W1.heap[w.heap.size+1]?=some (.loop (rec .ready none)):=by
  rw[<-hW1]; have:=World.alloc_heap_new (w.alloc (.deferred (some []))) (.loop (rec .ready none)); rwa[World.size_alloc] at this
 have hK1:W1.heap[w.heap.size]?=some (.deferred (some [])):=by
  rw[<-hW1]; exact(Below.heap_alloc _ _ _ (by simp)).trans (World.alloc_heap_new w _)
 have hI1:I [] W1:=by rw[<-hW1]; exact hI.alloc _ (hI.alloc _ h0)
 have hb1:Below w0.heap.size w0 W1:=by
  rw[<-hW1]; exact hb0.trans ((((Below.refl _ w).alloc (aC _) _).alloc (by simp) _).mono hb0.size)
 refine⟨w.heap.size+1,[{ target := .collected w.heap.size,args := #[] }],W1,{ target := .fn (.func gf) lb,args := #[.func (.yield (w.heap.size+1)) #[] #[]] },W1,gf,
  #[.func (.yield (w.heap.size+1)) #[] #[]]++lb,W1,?_,?_,?_,?_,fun _=>h1,?_⟩
 ·rw[<-hW1,hrec]; exact run_enterLoop_outer _ _ _ _ _
 ·simp only[resolve,hg];simp[go_sem]
 ·intro f' hf'; simp[Target.leads] at hf'; subst hf'; exact hFg
 ·simp[invoke,go_sem,eg]
 ·have hnw:∀ {A B:World} {row:Option Nat},(∀r,row=some r->W1.heap.size<=r/\∃o:Obj,A.heap[r]?=some o/\o.isWalk=true)->(∀r,row=some r->w.heap.size<=r/\∃o:Obj,A.heap[r]?=some o/\o.isCells=false) :=
   fun hr r e=>by obtain⟨hB,o,ho,hw⟩:=hr r e; exact⟨by rw[<-hW1] at hB; simp at hB; omega,o,ho,Obj.not_cells_of_walk hw⟩
  refine(hseq (w.heap.size+1)
   (fun pre W=>I pre W/\W.heap[w.heap.size+1]?=some (.loop (rec .ready none))/\W.heap[w.heap.size]?=some (.deferred (some [])))
   (fun pre W=>∃c,Ix c pre W/\W.heap[w.heap.size+1]?=some (.loop (rec .done (some c)))/\W.heap[w.heap.size]?=some (.deferred (some [])))
   W1 hb1
   (fun s A B row hs hg' hr=>⟨hI s A B row hs.1 hg' (hnw (B:=B) hr),(grownBy_keeps hg' (fun r e=>(hr r e).2) hs.2.1 rfl).trans hs.2.1,(grownBy_keeps hg' (fun r e=>(hr r e).2) hs.2.2 rfl).trans hs.2.2⟩)
   (fun s A B row hs hg' hr=>by
    obtain⟨c,hc,hl,hk⟩:=hs;exact⟨c,hIx c s A B row hc hg' (hnw (B:=B) hr),(grownBy_keeps hg' (fun r e=>(hr r e).2) hl rfl).trans hl,(grownBy_keeps hg' (fun r e=>(hr r e).2) hk rfl).trans hk⟩)
   (fun s A v hs=>⟨hIc s A v hs.1,(Below.heap_setCell _ _ _ _ (by show _≠b0; omega)).trans hs.2.1,(Below.heap_setCell _ _ _ _ (by show _≠b0; omega)).trans hs.2.2⟩)
   ?_ ⟨hI1,hL1,hK1⟩).mono ?_
  ·rintro pre x W ⟨hi,hl,hk⟩ dQ;have cz:w.heap.size+1<W.heap.size:=(ft.1 hl).1;have hy:=run_yield (P:=P) (args:=encs x) hl (by rw[hrec]; exact hps x)
   rw[hrec] at hy;refine⟨fn,_,assign,body,hy,roundIn_of_wpIn hfn (hassign _ x W _ ⟨_,run_beginRound hl (by rw[hrec]),?_⟩)⟩
   have hl2:(W.putObj (w.heap.size+1) (.loop { rec .ready none with state := .busy })).heap[w.heap.size+1]?=some (.loop { rec .ready none with state := .busy }):=World.putObj_heap_same cz
   have hk2:(W.putObj (w.heap.size+1) (.loop { rec .ready none with state := .busy })).heap[w.heap.size]?=some (.deferred (some [])):=(World.putObj_heap_other (by omega)).trans hk
   have hw2:Kp W (W.putObj (w.heap.size+1) (.loop { rec .ready none with state := .busy })):=hKb _ _ _ _ (by omega) hl rfl rfl
   refine wpIn_mono (hbody _ pre x _ (hI.putObj _ hi (by omega) hl rfl) dQ) ?_
   have fin:∀(jump:Option Code)(W3:World),KeepsOthers (W.putObj (w.heap.size+1) (.loop { rec .ready none with state := .busy })) W3 ->
     (Instr.endRound (w.heap.size+1) jump).run P W3 = .ok (.bool jump.isNone) (W3.putObj (w.heap.size+1) (.loop (rec (if jump.isNone then .ready else .done) jump))) /\
     W3.heap[w.heap.size+1]?=some (.loop { rec .ready none with state := .busy }) /\
     (W3.putObj (w.heap.size+1) (.loop (rec (if jump.isNone then .ready else .done) jump))).heap[w.heap.size+1]?=some (.loop (rec (if jump.isNone then .ready else .done) jump)) /\
     (W3.putObj (w.heap.size+1) (.loop (rec (if jump.isNone then .ready else .done) jump))).heap[w.heap.size]?=some (.deferred (some [])):=fun jump W3 hk3=>by
    have hl3:=hk3.same _ _ hl2 rfl;have:=run_endRound (P:=P) jump hl3;rw[hrec] at this ⊢;exact⟨this,by rw[hrec] at hl3; exact hl3,World.putObj_heap_same (ft.1 hl3).1,(World.putObj_heap_other (by omega)).trans (hk3.same _ _ hk2 rfl)⟩
   rintro e a3 W3 hp;cases e with
   |normal =>
    obtain⟨hk3,hkp3,hi3⟩:=hp;obtain⟨hr,hl3,hl4,hk4⟩:=fin none W3 hk3;exact⟨_,_,hr,.inl ⟨rfl,⟨hI.putObj _ hi3 (by omega) hl3 rfl,hl4,hk4⟩,hKt (hKt hw2 hkp3) (hKb _ _ _ _ (by omega) hl3 rfl rfl)⟩⟩
   |ret =>
    obtain⟨hk3,hi3⟩:=hp;obtain⟨hr,hl3,hl4,hk4⟩:=fin (some .ret) W3 hk3;exact⟨_,_,hr,.inr ⟨rfl,.ret,(hIx _).putObj _ hi3 (by omega) hl3 rfl,hl4,hk4⟩⟩
   |exit id =>
    obtain⟨hk3,hi3⟩:=hp;obtain⟨hr,hl3,hl4,hk4⟩:=fin (some (.exit id)) W3 hk3;exact⟨_,_,hr,.inr ⟨rfl,.exit id,(hIx _).putObj _ hi3 (by omega) hl3 rfl,hl4,hk4⟩⟩
   |goto t =>
    obtain⟨hk3,hi3⟩:=hp;obtain⟨hr,hl3,hl4,hk4⟩:=fin (some (.goto t)) W3 hk3;exact⟨_,_,hr,.inr ⟨rfl,.goto t,(hIx _).putObj _ hi3 (by omega) hl3 rfl,hl4,hk4⟩⟩
   |panic ch=>exact hp.elim
   |outgrown=>exact hp.elim
  ·rintro e W2 ⟨⟨v,rfl⟩,(⟨xs,hS,hi,hl,hk⟩|⟨pre,hSp,c,hi,hl,hk⟩)⟩
   ·exact⟨none,_,by have:=run_endLoop (P:=P) hl (by rw[hrec]; simp); rw[hrec] at this; exact this,hdone _ xs _ (aC _) hS (hI.putObj _ hi (by omega) hl rfl) ((World.putObj_heap_other (by omega)).trans hk)⟩
   ·exact⟨some c,_,by have:=run_endLoop (P:=P) hl (by rw[hrec]; simp); rw[hrec] at this; exact this,hstop _ c pre _ (aC _) hSp ((hIx c).putObj _ hi (by omega) hl rfl) ((World.putObj_heap_other (by omega)).trans hk)⟩
def Mq:J:=⟨fun _=>none,fun _ _=>False⟩
def VB(w:World):Rel Mq [] w where
 inj:=fun _ _ _ h=>by cases h
 lt:=fun _ _ h=>by cases h
 fix:=fun _ _ h=>by cases h
 tick:=fun _ _ _ _ h=>by cases h
 arr:=fun _ _ _ _ h=>by cases h
 uS:=fun _ _ h=>by cases h
 Aq:=fun _ _ h=>h.elim
@[reducible] def G0:kh:={ g:=fun _=>none }
def afQ:@oY G0 Tryz.prog (Ez [] f207) f207=some HZ:=by kernel_rfl
def afR:@oY G0 Tryz.prog (Ez [] f273) f273=some Mf:=by kernel_rfl
def afS:@oY G0 Tryz.prog (Ez [] f307) f307=some Mi:=by kernel_rfl
def afT:@oY G0 Tryz.prog (Ez [] f325) f325=some H3:=by kernel_rfl
def GL{α:Type}{x:α}{P:Prop}(h:(none:Option α)=some x):P:=by cases h
def akQ(w:World):@se G0 Mq [] w:=@se.mk G0 _ _ _ (fun b vs k v h=>GL (show(none:Option (List Value))=some vs from h)) (fun b vs h=>GL (show(none:Option (List Value))=some vs from h)) (fun b p h=>GL (show(none:Option (Value->Prop))=some p from h))
def aau:Nat->Option ei
 |207=>some HZ
 |273=>some Mf
 |307=>some Mi
 |325=>some H3
 |_=>none
noncomputable def D2:zg:=⟨aau,fun _=>none⟩
def ZZ:@wN G0 Tryz.prog D2:=by
 refine @wN.mk G0 _ _ (fun f fn h=>?_) (fun f g h=>by cases h)
 simp only[D2] at h;unfold aau at h;split at h
 ·cases h; exact⟨_,_,func207,afQ⟩
 ·cases h; exact⟨_,_,func273,afR⟩
 ·cases h; exact⟨_,_,func307,afS⟩
 ·cases h; exact⟨_,_,func325,afT⟩
 ·cases h
def agJ:@oV G0 Tryz.prog (ar D2):=@rK G0 _ (by kernel_rfl) _ ZZ
section
attribute [local irreducible] eV fZ je gK eo kr ar aU cA bH
def Uv{s:Bytes}(hs:s.length<=100000)(ha:om s){k:List K}{R:Bool->Option (ag×aG)}
  (hx:∀e p,kr (ar D2) [.tmp 2] 0 k ⟨.exit 0,e,[.mC s p]⟩=R true) (hr:∀p,kr (ar D2) [.tmp 2] 0 k ⟨.ret,[(2,.bool false)],[.mC s p]⟩=R false) :
  ∀(q:Nat)(l pre:Bytes),l.length<=q->s=pre++l->eV (ar D2) [.tmp 2] 0 k (.loop [21] Mv) [(21,.jn 0)] [.mC s pre.length]=R (l.all sk):=by
 intro q;induction q with
 |zero =>
  intro l pre hq h;have h0:l=[]:=cG (by omega)
  subst h0;rw[bt];have cz:(pre.length<s.length)=False:=by rw[h]; simp
  simp only[wu,cz,EN,seval];exact hx _ _
 |succ q ih =>
  intro l pre hq h;cases l with
  |nil =>
   rw[bt];have cz:(pre.length<s.length)=False:=by rw[h]; simp
   simp only[wu,cz,EN,seval];exact hx _ _
  |cons n r =>
   rw[bt];have cz:(pre.length<s.length)=True:=by rw[h]; simp
   rcases LQ h with ⟨hn,hd⟩|⟨c,m,r',hm,hne,hb,hc,hc2,hd⟩
   ·have hi:=ih r (pre++[n]) (by simp at hq; omega) (by rw[h]; simp)
    simp only[aD,au,av,aL] at hi;simp only[wu,cz,hd,EN,seval]
    repeat' ((first|apply bp|apply bR|apply dE)<;>intro hb<;>simp only[hb,wu,hd,EV,seval])
    all_goals first
     |(refine(hr _).trans ?_; congr 1; symm; clear hi ih hx hr hd h; simp_all [sk]; done)
     |(refine hi.trans ?_; congr 1; symm; clear hi ih hx hr hd h; simp_all [sk]; done)
   ·have hml:0<m.length:=gw.2 hne;have hl2:(n::r).length=m.length+r'.length:=by rw[hm]; simp
    have hi:=ih r' (pre++m) (by simp at hq hl2; omega) (by rw[h,hm]; simp)
    simp only[aD] at hi;have h32:decide ((c:Int)<32)=false:=by simp; omega
    have h47:((c:Int)==47)=false:=by rw[jL]; omega
    rw[hm,List.all_append,all_true hb,c9];simp only[wu,cz,hd,h32,h47,EN,seval];exact hi
def aju(s:Bytes)(hs:s.length<=100000)(ha:om s):ar D2 207 [.str s] []=some (.bool (eh s),[]):=by
 refine az ?_;simp only[HZ,wu,EN,seval];have hl:=fun k hx hr=>Uv (k:=k) (R:=fun b=>some (ag.bool b,[])) hs ha hx hr s.length s [] (aC _) rfl
 have he:(s==[])=decide ((s.length:Int)<1):=by cases s<;>simp; omega
 rw[he]
 repeat' ((first|apply bp|apply bR|apply dE)<;>intro hb<;>simp only[hb,EN,wu,seval])
 all_goals first
  |(clear hl he; simp_all [eh]; done)
  |(refine(hl _ (fun e p=>by simp only[wu,EN,seval]) (fun p=>by simp only[wu,EN,seval])).trans ?_; clear hl he; simp_all [eh]; done)
end
def DN{f:Nat}{args:List ag}{r:ag}(h:ar D2 f args []=some (r,[]))(hp:r.jx=false)(w:World)(vs:Array Value)(hl:args.length=vs.size)(hv:∀(i:Nat)(c:ag)(v:Value),args[i]?=some c->vs[i]?=some v->gj Mq [] w c v) :
  Calls Tryz.prog f vs w fun e w'=>∃v j',e = .returned v/\w.grownBy w' none/\gj j' [] w' r v:=by
 refine((agJ f args [] _ h).2 Mq w vs (VB w) (akQ w) hl hv).mono ?_;intro e w' hce;obtain⟨v,rfl,j',_,hx,hr⟩:=hce.ret hp;exact⟨v,j',rfl,⟨hx.os,hx.tape,hx.output,hx.size,fun k hk _=>(hx.tL k hk fun i hi=>by cases hi).1⟩,hr⟩
def VG(s:Bytes)(hs:s.length<=100000)(ha:om s)(w:World):Calls Tryz.prog 207 #[.string (bs s)] w fun e w'=>e = .returned (.bool (eh s))/\w.grownBy w' none:=by
 refine(DN (aju s hs ha) rfl w #[.string (bs s)] rfl ?_).mono ?_
 ·intro i c v h1 h2
  match i with
  |0=>cases h1; cases h2; exact .plain (.str _)
  |i+1=>cases h1
 ·rintro e w' ⟨v,j',rfl,hg,hr⟩;rw[hr.jh];exact⟨rfl,hg⟩
set_option maxHeartbeats 1000000 in
set_option maxRecDepth 100000 in
def Rl(a:ByteArray)(c:Int)(w:World) :
  Calls Tryz.prog 308 #[.string a,.int .u8 c] w fun e w'=>e = .returned (.int .i64 (Lib.indexByte a.data.toList c.toNat.toUInt8))/\w'=w:=by
 go_enter func308,ntmps308
 go_wp2
 rw[run_callFunc_extern func326 (by kernel_rfl) (by kernel_rfl) (by kernel_rfl) (e:=Extern.BytealgIndexByte.indexByte) (by kernel_rfl),Lib.run_indexByteString]
 simp only[Result.andThen];rw[Oper.upon_value]
 go_wp2
 go_ret
 exact⟨rfl,rfl⟩
set_option maxHeartbeats 1000000 in
set_option maxRecDepth 100000 in
def Rk(a:ByteArray)(c:Int)(w:World) :
  Calls Tryz.prog 274 #[.string a,.int .u8 c] w fun e w'=>e = .returned (.int .i64 (Lib.indexByte a.data.toList c.toNat.toUInt8))/\w'=w:=by
 go_enter func274,ntmps274
 go_wp2_with (go_at_call 308; refine(Rl _ _ _).mono ?_; rintro e w' ⟨rfl,rfl⟩)
 go_ret
 exact⟨rfl,rfl⟩
section ev
attribute [local irreducible] eV fZ je gK eo kr ar aU cA bH
def qq:Bytes->Bytes×Bool
 |b::r=>if b=47 then (r,true) else (b::r,false)
 | []=>([],false)
def Oa:Bytes->Bool
 |b::_=>b==47
 | []=>false
def aqh(s:Bytes):ar D2 325 [.str s,.str [47]] []=some (.bool (Oa s),[]):=by
 refine az ?_;cases s with
 |nil =>
  have h0:decide (((1:Nat):Int)<=((0:Nat):Int))=false:=by decide
  simp only[H3,WB,h0,EN,seval];simp only[Oa,WB,h0,EN,seval]
 |cons b r =>
  have h1:(1:Int)<=(r.length:Int)+1:=by omega
  simp only[H3,WB,EN,seval];simp[Oa,h1,fF,WB,EN,seval]
  try (cases hb:(b==47)<;>simp_all)
def alz s:=cP (aqh s)
def aqg(s:Bytes):ar D2 307 [.str s,.str [47]] []=some (.tuple [.str (qq s).1,.bool (qq s).2],[]):=by
 refine az ?_;simp only[Mi,WA,alz,EN,seval];cases s with
 |nil=>simp only[Oa,WA,alz,EN,seval]; rfl
 |cons b r =>
  by_cases hb:b=47
  ·have h1:(1:Int)<=(r.length:Int)+1:=by omega
   have h2:(0:Int)<=(r.length:Int)+1:=by omega
   simp[Oa,hb,WA,qq,fF,h1,h2,EN,seval]
  ·have hb':(b==47)=false:=by simpa using hb
   simp only[Oa,hb',WA,EN,seval];simp[qq,hb]
def arF s:=cP (aqg s)
def aqb(s:Bytes):ar D2 273 [.str s,.str [47]] []=some (.tuple [.str (qq s).1,.bool (qq s).2],[]):=by
 refine az ?_;simp only[Mf,anK,arF,EN,seval]
end ev
def adJ(s:Bytes)(w:World):Calls Tryz.prog 273 #[.string (bs s),.string ⟨#[47]⟩] w fun e w'=>e = .returned (.tuple #[.string (bs (qq s).1),.bool (qq s).2])/\w.grownBy w' none:=by
 refine(DN (aqb s) rfl w #[.string (bs s),.string ⟨#[47]⟩] rfl ?_).mono ?_
 ·intro i c v h1 h2
  match i with
  |0=>cases h1; cases h2; exact .plain (.str _)
  |1=>cases h1; cases h2; exact .plain (.str [47])
  |i+2=>cases h1
 ·rintro e w' ⟨v,j',rfl,hg,hr⟩;obtain⟨vs,rfl,hl,hv⟩:=hr.tn;obtain⟨l⟩:=vs
  match l,hl with
  | [u1,u2],_ =>
   rw[(hv 0 _ u1 rfl rfl).j5,(hv 1 _ u2 rfl rfl).jh];exact⟨rfl,hg⟩
def Ef(s:Bytes):Nat:=if Lib.indexByte s 47<0 then s.length else (Lib.indexByte s 47).toNat
def qQ(s:Bytes):Bytes×Bool:=((qq s).1.take (Ef (qq s).1),(qq s).2)
def p7(s:Bytes):Bytes:=(qq s).1.drop (Ef (qq s).1)
def sW:Nat->Bytes->List (Bytes×Bool)
 |0,_=>[]
 |n+1,s=>match s with
  | []=>[]
  |b::r=>qQ (b::r)::sW n (p7 (b::r))
def index_le(l:Bytes)(c:UInt8):Lib.indexByte l c<=l.length:=by
 induction l with
 |nil=>simp[Lib.indexByte]
 |cons b r ih =>
  simp only[Lib.indexByte];split
  ·simp; omega
  ·split
   ·simp; omega
   ·simp; omega
def Qn(s:Bytes):(qq s).1.length<=s.length:=by
 cases s with
 |nil=>simp[qq]
 |cons b r=>simp only[qq]; split<;>simp
def Ag{s:Bytes}(h:s≠[]):(p7 s).length<s.length:=by
 cases s with
 |nil=>exact absurd rfl h
 |cons b r =>
  unfold p7;rw[ir]
  by_cases hb:b=47
  ·have:qq (b::r)=(r,true):=by simp[qq,hb]
   rw[this]; simp; omega
  ·have e:qq (b::r)=(b::r,false):=by simp[qq,hb]
   rw[e]
   have:0<Ef (b::r):=by
    unfold Ef;have hb':(b==47)=false:=by simpa using hb
    have hg:=Lib.indexByte_ge r 47;split
    ·simp
    ·rename_i hn;simp only[Lib.indexByte,hb',af,aw] at hn ⊢;split
     ·rename_i he; simp[he] at hn
     ·rename_i he;have:Lib.indexByte r 47 ≠ -1:=by simpa using he
      omega
   simp only[au];omega
def GN:∀(n m:Nat)(s:Bytes),s.length<=n->s.length<=m->sW n s=sW m s:=by
 intro n;induction n with
 |zero =>
  intro m s h _;have:s=[]:=by cases s with|nil=>rfl|cons b r=>simp at h
  subst this;cases m<;>rfl
 |succ n ih =>
  intro m s h h';cases s with
  |nil=>cases m<;>rfl
  |cons b r =>
   cases m with
   |zero=>simp at h'
   |succ m =>
    have:=Ag (s:=b::r) (by simp)
    simp only[sW];rw[ih m _ (by omega) (by omega)]
def kv(s:Bytes):List (Bytes×Bool):=sW s.length s
def sX{s:Bytes}(h:s≠[]):kv s=qQ s::kv (p7 s):=by
 cases s with
 |nil=>exact absurd rfl h
 |cons b r =>
  have:=Ag (s:=b::r) (by simp)
  unfold kv;rw[show(b::r).length=r.length+1 from rfl,sW]
  rw[GN r.length (p7 (b::r)).length _ (by simp at this; omega) (by omega)]
def Bv{s:Bytes}(h:om s):om (qQ s).1:=trivial
def CI{s:Bytes}(h:om s):om (p7 s):=trivial
def O2(s:Bytes):(qQ s).1.length<=s.length:=by
 have:=Qn s;unfold qQ;rw[gi];omega
abbrev PA:={ x:Bytes×Bool // om x.1/\x.1.length<=100000 }
abbrev Xe(x:PA):Array Value := #[.string (bs x.1.1),.bool x.1.2]
def Gh(b0:Nat)(w:World):Nat:=match w.cell? ⟨b0,0,none⟩ with
 |some (.string s)=>s.size
 |_=>0
section
attribute [local go_sem] Oper.semAt_some
set_option maxHeartbeats 1000000 in
def O3(n:Nat)(s:Bytes)(w:World) :
  CallsIn Fence.wide n Tryz.prog 231 #[.string (bs s)] w fun e w'=>e = .returned (.func (.func 272) #[] #[.pointer (some ⟨w.heap.size,0,none⟩)])/\w'=w.alloc (.cells #[.string (bs s)] 9):=by
 refine callsIn_of_wp func231 rfl trivial ?_ rfl;simp only[ntmps231,cU,au,av,Nat.reduceAdd,Nat.reduceSub,jq,jr,ky,jH,aZ,aR]
 gi_wp2
 go_ret
 exact⟨rfl,rfl⟩
def LI(c:Bytes)(n:Nat):bs (c.drop n)=(bs c).extract n (bs c).size:=by
 rw[yD,show(bs c).size=c.length from rfl,bW]
def vL{b0:Nat}{w:World}{s:Bytes}(h:Boxed w b0 9 (.string (bs s))):Gh b0 w=s.length:=by
 unfold Gh;rw[h.cell];rfl
set_option maxRecDepth 100000 in
set_option maxHeartbeats 1000000 in
def XA(n:Nat)(hn:3<=n)(l b0 N:Nat)(s0:Bytes)(ha:om s0)(hs:s0.length<=100000)(hN:(kv s0).length<=N)(J Jx:List PA->World->Prop)(W:World)(hJ:AbidesFrom W.heap.size J)(hJc:∀s A v,J s A->J s (A.setCell ⟨b0,0,none⟩ v))
  (hY:∀pre x W1,J pre W1->pre.length<N->YieldAt Fence.wide (n-1) Tryz.prog l (Xe x) W1 fun e W' =>
   (e = .returned (.bool true)/\J (pre++[x]) W'/\W'.heap[b0]?=W1.heap[b0]?)\/(e = .returned (.bool false)/\Jx (pre++[x]) W'))
  (hB:Boxed W b0 9 (.string (bs s0))) (h0:J [] W) :
  CallsIn Fence.wide n Tryz.prog 272 #[.func (.yield l) #[] #[],.pointer (some ⟨b0,0,none⟩)] W fun e W'=>(∃v,e = .returned v) /\
   ((∃xs:List PA,xs.map (·.1)=kv s0/\J xs W')\/(∃pre:List PA,pre.map (·.1) <+: kv s0/\Jx pre W')):=by
 refine callsIn_of_wp func272 rfl trivial ?_ rfl;simp only[ntmps272,cU,au,av,Nat.reduceAdd,Nat.reduceSub,jq,jr,ky,jH,aZ,aR]
 gi_wp2
 gi_loopw [3] (fun _ wr=>∃(pre:List PA) (rest:Bytes),Boxed wr b0 9 (.string (bs rest))/\om rest/\rest.length<=100000/\kv s0=pre.map (·.1)++kv rest/\J pre wr)
  (fun _ wr=>Gh b0 wr)
 case atStart =>
  exact⟨[],s0,hB,ha,hs,rfl,h0⟩
 case round =>
  obtain⟨pre,rest,hb,hra,hrl,hp,hJs⟩:=hrel;have hf:=hb.frozen;cases rest with
  |nil =>
   have hc:wr.cell? ⟨b0,0,none⟩=some (.string ⟨#[]⟩):=hb.cell
   gi_wp2
   go_end0
   exact⟨⟨_,rfl⟩,.inl ⟨pre,by rw[hp]; simp[kv,sW],hJs⟩⟩
  |cons x rest =>
   have hc:=hb.cell;have hne:(!(bs (x::rest)).toList.isEmpty)=true:=by simp[bs]
   gi_wp2
   refine⟨trivial,fun h=>(by cases h),(callsIn_wide.2 (adJ _ _)).mono ?_⟩
   rintro e w1 ⟨rfl,hg⟩;have hb1:Boxed w1 b0 9 (.string (bs (x::rest))):=hb.kept hg (by simp)
   have hJ1:J pre w1:=hJ pre wr w1 none hJs hg (fun r e=>by cases e)
   have hbr:=hb;clear hb hc hf hJs;have hc1:=hb1.cell;have hf1:=hb1.frozen
   gi_wp2
   refine⟨trivial,fun h=>(by cases h),(callsIn_wide.2 (Rk _ _ _)).mono ?_⟩
   rintro e w2 ⟨rfl,rfl⟩
   have dQ:pre.length<N:=by
    have:=congrArg List.length hp;rw[sX (s:=x::rest) (by simp)] at this
    simp at this;omega
   have hpl:=O2 (x::rest);have hrest:=Ag (s:=x::rest) (by simp)
   obtain⟨fn,tmps,assign,body,hy,hR⟩:=hY pre ⟨qQ (x::rest),Bv hra,by omega⟩ w2 hJ1 dQ
   have hpn:kv s0=(pre++[⟨qQ (x::rest),Bv hra,by omega⟩]:List PA).map (·.1)++kv (p7 (x::rest)):=by
    rw[hp,sX (by simp)]; simp
   obtain⟨c,hc⟩:∃c,(qq (x::rest)).1=c:=⟨_,rfl⟩;have hix:=index_le c 47
   by_cases hi:Lib.indexByte c 47<0
   ·have he:qQ (x::rest)=(c,(qq (x::rest)).2):=by simp[qQ,hc,Ef,hi]
    have hre:p7 (x::rest)=[]:=by simp[p7,hc,Ef,hi]
    simp only[Xe,he] at hy;rw[hc];have hi':Lib.indexByte (bs c).data.toList 47<0:=hi
    gi_wp2
    refine⟨fun h=>(by cases h),hR.mono ?_⟩
    rintro e W3 (⟨rfl,hJ3,hk3⟩|⟨rfl,hJx3⟩)
    ·have hb3:Boxed W3 b0 9 (.string (bs (x::rest))):=hk3.trans hb1;have hc3:=hb3.cell;have hf3:=hb3.frozen
     gi_wp2
     go_roundw
     case rel =>
      exact⟨_,p7 (x::rest),(by rw[hre]; exact(hb3.set _)),CI hra,by omega,hpn,hJc _ _ _ hJ3⟩
     case measure =>
      rw[vL (s:=p7 (x::rest)) (by rw[hre]; exact(hb3.set _)),vL hbr]
      exact hrest
    ·gi_wp2
     refine bodyPost_ret (results_none rfl _ _ _) rfl ?_;exact⟨⟨_,rfl⟩,.inr ⟨_,⟨kv (p7 (x::rest)),hpn.symm⟩,hJx3⟩⟩
   ·have hi0:0<=Lib.indexByte c 47:=by omega
    have he:qQ (x::rest)=(c.take (Lib.indexByte c 47).toNat,(qq (x::rest)).2):=by simp[qQ,hc,Ef,hi]
    have hre:p7 (x::rest)=c.drop (Lib.indexByte c 47).toNat:=by simp[p7,hc,Ef,hi]
    simp only[Xe,he] at hy;rw[show bs (c.take (Lib.indexByte c 47).toNat)=(bs c).extract 0 (Lib.indexByte (bs c).data.toList 47).toNat by rw[yD]; rfl] at hy
    rw[hc];have hi':¬Lib.indexByte (bs c).data.toList 47<0:=hi;have hi2:Lib.indexByte (bs c).data.toList 47<=(bs c).size:=hix
    gi_wp2
    refine⟨fun h=>(by cases h),hR.mono ?_⟩
    rintro e W3 (⟨rfl,hJ3,hk3⟩|⟨rfl,hJx3⟩)
    ·have hb3:Boxed W3 b0 9 (.string (bs (x::rest))):=hk3.trans hb1;have hc3:=hb3.cell;have hf3:=hb3.frozen
     gi_wp2
     go_roundw
     case rel =>
      exact⟨_,p7 (x::rest),(by rw[hre,LI]; exact(hb3.set _)),CI hra,by omega,hpn,hJc _ _ _ hJ3⟩
     case measure =>
      rw[vL (s:=p7 (x::rest)) (by rw[hre,LI]; exact(hb3.set _)),vL hbr]
      exact hrest
    ·gi_wp2
     refine bodyPost_ret (results_none rfl _ _ _) rfl ?_;exact⟨⟨_,rfl⟩,.inr ⟨_,⟨kv (p7 (x::rest)),hpn.symm⟩,hJx3⟩⟩
def AA(x:Bytes×Bool)(n:Nat):Bool := !x.2 || !eh x.1||n==12
def na:List (Bytes×Bool)->Nat->Option (List Bytes)
 | [],_=>some []
 |x::r,n=>if AA x n then none else (na r (n+1)).map (x.1 :: ·)
def Bk:∀(a b:List (Bytes×Bool)) (n:Nat),na (a++b) n=(na a n).bind fun l=>(na b (n+a.length)).map (l ++ ·):=by
 intro a;induction a with
 |nil=>intro b n; simp[na]
 |cons x r ih =>
  intro b n;simp only[aR,na];split
  ·rfl
  ·rw[ih,show n+1+r.length=n+(x::r).length by simp; omega]
   cases na r (n+1) with
   |none=>rfl
   |some l=>simp; rfl
def dW(s:Bytes):List Bytes×Int:=if s=[47] then ([],0) else match na (kv s) 0 with
 |none=>([],60)
 |some []=>([],60)
 |some l=>(l,0)
def Mj(pre:List PA):Prop:=na (pre.map (·.1)) 0=some (pre.map (·.1.1))/\pre.length<=12
def KM{pre:List PA}{x:PA}(h:Mj pre)(hb:AA x.1 pre.length=false):Mj (pre++[x]):=by
 refine⟨?_,?_⟩
 ·rw[bu,Bk,h.1];simp[na,hb]
 ·have:pre.length≠12:=by intro e; rw[e] at hb; simp[AA] at hb
  have:=h.2;simp; omega
def AB{pre:List PA}{x:PA}(h:Mj pre)(hb:AA x.1 pre.length=true):na ((pre++[x]).map (·.1)) 0=none:=by
 rw[bu,Bk,h.1];simp[na,hb]
def Pc{a l:List (Bytes×Bool)}(h:a <+: l)(hn:na a 0=none):na l 0=none:=by
 obtain⟨b,rfl⟩:=h;rw[Bk,hn]; rfl
def akW:(Tryz.prog.info? 9).map (fun i=>(i.zero,i.size,i.bytes))=some (some (.string ⟨#[]⟩),1,16):=by kernel_rfl
abbrev Gr(b:Bytes):Value := .string (bs b)
def appended{W w1:World}{n₀ B:Nat}{v v':Value}{k m:Nat}{xs ys:List Value}{tmp:Obj}
  (hv:Boxed W B 43 v) (hrow:W.ownsRow n₀ 9 1 v k xs) (hown':w1.ownsRow n₀ 9 1 v' m ys) (hgrow:(W.alloc tmp).grownBy w1 v.ownBlock) :
  Boxed w1 B 43 v/\Boxed (w1.setCell ⟨B,0,none⟩ v') B 43 v'/\(w1.setCell ⟨B,0,none⟩ v').ownsRow n₀ 9 1 v' m ys/\KeepsOthers W (w1.setCell ⟨B,0,none⟩ v') /\
  (w1.setCell ⟨B,0,none⟩ v').os=W.os/\(w1.setCell ⟨B,0,none⟩ v').tape=W.tape/\(w1.setCell ⟨B,0,none⟩ v').output=W.output/\W.heap.size<=(w1.setCell ⟨B,0,none⟩ v').heap.size /\
  ∀q,q<n₀->q<W.heap.size->q≠B->(w1.setCell ⟨B,0,none⟩ v').heap[q]?=W.heap[q]?:=by
 have hv1:Boxed w1 B 43 v:=(hv.alloc tmp).kept hgrow (hv.not_row (by decide) hrow)
 have hs:=grownBy_setCell' w1 B v';refine⟨hv1,hv1.set v',hown'.kept hs (.inr (hv1.not_row (by decide) hown').symm),?_,?_,?_,?_,?_,?_⟩
 ·refine((KeepsOthers.alloc W tmp).trans (KeepsOthers.of_grownBy hgrow fun j o ej hj=>?_)).trans (KeepsOthers.setCell _ _ _)
  rcases(hrow.alloc tmp).2 with ⟨rfl,_⟩|⟨g,cap,cur,rfl,_,hgb,_⟩
  ·simp[Value.ownBlock] at ej
  ·obtain rfl:g=j:=by simpa[Value.ownBlock] using ej
   rw[hgb] at hj; cases hj; rfl
 ·exact hs.os.trans hgrow.os
 ·exact hs.tape.trans hgrow.tape
 ·exact hs.output.trans hgrow.output
 ·have h1:=hgrow.size;have h2:=hs.size;simp at h1;omega
 ·intro q hq hqw hqB;have cz:q<(W.alloc tmp).heap.size:=by simp; omega
  rw[hs.block q (bz cz hgrow.size) (fun e=>hqB (by cases e; rfl)),hgrow.block q cz ?_]
  ·exact Below.heap_alloc _ _ _ hqw
  ·intro e;rcases hrow.2 with ⟨rfl,_⟩|⟨g,cap,cur,rfl,hb,_,_⟩
   ·simp[Value.ownBlock] at e
   ·obtain rfl:q=g:=by simpa[Value.ownBlock] using e
    omega
structure Ec(w:World)(pre:List PA)(W:World):Prop where
 Gv:Mj pre
 r0:Boxed W w.heap.size 43 (.slice none 0 0)
 r1:Boxed W (w.heap.size+1) 42 (.int .i64 0)
 row:∃v,Boxed W (w.heap.size+2) 43 v/\W.ownsRow (w.heap.size+4) 9 1 v pre.length (pre.map fun x=>Gr x.1.1)
 below:Below w.heap.size w W
 sz:w.heap.size+4<=W.heap.size
structure Gc(w:World)(c:Code)(pre:List PA)(W:World):Prop where
 ret:c = .ret
 bad:na (pre.map (·.1)) 0=none
 r0:Boxed W w.heap.size 43 (.slice none 0 0)
 r1:Boxed W (w.heap.size+1) 42 (.int .i64 60)
 below:Below w.heap.size w W
def tw{W W':World}{row:Option Nat}{B k:Nat}{t:TypeId}{v:Value}(h:Boxed W B t v)(hg:W.grownBy W' row)(hr:∀r,row=some r->k<=r/\∃o:Obj,W.heap[r]?=some o/\o.isCells=false):Boxed W' B t v :=
 h.kept hg fun e=>by obtain⟨_,o,ho,hc⟩:=hr B e.symm; rw[show W.heap[B]?=_ from h] at ho; cases ho; cases hc
def Ec.own{w:World}:OwnFrom (w.heap.size+4) (Ec w):=fun s A B row hs hg hr=>by
 obtain⟨v,hv,hrow⟩:=hs.row;exact⟨hs.Gv,tw hs.r0 hg hr,tw hs.r1 hg hr,⟨v,tw hv hg hr,((holdsRow_own (β:=Unit) (w.heap.size+4) (w.heap.size+2) 43 9 1 (fun _=>s.length) (fun _=>s.map fun x=>Gr x.1.1) (fun _ u=>u=v)) () A B row ⟨v,hv,hrow,rfl⟩ hg (fun r e=>(hr r e).2)).elim fun u hu=>hu.2.2▸hu.2.1⟩,ownFrom_below (β:=Unit) (aC _) (by omega) () A B row hs.below hg hr,aW hs.sz hg.size⟩
def Gc.own{w:World}(c:Code):OwnFrom (w.heap.size+4) (Gc w c):=fun s A B row hs hg hr =>
 ⟨hs.ret,hs.bad,tw hs.r0 hg hr,tw hs.r1 hg hr,ownFrom_below (β:=Unit) (aC _) (by omega) () A B row hs.below hg hr⟩
def Ec.cell{w:World}(s:List PA)(A:World)(u:Value)(hs:Ec w s A):Ec w s (A.setCell ⟨w.heap.size+3,0,none⟩ u):=by
 obtain⟨v,hv,hrow⟩:=hs.row;have hg:=grownBy_setCell' A (w.heap.size+3) u;refine⟨hs.Gv,hs.r0.other (by omega) _,hs.r1.other (by omega) _,⟨v,hv.other (by omega) _,hrow.kept hg ?_⟩,hs.below.setCell (p:=⟨w.heap.size+3,0,none⟩) (by simp) _,aW hs.sz hg.size⟩
 rcases hrow.2 with ⟨rfl,_⟩|⟨g,cap,cur,rfl,hb,_,_⟩
 ·exact .inl rfl
 ·refine .inr fun e=>?_
  have:g=w.heap.size+3:=by simpa[Value.ownBlock] using e
  omega
def Gc.made{w W:World}{pre:List PA}(h0:Boxed W w.heap.size 43 (.slice none 0 0))(h1:Boxed W (w.heap.size+1) 42 (.int .i64 0))(hb:Below w.heap.size w W)(hbad:na (pre.map (·.1)) 0=none) :
  KeepsOthers W ((W.setCell ⟨w.heap.size,0,none⟩ (.slice none 0 0)).setCell ⟨w.heap.size+1,0,none⟩ (.int .i64 60))/\Gc w .ret pre ((W.setCell ⟨w.heap.size,0,none⟩ (.slice none 0 0)).setCell ⟨w.heap.size+1,0,none⟩ (.int .i64 60)):=by
 refine⟨(KeepsOthers.setCell _ _ _).trans (KeepsOthers.setCell _ _ _),rfl,hbad,(h0.set _).other (by omega) _,?_,(hb.setCell (p:=⟨w.heap.size,0,none⟩) (aC _) _).setCell (p:=⟨w.heap.size+1,0,none⟩) (by simp) _⟩
 exact(h1.other (by omega) _).set _
def Bh{W:World}{n₀ k:Nat}{v:Value}{xs:List Value}(h:W.ownsRow n₀ 9 1 v k xs):∃p cap,v = .slice p k cap:=by
 rcases h.2 with ⟨rfl,rfl⟩|⟨g,cap,cur,rfl,_⟩
 ·exact⟨_,_,rfl⟩
 ·exact⟨_,_,rfl⟩
def ZT{W:World}{n₀ n₁ k D:Nat}{v:Value}{xs:List Value}{x:Option (List Deferred)}{o:Obj}(h:W.ownsRow n₀ 9 1 v k xs)(hn:n₁<=n₀)(hD:W.heap[D]?=some (.deferred x)):(W.putObj D o).ownsRow n₁ 9 1 v k xs:=by
 refine⟨h.1,?_⟩;rcases h.2 with h0|⟨g,cap,cur,e,hb,hg,hr⟩
 ·exact .inl h0
 ·refine .inr ⟨g,cap,cur,e,by omega,?_,hr⟩
  exact(World.putObj_heap_other (fun e=>by subst e; rw[hD] at hg; cases hg)).trans hg
def Ji{W:World}{n₀ k B:Nat}{v:Value}{xs:List Value}(h:W.ownsRow n₀ 9 1 v k xs)(hB:B<n₀)(u:Value):(W.setCell ⟨B,0,none⟩ u).ownsRow n₀ 9 1 v k xs:=by
 refine⟨h.1,?_⟩;rcases h.2 with h0|⟨g,cap,cur,e,hb,hg,hr⟩
 ·exact .inl h0
 ·exact .inr ⟨g,cap,cur,e,hb,(Below.heap_setCell _ _ _ _ (by show _≠B; omega)).trans hg,hr⟩
def tf{W:World}{B D:Nat}{t:TypeId}{v:Value}{x:Option (List Deferred)}{o:Obj}(h:Boxed W B t v)(hD:W.heap[D]?=some (.deferred x)):Boxed (W.putObj D o) B t v :=
 (World.putObj_heap_other (fun e=>by subst e; rw[show W.heap[B]?=_ from h] at hD; cases hD)).trans h
def AE{w W:World}{D:Nat}{o:Obj}(h:Below w.heap.size w W)(hD:w.heap.size<=D):Below w.heap.size w (W.putObj D o) :=
 ⟨h.os,h.tape,h.output,by simpa[World.putObj] using h.size,fun k hk=>(World.putObj_heap_other (by omega)).trans (h.block k hk)⟩
def xR{W:World}{B D:Nat}{o:Obj}{u:Value}(h:W.heap[D]?=some o)(hB:D≠B):(W.setCell ⟨B,0,none⟩ u).heap[D]?=some o:=(Below.heap_setCell _ _ _ _ (by show _≠B; omega)).trans h
def results144{W:World}{b:Nat}{v u:Value}{tmps:Array Value}(h2:tmps[2]?=some (.pointer (some ⟨b,0,none⟩)))(h3:tmps[3]?=some (.pointer (some ⟨b+1,0,none⟩)))(hv:Boxed W b 43 v)(hu:Boxed W (b+1) 42 u):(results f144 tmps).run Tryz.prog W = .ok (.tuple #[v,u]) W:=by
 have c0:=hv.cell;have c1:=hu.cell;simp[results,f144,go_sem,c0,c1,h2,h3]
def w8{F:Fence}{n:Nat}{P:Program}{fn:Func}{tmps:Array Value}{R:Ending->World->Prop}{D:Nat}{W W':World}{v:Value}(hD:(Instr.takeDeferred D).run P W = .ok [] W')(hv:(results fn tmps).run P W' = .ok v W')(hR:R (.returned v) W') :
  LeavesInM F n P fn tmps R [{ target := .collected D,args := #[] }] .returning W :=
 ⟨by simp,.inl ⟨D,W',rfl,hD,⟨v,hv,hR⟩⟩⟩
set_option maxRecDepth 100000 in
set_option maxHeartbeats 2000000 in
def VX(n:Nat)(hn:6<=n)(s:Bytes)(ha:om s)(hs:s.length<=100000)(w:World) :
  CallsIn Fence.wide n Tryz.prog 144 #[.string (bs s)] w fun e W'=>∃v,e = .returned (.tuple #[v,.int .i64 (dW s).2])/\W'.ownsRow w.heap.size 9 1 v (dW s).1.length ((dW s).1.map Gr)/\Below w.heap.size w W':=by
 have h1:1<=n:=by omega
 obtain⟨i0,hi,hz0,hz1,hz2⟩:=info_parts akW;refine callsIn_of_wp_marks func144 rfl trivial ?_ rfl;simp only[ntmps144,cU,au,av,Nat.reduceAdd,Nat.reduceSub,jq,jr,ky,jH,aZ,aR];have b0:=Boxed.new w 43 (.slice none 0 0);have b1:=Boxed.new (w.alloc (.cells #[.slice none 0 0] 43)) 42 (.int .i64 0);have b2:=Boxed.new ((w.alloc (.cells #[.slice none 0 0] 43)).alloc (.cells #[.int .i64 0] 42)) 43 (.slice none 0 0);have b3:=Boxed.new (((w.alloc (.cells #[.slice none 0 0] 43)).alloc (.cells #[.int .i64 0] 42)).alloc (.cells #[.slice none 0 0] 43)) 9 (.string (bs s));simp only[World.size_alloc] at b1 b2 b3;have hB2:Below w.heap.size w ((w.alloc (.cells #[.slice none 0 0] 43)).alloc (.cells #[.int .i64 0] 42)):=((Below.refl _ w).alloc (aC _) _).alloc (by simp) _
 have hB4:=(hB2.alloc (by simp; omega) (.cells #[.slice none 0 0] 43)).alloc (by simp; omega) (.cells #[.string (bs s)] 9)
 by_cases hs47:s=[47]
 ·subst hs47;have ht:((bs [47]).toList==[47])=true:=by rw[uW]; rfl
  gi_wp2
  have c0:=(b0.alloc (.cells #[.int .i64 0] 42)).cell;have c1:=b1.cell;refine⟨.tuple #[.slice none 0 0,.int .i64 0],?_,_,rfl,World.ownsRow_nil _ _ _ _,hB2⟩;simp[results,f144,go_sem,c0,c1]
 have ht:((bs s).toList==[47])=false:=by rw[uW]; simpa using hs47
 gi_wp2
 refine⟨trivial,(O3 _ s _).mono ?_⟩;rintro e w' ⟨rfl,rfl⟩
 gi_wp2
 obtain⟨W4,hW4⟩:∃W4,(((w.alloc (.cells #[.slice none 0 0] 43)).alloc (.cells #[.int .i64 0] 42)).alloc (.cells #[.slice none 0 0] 43)).alloc (.cells #[.string (bs s)] 9)=W4:=⟨_,rfl⟩;have hsz:W4.heap.size=w.heap.size+4:=by rw[<-hW4]; simp
 have e0:Boxed W4 w.heap.size 43 (.slice none 0 0):=by rw[<-hW4]; exact((b0.alloc _).alloc _).alloc _
 have e1:Boxed W4 (w.heap.size+1) 42 (.int .i64 0):=by rw[<-hW4]; exact(b1.alloc _).alloc _
 have e2:Boxed W4 (w.heap.size+2) 43 (.slice none 0 0):=by rw[<-hW4]; exact b2.alloc _
 rw[hW4] at b3 hB4 ⊢
 have hseq:Ex (w.heap.size+3) Fence.wide (n-1) Tryz.prog 272 #[.pointer (some ⟨w.heap.size+3,0,none⟩)] Xe (fun A B=>B.heap[w.heap.size+3]?=A.heap[w.heap.size+3]?) (fun xs=>xs.map (·.1)=kv s) (fun pre=>pre.map (·.1) <+: kv s) (kv s).length W4 :=
  fun l J Jx W hW hJ hJx hJc hY h0=>XA (n-1) (by omega) l _ _ s ha hs (aC _) J Jx W hJ hJc hY ((hW.block _ (by omega)).trans b3) h0
 refine ye (b0:=w.heap.size+3) (by omega) rfl h1 (gf:=272) (lb := #[.pointer (some ⟨w.heap.size+3,0,none⟩)]) rfl trivial (enters_of func272 (by kernel_rfl) rfl) hseq
  (fun h k=>k.trans h) (fun W l o o' hl _ _ _=>World.putObj_heap_other (by omega)) (Below.refl _ _) (fun _=>rfl)
  (Ec w) (Gc w) (by rw[hsz]; exact Ec.own) (fun c=>by rw[hsz]; exact Gc.own c) Ec.cell
  ⟨⟨rfl,by simp⟩,e0,e1,⟨_,e2,World.ownsRow_nil _ _ _ _⟩,hB4,by omega⟩
  (fun x=>{ tmps := #[.string (bs s),undef,.pointer (some ⟨w.heap.size,0,none⟩),.pointer (some ⟨w.heap.size+1,0,none⟩),.pointer (some ⟨w.heap.size+1+1,0,none⟩),.string (bs x.1.1),.bool x.1.2,.string (bs s),.bool false,.string (bs s),.func (.func 272) #[] #[.pointer (some ⟨w.heap.size+1+1+1,0,none⟩)],.string (bs x.1.1),.bool x.1.2,
   undef,undef,undef,undef,undef,undef,undef,undef,undef,undef,undef,undef,undef,undef,undef,undef,undef,undef,undef,undef],defers:=[] }) ?assign ?body ?done ?stop
 case assign =>
  intro l x W K hK
  gi_wp2
  exact hK
 case body =>
  rintro l pre ⟨⟨nm,ok⟩,hxa,hxl⟩ W hInv cz;obtain⟨v,hv,hrow⟩:=hInv.row;have hc0:=hInv.r0.cell;have hf0:=hInv.r0.frozen;have hc1:=hInv.r1.cell;have hf1:=hInv.r1.frozen;cases ok with
  |false =>
   gi_wp2
   refine⟨trivial,?_⟩
   gi_wp2
   exact Gc.made hInv.r0 hInv.r1 hInv.below (AB hInv.Gv (by simp[AA]))
  |true =>
   gi_wp2
   refine⟨trivial,fun h=>(by cases h),(CallsIn.inRound l (callsIn_wide.2 (VG nm hxl hxa W))).mono ?_⟩
   rintro e W5 ⟨rfl,hg5⟩;have hInv5:Ec w pre W5:=Ec.own pre W W5 none hInv hg5 (fun r e=>by cases e)
   have hK5:KeepsOthers W W5:=KeepsOthers.of_grownBy hg5 (fun j o e=>by cases e)
   clear hc0 hf0 hc1 hf1 hrow hv v;obtain⟨v,hv,hrow⟩:=hInv5.row;have hc0:=hInv5.r0.cell;have hf0:=hInv5.r0.frozen;have hc1:=hInv5.r1.cell;have hf1:=hInv5.r1.frozen;have hc2:W5.cell? ⟨w.heap.size+1+1,0,none⟩=some v:=hv.cell;have hf2:W5.frozen? ⟨w.heap.size+1+1,0,none⟩=false:=hv.frozen;cases hnm:eh nm with
   |false =>
    gi_wp2
    have:=Gc.made hInv5.r0 hInv5.r1 hInv5.below (AB (x:=⟨(nm,true),hxa,hxl⟩) hInv5.Gv (by simp[AA,hnm]))
    exact⟨hK5.trans this.1,this.2⟩
   |true =>
    obtain⟨p,cap,rfl⟩:=Bh hrow
    by_cases hl:pre.length=12
    ·have hl':((pre.length:Int)==12)=true:=by simp[hl]
     gi_wp2
     have:=Gc.made hInv5.r0 hInv5.r1 hInv5.below (AB (x:=⟨(nm,true),hxa,hxl⟩) hInv5.Gv (by simp[AA,hnm,hl]))
     exact⟨hK5.trans this.1,this.2⟩
    ·have hl':((pre.length:Int)==12)=false:=by simp; omega
     gi_wp2_with (gi_at_builtin; generalize hX:wpListIn _ _ _ _ _ _ _ _=X)
     subst hX;refine wpListIn_append_own _ rfl _ _ 43 rfl (w.heap.size+4) 9 i0 (.string ⟨#[]⟩) 1 16 underlying43 hi hz0 hz1 hz2 rfl (by decide) _ _ _ rfl (hrow.alloc _) ⟨W5.heap.size,0,none⟩ 1 1 [Gr nm] rfl rfl (cell_one_new _ _ _) (by simp[Value.oneCell']) (by have:=hInv5.Gv.2; simp[maxLen]; omega) (by have:=hInv5.Gv.2; omega) (by have:=hv.lt; simp; omega) ?_
     intro v' w1 hown' hgrow hiff;obtain⟨q0,q1,q2,q3,q4,q5,q6,q7,q8⟩:=appended hv hrow hown' hgrow;have hc2':w1.cell? ⟨w.heap.size+1+1,0,none⟩=some (.slice p pre.length cap):=q0.cell;have hf2':w1.frozen? ⟨w.heap.size+1+1,0,none⟩=false:=q0.frozen;obtain⟨p',cap',rfl⟩:=Bh hown'
     gi_wp2
     refine⟨hK5.trans q3,(q8 _ (by omega) (by have:=hInv5.sz; omega) (by omega)).trans (hg5.block _ (by have:=hInv.sz; omega) (by simp)),?_⟩
     refine⟨KM hInv5.Gv (by simp[AA,hnm,hl]),(q8 _ (by omega) hInv5.r0.lt (by omega)).trans hInv5.r0,(q8 _ (by omega) hInv5.r1.lt (by omega)).trans hInv5.r1,⟨_,q1,by simpa using q2⟩,?_,aW hInv5.sz q7⟩
     exact hInv5.below.trans ⟨q4,q5,q6,q7,fun q hq=>q8 q (by omega) (by have:=hInv5.below.size; omega) (by omega)⟩
 case done =>
  rintro D ys W hD hys hInv hK;obtain⟨v,hv,hrow⟩:=hInv.row;have hc0:=hInv.r0.cell;have hf0:=hInv.r0.frozen;have hc1:=hInv.r1.cell;have hf1:=hInv.r1.frozen;have hc2:W.cell? ⟨w.heap.size+1+1,0,none⟩=some v:=hv.cell;have hf2:W.frozen? ⟨w.heap.size+1+1,0,none⟩=false:=hv.frozen;obtain⟨p,cap,rfl⟩:=Bh hrow
  by_cases hl:ys.length=0
  ·have hl':((ys.length:Int)==0)=true:=by simp[hl]
   have hy:ys=[]:=cj.1 hl
   have hsp:dW s=([],60):=by
    rw[hy] at hys;simp[dW,hs47,<-hys,na]
   gi_wp2
   have hm:=xR (u := .int .i64 60) (xR (u := .slice none 0 0) hK (B:=w.heap.size) (by omega)) (B:=w.heap.size+1) (by omega)
   have k0:Boxed ((W.setCell ⟨w.heap.size,0,none⟩ (.slice none 0 0)).setCell ⟨w.heap.size+1,0,none⟩ (.int .i64 60)) w.heap.size 43 (.slice none 0 0):=(hInv.r0.set _).other (by omega) _
   have k1:Boxed ((W.setCell ⟨w.heap.size,0,none⟩ (.slice none 0 0)).setCell ⟨w.heap.size+1,0,none⟩ (.int .i64 60)) (w.heap.size+1) 42 (.int .i64 60):=(hInv.r1.other (by omega) _).set _
   refine w8 (run_takeDeferred hm) (results144 rfl rfl (tf k0 hm) (tf k1 hm)) ⟨_,rfl,World.ownsRow_nil _ _ _ _,AE ((hInv.below.setCell (p:=⟨w.heap.size,0,none⟩) (aC _) _).setCell (p:=⟨w.heap.size+1,0,none⟩) (by simp) _) (by omega)⟩
  ·have hl':((ys.length:Int)==0)=false:=by rw[jL]; omega
   have hsp:dW s=(ys.map (·.1.1),0):=by
    have h0:=hInv.Gv.1;rw[hys] at h0;cases ys with
    |nil=>simp at hl
    |cons y ys=>simp[dW,hs47,h0]
   gi_wp2
   have hm:=xR (u := .int .i64 0) (xR (u := .slice p ys.length cap) hK (B:=w.heap.size) (by omega)) (B:=w.heap.size+1) (by omega)
   have k0:Boxed ((W.setCell ⟨w.heap.size,0,none⟩ (.slice p ys.length cap)).setCell ⟨w.heap.size+1,0,none⟩ (.int .i64 0)) w.heap.size 43 (.slice p ys.length cap):=(hInv.r0.set _).other (by omega) _
   have k1:Boxed ((W.setCell ⟨w.heap.size,0,none⟩ (.slice p ys.length cap)).setCell ⟨w.heap.size+1,0,none⟩ (.int .i64 0)) (w.heap.size+1) 42 (.int .i64 0):=(hInv.r1.other (by omega) _).set _
   refine w8 (run_takeDeferred hm) (results144 rfl rfl (tf k0 hm) (tf k1 hm)) ⟨_,rfl,?_,AE ((hInv.below.setCell (p:=⟨w.heap.size,0,none⟩) (aC _) _).setCell (p:=⟨w.heap.size+1,0,none⟩) (by simp) _) (by omega)⟩
   have:=ZT (Ji (Ji hrow (by omega:w.heap.size<_) (.slice p ys.length cap)) (by omega:w.heap.size+1<_) (.int .i64 0)) (by omega:w.heap.size<=_) hm (o := .deferred none)
   simpa[Function.comp_def] using this
 case stop =>
  rintro D c pre W hD hpre hOut hK;obtain rfl:=hOut.ret;have hsp:dW s=([],60):=by simp[dW,hs47,Pc hpre hOut.bad]
  gi_wp2
  refine w8 (run_takeDeferred hK) (results144 rfl rfl (tf hOut.r0 hK) (tf hOut.r1 hK)) ⟨_,rfl,World.ownsRow_nil _ _ _ _,AE hOut.below (by omega)⟩
def VW(s:Bytes)(ha:om s)(hs:s.length<=100000)(w:World) :
  Calls Tryz.prog 144 #[.string (bs s)] w fun e W'=>∃v,e = .returned (.tuple #[v,.int .i64 (dW s).2])/\W'.ownsRow w.heap.size 9 1 v (dW s).1.length ((dW s).1.map Gr)/\Below w.heap.size w W' :=
 callsIn_wide.1 (VX 6 (by omega) s ha hs w)
end
end
instance (s:Bytes):Decidable (om s):=inferInstanceAs (Decidable True)
def DI:List ag->aG->Option (ag×aG)
 | [.str s],M=>if om s/\s.length<=100000 then some (.tuple [.slice .sh ((dW s).1.map .str),.int .i64 (dW s).2],M) else none
 |_,_=>none
def Pe{args:List ag}{M:aG}{x:ag×aG}(h:DI args M=some x):dD Tryz.prog 144 args M x:=by
 unfold DI at h;split at h
 ·rename_i s;split at h
  ·rename_i hs;cases h;refine mS.call ?_;intro j w vs hr hG hl hv;obtain⟨u,rfl⟩:=Cr hl;have h1:=(hv 0 _ u rfl rfl).j5;subst h1;refine(VW s hs.1 hs.2 w).mono ?_;rintro e w' ⟨v,rfl,⟨dQ,hown⟩,hb⟩;refine⟨_,j,rfl,hr.grow hb.size hb.os hb.tape hb.output hb.block,Ext.grow hb.size hb.os hb.tape hb.output hb.block,.tuple rfl ?_⟩;intro i c v' hi hv'
   match i with
   |0 =>
    cases hi; cases hv';refine .plain ?_;rcases hown with ⟨rfl,h0⟩|⟨g,cap,cur,rfl,hg,hg',hn1,_,hcs,htk⟩
    ·rw[cj.1 h0];exact fM.nil _ _ _
    ·refine .slice _ _ _ _ g 0 1 (fun k=>Gr ((dW s).1.getD k [])) (by simp) (by simpa using hn1) (fun _=>rfl) ?_ ?_ ?_
     ·intro x hx;obtain⟨b,_,rfl⟩:=dj.1 hx;rfl
     ·intro i x k c hx hc;rw[bf] at hx;obtain⟨b,hb',rfl⟩:=aN.1 hx
      match k with
      |0 =>
       have hi:i<(dW s).1.length:=(aq.1 hb').1;refine⟨?_,?_,?_,?_⟩
       ·have h1:cur.toList[i]?=some (Gr b):=by
         have:(cur.toList.take ((dW s).1.length*1))[i]?=some (Gr b):=by rw[htk,bf,hb']; rfl
         rwa[bF (by omega)] at this
        have h2:cur[i]?=some (Gr b):=by simpa using h1
        have h3:(dW s).1.getD i []=b:=by simp[List.getD,hb']
        simp only[Nat.mul_one,dk,aL];rw[h3];simp[World.cell?,hg',h2]
       ·exact lt_of_block hg'
       ·intro id hid hji;have:=hr.lt id g hid hji; omega
       ·intro hx; have:=hr.Aq g _ hx; omega
      |k+1=>cases hc
     ·intro i x k c hx hc;rw[bf] at hx;obtain⟨b,hb',rfl⟩:=aN.1 hx
      match k with
      |0 =>
       cases hc;have h3:(dW s).1.getD i []=b:=by simp[List.getD,hb']
       simp only[Nat.mul_one,dk];rw[h3];exact .str _
      |k+1=>cases hc
   |1=>cases hi; cases hv'; exact .plain (.int _ _)
   |i+2=>cases hi
  ·cases h
 ·cases h
section
attribute [local irreducible] eV fZ je gK eo kr ar aU cA bH
def nN:∀a:Bytes,strLt a a=false
 | []=>rfl
 |a::x=>by simp[strLt,nN x,nJ]
def xt:∀ {a b c:Bytes},strLt a b=true->strLt b c=true->strLt a c=true
 | [],b,[],_,h2=>by cases b<;>simp[strLt] at h2
 | [],_,_::_,_,_=>rfl
 |_::_,[],_,h1,_=>by simp[strLt] at h1
 |_::_,_::_,[],_,h2=>by simp[strLt] at h2
 |a::x,b::y,c::z,h1,h2=>by
  simp only[strLt,cN,bn,bg,eM] at h1 h2 ⊢;simp only[km] at h1 h2 ⊢;rcases h1 with h1|⟨h1,h1'⟩
  ·rcases h2 with h2|⟨h2,_⟩
   ·left; omega
   ·left; rw[<-h2]; exact h1
  ·rcases h2 with h2|⟨h2,h2'⟩
   ·left; rw[h1]; exact h2
   ·right; exact⟨h1.trans h2,xt h1' h2'⟩
def rE{l:List fp}(h:ph l)(s:Bytes):JY l s (lA l s):=by
 unfold lA;induction l with
 |nil=>exact⟨by simp,fun h n hn=>by simp at hn⟩
 |cons a r ih =>
  obtain⟨h1,h2⟩:=cv.1 h;obtain⟨i1,i2⟩:=ih h2
  by_cases ha:strLt a.name s=true
  ·rw[hV,bc ha];refine⟨by simpa using i1,fun k n hn=>?_⟩
   cases k with
   |zero=>simp at hn; subst hn; simp[ha]
   |succ k=>rw[i2 k n (by simpa using hn)]; simp
  ·rw[hV,aH ha];refine⟨by simp,fun k n hn=>?_⟩
   simp only[av,ka,pn];cases k with
   |zero=>simp at hn; subst hn; exact ha
   |succ k=>exact fun hc=>ha (xt (h1 n (aQ (by simpa using hn))) hc)
def gu{l:List fp}{s:Bytes}{e:fp}(h:eG l s=some e):e∈l/\e.name=s:=by
 unfold eG at h;exact⟨fI h,by simpa using nF h⟩
def wO{l:List fp}(h:ph l)(s:Bytes):(BG l s (lA l s)=true/\∃n,l[lA l s]?=some n/\eG l s=some n/\n.name=s)\/(BG l s (lA l s)=false/\eG l s=none):=by
 obtain⟨l1,l2⟩:=rE h s;cases hf:eG l s with
 |some n =>
  left;obtain⟨hm,he⟩:=gu hf;obtain⟨k,hk⟩:=bE hm;have hkb:¬k<lA l s:=fun hc=>by have:=(l2 k n hk).2 hc; rw[he,nN] at this; cases this
  have hb:lA l s<l.length:=by have:=(aq.1 hk).1; omega
  have hx:=ai hb;have hnl:¬strLt l[lA l s].name s=true:=fun hc=>im _ ((l2 _ _ hx).1 hc)
  have hke:k=lA l s:=by
   rcases bD (lA l s) k with cz|hge
   ·have hkl:=(aq.1 hk).1;have h3:=bS.1 h _ _ hb hkl cz;have h4:l[k]=n:=by rw[ai hkl] at hk; injection hk
    rw[h4,he] at h3;exact absurd h3 hnl
   ·omega
  subst hke;exact⟨by unfold BG; rw[hk]; simp[he],n,hk,rfl,he⟩
 |none =>
  right;refine⟨?_,rfl⟩;unfold BG;split
  ·rename_i n hn;have:=df.1 hf n (aQ hn);simpa using this
  ·rfl
structure rh(t:Tree):Prop where
 jv:mG t.ae
 aM:∀n,n∈t.ae->ph n.aM
def rh.dir{t:Tree}(h:rh t)(an:Int):ph (gr t.ae an).1.aM:=by
 unfold gr;split
 ·exact List.Pairwise.nil
 ·rename_i n hn;split
  ·exact h.aM n (bP hn).1
  ·exact List.Pairwise.nil
def aoy(t:Tree)(an:Int)(s:Bytes)(ht:Small t)(hr:rh t)(hs:s.length<=100000)(ha:om s):ar bN 130 [bq t,aF an,.str s] []=some (.tuple [aF (dX t.ae an s).1,aF (dX t.ae an s).2],[]):=by
 obtain⟨ae,next,aj⟩:=t
 have hn:ae.length<=100000:=ht.ae;have hd:(gr ae an).1.aM.length<=100000:=tg ht an;have hE:ph (gr ae an).1.aM:=hr.dir an;have hk:=fun b M=>XH ae next aj an hr.jv hn 1 (b :: bT [aY ae,aF next,aF aj]::M) rfl
 refine az ?_;simp only[aaW,JP,bq,aJ,hk,bG,aI,EN,seval];unfold dX;refine bp (fun hb=>?_) (fun hb=>?_)
 ·simp only[JP,EN,seval];clear hk;simp_all
 ·simp only[JP,aea,hs,ha,EN,seval];refine bp (fun hb'=>?_) (fun hb'=>?_)
  ·simp only[JP,EN,seval];clear hk;simp_all
  ·have hk2:=fun a b c d u M=>Rv a b c d (gr ae an).1.aM u s _ (rE hE s) hd M
   simp only[JP,hk2,EN,seval];rcases wO hE s with ⟨h1,e,h2,h3,_⟩|⟨h1,h2⟩
   ·simp only[JP,h1,h2,fm,EN,seval];clear hk hk2;simp_all
   ·simp only[JP,h1,EN,seval];clear hk hk2;simp_all
def XC(ae:List Node)(next aj an:Int)(s:Bytes)(ht:Small ⟨ae,next,aj⟩)(hr:rh ⟨ae,next,aj⟩)(hs:s.length<=100000)(ha:om s)(M:aG):aU (ar bN) 130 [.agg [aY ae,aF next,aF aj],aF an,.str s] M =
  some (.tuple [aF (dX ae an s).1,aF (dX ae an s).2],M):=cO (aoy ⟨ae,next,aj⟩ an s ht hr hs ha) M
def c86(t:Tree)(an:Int)(ht:Small t)(hr:rh t):ar bN 86 [bq t,aF an] []=some (.tuple [bG (aX t.ae an),.bool (find t.ae an).isSome],[]):=by
 obtain⟨ae,next,aj⟩:=t
 have hn:ae.length<=100000:=ht.ae;have hk:=fun b c M=>En ae next aj an hr.jv hn 2 (b::c :: bT [aY ae,aF next,aF aj]::M) rfl
 refine az ?_;simp only[akx,E86,bq,aJ,hk,bG,aI,EN,seval]
abbrev mb(n:Int):ag := .int .i64 n
def ud(l:List Int):wid (l.map mb) 1=True:=by
 simp only[fq,jc];intro x hx;obtain⟨n,_,rfl⟩:=dj.1 hx;rfl
def ua(ae:List Node):Nat->Int->List Int->List Int
 |0,_,out=>out
 |m+1,an,out=>if an != 1 then (if !(find ae an).isSome||(aX ae an).kind != 2 then out else ua ae m (aX ae an).up (out++[(aX ae an).up])) else out
def uj(ae:List Node)(an:Int):List Int:=ua ae ae.length an [an]
def Y1{ae:List Node}{next aj:Int}(h:mG ae)(hn:ae.length<=100000){k:List K}{R:List Int->Option (ag×aG)}
  (hx:∀(out:List Int) v q,kr (ar bN) [.tmp 4] 1 k ⟨.exit 0,[(0,b9 0),(1,v),(5,.slice (.own 1) (out.map mb)),(22,q)],[bT [aY ae,aF next,aF aj],.tick 1 out.length]⟩=R out)
  (hr:∀(out:List Int) b,kr (ar bN) [.tmp 4] 1 k ⟨.ret,[(4,.slice (.own 1) (out.map mb))],[bT [aY ae,aF next,aF aj],.tick 1 out.length,b]⟩=R out) :
  ∀(m:Nat)(an:Int)(out:List Int),out.length+m=ae.length+1->eV (ar bN) [.tmp 4] 1 k (.loop [0,1,5] Yi) [(0,b9 0),(1,aF an),(5,.slice (.own 1) (out.map mb))] [bT [aY ae,aF next,aF aj],.tick 1 out.length]=R (ua ae m an out):=by
 intro m;induction m with
 |zero =>
  intro an out ho;rw[bt];have hd':((out.length:Int)<=(ae.length:Int))=False:=by simp; omega
  simp only[B5,EN,seval]
  repeat' ((first|apply bp|apply bR|apply dE)<;>intro hb<;>simp only[hb,EN,B5,hd',seval])
  all_goals exact hx _ _ _
 |succ m ih =>
  intro an out ho;rw[bt];have hd':((out.length:Int)<=(ae.length:Int))=True:=by simp; omega
  have r1:cu (out.length+1) 8=True:=rb;have hk:=fun M=>En ae next aj an h hn 0 (bT [aY ae,aF next,aF aj]::M) rfl
  have hi:=ih (aX ae an).up (out++[(aX ae an).up]) (by simp; omega)
  simp only[bu,aP,a8,aD,au,av,aL] at hi;rw[ua];simp only[B5,EN,seval];refine bR (fun hb=>?_) (fun hb=>?_)
  ·simp only[B5,hb,hd',hk,bG,aI,EN,seval];refine bR (fun hb1=>?_) (fun hb1=>?_)
   ·simp only[B5,hb1,EN,seval];refine bp (fun hb2=>?_) (fun hb2=>?_)
    ·simp only[B5,hb2,hb1,dS,dp,EN,seval];exact hr _ _
    ·simp only[B5,hb2,hb1,r1,ud,eT,af,EN,seval];exact hi
   ·simp only[B5,hb1,dA,EN,seval];exact hr _ _
  ·simp only[B5,hb,af,EN,seval];exact hx _ _ _
def apB(ae:List Node)(next aj an:Int)(h:mG ae)(hn:ae.length<=100000):ar bN 209 [b9 0,aF an] [bT [aY ae,aF next,aF aj]] =
  some (hZ ((uj ae an).map mb),[bT [aY ae,aF next,aF aj]]):=by
 refine az ?_;simp only[Q2,B5,EN,seval];exact Y1 (R:=fun out=>some (hZ (out.map mb),[bT [aY ae,aF next,aF aj]])) h hn (fun out v q=>by simp only[B5,EN,seval]) (fun out b=>by simp only[B5,EN,seval]) ae.length an [an] (by simp; omega)
def aeb ae next aj an h hn p M hM:=cM (p:=p) (M:=M) hM (apB ae next aj an h hn)
def xZ(ae:List Node):∀(m:Nat)(an:Int)(out:List Int),out.length<=(ua ae m an out).length/\(ua ae m an out).length<=out.length+m
 |0,_,out=>⟨aC _,aC _⟩
 |m+1,an,out=>by
  rw[ua];split
  ·split
   ·exact⟨aC _,by omega⟩
   ·have:=xZ ae m (aX ae an).up (out++[(aX ae an).up]);simp at this;omega
  ·exact⟨aC _,by omega⟩
def ub(ae:List Node)(an:Int):1<=(uj ae an).length/\(uj ae an).length<=ae.length+1:=by
 have:=xZ ae ae.length an [an];simp at this;unfold uj;omega
def ap2(ae:List Node)(next aj an:Int)(h:mG ae)(hn:ae.length<=100000):ar bN 254 [b9 0,aF an] [bT [aY ae,aF next,aF aj]] =
  some (aF (((uj ae an).length-1:Nat):Int),[bT [aY ae,aF next,aF aj]]):=by
 refine az ?_;have hk:=fun M=>aeb ae next aj an h hn 0 (bT [aY ae,aF next,aF aj]::M) rfl
 have hl:=ub ae an;have hw:IntKind.i64.wrap (((uj ae an).length:Int)-1)=(((uj ae an).length-1:Nat):Int):=by rw[gn (by omega) (by omega)]; omega
 simp only[abW,anG,hk,hw,EN,seval]
def alv ae next aj an h hn p M hM:=cM (p:=p) (M:=M) hM (ap2 ae next aj an h hn)
def Bs(n:Node)(rest:List Node):∀(pre out:List Node),(∀m,m∈pre->m.an<n.an)->nC n (pre++rest) out false=nC n rest (out++pre) false
 | [],out,_=>by simp
 |m::r,out,h=>by
  have hm:=h m (aV ..);have h1:¬n.an<=m.an:=by omega
  have h2:¬m.an=n.an:=by omega
  rw[aR,nC];simp only[pk,h1,h2,decide_false,dG,eT,af,aw];rw[Bs n rest r _ fun x hx=>h x (aO _ hx)]
  simp
def zf(n:Node):∀(rest out:List Node),(∀m,m∈rest->n.an<m.an)->nC n rest out true=(out++rest,true)
 | [],out,_=>by simp[nC]
 |m::r,out,h=>by
  have hm:=h m (aV ..);have h2:¬m.an=n.an:=by omega
  rw[nC];simp only[c8,dw,h2,dA,af,aw];rw[zf n r _ fun x hx=>h x (aO _ hx)]
  simp
def vB{ae:List Node}{an:Int}{b:Nat}(h:PT ae an b):∀m,m∈ae.take b->m.an<an:=fun m hm=>by
 obtain⟨k,hk⟩:=bE hm;rw[gI] at hk;split at hk
 ·rename_i cz; exact(h.lt k m hk).2 cz
 ·cases hk
def EJ{ae:List Node}{an:Int}{b:Nat}(h:PT ae an b):∀m,m∈ae.drop b->an<=m.an:=fun m hm=>by
 obtain⟨k,hk⟩:=bE hm;rw[cI] at hk;have:=h.lt _ m hk;have hn:¬b+k<b:=by omega
 have:=fun hc=>hn (this.1 hc)
 omega
def x5{ae:List Node}(h:mG ae){n:Node}(hf:find ae n.an=none):eu ae n=ae.take (lj ae n.an)++n::ae.drop (lj ae n.an):=by
 have hl:=uA h n.an
 have hd:∀m,m∈ae.drop (lj ae n.an)->n.an<m.an:=fun m hm=>by
  have h1:=EJ hl m hm;have h2:=df.1 hf m (dr hm);have:¬m.an=n.an:=by simpa using h2
  omega
 unfold eu;rw[show nC n ae [] false=nC n (ae.take (lj ae n.an)++ae.drop (lj ae n.an)) [] false by rw[cD]]
 rw[Bs n _ _ _ (vB hl)];generalize ae.drop (lj ae n.an)=rest at hd;cases rest with
 |nil=>simp[nC]
 |cons m r =>
  have hm:=hd m (aV ..);have h1:n.an<=m.an:=by omega
  have h2:¬m.an=n.an:=by omega
  rw[nC];simp only[pk,h1,h2,decide_true,fg,gq,dS,aE,aw];rw[zf n r _ fun x hx=>hd x (aO _ hx)]
  simp
def tp{ae:List Node}(h:mG ae){n o:Node}(ho:ae[lj ae n.an]?=some o)(he:o.an=n.an):eu ae n=ae.set (lj ae n.an) n:=by
 have hl:=uA h n.an;have cz:=(aq.1 ho).1
 have hdr:ae.drop (lj ae n.an)=o::ae.drop (lj ae n.an+1):=by
  rw[di cz];rw[ai cz] at ho; injection ho with ho; rw[ho]
 have hd:∀m,m∈ae.drop (lj ae n.an+1)->n.an<m.an:=fun m hm=>by
  obtain⟨k,hk⟩:=bE hm;rw[cI] at hk;have hkl:=(aq.1 hk).1;have h3:=bS.1 h _ _ cz hkl (by omega)
  have h4:ae[lj ae n.an+1+k]=m:=by rw[ai hkl] at hk; injection hk
  have h5:ae[lj ae n.an]=o:=by rw[ai cz] at ho; injection ho
  rw[h4,h5] at h3;omega
 unfold eu;rw[show nC n ae [] false=nC n (ae.take (lj ae n.an)++ae.drop (lj ae n.an)) [] false by rw[cD]]
 rw[Bs n _ _ _ (vB hl),hdr,nC];simp only[pk,he,cp,decide_true,fg,gq,dS,aE,cZ];rw[zf n _ _ hd,List.set_eq_take_append_cons_drop,bc cz];simp
def p85{ae:List Node}(h0:ae≠[])(hn:ae.length<=100000)(M:aG):ar bN 255 [aY ae] M=some (.cS M.length 0 6 0 ae.length,M++[.arr 6 0 (ae.map bG)]):=by
 refine eY (g:=lV 6 80) rfl ?_;obtain⟨a,r,rfl⟩:=ec h0;have hw:wid ((a::r).map bG) 6:=by have:=FT (a::r); simpa using this
 have hr:cu ((a::r).map bG).length 80:=by have:=qS (a:=(a::r).length) (b:=80) (by omega) (by omega); simpa using this
 unfold lV;simp only[aP] at hw hr ⊢;rw[dV ⟨hw,hr⟩];simp
def p86{ae:List Node}{b:Nat}(hb:b<=ae.length)(hn:ae.length<=100000)(n:Node)(c0 c1:dy) :
  ar bN 256 [.cS 2 0 6 0 ae.length,aF b,hZ [.agg (aI n)]] [c0,c1,.arr 6 0 (ae.map bG)]=some (.cS 2 1 6 0 (ae.length+1),[c0,c1,.arr 6 1 ((ae.take b++n::ae.drop b).map bG)]):=by
 refine eY (g:=ku 6 80) rfl ?_;have hr:cu ((ae.map bG).length+1) 80:=by have:=qS (a:=ae.length+1) (b:=80) (by omega) (by omega); simpa using this
 unfold ku;simp only[nth];rw[dV ⟨trivial,trivial,trivial,by simp,by omega,by simpa using hb,rfl,hr⟩]
 simp[jj,bG]
def VP(ae:List Node)(b:Nat)(o n:Node)(h:ae[b]?=some o):(jj (ae.map bG) b (putCells (bG o) 0 (aI n)))=(ae.set b n).map bG:=by
 have:putCells (bG o) 0 (aI n)=bG n:=rfl;rw[this,gy,kN]
def apr(ae:List Node)(next aj:Int)(n:Node)(h:mG ae)(h0:ae≠[])(hn:ae.length<=100000):ar bN 197 [b9 0,bG n] [bT [aY ae,aF next,aF aj]] =
  some (.tuple [],[bT [aY (eu ae n),aF next,aF aj]]):=by
 refine az ?_;have hk:=fun M=>aec ae next aj n.an h hn 0 (bT [aY ae,aF next,aF aj]::M) rfl
 have hp:=fun M=>p85 h0 hn M
 have hle:=(uA h n.an).le;simp only[QZ,acS,bG,aI,hk,hp,EN,seval];rcases sH h n.an with ⟨h1,o,h2,h3,h4⟩|⟨h1,h2⟩
 ·have cz:((lj ae n.an:Int)<(ae.length:Int))=True:=by have:=(aq.1 h2).1; simp; omega
  simp only[acS,h1,h2,cz,bK,fy,eO,EN,seval];have e:=VP ae _ o n h2;simp only[aI] at e;rw[e,tp h h2 h4,bQ (by simp)]
 ·have hi:=fun c0 c1=>p86 hle hn n c0 c1
  simp only[aI] at hi;simp only[acS,h1,hi,fy,eO,EN,seval];rw[x5 h h2,bQ (by simp; omega)]
def KT(ae:List Node)(next aj a b c:Int)(d:Bytes)(e:List fp)(u:Int)(h:mG ae)(h0:ae≠[])(hn:ae.length<=100000)(p:Nat)(M:aG)(hM:nth M p=some (bT [aY ae,aF next,aF aj])) :
  aU (ar bN) 197 [b9 p,.agg [aF a,aF b,aF c,cR d,ic e,aF u]] M=some (.tuple [],jj M p (bT [aY (eu ae ⟨a,b,c,d,e,u⟩),aF next,aF aj])) :=
 sI hM (apr ae next aj ⟨a,b,c,d,e,u⟩ h h0 hn) rfl rfl rfl rfl rfl rfl rfl rfl rfl rfl
def FZ:(∀M cs,ag.wx M (.agg cs) = .agg (cs.map (ag.ou M)))/\(∀M i o,ag.wx M (.ptr i o) = .ptr i o)/\(∀M k n,ag.wx M (.int k n) = .int k n)/\(∀M s,ag.wx M (.str s) = .str s) /\
  (∀M k n,ag.ou M (.int k n) = .int k n)/\(∀M s,ag.ou M (.str s) = .str s)/\(∀M tk xs,ag.ou M (.slice tk xs) = .slice tk xs)/\(∀M b,ag.ou M (.bool b) = .bool b) /\
  (∀M id ver sz lo hi,ag.ou M (.cS id ver sz lo hi)=match nth M id with
   |some (.arr _ v xs)=>if v=ver then hZ ((xs.take hi).drop lo) else .any
   |_ => .any)/\(∀i a b c d,ag.mM (.cS i a b c d)=[i]):=by
 refine⟨?_,?_,?_,?_,?_,?_,?_,?_,?_,?_⟩<;>intros<;>rfl
def Ap{ae:List Node}(h:mG ae){an:Int}{o:Node}(ho:ae[lj ae an]?=some o)(he:o.an=an):fG ae an=ae.take (lj ae an)++ae.drop (lj ae an+1):=by
 have hl:=uA h an;have cz:=(aq.1 ho).1
 have hd:∀m,m∈ae.drop (lj ae an+1)->an<m.an:=fun m hm=>by
  obtain⟨k,hk⟩:=bE hm;rw[cI] at hk;have hkl:=(aq.1 hk).1;have h3:=bS.1 h _ _ cz hkl (by omega)
  have h4:ae[lj ae an+1+k]=m:=by rw[ai hkl] at hk; injection hk
  have h5:ae[lj ae an]=o:=by rw[ai cz] at ho; injection ho
  rw[h4,h5] at h3;omega
 have hdr:ae.drop (lj ae an)=o::ae.drop (lj ae an+1):=by
  rw[di cz];rw[ai cz] at ho; injection ho with ho; rw[ho]
 unfold fG;rw[show ae.filter (fun n=>n.an != an)=(ae.take (lj ae an)++ae.drop (lj ae an)).filter (fun n=>n.an != an) by rw[cD]]
 rw[lY,hdr,eF];simp only[he,ak,af,aw];rw[fQ.2 fun m hm=>by have:=vB hl m hm; simp; omega,fQ.2 fun m hm=>by have:=hd m hm; simp; omega]
def yx{ae:List Node}{an:Int}(hf:find ae an=none):fG ae an=ae :=
 fQ.2 fun m hm=>by simpa using df.1 hf m hm
def asr{ae:List Node}{b:Nat}(hb:b<ae.length)(hn:ae.length<=100000)(c0:dy) :
  ar bN 294 [.cS 1 0 6 0 ae.length,aF b,aF ((b+1:Nat):Int)] [c0,.arr 6 0 (ae.map bG)]=some (.cS 1 1 6 0 (ae.length-1),[c0,.arr 6 1 ((ae.take b++ae.drop (b+1)).map bG)]):=by
 refine eY (g:=kK 6) rfl ?_;unfold kK;simp only[nth];rw[dV ⟨trivial,trivial,trivial,by simp,by omega,by simpa using hb,by omega,by simp; omega⟩]
 simp[jj]
def ap3(ae:List Node)(next aj an:Int)(h:mG ae)(hn:ae.length<=100000):ar bN 258 [b9 0,aF an] [bT [aY ae,aF next,aF aj]] =
  some (.tuple [],[bT [aY (fG ae an),aF next,aF aj]]):=by
 refine az ?_;have hk:=fun M=>aec ae next aj an h hn 0 (bT [aY ae,aF next,aF aj]::M) rfl
 simp only[Q6,acX,hk,EN,seval];rcases sH h an with ⟨h1,o,h2,h3,h4⟩|⟨h1,h2⟩
 ·have cz:=(aq.1 h2).1;have h0:ae≠[]:=by rintro rfl; simp at h2
  have hp:=fun M=>p85 h0 hn M
  have hd:=fun c0=>asr cz hn c0
  have hw:IntKind.i64.wrap ((lj ae an:Int)+1)=((lj ae an+1:Nat):Int):=by rw[gn (by omega) (by omega)]; rfl
  simp only[acX,h1,hp,hd,hw,fy,eO,EN,seval];rw[Ap h h2 h4,bQ (by simp; omega)]
 ·simp only[acX,h1,EN,seval];rw[yx h2]
def alw(ae:List Node)(next aj an:Int)(h:mG ae)(hn:ae.length<=100000)(p:Nat)(M:aG)(hM:nth M p=some (bT [aY ae,aF next,aF aj])) :
  aU (ar bN) 258 [b9 p,aF an] M=some (.tuple [],jj M p (bT [aY (fG ae an),aF next,aF aj])) :=
 sI hM (ap3 ae next aj an h hn) rfl rfl rfl rfl rfl rfl rfl rfl rfl rfl
def Lu{a b:Bytes}(h:strLt a b=true):strLt b a=false:=by
 cases hb:strLt b a with
 |false=>rfl
 |true=>have:=xt h hb; rw[nN] at this; cases this
def xn:∀(a b:Bytes),strLt a b=true\/a=b\/strLt b a=true
 | [],[] => .inr (.inl rfl)
 | [],_::_ => .inl rfl
 |_::_,[] => .inr (.inr rfl)
 |a::x,b::y=>by
  simp only[strLt,cN,bn,bg,eM,List.cons.injEq,km];rcases xn x y with h|h|h
  ·rcases gX a.toNat b.toNat with h1|h1|h1
   ·exact .inl (.inl h1)
   ·exact .inl (.inr ⟨kb.1 h1,h⟩)
   ·exact .inr (.inr (.inl h1))
  ·rcases gX a.toNat b.toNat with h1|h1|h1
   ·exact .inl (.inl h1)
   ·exact .inr (.inl ⟨kb.1 h1,h⟩)
   ·exact .inr (.inr (.inl h1))
  ·rcases gX a.toNat b.toNat with h1|h1|h1
   ·exact .inl (.inl h1)
   ·exact .inr (.inr (.inr ⟨(kb.1 h1).symm,h⟩))
   ·exact .inr (.inr (.inl h1))
def N7{a b:Bytes}(h:strLt a b=true):gtB a b=false:=by simp[gtB,h]
def N6{a b:Bytes}(h:strLt b a=true):gtB a b=true:=by
 have h1:=Lu h;have h2:¬a=b:=by rintro rfl; rw[nN] at h; cases h
 simp[gtB,h1,h2]
def Ih(e:fp)(rest:List fp):∀(pre out:List fp),(∀m,m∈pre->strLt m.name e.name=true)->vk e (pre++rest) out false=vk e rest (out++pre) false
 | [],out,_=>by simp
 |m::r,out,h=>by
  rw[aR,vk,N7 (h m (aV ..))];simp only[dG,eT,af,aw];rw[Ih e rest r _ fun x hx=>h x (aO _ hx)]
  simp
def Fg(e:fp):∀(rest out:List fp),vk e rest out true=(out++rest,true)
 | [],out=>by simp[vk]
 |m::r,out=>by
  rw[vk];simp only[c8,dw,dA,af,aw];rw[Fg e r];simp
def Bp{l:List fp}{s:Bytes}{b:Nat}(h:JY l s b):∀m,m∈l.take b->strLt m.name s=true:=fun m hm=>by
 obtain⟨k,hk⟩:=bE hm;rw[gI] at hk;split at hk
 ·rename_i cz; exact(h.lt k m hk).2 cz
 ·cases hk
def C4{l:List fp}{s:Bytes}{b:Nat}(h:JY l s b):∀m,m∈l.drop b->strLt m.name s=false:=fun m hm=>by
 obtain⟨k,hk⟩:=bE hm;rw[cI] at hk;have:=h.lt _ m hk;have hn:¬b+k<b:=by omega
 cases hc:strLt m.name s with
 |false=>rfl
 |true=>exact absurd (this.1 hc) hn
def vj{l:List fp}(h:ph l){e:fp}(hf:eG l e.name=none):wA l e=l.take (lA l e.name)++e::l.drop (lA l e.name):=by
 have hl:=rE h e.name
 have hd:∀m,m∈l.drop (lA l e.name)->strLt e.name m.name=true:=fun m hm=>by
  have h1:=C4 hl m hm;have h2:=df.1 hf m (dr hm);have h3:¬m.name=e.name:=by simpa using h2
  rcases xn m.name e.name with h4|h4|h4
  ·rw[h1] at h4; cases h4
  ·exact absurd h4 h3
  ·exact h4
 unfold wA;rw[show vk e l [] false=vk e (l.take (lA l e.name)++l.drop (lA l e.name)) [] false by rw[cD]]
 rw[Ih e _ _ _ (Bp hl)];generalize l.drop (lA l e.name)=rest at hd;cases rest with
 |nil=>simp[vk]
 |cons m r =>
  rw[vk,N6 (hd m (aV ..))];simp only[fg,gq,dS,aE];rw[Fg];simp
def EI{l:List fp}(h:ph l){s:Bytes}{o:fp}(ho:l[lA l s]?=some o)(he:o.name=s):ga l s=l.take (lA l s)++l.drop (lA l s+1):=by
 have hl:=rE h s;have cz:=(aq.1 ho).1
 have hdr:l.drop (lA l s)=o::l.drop (lA l s+1):=by
  rw[di cz];rw[ai cz] at ho; injection ho with ho; rw[ho]
 have hd:∀m,m∈l.drop (lA l s+1)->strLt s m.name=true:=fun m hm=>by
  obtain⟨k,hk⟩:=bE hm;rw[cI] at hk;have hkl:=(aq.1 hk).1;have h3:=bS.1 h _ _ cz hkl (by omega)
  have h4:l[lA l s+1+k]=m:=by rw[ai hkl] at hk; injection hk
  have h5:l[lA l s]=o:=by rw[ai cz] at ho; injection ho
  rw[h4,h5,he] at h3;exact h3
 have ne:∀ {a b:Bytes},strLt a b=true->¬a=b:=fun {a b} h=>by rintro rfl; rw[nN] at h; cases h
 unfold ga;rw[show l.filter (fun n=>n.name != s)=(l.take (lA l s)++l.drop (lA l s)).filter (fun n=>n.name != s) by rw[cD]]
 rw[lY,hdr,eF];simp only[he,ak,af,aw];rw[fQ.2 fun m hm=>by simpa using ne (Bp hl m hm),fQ.2 fun m hm=>by simpa using fun hc=>ne (hd m hm) hc.symm]
def C5{l:List fp}{s:Bytes}(hf:eG l s=none):ga l s=l :=
 fQ.2 fun m hm=>by simpa using df.1 hf m hm
def p58{l:List fp}(h0:l≠[])(hn:l.length<=100000)(M:aG):ar bN 214 [ic l] M=some (.cS M.length 0 3 0 l.length,M++[.arr 3 0 (l.map fW)]):=by
 refine eY (g:=lV 3 32) rfl ?_;obtain⟨a,r,rfl⟩:=ec h0;have hw:wid ((a::r).map fW) 3:=by have:=JI (a::r); simpa using this
 have hr:cu ((a::r).map fW).length 32:=by have:=qS (a:=(a::r).length) (b:=32) (by omega) (by omega); simpa using this
 unfold lV;simp only[aP] at hw hr ⊢;rw[dV ⟨hw,hr⟩];simp
def ams(M:aG):ar bN 214 [hZ []] M=some (.slice .c0 [],M):=eY (g:=lV 3 32) rfl rfl
def p87{l:List fp}{b:Nat}(hb:b<=l.length)(hn:l.length<=100000)(e:fp)(c0 c1:dy) :
  ar bN 257 [.cS 2 0 3 0 l.length,aF b,hZ [.agg (fm e)]] [c0,c1,.arr 3 0 (l.map fW)]=some (.cS 2 1 3 0 (l.length+1),[c0,c1,.arr 3 1 ((l.take b++e::l.drop b).map fW)]):=by
 refine eY (g:=ku 3 32) rfl ?_;have hr:cu ((l.map fW).length+1) 32:=by have:=qS (a:=l.length+1) (b:=32) (by omega) (by omega); simpa using this
 unfold ku;simp only[nth];rw[dV ⟨trivial,trivial,trivial,by simp,by omega,by simpa using hb,rfl,hr⟩]
 simp[jj,fW]
def ast(e:fp)(M:aG):ar bN 257 [.slice .c0 [],aF 0,hZ [.agg (fm e)]] M=some (.cS M.length 0 3 0 1,M++[.arr 3 0 [.agg (fm e)]]):=by
 refine eY (g:=ku 3 32) rfl ?_
 show cA ((0:Int)=0/\(ag.agg (fm e)).cells.length=3) _=_
 exact dV ⟨rfl,rfl⟩
def p84{l:List fp}{b:Nat}(hb:b<l.length)(hn:l.length<=100000)(c0 c1:dy) :
  ar bN 260 [.cS 2 0 3 0 l.length,aF b,aF ((b+1:Nat):Int)] [c0,c1,.arr 3 0 (l.map fW)]=some (.cS 2 1 3 0 (l.length-1),[c0,c1,.arr 3 1 ((l.take b++l.drop (b+1)).map fW)]):=by
 refine eY (g:=kK 3) rfl ?_;unfold kK;simp only[nth];rw[dV ⟨trivial,trivial,trivial,by simp,by omega,by simpa using hb,by omega,by simp; omega⟩]
 simp[jj]
def Ly{ae:List Node}(h:mG ae){n:Node}(hf:find ae n.an=some n):eu ae n=ae:=by
 rcases sH h n.an with ⟨_,o,h2,h3,h4⟩|⟨_,h2⟩
 ·rw[hf] at h3; cases h3;rw[tp h h2 rfl];apply dM;intro i
  by_cases e:lj ae n.an=i
  ·subst e; rw[gm (aq.1 h2).1,h2]
  ·rw[gQ e]
 ·rw[hf] at h2; cases h2
def c198(ae:List Node)(next aj dir:Int)(s:Bytes)(an:Int)(h:mG ae)(hn:ae.length<=100000){n:Node}(hf:find ae dir=some n)(hE:ph n.aM)(hl:n.aM.length<=99999)(hs:eG n.aM s=none) :
  ar bN 198 [b9 0,aF dir,.str s,aF an] [bT [aY ae,aF next,aF aj]]=some (.tuple [],[bT (aJ (gG ⟨ae,next,aj⟩ dir s an))]):=by
 refine az ?_;have h0:ae≠[]:=by rintro rfl; simp[find] at hf
 have hnn:aX ae dir=n:=by simp[aX,hf]
 have hk:=fun M=>En ae next aj dir h hn 0 (bT [aY ae,aF next,aF aj]::M) rfl
 have hk2:=fun a b c d u M=>Rv a b c d n.aM u s _ (rE hE s) (by omega) M
 have hle:=(rE hE s).le
 have hres:gG ⟨ae,next,aj⟩ dir s an=⟨eu ae { n with aM:=n.aM.take (lA n.aM s)++⟨s,an,aj⟩::n.aM.drop (lA n.aM s) },next,kR (aj+1)⟩:=by
  have:=vj hE (e:=⟨s,an,aj⟩) hs;simp only[gG,hf,bh,this]
 rw[hres,aJ];have hp:=fun a b c d e u M=>KT ae next (kR (aj+1)) a b c d e u h h0 hn 0 (bT [aY ae,aF next,aF (kR (aj+1))]::M) rfl
 simp only[Q0,PL,hk,hnn,bG,aI,hk2,EN,seval]
 by_cases hne:n.aM=[]
 ·have hlow:lA n.aM s=0:=by rw[hne]; rfl
  have hi:=fun M=>ast ⟨s,an,aj⟩ M
  simp only[fm] at hi;have hlow0:lA [] s=0:=rfl;have hc0:((0:Nat):Int)=0:=rfl;simp only[PL,hne,hlow0,hc0,ic,ams,hi,FZ,sO,EN,seval];rw[show hZ [ag.agg [.str s,aF an,aF aj]]=ic [⟨s,an,aj⟩] from rfl]
  simp only[PL,hp,EN,seval]
 ·have hc:=fun M=>p58 hne (show n.aM.length<=100000 by omega) M
  have hi:=fun c0 c1=>p87 hle (show n.aM.length<=100000 by omega) ⟨s,an,aj⟩ c0 c1
  simp only[fm] at hi;simp only[PL,hc,hi,FZ,sO,EN,seval];have ht:List.take (n.aM.length+1) (List.map fW (List.take (lA n.aM s) n.aM++⟨s,an,aj⟩::List.drop (lA n.aM s) n.aM))=List.map fW (List.take (lA n.aM s) n.aM++⟨s,an,aj⟩::List.drop (lA n.aM s) n.aM):=bQ (by simp; omega)
  rw[ht];simp only[PL,hp,EN,seval]
def XG(ae:List Node)(next aj dir:Int)(s:Bytes)(an:Int)(h:mG ae)(hn:ae.length<=100000){n:Node}(hf:find ae dir=some n)(hE:ph n.aM)(hl:n.aM.length<=99999)(hs:eG n.aM s=none)(p:Nat)(M:aG)(hM:nth M p=some (bT [aY ae,aF next,aF aj])) :
  aU (ar bN) 198 [b9 p,aF dir,.str s,aF an] M=some (.tuple [],jj M p (bT (aJ (gG ⟨ae,next,aj⟩ dir s an)))) :=
 sI hM (c198 ae next aj dir s an h hn hf hE hl hs) rfl rfl rfl rfl rfl rfl rfl rfl rfl rfl
def apw(ae:List Node)(next aj dir:Int)(s:Bytes)(h:mG ae)(hn:ae.length<=100000){n:Node}(hf:find ae dir=some n)(hE:ph n.aM)(hl:n.aM.length<=99999) :
  ar bN 204 [b9 0,aF dir,.str s] [bT [aY ae,aF next,aF aj]]=some (.tuple [],[bT [aY (cK ae dir s),aF next,aF aj]]):=by
 refine az ?_;have h0:ae≠[]:=by rintro rfl; simp[find] at hf
 have hnn:aX ae dir=n:=by simp[aX,hf]
 have hino:n.an=dir:=(bP hf).2;have hk:=fun M=>En ae next aj dir h hn 0 (bT [aY ae,aF next,aF aj]::M) rfl
 have hk2:=fun a b c d u M=>Rv a b c d n.aM u s _ (rE hE s) (by omega) M
 have hp:=fun a b c d e u M=>KT ae next aj a b c d e u h h0 hn 0 (bT [aY ae,aF next,aF aj]::M) rfl
 have hres:cK ae dir s=eu ae { n with aM:=ga n.aM s }:=by simp only[cK,hf,bh]
 rw[hres];simp only[Q1,Wu,hk,hnn,bG,aI,hk2,EN,seval];rcases wO hE s with ⟨h1,o,h2,h3,h4⟩|⟨h1,h2⟩
 ·have cz:=(aq.1 h2).1;have hne:n.aM≠[]:=by intro hc; rw[hc] at h2; simp at h2
  have hc:=fun M=>p58 hne (show n.aM.length<=100000 by omega) M
  have hd:=fun c0 c1=>p84 cz (show n.aM.length<=100000 by omega) c0 c1
  have hw:IntKind.i64.wrap ((lA n.aM s:Int)+1)=((lA n.aM s+1:Nat):Int):=by rw[gn (by omega) (by omega)]; rfl
  simp only[Wu,h1,hc,hd,hw,FZ,sO,EN,seval];have ht:List.take (n.aM.length-1) (List.map fW (List.take (lA n.aM s) n.aM++List.drop (lA n.aM s+1) n.aM))=List.map fW (List.take (lA n.aM s) n.aM++List.drop (lA n.aM s+1) n.aM):=bQ (by simp; omega)
  rw[ht];simp only[Wu,hp,EN,seval];rw[EI hE h2 h4]
 ·simp only[Wu,h1,EN,seval];rw[C5 h2];have:eu ae n=ae:=Ly h (by rw[hino]; exact hf)
  rw[show({ n with aM:=n.aM }:Node)=n from rfl,this]
def ad9(ae:List Node)(next aj dir:Int)(s:Bytes)(h:mG ae)(hn:ae.length<=100000){n:Node}(hf:find ae dir=some n)(hE:ph n.aM)(hl:n.aM.length<=99999)(p:Nat)(M:aG)(hM:nth M p=some (bT [aY ae,aF next,aF aj])) :
  aU (ar bN) 204 [b9 p,aF dir,.str s] M=some (.tuple [],jj M p (bT [aY (cK ae dir s),aF next,aF aj])) :=
 sI hM (apw ae next aj dir s h hn hf hE hl) rfl rfl rfl rfl rfl rfl rfl rfl rfl rfl
def j7(ae:List Node)(n:Node):List Node:=if n.kind==2 then fG ae n.an else eu ae { n with cL:=kR (n.cL-1) }
def apx(ae:List Node)(next aj:Int)(n:Node)(h:mG ae)(h0:ae≠[])(hn:ae.length<=100000) :
  ar bN 205 [b9 0,bG n] [bT [aY ae,aF next,aF aj]]=some (.tuple [],[bT [aY (j7 ae n),aF next,aF aj]]):=by
 refine az ?_;have hp:=fun a b c d e u M=>KT ae next aj a b c d e u h h0 hn 0 (bT [aY ae,aF next,aF aj]::M) rfl
 have hd:=fun M=>alw ae next aj n.an h hn 0 (bT [aY ae,aF next,aF aj]::M) rfl
 simp only[abx,acT,bG,aI,EN,seval];unfold j7;refine bp (fun hb=>?_) (fun hb=>?_)
 ·simp only[acT,hb,hd,EN,seval]
 ·simp only[acT,hb,hp,af,EN,seval]
def alk(ae:List Node)(next aj a b c:Int)(d:Bytes)(e:List fp)(u:Int)(h:mG ae)(h0:ae≠[])(hn:ae.length<=100000)(p:Nat)(M:aG)(hM:nth M p=some (bT [aY ae,aF next,aF aj])) :
  aU (ar bN) 205 [b9 p,.agg [aF a,aF b,aF c,cR d,ic e,aF u]] M=some (.tuple [],jj M p (bT [aY (j7 ae ⟨a,b,c,d,e,u⟩),aF next,aF aj])) :=
 sI hM (apx ae next aj ⟨a,b,c,d,e,u⟩ h h0 hn) rfl rfl rfl rfl rfl rfl rfl rfl rfl rfl
def rJ(ae:List Node)(an:Int):Nat:=(uj ae an).length-1
def oh(t:Tree)(dir:Int)(s:Bytes):Int :=
 if (gr t.ae dir).2 != 0 then (gr t.ae dir).2 else if !eh s then 60 else if (eG (gr t.ae dir).1.aM s).isSome=true then 71 else
 if decide ((64:Int)<=(gr t.ae dir).1.aM.length)||(decide ((12:Int)<=rJ t.ae dir)||decide ((1099511627776:Int)<=t.aj)) then 76 else 0
def c196(ae:List Node)(next aj dir:Int)(s:Bytes)(ht:Small ⟨ae,next,aj⟩)(hr:rh ⟨ae,next,aj⟩)(hs:s.length<=100000)(ha:om s) :
  ar bN 196 [b9 0,aF dir,.str s] [bT [aY ae,aF next,aF aj]]=some (aF (oh ⟨ae,next,aj⟩ dir s),[bT [aY ae,aF next,aF aj]]):=by
 have hn:ae.length<=100000:=ht.ae;have hd:(gr ae dir).1.aM.length<=100000:=tg ht dir;have hE:ph (gr ae dir).1.aM:=hr.dir dir;have hk:=fun M=>XH ae next aj dir hr.jv hn 0 (bT [aY ae,aF next,aF aj]::M) rfl
 have hk2:=fun a b c d u M=>Rv a b c d (gr ae dir).1.aM u s _ (rE hE s) hd M
 have hk3:∀M,aU (ar bN) 254 [b9 0,aF dir] (bT [aY ae,aF next,aF aj]::M)=some (aF (rJ ae dir),bT [aY ae,aF next,aF aj]::M):=fun M=>alv ae next aj dir hr.jv hn 0 (bT [aY ae,aF next,aF aj]::M) rfl
 refine az ?_;simp only[abt,He,hk,bG,aI,EN,seval];refine bp (fun hb=>?_) (fun hb=>?_)
 ·simp only[He,hb,EN,seval];clear hk hk2 hk3;simp_all only[oh,pE,↓reduceIte,reduceCtorEq,ak]
 simp only[He,hb,aea,hs,ha,EN,seval];refine bp (fun hb1=>?_) (fun hb1=>?_)
 ·simp only[He,hb1,EN,seval];clear hk hk2 hk3;simp_all only[oh,pE,↓reduceIte,reduceCtorEq,ak]
 simp only[He,hb1,hk2,EN,seval];rcases wO hE s with ⟨h1,o,h2,h3,h4⟩|⟨h1,h2⟩
 ·simp only[He,h1,EN,seval];clear hk hk2 hk3;simp_all only[oh,bZ,pE,↓reduceIte,reduceCtorEq,ak]
 ·simp only[He,h1,EN,seval]
  repeat' ((first|apply bp|apply bR|apply dE)<;>intro hb<;>simp only[hb,EN,He,hk3,seval])
  all_goals (clear hk hk2 hk3; simp_all only[oh,eJ,pE,↓reduceIte,reduceCtorEq,ak]; done)
def alg ae next aj dir s ht hr hs ha p M hM:=cM (p:=p) (M:=M) hM (c196 ae next aj dir s ht hr hs ha)
def zZ(x y:Node):Int:=if x.kind==2&&y.kind != 2 then 73 else if x.kind != 2&&y.kind==2 then 72 else if decide ((0:Int)<y.aM.length) then 74 else 0
def apD(x y:Node):ar bN 211 [bG x,bG y] []=some (aF (zZ x y),[]):=by
 refine az ?_;simp only[abB,ahq,bG,aI,EN,seval]
 repeat' ((first|apply bp|apply bR|apply dE)<;>intro hb<;>simp only[hb,EN,ahq,seval])
 all_goals (simp_all only[zZ,pE,↓reduceIte,reduceCtorEq,ak]; done)
def apt(t:Tree)(an:Int)(ht:Small t)(hr:rh t):ar bN 200 [bq t,aF an] []=some (.tuple [bq (jO t an).1,aF (jO t an).2],[]):=by
 obtain⟨ae,next,aj⟩:=t
 have hn:ae.length<=100000:=ht.ae;refine az ?_;have hk:=fun b c M=>En ae next aj an hr.jv hn 2 (b::c :: bT [aY ae,aF next,aF aj]::M) rfl
 have hd:=fun b c M=>alw ae next aj an hr.jv hn 2 (b::c :: bT [aY ae,aF next,aF aj]::M) rfl
 simp only[abv,ahp,bq,aJ,hk,bG,aI,EN,seval]
 repeat' ((first|apply bp|apply bR|apply dE)<;>intro hb<;>simp only[hb,EN,ahp,hd,seval])
 all_goals (clear hk hd; simp_all only[jO,bq,aJ,pE,↓reduceIte,reduceCtorEq,ak]; done)
def aq3(data:Bytes)(hd:data.length<=100000)(M:aG):aU (ar bN) 139 [cR data] M=some (cR data,M):=by
 refine cO (eY (g:=pCC 1 1) rfl ?_) M;have hw:wid (data.map pU) 1:=by have:=rC data; simpa using this
 have hr:cu (data.map pU).length 1:=by have:=qS (a:=data.length) (b:=1) (by omega) (by omega); simpa using this
 exact dV ⟨hw,hr⟩
def apK(t:Tree)(an:Int)(data:Bytes)(ht:Small t)(hr:rh t)(hd:data.length<=100000):ar bN 227 [bq t,aF an,cR data] []=some (.tuple [bq (rf t an data).1,aF (rf t an data).2],[]):=by
 obtain⟨ae,next,aj⟩:=t
 have hn:ae.length<=100000:=ht.ae;refine az ?_;have hk:=fun b c M=>En ae next aj an hr.jv hn 2 (b::c :: bT [aY ae,aF next,aF aj]::M) rfl
 simp only[abI,Ww,bq,aJ,hk,bG,aI,EN,seval];cases hf:find ae an with
 |none =>
  simp only[Ww,eJ,EN,seval];clear hk;simp_all only[rf,bq,aJ,eJ,pE,↓reduceIte,reduceCtorEq,ak]
 |some n =>
  have h0:ae≠[]:=by rintro rfl; simp[find] at hf
  have hp:=fun x y a b c d e u M=>KT ae next aj a b c d e u hr.jv h0 hn 2 (x::y :: bT [aY ae,aF next,aF aj]::M) rfl
  have hc:=fun M=>aq3 data hd M
  simp only[Ww,bZ,EN,seval]
  repeat' ((first|apply bp|apply bR|apply dE)<;>intro hb<;>simp only[hb,EN,Ww,hp,hc,seval])
  all_goals (clear hk hp hc; simp_all only[rf,bq,aJ,bZ,pE,↓reduceIte,reduceCtorEq,ak]; done)
end
def J5{ae:List Node}(h:mG ae){a b:Node}(ha:a∈ae)(hb:b∈ae)(he:a.an=b.an):a=b:=by
 obtain⟨i,hi⟩:=bE ha;obtain⟨k,hk⟩:=bE hb;have hil:=(aq.1 hi).1;have hkl:=(aq.1 hk).1;have e1:ae[i]=a:=by rw[ai hil] at hi; injection hi
 have e2:ae[k]=b:=by rw[ai hkl] at hk; injection hk
 rcases gX i k with cz|heq|hgt
 ·have:=bS.1 h _ _ hil hkl cz;rw[e1,e2] at this; omega
 ·subst heq; rw[<-e1,<-e2]
 ·have:=bS.1 h _ _ hkl hil hgt;rw[e1,e2] at this; omega
def fC{ae:List Node}(h:mG ae){i:Int}{m:Node}:find ae i=some m↔m∈ae/\m.an=i:=by
 refine⟨bP,fun⟨h1,h2⟩=>?_⟩
 cases hf:find ae i with
 |none =>
  have:=df.1 hf m h1;simp[h2] at this
 |some k =>
  obtain⟨k1,k2⟩:=bP hf;rw[J5 h h1 k1 (by omega)]
def pI{ae:List Node}{i:Int}:find ae i=none↔∀m,m∈ae->m.an≠i:=by
 unfold find;rw[df];simp
def xW{ae:List Node}{b:Nat}{o n:Node}(ho:ae[b]?=some o):ae=ae.take b++o::ae.drop (b+1)/\ae.set b n=ae.take b++n::ae.drop (b+1):=by
 have cz:=(aq.1 ho).1;constructor
 ·rw[ai cz] at ho; injection ho with ho
  conv=>lhs; rw[<-cD b ae]
  rw[di cz,ho]
 ·rw[List.set_eq_take_append_cons_drop,bc cz]
def vn{ae:List Node}(h:mG ae){n m:Node}:m∈eu ae n↔m=n\/(m∈ae/\m.an≠n.an):=by
 rcases sH h n.an with ⟨_,o,h2,h3,h4⟩|⟨_,h2⟩
 ·rw[tp h h2 h4];obtain⟨s1,s2⟩:=xW (n:=n) h2;have hon:o∈ae:=(bP h3).1;constructor
  ·intro hm;rw[s2] at hm;rcases bm.1 hm with hm|hm
   ·have hmn:=dI hm;have:=vB (uA h n.an) m hm;exact .inr ⟨hmn,by omega⟩
   ·rcases bC.1 hm with rfl|hm
    ·exact .inl rfl
    ·refine .inr ⟨dr hm,fun he=>?_⟩
     have hp:=h;unfold mG at hp;rw[s1,dJ] at hp;have:=(cv.1 hp.2.1).1 m hm;omega
  ·rintro(rfl|⟨hm,hne⟩)
   ·rw[s2]; simp
   ·rw[s1] at hm;rw[s2];rcases bm.1 hm with hm|hm
    ·exact dq _ hm
    ·rcases bC.1 hm with rfl|hm
     ·exact absurd h4 hne
     ·exact eL _ (aO _ hm)
 ·rw[x5 h h2];rw[pI] at h2;constructor
  ·intro hm;rcases bm.1 hm with hm|hm
   ·have:=dI hm;exact .inr ⟨this,h2 m this⟩
   ·rcases bC.1 hm with rfl|hm
    ·exact .inl rfl
    ·have:=dr hm;exact .inr ⟨this,h2 m this⟩
  ·rintro(rfl|⟨hm,_⟩)
   ·simp
   ·rw[<-cD (lj ae n.an) ae] at hm;rcases bm.1 hm with hm|hm
    ·exact dq _ hm
    ·exact eL _ (aO _ hm)
def kf{ae:List Node}(h:mG ae)(n:Node):mG (eu ae n):=by
 have hl:=uA h n.an;rcases sH h n.an with ⟨_,o,h2,h3,h4⟩|⟨_,h2⟩
 ·rw[tp h h2 h4];obtain⟨s1,s2⟩:=xW (n:=n) h2;have hp:=h;unfold mG at hp ⊢;rw[s1,dJ] at hp;obtain⟨p1,p2,p3⟩:=hp;obtain⟨p4,p5⟩:=cv.1 p2;rw[s2,dJ];refine⟨p1,cv.2 ⟨fun m hm=>by have:=p4 m hm; omega,p5⟩,fun a ha c hc=>?_⟩
  rcases bC.1 hc with rfl|hc
  ·exact vB hl a ha
  ·exact p3 a ha c (aO _ hc)
 ·rw[x5 h h2];have hp:=h;unfold mG at hp ⊢;rw[<-cD (lj ae n.an) ae,dJ] at hp;obtain⟨p1,p2,p3⟩:=hp;rw[pI] at h2;rw[dJ];refine⟨p1,cv.2 ⟨fun m hm=>?_,p2⟩,fun a ha c hc=>?_⟩
  ·have k1:=EJ hl m hm;have k2:=h2 m (dr hm);omega
  ·rcases bC.1 hc with rfl|hc
   ·exact vB hl a ha
   ·exact p3 a ha c hc
def fJ{ae:List Node}(h:mG ae)(n:Node)(i:Int):find (eu ae n) i=if i=n.an then some n else find ae i:=by
 split
 ·rename_i he;exact(fC (kf h n)).2 ⟨(vn h).2 (.inl rfl),he.symm⟩
 ·rename_i hne;cases hf:find ae i with
  |none =>
   rw[pI] at hf ⊢;intro m hm;rcases(vn h).1 hm with rfl|⟨hm,_⟩
   ·exact fun he=>hne he.symm
   ·exact hf m hm
  |some m =>
   obtain⟨h1,h2⟩:=bP hf;exact(fC (kf h n)).2 ⟨(vn h).2 (.inr ⟨h1,by omega⟩),h2⟩
def qX{ae:List Node}(h:mG ae)(i:Int):mG (fG ae i):=jt _ h
def ll{ae:List Node}(h:mG ae)(k i:Int):find (fG ae k) i=if i=k then none else find ae i:=by
 split
 ·rename_i he;rw[pI];intro m hm;have:=(cm.1 hm).2;simp at this;omega
 ·rename_i hne;cases hf:find ae i with
  |none =>
   rw[pI] at hf ⊢;exact fun m hm=>hf m (cm.1 hm).1
  |some m =>
   obtain⟨h1,h2⟩:=bP hf;exact(fC (qX h k)).2 ⟨cm.2 ⟨h1,by simp; omega⟩,h2⟩
def Ic{l:List fp}(h:ph l){e:fp}(hf:eG l e.name=none):ph (wA l e):=by
 rw[vj h hf];have hl:=rE h e.name;have hp:=h;unfold ph at hp ⊢;rw[<-cD (lA l e.name) l,dJ] at hp;obtain⟨p1,p2,p3⟩:=hp;rw[dJ];refine⟨p1,cv.2 ⟨fun m hm=>?_,p2⟩,fun a ha c hc=>?_⟩
 ·have k1:=C4 hl m hm;have k2:¬m.name=e.name:=by simpa using df.1 hf m (dr hm)
  rcases xn m.name e.name with h4|h4|h4
  ·rw[k1] at h4; cases h4
  ·exact absurd h4 k2
  ·exact h4
 ·rcases bC.1 hc with rfl|hc
  ·exact Bp hl a ha
  ·exact p3 a ha c hc
def va{l:List fp}(h:ph l)(s:Bytes):ph (ga l s):=jt _ h
def rh.with{t:Tree}(h:rh t){n:Node}(hn:ph n.aM)(next aj:Int):rh ⟨eu t.ae n,next,aj⟩ :=
 ⟨kf h.jv n,fun m hm=>by
  rcases(vn h.jv).1 hm with rfl|⟨hm,_⟩
  ·exact hn
  ·exact h.aM m hm⟩
def rh.uG{t:Tree}(h:rh t)(i next aj:Int):rh ⟨fG t.ae i,next,aj⟩ :=
 ⟨qX h.jv i,fun m hm=>h.aM m (cm.1 hm).1⟩
def rh.node{t:Tree}(h:rh t)(i:Int):ph (aX t.ae i).aM:=by
 cases hf:find t.ae i with
 |none=>simp[aX,hf,Node.zero]; exact List.Pairwise.nil
 |some n=>simp[aX,hf]; exact h.aM n (bP hf).1
def rh.left{t:Tree}(h:rh t)(i:Int)(s:Bytes)(next aj:Int):rh ⟨cK t.ae i s,next,aj⟩ :=
 h.with (n:={ aX t.ae i with aM:=ga (aX t.ae i).aM s }) (va (h.node i) s) next aj
def rh.mR{t:Tree}(h:rh t)(i:Int)(s:Bytes)(of:Int)(hf:eG (aX t.ae i).aM s=none):rh (gG t i s of) :=
 h.with (n:={ aX t.ae i with aM:=wA (aX t.ae i).aM ⟨s,of,t.aj⟩ }) (Ic (h.node i) hf) t.next (kR (t.aj+1))
section
attribute [local irreducible] eV fZ je gK eo kr ar aU cA bH
def yH{ae:List Node}{dir:Int}(h:(gr ae dir).2=0):∃d,find ae dir=some d/\d.kind=2/\gr ae dir=(d,0):=by
 unfold gr at h ⊢;split at h
 ·cases h
 ·rename_i d hd;split at h
  ·rename_i hk; exact⟨d,hd,hk,by simp[hd,hk]⟩
  ·cases h
def UK{t:Tree}{dir:Int}{s:Bytes}(h:(oh t dir s != 0)=false):∃d,find t.ae dir=some d/\d.kind=2/\eh s=true/\eG d.aM s=none/\d.aM.length<64/\rJ t.ae dir<12/\t.aj<1099511627776:=by
 have h:oh t dir s=0:=by simpa using h
 unfold oh at h;split at h
 ·rename_i hc;rw[h] at hc; cases hc
 ·rename_i hc;obtain⟨d,h1,h2,h3⟩:=yH (by simpa using hc)
  rw[h3] at h;split at h
  ·cases h
  ·rename_i hk;split at h
   ·cases h
   ·rename_i hf;split at h
    ·cases h
    ·rename_i hm;simp at hk hf hm;exact⟨d,h1,h2,hk,hf,by omega,by omega,by omega⟩
def J3(t:Tree)(an:Int)(s:Bytes)(kind:Int):Tree×Int×Int :=
 if kind != 1&&kind != 2 then (t,0,1) else if oh t an s != 0 then (t,0,oh t an s) else
 if decide ((200:Int)<=t.ae.length)||decide ((1099511627776:Int)<=t.next) then (t,0,76) else
 (gG ⟨eu t.ae ⟨t.next,kind,1,[],[],if kind==2 then an else 0⟩,kR (t.next+1),t.aj⟩ an s t.next,t.next,0)
def aot(t:Tree)(dir:Int)(s:Bytes)(kind:Int)(hz:Sz 1000 t)(hr:rh t)(hs:s.length<=100000)(ha:om s)(jf:∀m,m∈t.ae->m.an<t.next) :
  ar bN 126 [bq t,aF dir,.str s,aF kind] []=some (.tuple [bq (J3 t dir s kind).1,aF (J3 t dir s kind).2.1,aF (J3 t dir s kind).2.2],[]):=by
 obtain⟨ae,next,aj⟩:=t
 have ht:Small ⟨ae,next,aj⟩:=hz.small (by omega)
 have hn:ae.length<=100000:=ht.ae;have hk:=fun b c M=>alg ae next aj dir s ht hr hs ha 2 (b::c :: bT [aY ae,aF next,aF aj]::M) rfl
 have last:(oh ⟨ae,next,aj⟩ dir s != 0)=false->∀u,ae≠[]/\∀b c M,aU (ar bN) 198 [b9 2,aF dir,.str s,aF next] (b::c :: bT [aY (eu ae ⟨next,kind,1,[],[],u⟩),aF (kR (next+1)),aF aj]::M) =
   some (.tuple [],b::c :: bT (aJ (gG ⟨eu ae ⟨next,kind,1,[],[],u⟩,kR (next+1),aj⟩ dir s next))::M):=fun hm u=>by
  obtain⟨d,d1,d2,d3,d4,d5,d6,d7⟩:=UK hm;have dm:=bP d1;have cz:=jf d dm.1;simp only at cz;refine⟨by rintro rfl; simp[find] at d1,fun b c M=>?_⟩
  have hz1:Sz 1001 ⟨eu ae ⟨next,kind,1,[],[],u⟩,kR (next+1),aj⟩:=hz.with (n:=⟨next,kind,1,[],[],u⟩) (by simp) (by simp) (kR (next+1)) aj
  have hf:find (eu ae ⟨next,kind,1,[],[],u⟩) dir=some d:=by rw[fJ hr.jv,aH (by simp; omega)]; exact d1
  exact XG (eu ae ⟨next,kind,1,[],[],u⟩) (kR (next+1)) aj dir s next (kf hr.jv _) (hz1.small (by omega)).ae hf (hr.aM d dm.1) (by omega) d4 2 (b::c :: bT [aY (eu ae ⟨next,kind,1,[],[],u⟩),aF (kR (next+1)),aF aj]::M) rfl
 refine az ?_;simp only[aaT,acH,bq,aJ,hk,EN,seval]
 repeat' ((first|apply bp|apply bR|apply dE)<;>intro hb<;>simp only[hb,EN,acH,hk,seval])
 all_goals try (clear hk last; simp_all only[J3,bq,aJ,pE,↓reduceIte,reduceCtorEq,ak]; done)
 all_goals
  have hm:(oh ⟨ae,next,aj⟩ dir s != 0)=false:=by assumption
  have h0:=(last hm 0).1
  have hp:∀u b c M,aU (ar bN) 197 [b9 2,.agg [aF next,aF kind,aF 1,hZ [],hZ [],aF u]] (b::c :: bT [aY ae,aF (kR (next+1)),aF aj]::M) =
    some (.tuple [],b::c :: bT [aY (eu ae ⟨next,kind,1,[],[],u⟩),aF (kR (next+1)),aF aj]::M):=fun u b c M=>KT ae (kR (next+1)) aj next kind 1 [] [] u hr.jv h0 hn 2 (b::c :: bT [aY ae,aF (kR (next+1)),aF aj]::M) rfl
  have hl:=fun u=>(last hm u).2
  simp only[acH,hp,hl,aJ,EN,seval];clear hk last hp hl;simp_all only[J3,bq,aJ,pE,↓reduceIte,reduceCtorEq,ak]
def lnW(t:Tree)(an to:Int)(s:Bytes):Tree×Int :=
 if !(find t.ae an).isSome||((aX t.ae an).kind==1&&(aX t.ae an).cL==0) then (t,70) else if (aX t.ae an).kind==2 then (t,72) else
 if oh t to s != 0 then (t,oh t to s) else
 (gG ⟨eu t.ae { aX t.ae an with cL:=kR ((aX t.ae an).cL+1) },t.next,t.aj⟩ to s an,0)
def aov(t:Tree)(an dir:Int)(s:Bytes)(hz:Sz 1000 t)(hr:rh t)(hs:s.length<=100000)(ha:om s) :
  ar bN 128 [bq t,aF an,aF dir,.str s] []=some (.tuple [bq (lnW t an dir s).1,aF (lnW t an dir s).2],[]):=by
 obtain⟨ae,next,aj⟩:=t
 have ht:Small ⟨ae,next,aj⟩:=hz.small (by omega)
 have hn:ae.length<=100000:=ht.ae;have hg:=fun b c M=>En ae next aj an hr.jv hn 2 (b::c :: bT [aY ae,aF next,aF aj]::M) rfl
 have hk:=fun b c M=>alg ae next aj dir s ht hr hs ha 2 (b::c :: bT [aY ae,aF next,aF aj]::M) rfl
 have last:(oh ⟨ae,next,aj⟩ dir s != 0)=false->(find ae an).isSome=true->((aX ae an).kind==2)=false->∀l,ae≠[]/\∀b c M,aU (ar bN) 198 [b9 2,aF dir,.str s,aF an] (b::c :: bT [aY (eu ae { aX ae an with cL:=l }),aF next,aF aj]::M) =
   some (.tuple [],b::c :: bT (aJ (gG ⟨eu ae { aX ae an with cL:=l },next,aj⟩ dir s an))::M):=fun hm hi hkd l=>by
  obtain⟨d,d1,d2,d3,d4,d5,d6,d7⟩:=UK hm;have dm:=bP d1;refine⟨by rintro rfl; simp[find] at d1,fun b c M=>?_⟩
  have hfd:=hz.find an;have hz1:Sz 1001 ⟨eu ae { aX ae an with cL:=l },next,aj⟩:=hz.with (n:={ aX ae an with cL:=l }) (iG hfd.1) hfd.2 next aj
  obtain⟨n,hfn⟩:=ct.1 hi;have hnn:aX ae an=n:=by simp[aX,hfn]
  have hne:¬dir=(aX ae an).an:=fun he=>by
   rw[hnn] at he hkd;have h1:=(bP hfn).2;rw[he,h1,hfn] at d1;injection d1 with d1
   subst d1;simp[d2] at hkd
  have hf:find (eu ae { aX ae an with cL:=l }) dir=some d:=by rw[fJ hr.jv,aH hne]; exact d1
  exact XG (eu ae { aX ae an with cL:=l }) next aj dir s an (kf hr.jv _) (hz1.small (by omega)).ae hf (hr.aM d dm.1) (by omega) d4 2 (b::c :: bT [aY (eu ae { aX ae an with cL:=l }),aF next,aF aj]::M) rfl
 refine az ?_;simp only[aaU,acI,bq,aJ,hg,bG,aI,EN,seval]
 repeat' ((first|apply bp|apply bR|apply dE)<;>intro hb<;>simp only[hb,EN,acI,hk,seval])
 all_goals try (clear hk hg last; simp_all only[lnW,bq,aJ,pE,↓reduceIte,reduceCtorEq,ak]; done)
 all_goals
  have hm:(oh ⟨ae,next,aj⟩ dir s != 0)=false:=by assumption
  have h2:((aX ae an).kind==2)=false:=by assumption
  have h3:(!(find ae an).isSome)=false:=by assumption
  have h3:(find ae an).isSome=true:=by simpa using h3
  have h0:=(last hm h3 h2 0).1;have hp:=fun a b c d e u x y M=>KT ae next aj a b c d e u hr.jv h0 hn 2 (x::y :: bT [aY ae,aF next,aF aj]::M) rfl
  have hl:=fun l=>(last hm h3 h2 l).2
  simp only[acI,hp,hl,aJ,EN,seval];clear hk hg last hp hl;simp_all only[lnW,bq,aJ,pE,↓reduceIte,reduceCtorEq,ak]
def look_ok{ae:List Node}{dir:Int}{s:Bytes}(h:((dX ae dir s).2 != 0)=false):∃d e,find ae dir=some d/\d.kind=2/\eh s=true/\eG d.aM s=some e/\dX ae dir s=(e.an,0):=by
 have h:(dX ae dir s).2=0:=by simpa using h
 have h':=h;unfold dX at h;split at h
 ·rename_i hc; exact absurd h hc
 ·rename_i hc;obtain⟨d,h1,h2,h3⟩:=yH (by simpa using hc)
  rw[h3] at h;split at h
  ·cases h
  ·rename_i hk;split at h
   ·cases h
   ·rename_i e he;have hk:eh s=true:=by simpa using hk
    refine⟨d,e,h1,h2,hk,he,?_⟩;unfold dX;rw[h3];simp[hk,he]
def unW(t:Tree)(dir:Int)(s:Bytes):Tree×Int×Int :=
 if (dX t.ae dir s).2 != 0 then (t,0,(dX t.ae dir s).2) else if decide ((0:Int)<(aX t.ae (dX t.ae dir s).1).aM.length) then (t,0,74) else
 (⟨j7 (cK t.ae dir s) (aX t.ae (dX t.ae dir s).1),t.next,t.aj⟩,(dX t.ae dir s).1,0)
def Iw{ae:List Node}(h:mG ae){dir:Int}{s:Bytes}{d:Node}(hf:find ae dir=some d):cK ae dir s≠[]:=by
 intro hc
 have:({ d with aM:=ga d.aM s }:Node)∈cK ae dir s:=by
  unfold cK;rw[hf];exact(vn h).2 (.inl rfl)
 rw[hc] at this;cases this
def aow(t:Tree)(dir:Int)(s:Bytes)(hz:Sz 1000 t)(hr:rh t)(hs:s.length<=100000)(ha:om s) :
  ar bN 129 [bq t,aF dir,.str s] []=some (.tuple [bq (unW t dir s).1,aF (unW t dir s).2.1,aF (unW t dir s).2.2],[]):=by
 obtain⟨ae,next,aj⟩:=t
 have ht:Small ⟨ae,next,aj⟩:=hz.small (by omega)
 have hn:ae.length<=100000:=ht.ae;have hg:=fun b c M=>En ae next aj (dX ae dir s).1 hr.jv hn 2 (b::c :: bT [aY ae,aF next,aF aj]::M) rfl
 have hl:=fun M=>XC ae next aj dir s ht hr hs ha M
 refine az ?_;simp only[aaV,PH,bq,aJ,hl,EN,seval];refine bp (fun hb=>?_) (fun hb=>?_)
 ·simp only[PH,hb,EN,seval];clear hg hl;simp_all only[unW,bq,aJ,pE,↓reduceIte,reduceCtorEq,ak]
 obtain⟨d,e,d1,d2,d3,d4,d5⟩:=look_ok hb;have dm:=bP d1;have hde:d.aM.length<=1000:=hz.aM d dm.1;have hsz:Sz 1001 ⟨cK ae dir s,next,aj⟩:=hz.left dir s next aj
 have hv:=fun x y M=>ad9 ae next aj dir s hr.jv hn d1 (hr.aM d dm.1) (by omega) 2 (x::y :: bT [aY ae,aF next,aF aj]::M) rfl
 have hu:=fun a b c d' e' u x y M=>alk (cK ae dir s) next aj a b c d' e' u (hr.left dir s next aj).jv (Iw hr.jv d1) (hsz.small (by omega)).ae 2 (x::y :: bT [aY (cK ae dir s),aF next,aF aj]::M) rfl
 simp only[PH,hb,hg,bG,aI,EN,seval];refine bp (fun hb1=>?_) (fun hb1=>?_)
 ·simp only[PH,hb1,EN,seval];clear hg hl hv hu;simp_all only[unW,bq,aJ,pE,↓reduceIte,reduceCtorEq,ak]
 ·simp only[PH,hb1,hv,hu,EN,seval];clear hg hl hv hu d5;simp_all only[unW,bq,aJ,pE,↓reduceIte,reduceCtorEq,ak]
def KN(x:Int):List Int->Nat->Int
 | [],_ => -1
 |n::r,i=>if x==n then i else KN x r (i+1)
def Mm(x:Int):∀(l:List Int)(i:Nat),decide ((0:Int)<=KN x l i)=l.contains x
 | [],i=>by simp[KN]
 |n::r,i=>by
  unfold KN
  by_cases h:x=n
  ·simp[h]
  ·simp only[eM,h,aw,Mm x r (i+1),List.contains_cons];simp[h]
def Za{l0:List Int}{x:Int}(hl:l0.length<=100000){k:List K}{R:Int->Option (ag×aG)}
  (hx:∀e,kr (ar bN) [.tmp 4] 0 k ⟨.exit 0,e,[]⟩=R (-1)) (hr:∀(i:Nat),kr (ar bN) [.tmp 4] 0 k ⟨.ret,[(4,aF i)],[]⟩=R i) :
  ∀(l pre:List Int),l0=pre++l->eV (ar bN) [.tmp 4] 0 k (.loop [0,1,7,8] Yy) [(0,hZ (l0.map mb)),(1,aF x),(7,aF l0.length),(8,aF pre.length)] []=R (KN x l pre.length):=by
 intro l;induction l with
 |nil =>
  intro pre h;rw[bt];simp only[JV,gU h,EN,seval];exact hx _
 |cons n r ih =>
  intro pre h;rw[bt];have dQ:pre.length+1<=100000:=by rw[h] at hl; simp at hl; omega
  have hw:=vY pre n;have hi:=ih (pre++[n]) (by rw[h]; simp)
  simp only[aD,au,av,aL] at hi;rw[KN];simp only[JV,gd h,fc h,EN,seval];refine bp (fun hb=>?_) (fun hb=>?_)
  ·simp only[JV,hb,EN,seval];exact hr _
  ·simp only[JV,hb,hw,af,EN,seval];exact hi
def ap8(l:List Int)(x:Int)(hl:l.length<=100000):ar bN 264 [hZ (l.map mb),aF x] []=some (aF (KN x l 0),[]):=by
 refine az ?_;simp only[ab0,JV,EN,seval];exact Za (R:=fun z=>some (aF z,[])) hl (fun e=>by simp only[JV,EN,seval]) (fun i=>by simp only[JV,EN,seval]) l [] rfl
def arz l x hl:=cP (ap8 l x hl)
def apC(l:List Int)(x:Int)(hl:l.length<=100000):ar bN 210 [hZ (l.map mb),aF x] []=some (.bool (l.contains x),[]):=by
 refine az ?_;simp only[abA,ant,arz,hl,Mm,EN,seval]
def alm l x hl:=cP (apC l x hl)
def tC(ae:List Node)(at' own an:Int)(n:Node):Bool :=
 n.kind==2&&((uj ae n.an).contains an&&(decide ((12:Int)<kR (kR (kR (at'+(uj ae n.an).length)-1)-own))||(kR (kR (kR (at'+(uj ae n.an).length)-1)-own)==12&&decide ((0:Int)<n.aM.length))))
abbrev nU(ae:List Node)(next aj at' own an:Int):aG:=[.cells [.ptr 4 0],.cells [.int .i64 at'],.cells [.int .i64 own],.cells [.int .i64 an],.cells [aY ae,.int .i64 next,.int .i64 aj]]
def aqa(ae:List Node)(next aj at' own an:Int)(n:Node)(h:mG ae)(hn:ae.length<=99999) :
  ar bN 266 [bG n,b9 0,b9 1,b9 2,b9 3] (nU ae next aj at' own an)=some (.bool (tC ae at' own an n),nU ae next aj at' own an):=by
 refine az ?_;have hk:=fun a b c d M=>aeb ae next aj n.an h (by omega) 4 (a::b::c::d :: bT [aY ae,aF next,aF aj]::M) rfl
 have hl:=ub ae n.an;have hc:=fun M=>alm (uj ae n.an) an (by omega) M
 simp only[ab2,ahu,nU,bG,aI,EN,seval]
 repeat' ((first|apply bp|apply bR|apply dE)<;>intro hb<;>simp only[hb,EN,ahu,hk,hc,seval])
 all_goals (clear hk hc; simp_all only[tC,kR,bne,gW,lX,pE,↓reduceIte,reduceCtorEq,ak]; done)
end
def kB{C:eK}{f:Nat}{args args':List ag}{M B:aG}{ids:List Nat}{r r':ag}{B' M':aG}(h1:args.all ag.flat=true)(h2:reach M (args.flatMap ag.ids)=ids)(h3:jE M (iy ids) ids=some B)(h4:kD M ids=ids)
  (h5:args.map (ag.pL (iy ids))=args') (h:C f args' B=some (r,B')) (h6:B'.length=B.length) (h7:r.we=true) (h8:B'.all dy.flat=true) (h9:r.Bg (wD ids)=r') (h10:kY ids M ids B'=M'):aU C f args M=some (r',M'):=by
 unfold aU;rw[bc h1,h2,h3];simp only[bV];rw[bc h4,h5,h];simp only[bV];rw[bc ⟨h6,h7,h8⟩,h9,h10]
def aco(ae:List Node)(next aj at' own an:Int):jE (nU ae next aj at' own an) (iy [0,1,2,3,4]) [0,1,2,3,4]=some (nU ae next aj at' own an):=rfl
def amu(ae:List Node)(next aj at' own an:Int):jE [bT [aY ae,aF next,aF aj],bT [b9 0],bT [aF an],bT [aF at'],bT [aF own]] (iy [1,3,4,2,0]) [1,3,4,2,0]=some (nU ae next aj at' own an):=rfl
section
attribute [local irreducible] eV fZ je gK eo kr ar aU cA bH
def arB(ae:List Node)(next aj at' own an:Int)(n:Node)(h:mG ae)(hn:ae.length<=99999) :
  aU (ar bN) 266 [.agg (aI n),b9 0,b9 1,b9 2,b9 3] (nU ae next aj at' own an)=some (.bool (tC ae at' own an n),nU ae next aj at' own an) :=
 kB (ids:=[0,1,2,3,4]) rfl rfl (aco ..) rfl rfl (aqa ae next aj at' own an n h hn) rfl rfl rfl rfl rfl
def Ib(p:Node->Bool):List Node->Nat->Int
 | [],_ => -1
 |n::r,i=>if p n then i else Ib p r (i+1)
def Ml(p:Node->Bool):∀(l:List Node)(i:Nat),decide ((0:Int)<=Ib p l i)=l.any p
 | [],i=>by simp[Ib]
 |n::r,i=>by
  unfold Ib;cases h:p n with
  |true=>simp[h]
  |false=>simp only[af,aw,Ml p r (i+1),lr,h,dp]
def Zb{ae:List Node}{next aj at' own an:Int}(h:mG ae)(hn:ae.length<=99999){k:List K}{R:Int->Option (ag×aG)}
  (hx:∀e,kr (ar bN) [.tmp 4] 5 k ⟨.exit 0,e,nU ae next aj at' own an⟩=R (-1)) (hr:∀(i:Nat),kr (ar bN) [.tmp 4] 5 k ⟨.ret,[(4,aF i)],nU ae next aj at' own an⟩=R i) :
  ∀(l pre:List Node),ae=pre++l->eV (ar bN) [.tmp 4] 5 k (.loop [0,1,7,8] YA) [(0,aY ae),(1,.func 266 [b9 0,b9 1,b9 2,b9 3]),(7,aF ae.length),(8,aF pre.length)] (nU ae next aj at' own an)=R (Ib (tC ae at' own an) l pre.length):=by
 intro l;induction l with
 |nil =>
  intro pre h;rw[bt];simp only[JW,gU h,EN,seval];exact hx _
 |cons n r ih =>
  intro pre hp;rw[bt];have dQ:pre.length+1<=100000:=by rw[hp] at hn; simp at hn; omega
  have hw:=vY pre n;have hi:=ih (pre++[n]) (by rw[hp]; simp)
  have hk:=arB ae next aj at' own an n h hn
  simp only[aD,au,av,aL,nU] at hi;simp only[nU] at hk;rw[Ib];simp only[JW,nU,gd hp,fc hp,hk,tkN,shN,EN,seval];refine bp (fun hb=>?_) (fun hb=>?_)
  ·simp only[JW,hb,EN,seval];exact hr _
  ·simp only[JW,hb,hw,af,EN,seval];exact hi
def aqf(ae:List Node)(next aj at' own an:Int)(h:mG ae)(hn:ae.length<=99999):ar bN 296 [aY ae,.func 266 [b9 0,b9 1,b9 2,b9 3]] (nU ae next aj at' own an) =
  some (aF (Ib (tC ae at' own an) ae 0),nU ae next aj at' own an):=by
 refine az ?_;simp only[ab5,JW,EN,seval];exact Zb (R:=fun z=>some (aF z,nU ae next aj at' own an)) h hn (fun e=>by simp only[JW,nU,EN,seval]) (fun i=>by simp only[JW,nU,EN,seval]) ae [] rfl
def arE(ae:List Node)(next aj at' own an:Int)(h:mG ae)(hn:ae.length<=99999):aU (ar bN) 296 [aY ae,.func 266 [b9 0,b9 1,b9 2,b9 3]] (nU ae next aj at' own an) =
  some (aF (Ib (tC ae at' own an) ae 0),nU ae next aj at' own an) :=
 kB (ids:=[0,1,2,3,4]) rfl rfl (aco ..) rfl rfl (aqf ae next aj at' own an h hn) rfl rfl rfl rfl rfl
def ap9(ae:List Node)(next aj at' own an:Int)(h:mG ae)(hn:ae.length<=99999):ar bN 265 [aY ae,.func 266 [b9 0,b9 1,b9 2,b9 3]] (nU ae next aj at' own an) =
  some (.bool (ae.any (tC ae at' own an)),nU ae next aj at' own an):=by
 refine az ?_;have hk:=arE ae next aj at' own an h hn
 simp only[nU] at hk;simp only[ab1,anJ,nU,hk,Ml,EN,seval]
def arA(ae:List Node)(next aj at' own an:Int)(h:mG ae)(hn:ae.length<=99999) :
  aU (ar bN) 265 [aY ae,.func 266 [b9 1,b9 3,b9 4,b9 2]] [bT [aY ae,aF next,aF aj],bT [b9 0],bT [aF an],bT [aF at'],bT [aF own]] =
  some (.bool (ae.any (tC ae at' own an)),[bT [aY ae,aF next,aF aj],bT [b9 0],bT [aF an],bT [aF at'],bT [aF own]]) :=
 kB (ids:=[1,3,4,2,0]) rfl rfl (amu ..) rfl rfl (ap9 ae next aj at' own an h hn) rfl rfl rfl rfl rfl
def HI(ae:List Node)(an at':Int):Bool:=ae.any (tC ae at' (rJ ae an) an)
def apE(ae:List Node)(next aj an at':Int)(h:mG ae)(hn:ae.length<=99999):ar bN 212 [b9 0,aF an,aF at'] [bT [aY ae,aF next,aF aj]] =
  some (.bool (HI ae an at'),[bT [aY ae,aF next,aF aj]]):=by
 refine az ?_;have hk:∀M,aU (ar bN) 254 [b9 0,aF an] (bT [aY ae,aF next,aF aj]::M)=some (aF (rJ ae an),bT [aY ae,aF next,aF aj]::M):=fun M=>alv ae next aj an h (by omega) 0 (bT [aY ae,aF next,aF aj]::M) rfl
 have hd:=arA ae next aj at' (rJ ae an) an h hn
 unfold HI;simp only[abC,anu,hk,hd,EN,seval]
def arj ae next aj an at' h hn p M hM:=cM (p:=p) (M:=M) hM (apE ae next aj an at' h hn)
def rR(l:List fp)(s:Bytes):eG (ga l s) s=none:=by
 unfold eG ga;rw[df];intro e he;have:=(cm.1 he).2;simpa using this
def pr{l:List fp}{s r:Bytes}(h:eG l r=none):eG (ga l s) r=none:=by
 unfold eG ga at *;rw[df] at *;exact fun e he=>h e (cm.1 he).1
def iZ{ae:List Node}(h:mG ae){dir:Int}{s:Bytes}{d:Node}(hf:find ae dir=some d)(i:Int):find (cK ae dir s) i=if i=dir then some { d with aM:=ga d.aM s } else find ae i:=by
 have hd:=(bP hf).2;unfold cK;rw[hf];simp only[bh];rw[fJ h,show({ d with aM:=ga d.aM s }:Node).an=dir from hd]
def G6{ae:List Node}(h:mG ae)(n:Node):mG (j7 ae n):=by
 unfold j7;split
 ·exact qX h _
 ·exact kf h _
def Ej{ae:List Node}(h:mG ae)(n:Node){i:Int}(hi:i≠n.an):find (j7 ae n) i=find ae i:=by
 unfold j7;split
 ·rw[ll h,aH hi]
 ·rw[fJ h,aH hi]
def Sz.j7{b:Nat}{t:Tree}(h:Sz b t){n:Node}(h1:n.aM.length<=b+1)(h2:n.data.length<=100000)(next aj:Int):Sz (b+1) ⟨j7 t.ae n,next,aj⟩:=by
 unfold Go.Proofs.YtahkjijkflobhaaGreatDoor.j7;split
 ·exact(h.uG _ next aj).up (by omega)
 ·exact h.with (n:={ n with cL:=kR (n.cL-1) }) h1 h2 next aj
def yp(t:Tree)(dir:Int)(s:Bytes)(to:Int)(nm:Bytes)(an:Int)(x y:Node)(there:Bool):Tree :=
 gG ⟨if x.kind==2 then eu (if there then j7 (cK (cK t.ae dir s) to nm) y else cK t.ae dir s) { x with up:=to }
  else if there then j7 (cK (cK t.ae dir s) to nm) y else cK t.ae dir s,t.next,t.aj⟩ to nm an
set_option maxHeartbeats 1000000 in
def agN(ae:List Node)(next aj dir:Int)(s:Bytes)(to:Int)(nm:Bytes)(an:Int)(x y:Node)(there:Bool)(v5 v140:ag)(B0 Bd:dy)(yr:List ag)(hyr:there=true->aF y.an::yr=aI y)(hz:Sz 1000 ⟨ae,next,aj⟩)(hr:rh ⟨ae,next,aj⟩){dd dt:Node}(hdir:find ae dir=some dd)(hto:find ae to=some dt)
  (hth:there=false->eG dt.aM nm=none) (hx:(x.kind==2)=true->x.an≠to) (hy:there=true->y.an≠to) (hx1:x.aM.length<=1000) (hx2:x.data.length<=100000) (hy1:y.aM.length<=1000) (hy2:y.data.length<=100000) :
  eV (ar bN) [.dC 10 3,.tmp 11,.tmp 12] 0 [] MO [(1,aF dir),(2,.str s),(3,aF to),(4,.str nm),(5,v5),(10,b9 1),(13,aF an),(15,b9 2),(17,b9 4),(19,b9 5),(21,.bool there),(140,v140)]
   [B0,.cells zT,bT [aY ae,aF next,aF aj],Bd,bT (aI x),bT (aF y.an::yr)]=some (.tuple [bq (yp ⟨ae,next,aj⟩ dir s to nm an x y there),aF y.an,aF 0],[]):=by
 have hasc:mG ae:=hr.jv;have n1:=hz.left dir s next aj
 have a1:mG (cK ae dir s):=(hr.left dir s next aj).jv
 have e1:ph dd.aM:=hr.aM dd (bP hdir).1;have e2:ph dt.aM:=hr.aM dt (bP hto).1;have l1:dd.aM.length<=1000:=hz.aM dd (bP hdir).1;have l2:dt.aM.length<=1000:=hz.aM dt (bP hto).1
 obtain⟨d1,f1,g1,m1,q1⟩:∃d1,find (cK ae dir s) to=some d1/\ph d1.aM/\d1.aM.length<=1000/\(eG dt.aM nm=none->eG d1.aM nm=none):=by
  rw[iZ hasc hdir];split
  ·rename_i he;subst he;rw[hdir] at hto; cases hto;exact⟨_,rfl,va e1 s,aW (AJ _ _) l1,pr⟩
  ·exact⟨dt,hto,e2,l2,id⟩
 have hv1:=fun a b M=>ad9 ae next aj dir s hasc (hz.small (by omega)).ae hdir e1 (by omega) 2 (a::b :: bT [aY ae,aF next,aF aj]::M) rfl
 have fin:∀(n3:List Node)(d3:Node),mG n3->Sz 1003 ⟨n3,next,aj⟩->find n3 to=some d3->ph d3.aM->d3.aM.length<=1000->eG d3.aM nm=none ->
   (∀a b M,aU (ar bN) 198 [b9 2,aF to,.str nm,aF an] (a::b :: bT [aY n3,aF next,aF aj]::M)=some (.tuple [],a::b :: bT (aJ (gG ⟨n3,next,aj⟩ to nm an))::M)) /\
   ((x.kind==2)=true->(∀a b M,aU (ar bN) 197 [b9 2,.agg [aF x.an,aF x.kind,aF x.cL,cR x.data,ic x.aM,aF to]] (a::b :: bT [aY n3,aF next,aF aj]::M) =
     some (.tuple [],a::b :: bT [aY (eu n3 { x with up:=to }),aF next,aF aj]::M)) /\
    ∀a b M,aU (ar bN) 198 [b9 2,aF to,.str nm,aF an] (a::b :: bT [aY (eu n3 { x with up:=to }),aF next,aF aj]::M)=some (.tuple [],a::b :: bT (aJ (gG ⟨eu n3 { x with up:=to },next,aj⟩ to nm an))::M)):=by
  intro n3 d3 b1 b2 b3 b4 b5 b6;have h0:n3≠[]:=by rintro rfl; simp[find] at b3
  refine⟨fun a b M=>XG n3 next aj to nm an b1 (b2.small (by omega)).ae b3 b4 (by omega) b6 2 (a::b :: bT [aY n3,aF next,aF aj]::M) rfl,fun hk=>⟨fun a b M=>KT n3 next aj x.an x.kind x.cL x.data x.aM to b1 h0 (b2.small (by omega)).ae 2 (a::b :: bT [aY n3,aF next,aF aj]::M) rfl,fun a b M=>?_⟩⟩
  have b7:Sz 1004 ⟨eu n3 { x with up:=to },next,aj⟩:=b2.with (n:={ x with up:=to }) (aW hx1 (by omega)) hx2 next aj
  have b8:find (eu n3 { x with up:=to }) to=some d3:=by rw[fJ b1,aH (fun he=>hx hk he.symm)]; exact b3
  exact XG (eu n3 { x with up:=to }) next aj to nm an (kf b1 _) (b7.small (by omega)).ae b8 b4 (by omega) b6 2 (a::b :: bT [aY (eu n3 { x with up:=to }),aF next,aF aj]::M) rfl
 cases hth':there with
 |false =>
  obtain⟨w1,w2⟩:=fin (cK ae dir s) d1 a1 (n1.up (by omega)) f1 g1 m1 (q1 (hth hth'))
  cases hkx:(x.kind==2) with
  |false =>
   simp only[yz,hv1,zT,aI,hkx,w1,aJ,EN,seval];simp only[yp,hkx,bq,aJ,pE,↓reduceIte,reduceCtorEq,ak]
  |true =>
   obtain⟨w3,w4⟩:=w2 hkx;simp only[yz,hv1,zT,aI,hkx,w3,w4,aJ,EN,seval];simp only[yp,hkx,bq,aJ,pE,↓reduceIte,reduceCtorEq,ak]
 |true =>
  have hyr':yr=[aF y.kind,aF y.cL,cR y.data,ic y.aM,aF y.up]:=by have:=hyr hth'; simpa[aI] using this
  subst hyr';have a2:mG (cK (cK ae dir s) to nm):=(rh.left (t:=⟨cK ae dir s,next,aj⟩) (hr.left dir s next aj) to nm next aj).jv
  have n2:=n1.left to nm next aj
  have f2:find (cK (cK ae dir s) to nm) to=some { d1 with aM:=ga d1.aM nm }:=by rw[iZ a1 f1,bc rfl]
  have hv2:=fun a b M=>ad9 (cK ae dir s) next aj to nm a1 (n1.small (by omega)).ae f1 g1 (by omega) 2 (a::b :: bT [aY (cK ae dir s),aF next,aF aj]::M) rfl
  have hu:=fun a b M=>alk (cK (cK ae dir s) to nm) next aj y.an y.kind y.cL y.data y.aM y.up a2 (Iw a1 f1) (n2.small (by omega)).ae 2 (a::b :: bT [aY (cK (cK ae dir s) to nm),aF next,aF aj]::M) rfl
  have f3:find (j7 (cK (cK ae dir s) to nm) y) to=some { d1 with aM:=ga d1.aM nm }:=by rw[Ej a2 y (fun he=>hy hth' he.symm)]; exact f2
  obtain⟨w1,w2⟩:=fin (j7 (cK (cK ae dir s) to nm) y) { d1 with aM:=ga d1.aM nm } (G6 a2 y) (n2.j7 (aW hy1 (by omega)) hy2 next aj) f3 (va g1 nm) (aW (AJ _ _) m1) (rR _ _)
  cases hkx:(x.kind==2) with
  |false =>
   simp only[yz,hv1,hv2,hu,zT,aI,hkx,w1,aJ,EN,seval];simp only[yp,hkx,bq,aJ,pE,↓reduceIte,reduceCtorEq,ak]
  |true =>
   obtain⟨w3,w4⟩:=w2 hkx;simp only[yz,hv1,hv2,hu,zT,aI,hkx,w3,w4,aJ,EN,seval];simp only[yp,hkx,bq,aJ,pE,↓reduceIte,reduceCtorEq,ak]
def lB(ae:List Node)(l:List fp)(s:Bytes):Node:=match eG l s with
 |none=>Node.zero
 |some e=>aX ae e.an
def DA(t:Tree)(dir to:Int)(aM:List fp)(there:Bool)(kind an:Int):Bool :=
 ((!there&&to != dir)&&decide ((64:Int)<=aM.length))||(decide ((12:Int)<(uj t.ae to).length)||((kind==2&&HI t.ae an (uj t.ae to).length)||decide ((1099511627776:Int)<=t.aj)))
def MB(t:Tree)(dir:Int)(s:Bytes)(to:Int)(nm:Bytes):Tree×Int×Int :=
 if (dX t.ae dir s).2 != 0 then (t,0,(dX t.ae dir s).2) else
 if (gr t.ae to).2 != 0 then (t,0,(gr t.ae to).2) else
 if !eh nm then (t,0,60) else
 if (lB t.ae (gr t.ae to).1.aM nm).an==(dX t.ae dir s).1 then (t,0,0) else
 if (aX t.ae (dX t.ae dir s).1).kind==2&&(uj t.ae to).contains (dX t.ae dir s).1 then (t,0,75) else
 if (eG (gr t.ae to).1.aM nm).isSome&&zZ (aX t.ae (dX t.ae dir s).1) (lB t.ae (gr t.ae to).1.aM nm) != 0 then (t,0,zZ (aX t.ae (dX t.ae dir s).1) (lB t.ae (gr t.ae to).1.aM nm)) else
 if DA t dir to (gr t.ae to).1.aM (eG (gr t.ae to).1.aM nm).isSome (aX t.ae (dX t.ae dir s).1).kind (dX t.ae dir s).1 then (t,0,76) else
 (yp t dir s to nm (dX t.ae dir s).1 (aX t.ae (dX t.ae dir s).1) (lB t.ae (gr t.ae to).1.aM nm) (eG (gr t.ae to).1.aM nm).isSome,(lB t.ae (gr t.ae to).1.aM nm).an,0)
def aln(a b c:Int)(d:Bytes)(e:List fp)(u:Int)(a' b' c':Int)(d':Bytes)(e':List fp)(u':Int)(M:aG):aU (ar bN) 211 [.agg [aF a,aF b,aF c,cR d,ic e,aF u],.agg [aF a',aF b',aF c',cR d',ic e',aF u']] M=some (aF (zZ ⟨a,b,c,d,e,u⟩ ⟨a',b',c',d',e',u'⟩),M) :=
 cO (apD ⟨a,b,c,d,e,u⟩ ⟨a',b',c',d',e',u'⟩) M
def V6(ae:List Node)(to:Int):(uj ae to).contains to=true:=by
 have key:∀(m:Nat)(an:Int)(out:List Int),out.contains to=true->(ua ae m an out).contains to=true:=by
  intro m;induction m with
  |zero=>intro an out h; exact h
  |succ m ih =>
   intro an out h;rw[ua];split
   ·split
    ·exact h
    ·exact ih _ _ (by simp at h ⊢; exact .inl h)
   ·exact h
 exact key _ _ _ (by simp)
def UN{ae:List Node}{i:Int}(h:(aX ae i).kind=2):(aX ae i).an=i:=by
 cases hf:find ae i with
 |none=>simp[aX,hf,Node.zero] at h
 |some n=>simp[aX,hf]; exact(bP hf).2
set_option maxHeartbeats 4000000 in
def aoz(t:Tree)(dir:Int)(s:Bytes)(to:Int)(nm:Bytes)(hz:Sz 1000 t)(hr:rh t)(hs:s.length<=100000)(ha:om s)(hs':nm.length<=100000)(ha':om nm)
  (Px:∀e,eG (gr t.ae to).1.aM nm=some e->(aX t.ae e.an).an≠to) :
  ar bN 131 [bq t,aF dir,.str s,aF to,.str nm] []=some (.tuple [bq (MB t dir s to nm).1,aF (MB t dir s to nm).2.1,aF (MB t dir s to nm).2.2],[]):=by
 obtain⟨Q,hQ⟩:∃Q,MO=Q:=⟨_,rfl⟩;obtain⟨ae,next,aj⟩:=t
 have ht:Small ⟨ae,next,aj⟩:=hz.small (by omega)
 have hn:ae.length<=100000:=ht.ae;have hasc:mG ae:=hr.jv;have hl:=fun M=>XC ae next aj dir s ht hr hs ha M
 have hg:=fun i b c M=>En ae next aj i hasc hn 2 (b::c :: bT [aY ae,aF next,aF aj]::M) rfl
 have hd:=fun b c M=>XH ae next aj to hasc hn 2 (b::c :: bT [aY ae,aF next,aF aj]::M) rfl
 have hup:=fun b c M=>aeb ae next aj to hasc hn 2 (b::c :: bT [aY ae,aF next,aF aj]::M) rfl
 have hul:=ub ae to;have hn1:ae.length<=1000:=hz.ae;have hc:=fun x M=>alm (uj ae to) x (by omega) M
 have hdp:=fun i a b c M=>arj ae next aj i a hasc (by omega) 2 (b::c :: bT [aY ae,aF next,aF aj]::M) rfl
 have hE:ph (gr ae to).1.aM:=hr.dir to;have hde:(gr ae to).1.aM.length<=100000:=tg ht to;have hen:=fun a b c d u M=>Rv a b c d (gr ae to).1.aM u nm _ (rE hE nm) hde M
 refine az ?_;simp only[aaX,yz,hQ,bq,aJ,hl,EN,seval];refine bp (fun hb0=>?_) (fun hb0=>?_)
 ·simp only[yz,hQ,hb0,EN,seval];clear hl hg hd hup hc hdp hen Px;simp_all only[MB,bq,aJ,pE,↓reduceIte,reduceCtorEq,ak]
 simp only[yz,hQ,hb0,hd,bG,aI,EN,seval];refine bp (fun hb1=>?_) (fun hb1=>?_)
 ·simp only[yz,hQ,hb1,EN,seval];clear hl hg hd hup hc hdp hen Px;simp_all only[MB,bq,aJ,pE,↓reduceIte,reduceCtorEq,ak]
 simp only[yz,hQ,hb1,aea,hs',ha',EN,seval];refine bp (fun hb2=>?_) (fun hb2=>?_)
 ·simp only[yz,hQ,hb2,EN,seval];clear hl hg hd hup hc hdp hen Px;simp_all only[MB,bq,aJ,pE,↓reduceIte,reduceCtorEq,ak]
 simp only[yz,hQ,hb2,hg,hen,bG,aI,EN,seval];obtain⟨dd,de,e1,e2,e3,e4,e5⟩:=look_ok hb0;obtain⟨dt,g1,g2,g3⟩:=yH (show(gr ae to).2=0 by simpa using hb1)
 have hx0:=hz.find (dX ae dir s).1;have tail:=fun there y yr hyr hth hy hy1 hy2 v5 v140 B0 Bd hxx=>agN ae next aj dir s to nm (dX ae dir s).1 (aX ae (dX ae dir s).1) y there v5 v140 B0 Bd yr hyr hz hr e1 g1 hth hxx hy hx0.1 hx0.2 hy1 hy2
 have hxne:((aX ae (dX ae dir s).1).kind==2)=true->(uj ae to).contains (dX ae dir s).1=false->(aX ae (dX ae dir s).1).an≠to:=fun h1 h2 h3=>by
  rw[UN (by simpa using h1)] at h3
  rw[h3,V6] at h2; cases h2
 have hdte:dt.aM=(gr ae to).1.aM:=by rw[g3]
 rcases wO hE nm with ⟨h1,o,h2,h3,h4⟩|⟨h1,h2⟩
 ·have hnu:lB ae (gr ae to).1.aM nm=aX ae o.an:=by simp[lB,h3]
  have hy0:=hz.find o.an;have tl:=tail true (aX ae o.an) _ (fun _=>rfl) (by simp) (fun _=>Px o h3) hy0.1 hy0.2
  simp only[aI,zT] at tl;simp only[yz,hQ,h1,h2,hg,bG,aI,fm,EN,seval]
  repeat' ((first|apply bp|apply bR|apply dE)<;>intro hb<;>simp only[hb,EN,yz,hQ,hup,hc,hdp,aln,seval])
  all_goals try (clear hl hg hd hup hc hdp hen Px tail tl hxne e5 g3; simp_all only[MB,DA,bq,aJ,bZ,pE,↓reduceIte,reduceCtorEq,ak]; done)
  all_goals
   subst hQ;refine(tl _ _ _ _ (fun hk=>by first|exact hxne hk (by assumption)|(exfalso; simp_all; done))).trans ?_
   have hmv:MB ⟨ae,next,aj⟩ dir s to nm=(yp ⟨ae,next,aj⟩ dir s to nm (dX ae dir s).1 (aX ae (dX ae dir s).1) (aX ae o.an) true,(aX ae o.an).an,0):=by
    clear hl hg hd hup hc hdp hen Px tail tl hxne e5 g3;simp_all only[MB,DA,bZ,pE,↓reduceIte,reduceCtorEq,ak]
   rw[hmv];rfl
 ·have hnu:lB ae (gr ae to).1.aM nm=Node.zero:=by simp[lB,h2]
  have tl:=tail false Node.zero [aF 0,aF 0,.slice .c0 [],.slice .c0 [],aF 0] (by simp) (fun _=>by rw[hdte]; exact h2) (by simp) (by simp[Node.zero]) (by simp[Node.zero])
  have hz0:Node.zero.an=0:=rfl;simp only[aI,zT,hz0] at tl;simp only[yz,hQ,h1,EN,seval]
  repeat' ((first|apply bp|apply bR|apply dE)<;>intro hb<;>simp only[hb,EN,yz,hQ,hup,hc,hdp,aln,seval])
  all_goals try (clear hl hg hd hup hc hdp hen Px tail tl hxne e5 g3; simp_all only[MB,DA,bq,aJ,eJ,pE,↓reduceIte,reduceCtorEq,ak]; done)
  all_goals
   subst hQ;refine(tl _ _ _ _ (fun hk=>by first|exact hxne hk (by assumption)|(exfalso; simp_all; done))).trans ?_
   have hmv:MB ⟨ae,next,aj⟩ dir s to nm=(yp ⟨ae,next,aj⟩ dir s to nm (dX ae dir s).1 (aX ae (dX ae dir s).1) Node.zero false,0,0):=by
    clear hl hg hd hup hc hdp hen Px tail tl hxne e5 g3;simp_all only[MB,DA,eJ,pE,↓reduceIte,reduceCtorEq,ak]
   rw[hmv];rfl
end
def pP(l:List fp)(i:Int):Nat:=l.countP fun e=>e.an==i
def ue(ns:List Node)(i:Int):Nat:=(ns.map fun n=>pP n.aM i).sum
def zz(i:Int):pP [] i=0:=rfl
def zy(a b:List fp)(i:Int):pP (a++b) i=pP a i+pP b i:=List.countP_append
def EG(e:fp)(l:List fp)(i:Int):pP (e::l) i=pP l i+(if e.an=i then 1 else 0):=by simp[pP,jV]
def xG(a b:List Node)(i:Int):ue (a++b) i=ue a i+ue b i:=by simp[ue]
def u6(n:Node)(l:List Node)(i:Int):ue (n::l) i=pP n.aM i+ue l i:=by simp[ue]
def u9{ns:List Node}(h:mG ns)(n:Node)(i:Int):ue (eu ns n) i+pP (aX ns n.an).aM i=ue ns i+pP n.aM i:=by
 rcases sH h n.an with ⟨_,o,h2,h3,h4⟩|⟨_,h2⟩
 ·rw[tp h h2 h4];obtain⟨s1,s2⟩:=xW (n:=n) h2
  have e1:ue ns i=ue (ns.take (lj ns n.an)) i+(pP o.aM i+ue (ns.drop (lj ns n.an+1)) i):=by
   rw[<-u6,<-xG,<-s1]
  rw[s2,xG,u6,e1];simp only[aX,h3,bh];omega
 ·rw[x5 h h2]
  have e1:ue ns i=ue (ns.take (lj ns n.an)) i+ue (ns.drop (lj ns n.an)) i:=by
   rw[<-xG,cD]
  rw[xG,u6,e1];simp only[aX,h2,iW,Node.zero,zz];omega
def zA{ns:List Node}(h:mG ns)(k i:Int):ue (fG ns k) i+pP (aX ns k).aM i=ue ns i:=by
 rcases sH h k with ⟨_,o,h2,h3,h4⟩|⟨_,h2⟩
 ·rw[Ap h h2 h4];obtain⟨s1,_⟩:=xW (n:=o) h2
  have e1:ue ns i=ue (ns.take (lj ns k)) i+(pP o.aM i+ue (ns.drop (lj ns k+1)) i):=by
   rw[<-u6,<-xG,<-s1]
  rw[xG,e1];simp only[aX,h3,bh];omega
 ·rw[yx h2];simp only[aX,h2,iW,Node.zero,zz];omega
def HG{l:List fp}{i:Int}:0<pP l i↔∃e,e∈l/\e.an=i:=by simp[pP,List.countP_pos_iff]
def uq{i:Int}:∀ {ns:List Node},0<ue ns i↔∃n e,n∈ns/\e∈n.aM/\e.an=i
 | []=>by simp[ue]
 |n::ns=>by
  rw[u6];constructor
  ·intro h;rcases gL (pP n.aM i) with h0|h0
   ·obtain⟨m,e,h1,h2,h3⟩:=(uq (i:=i) (ns:=ns)).1 (by omega)
    exact⟨m,e,aO _ h1,h2,h3⟩
   ·obtain⟨e,h1,h2⟩:=HG.1 h0;exact⟨n,e,aV,h1,h2⟩
  ·rintro⟨m,e,h1,h2,h3⟩;rcases bC.1 h1 with rfl|h1
   ·have:=HG.2 ⟨e,h2,h3⟩; omega
   ·have:=(uq (i:=i) (ns:=ns)).2 ⟨m,e,h1,h2,h3⟩; omega
def zV{l:List fp}(h:ph l){e:fp}(hf:eG l e.name=none){x:fp}:x∈wA l e↔x=e\/x∈l:=by
 rw[vj h hf];have:x∈l↔x∈l.take (lA l e.name)\/x∈l.drop (lA l e.name):=by rw[<-bm,cD]
 rw[this,bm,bC];constructor
 ·rintro(h|h|h)
  ·exact .inr (.inl h)
  ·exact .inl h
  ·exact .inr (.inr h)
 ·rintro(h|h|h)
  ·exact .inr (.inl h)
  ·exact .inl h
  ·exact .inr (.inr h)
def NP{l:List fp}(h:ph l){e:fp}(hf:eG l e.name=none)(i:Int):pP (wA l e) i=pP l i+(if e.an=i then 1 else 0):=by
 rw[vj h hf,zy,EG];have:pP l i=pP (l.take (lA l e.name)) i+pP (l.drop (lA l e.name)) i:=by rw[<-zy,cD]
 omega
def OA{l:List fp}{s:Bytes}{x:fp}:x∈ga l s↔x∈l/\x.name≠s:=by simp[ga,cm]
def Ll{l:List fp}{b:Nat}{o:fp}(ho:l[b]?=some o):l=l.take b++o::l.drop (b+1):=by
 have cz:=(aq.1 ho).1;rw[ai cz] at ho; injection ho with ho
 conv=>lhs; rw[<-cD b l]
 rw[di cz,ho]
def Kn{l:List fp}(h:ph l){s:Bytes}{o:fp}(hf:eG l s=some o)(i:Int):pP (ga l s) i+(if o.an=i then 1 else 0)=pP l i:=by
 rcases wO h s with ⟨_,o',h2,h3,h4⟩|⟨_,h2⟩
 ·rw[hf] at h3; cases h3;rw[EI h h2 h4]
  have e1:pP l i=pP (l.take (lA l s)) i+(pP (l.drop (lA l s+1)) i+(if o.an=i then 1 else 0)):=by
   rw[<-EG,<-zy,<-Ll h2]
  rw[zy,e1];omega
 ·rw[hf] at h2; cases h2
def xP{ns:List Node}(h:mG ns){n o:Node}(hf:find ns n.an=some o):(eu ns n).length=ns.length:=by
 rcases sH h n.an with ⟨_,o,h2,h3,h4⟩|⟨_,h2⟩
 ·rw[tp h h2 h4,fi]
 ·rw[hf] at h2; cases h2
def Nm(s:Bytes):Prop:=eh s=true
structure cr(t:Tree)(cE:Int->Nat)(x:Int):Prop where
 jo:rh t
 root:∃r,find t.ae 1=some r/\r.kind=2/\r.up=1
 num:∀i n,find t.ae i=some n->1<=i/\i<t.next
 kind:∀i n,find t.ae i=some n->n.kind=1\/n.kind=2
 file:∀i n,find t.ae i=some n->n.kind=1->n.aM=[]/\n.up=0/\n.data.length<=4096
 dir:∀i n,find t.ae i=some n->n.kind=2->n.data=[]
 Au:∀i n e,find t.ae i=some n->e∈n.aM->1<=e.aj/\e.aj<t.aj/\e.an≠1/\Nm e.name/\∃m,find t.ae e.an=some m/\(m.kind=2->m.up=i)
 x9:∀i n,find t.ae i=some n->(n.aM.Pairwise fun a b=>a.aj≠b.aj)/\n.aM.length<=64
 cL:∀i n,find t.ae i=some n->n.cL=(ue t.ae i:Int)+(if i=x then 1 else 0)
 one:∀i n,find t.ae i=some n->n.kind=2->i≠1->n.cL=1
 zB:cE 1=0
 oZ:∀i n,find t.ae i=some n->n.kind=2->i≠1->cE i=cE n.up+1/\∃p,find t.ae n.up=some p/\p.kind=2
 deep:∀i n,find t.ae i=some n->n.kind=2->cE i<=12/\(cE i=12->n.aM=[])
 ae:t.ae.length<=200
 next:t.next<=1099511627776
 aj:1<=t.aj/\t.aj<=1099511627776
def cr.an{t:Tree}{cE:Int->Nat}{x:Int}(_:cr t cE x){i:Int}{n:Node}(hf:find t.ae i=some n):n.an=i:=(bP hf).2
theorem cr.gD{t t':Tree}{cE:Int->Nat}{x x' d:Int}{n n':Node}(h:cr t cE x)(hs:rh t')(hd:find t.ae d=some n)
  (hf:∀i,find t'.ae i=if i=d then some n' else find t.ae i) (hk:n'.kind=n.kind) (hu:n'.up=n.up)
  (hfile:n.kind=1->n'.aM=[]/\n'.data.length<=4096) (hdir:n.kind=2->n'.data=[])
  (hent:∀e,e∈n'.aM->1<=e.aj/\e.aj<t'.aj/\e.an≠1/\Nm e.name/\∃m,find t.ae e.an=some m/\(m.kind=2->m.up=d))
  (hcook:(n'.aM.Pairwise fun a b=>a.aj≠b.aj)/\n'.aM.length<=64)
  (hc:∀i,1<=i->(ue t'.ae i:Int)+(if i=x' then 1 else 0)=ue t.ae i+(if i=x then 1 else 0)+(if i=d then n'.cL-n.cL else 0))
  (h1:n.kind=2->n'.cL=n.cL) (hdeep:cE d=12->n'.aM=[]) (hn:t'.ae.length<=200) (hnx:t'.next=t.next) (hck:t.aj<=t'.aj) (hck':t'.aj<=1099511627776):cr t' cE x':=by
 have ov:∀j m,find t.ae j=some m->∃m',find t'.ae j=some m'/\m'.kind=m.kind/\m'.up=m.up:=by
  intro j m hm;rw[hf];split
  ·rename_i he;subst he;rw[hd] at hm; cases hm;exact⟨n',rfl,hk,hu⟩
  ·exact⟨m,hm,rfl,rfl⟩
 have back:∀j m',find t'.ae j=some m'->(j=d/\m'=n')\/(j≠d/\find t.ae j=some m'):=by
  intro j m' hm;rw[hf] at hm;split at hm
  ·rename_i he; injection hm with hm; exact .inl ⟨he,hm.symm⟩
  ·rename_i he; exact .inr ⟨he,hm⟩
 refine⟨hs,?_,?_,?_,?_,?_,?_,?_,?_,?_,h.zB,?_,?_,hn,by rw[hnx]; exact h.next,⟨by have:=h.aj.1; omega,hck'⟩⟩
 ·obtain⟨r,h1,h2,h3⟩:=h.root;obtain⟨r',k1,k2,k3⟩:=ov _ _ h1;exact⟨r',k1,by omega,by omega⟩
 ·intro i m hm;rw[hnx];rcases back i m hm with ⟨rfl,rfl⟩|⟨_,hm⟩
  ·exact h.num _ _ hd
  ·exact h.num _ _ hm
 ·intro i m hm;rcases back i m hm with ⟨rfl,rfl⟩|⟨_,hm⟩
  ·rw[hk]; exact h.kind _ _ hd
  ·exact h.kind _ _ hm
 ·intro i m hm hk1;rcases back i m hm with ⟨rfl,rfl⟩|⟨_,hm⟩
  ·rw[hk] at hk1;exact⟨(hfile hk1).1,by rw[hu]; exact(h.file _ _ hd hk1).2.1,(hfile hk1).2⟩
  ·exact h.file _ _ hm hk1
 ·intro i m hm hk1;rcases back i m hm with ⟨rfl,rfl⟩|⟨_,hm⟩
  ·rw[hk] at hk1;exact hdir hk1
  ·exact h.dir _ _ hm hk1
 ·intro i m e hm he
  have key:∀m,find t.ae e.an=some m/\(m.kind=2->m.up=i)->∃m,find t'.ae e.an=some m/\(m.kind=2->m.up=i):=by
   rintro m ⟨k1,k2⟩;obtain⟨m',j1,j2,j3⟩:=ov _ _ k1;exact⟨m',j1,fun hk=>by rw[j3]; exact k2 (by omega)⟩
  rcases back i m hm with ⟨rfl,rfl⟩|⟨_,hm⟩
  ·obtain⟨a1,a2,a3,a4,k,a5⟩:=hent e he;exact⟨a1,a2,a3,a4,key k a5⟩
  ·obtain⟨a1,a2,a3,a4,k,a5⟩:=h.Au _ _ e hm he;exact⟨a1,by omega,a3,a4,key k a5⟩
 ·intro i m hm;rcases back i m hm with ⟨rfl,rfl⟩|⟨_,hm⟩
  ·exact hcook
  ·exact h.x9 _ _ hm
 ·intro i m hm;rcases back i m hm with ⟨rfl,rfl⟩|⟨hne,hm⟩
  ·have:=hc i (h.num _ _ hd).1;have:=h.cL _ _ hd;simp only[↓reduceIte] at *;omega
  ·have:=hc i (h.num _ _ hm).1;have:=h.cL _ _ hm;simp only[hne,↓reduceIte] at *;omega
 ·intro i m hm hk1 hi;rcases back i m hm with ⟨rfl,rfl⟩|⟨_,hm⟩
  ·rw[hk] at hk1;rw[h1 hk1]; exact h.one _ _ hd hk1 hi
  ·exact h.one _ _ hm hk1 hi
 ·intro i m hm hk1 hi;rcases back i m hm with ⟨rfl,rfl⟩|⟨_,hm⟩
  ·rw[hk] at hk1;obtain⟨a,p,b,c⟩:=h.oZ _ _ hd hk1 hi;obtain⟨p',k1,k2,_⟩:=ov _ _ b;rw[hu]; exact⟨a,p',k1,by omega⟩
  ·obtain⟨a,p,b,c⟩:=h.oZ _ _ hm hk1 hi;obtain⟨p',k1,k2,_⟩:=ov _ _ b;exact⟨a,p',k1,by omega⟩
 ·intro i m hm hk1;rcases back i m hm with ⟨rfl,rfl⟩|⟨_,hm⟩
  ·rw[hk] at hk1;exact⟨(h.deep _ _ hd hk1).1,hdeep⟩
  ·exact h.deep _ _ hm hk1
def cr.left{t:Tree}{cE:Int->Nat}{d:Int}{n:Node}{s:Bytes}{e:fp}(h:cr t cE 0)(hd:find t.ae d=some n)(he:eG n.aM s=some e):cr ⟨cK t.ae d s,t.next,t.aj⟩ cE e.an:=by
 have hE:ph n.aM:=h.jo.aM n (bP hd).1;have hi:n.an=d:=h.an hd;have hem:=gu he;have hw:cK t.ae d s=eu t.ae { n with aM:=ga n.aM s }:=by simp[cK,hd]
 have hc:∀i,ue (cK t.ae d s) i+(if e.an=i then 1 else 0)=ue t.ae i:=by
  intro i;have h1:=u9 h.jo.jv { n with aM:=ga n.aM s } i
  have h2:=Kn hE he i;rw[hw];have h3:aX t.ae n.an=n:=by simp only[aX,hi,hd,bh]
  simp only[h3] at h1;omega
 refine h.gD (h.jo.left d s t.next t.aj) hd (iZ h.jo.jv hd) rfl rfl ?_ ?_ ?_ ?_ ?_ (fun _=>rfl) ?_ ?_ rfl (cp _) h.aj.2
 ·intro hk;obtain⟨h1,_,h3⟩:=h.file _ _ hd hk;exact⟨by simp[h1,ga],h3⟩
 ·exact h.dir _ _ hd
 ·intro x hx;exact h.Au _ _ x hd (OA.1 hx).1
 ·exact⟨jt _ (h.x9 _ _ hd).1,aW (bU _ _) (h.x9 _ _ hd).2⟩
 ·intro i h0;have h1:=hc i;rw[aH (show i≠0 by omega)]
  have e1:(if i=d then (n.cL-n.cL:Int) else 0)=0:=by split<;>omega
  simp only[e1]
  by_cases h0:i=e.an
  ·subst h0;simp only[↓reduceIte] at h1 ⊢;omega
  ·rw[aH (fun hh=>h0 hh.symm)] at h1
   rw[aH h0];omega
 ·intro h12;have:=(h.deep _ _ hd ?_).2 h12
  ·simp[this,ga]
  ·rcases h.kind _ _ hd with hk|hk
   ·have:=(h.file _ _ hd hk).1;rw[this] at hem; cases hem.1
   ·exact hk
 ·show(cK t.ae d s).length<=200
  rw[hw,xP h.jo.jv (o:=n) (by simp only[hi]; exact hd)]
  exact h.ae
def cr.mR{t:Tree}{cE:Int->Nat}{x d:Int}{n m:Node}{s:Bytes}(h:cr t cE x)(hd:find t.ae d=some n)(hk:n.kind=2)(he:eG n.aM s=none)(h64:n.aM.length<64)(hnm:Nm s)
  (hx:find t.ae x=some m) (hx1:x≠1) (hup:m.kind=2->m.up=d) (hdp:cE d<12) (hck:t.aj<1099511627776):cr (gG t d s x) cE 0:=by
 have hE:ph n.aM:=h.jo.aM n (bP hd).1;have hi:n.an=d:=h.an hd;have hcw:kR (t.aj+1)=t.aj+1:=gn (by have:=h.aj; omega) (by omega)
 have hw:gG t d s x=⟨eu t.ae { n with aM:=wA n.aM ⟨s,x,t.aj⟩ },t.next,t.aj+1⟩:=by simp only[gG,hd,bh,hcw]
 have hfn:eG n.aM (fp.mk s x t.aj).name=none:=he
 have hc:∀i,ue (gG t d s x).ae i=ue t.ae i+(if x=i then 1 else 0):=by
  intro i;have h1:=u9 h.jo.jv { n with aM:=wA n.aM ⟨s,x,t.aj⟩ } i
  have h2:=NP hE hfn i;rw[hw];have h3:aX t.ae n.an=n:=by simp only[aX,hi,hd,bh]
  simp only[h3] at h1 h2 ⊢;omega
 have hff:∀i,find (gG t d s x).ae i=if i=d then some { n with aM:=wA n.aM ⟨s,x,t.aj⟩ } else find t.ae i:=by
  intro i;rw[hw];have:=fJ h.jo.jv { n with aM:=wA n.aM ⟨s,x,t.aj⟩ } i
  rw[this];simp only[hi]
 refine h.gD (h.jo.mR d s x (by simp[aX,hd,he])) hd hff rfl rfl ?_ ?_ ?_ ?_ ?_ (fun _=>rfl) ?_ ?_ ?_ ?_ ?_
 ·intro hk1; omega
 ·exact h.dir _ _ hd
 ·intro e hem;rw[hw];rcases(zV hE hfn).1 hem with rfl|hem
  ·exact⟨h.aj.1,by simp only; omega,hx1,hnm,m,hx,hup⟩
  ·obtain⟨a1,a2,a3,a4,a5⟩:=h.Au _ _ e hd hem;exact⟨a1,by simp only; omega,a3,a4,a5⟩
 ·refine⟨?_,by simp only[vj hE hfn,aD,au,gi,ir]; omega⟩
  rw[vj hE hfn];have hp:=(h.x9 _ _ hd).1;rw[<-cD (lA n.aM s) n.aM,dJ] at hp;obtain⟨p1,p2,p3⟩:=hp;rw[dJ];refine⟨p1,cv.2 ⟨fun a ha=>?_,p2⟩,fun a ha c hc=>?_⟩
  ·have:=(h.Au _ _ a hd (dr ha)).2.1;simp only; omega
  ·rcases bC.1 hc with rfl|hc
   ·have:=(h.Au _ _ a hd (dI ha)).2.1;simp only; omega
   ·exact p3 a ha c hc
 ·intro i h0;have h1:=hc i;rw[aH (show i≠0 by omega)]
  have e1:(if i=d then (n.cL-n.cL:Int) else 0)=0:=by split<;>omega
  simp only[e1]
  by_cases h0:i=x
  ·subst h0;simp only[↓reduceIte] at h1 ⊢;omega
  ·rw[aH (fun hh=>h0 hh.symm)] at h1
   rw[aH h0];omega
 ·intro h12; omega
 ·rw[hw];simp only;rw[xP h.jo.jv (o:=n) (by simp only[hi]; exact hd)]
  exact h.ae
 ·rw[hw]
 ·rw[hw]; simp only; omega
 ·rw[hw]; simp only; omega
def cr.QA{t:Tree}{cE:Int->Nat}{x x' d:Int}{n n':Node}(h:cr t cE x)(hd:find t.ae d=some n)(hk:n.kind=1)(hi':n'.an=d)(hk':n'.kind=1)(hu:n'.up=n.up)(he:n'.aM=n.aM)(hda:n'.data.length<=4096)
  (hx:∀i:Int,1<=i->(if i=x' then 1 else 0:Int)=(if i=x then 1 else 0)+(if i=d then n'.cL-n.cL else 0)):cr ⟨eu t.ae n',t.next,t.aj⟩ cE x':=by
 have hi:n.an=d:=h.an hd;have hE:ph n'.aM:=by rw[he]; exact h.jo.aM n (bP hd).1
 have hff:∀i,find (eu t.ae n') i=if i=d then some n' else find t.ae i:=by
  intro i;rw[fJ h.jo.jv n' i,hi']
 obtain⟨f1,f2,f3⟩:=h.file _ _ hd hk;refine h.gD (h.jo.with hE t.next t.aj) hd hff (by omega) hu ?_ ?_ ?_ ?_ ?_ ?_ ?_ ?_ rfl (cp _) h.aj.2
 ·intro _; exact⟨by rw[he]; exact f1,hda⟩
 ·intro h2; omega
 ·intro e hem; rw[he,f1] at hem; cases hem
 ·rw[he,f1]; exact⟨List.Pairwise.nil,by simp⟩
 ·intro i h0;have h1:=u9 h.jo.jv n' i;have h2:=hx i h0;simp only[aX,hi',hd,bh,he] at h1;simp only;omega
 ·intro h2; omega
 ·intro _; rw[he,f1]
 ·simp only;rw[xP h.jo.jv (o:=n) (by simp only[hi']; exact hd)]
  exact h.ae
def cr.named{t:Tree}{cE:Int->Nat}{x:Int}(h:cr t cE x){i:Int}{n:Node}(hi:find t.ae i=some n)(hk:n.kind=2)(h1:i≠1)(hx:i≠x):∃p e,find t.ae n.up=some p/\p.kind=2/\e∈p.aM/\e.an=i:=by
 have a:=h.cL _ _ hi;have b:=h.one _ _ hi hk h1;rw[aH hx] at a;obtain⟨m,e,e1,e2,e3⟩:=uq.1 (show 0<ue t.ae i by omega)
 have hm:find t.ae m.an=some m:=(fC h.jo.jv).2 ⟨e1,rfl⟩;obtain⟨_,_,_,_,k,k1,k2⟩:=h.Au _ _ e hm e2;rw[e3,hi] at k1; cases k1;obtain⟨_,p,p1,p2⟩:=h.oZ _ _ hi hk h1;rw[k2 hk] at p1 ⊢;rw[hm] at p1; cases p1;exact⟨m,e,hm,p2,e2,e3⟩
def cr.drop{t:Tree}{cE:Int->Nat}{x k:Int}{n:Node}(h:cr t cE x)(hx:x=k\/x=0)(hk:find t.ae k=some n)(he:n.aM=[])(h1:k≠1)(hc:ue t.ae k=0):cr ⟨fG t.ae k,t.next,t.aj⟩ cE 0:=by
 have hff:∀i m,find (fG t.ae k) i=some m↔i≠k/\find t.ae i=some m:=by
  intro i m;rw[ll h.jo.jv];split<;>simp_all
 have hcn:∀i,ue (fG t.ae k) i=ue t.ae i:=by
  intro i;have:=zA h.jo.jv k i;simp only[aX,hk,bh,he,zz] at this;omega
 have hno:∀i m e,find t.ae i=some m->e∈m.aM->e.an≠k:=by
  intro i m e hm hem hh;have:=uq.2 ⟨m,e,(bP hm).1,hem,hh⟩;omega
 refine⟨h.jo.uG k t.next t.aj,?_,?_,?_,?_,?_,?_,?_,?_,?_,h.zB,?_,?_,?_,h.next,h.aj⟩
 ·obtain⟨r,r1,r2⟩:=h.root;exact⟨r,(hff _ _).2 ⟨fun hh=>h1 hh.symm,r1⟩,r2⟩
 ·intro i m hm; exact h.num _ _ ((hff _ _).1 hm).2
 ·intro i m hm; exact h.kind _ _ ((hff _ _).1 hm).2
 ·intro i m hm; exact h.file _ _ ((hff _ _).1 hm).2
 ·intro i m hm; exact h.dir _ _ ((hff _ _).1 hm).2
 ·intro i m e hm hem;have hm':=((hff _ _).1 hm).2;obtain⟨a1,a2,a3,a4,q,a5,a6⟩:=h.Au _ _ e hm' hem;exact⟨a1,a2,a3,a4,q,(hff _ _).2 ⟨hno _ _ e hm' hem,a5⟩,a6⟩
 ·intro i m hm; exact h.x9 _ _ ((hff _ _).1 hm).2
 ·intro i m hm;obtain⟨m1,m2⟩:=(hff _ _).1 hm;have:=h.cL _ _ m2;have h0:=(h.num _ _ m2).1;rw[aH (show i≠0 by omega)]
  rw[aH (by rcases hx with rfl|rfl<;>omega)] at this
  simp only[hcn];exact this
 ·intro i m hm; exact h.one _ _ ((hff _ _).1 hm).2
 ·intro i m hm hk2 hi1;obtain⟨m1,m2⟩:=(hff _ _).1 hm;obtain⟨a,p,b,c⟩:=h.oZ _ _ m2 hk2 hi1;refine⟨a,p,(hff _ _).2 ⟨fun hh=>?_,b⟩,c⟩
  have h0:=(h.num _ _ m2).1;obtain⟨q,e,q1,_,q3,_⟩:=h.named m2 hk2 hi1 (by rcases hx with rfl|rfl<;>omega)
  rw[hh,hk] at q1; cases q1;rw[he] at q3; cases q3
 ·intro i m hm; exact h.deep _ _ ((hff _ _).1 hm).2
 ·exact aW (bU _ _) h.ae
def cr.amI{t:Tree}{cE dep':Int->Nat}{x to:Int}{n p:Node}(h:cr t cE x)(hx:find t.ae x=some n)(hk:n.kind=2)(hx1:x≠1)(hp:find t.ae to=some p)(hpk:p.kind=2)
  (h1:dep' 1=0) (hds:∀i m,find t.ae i=some m->m.kind=2->i≠1->i≠x->dep' i=dep' m.up+1) (hdx:dep' x=dep' to+1)
  (hdeep:∀i m,find t.ae i=some m->m.kind=2->dep' i<=12/\(dep' i=12->m.aM=[])):cr ⟨eu t.ae { n with up:=to },t.next,t.aj⟩ dep' x:=by
 have hi:n.an=x:=h.an hx
 have hff:∀i,find (eu t.ae { n with up:=to }) i=if i=x then some { n with up:=to } else find t.ae i:=by
  intro i;rw[fJ h.jo.jv { n with up:=to } i]
  simp only[hi]
 have ov:∀j m,find t.ae j=some m->∃m',find (eu t.ae { n with up:=to }) j=some m'/\m'.kind=m.kind/\(j≠x->m'.up=m.up):=by
  intro j m hm;rw[hff];split
  ·rename_i he;subst he;rw[hx] at hm; cases hm;exact⟨_,rfl,rfl,fun hh=>absurd rfl hh⟩
  ·exact⟨m,hm,rfl,fun _=>rfl⟩
 have back:∀j m',find (eu t.ae { n with up:=to }) j=some m'->(j=x/\m'={ n with up:=to })\/(j≠x/\find t.ae j=some m'):=by
  intro j m' hm;rw[hff] at hm;split at hm
  ·rename_i he; injection hm with hm; exact .inl ⟨he,hm.symm⟩
  ·rename_i he; exact .inr ⟨he,hm⟩
 have hcn:∀i,ue (eu t.ae { n with up:=to }) i=ue t.ae i:=by
  intro i;have:=u9 h.jo.jv { n with up:=to } i
  have h3:aX t.ae n.an=n:=by simp only[aX,hi,hx,bh]
  simp only[h3] at this;omega
 have hc0:ue t.ae x=0:=by
  have a:=h.cL _ n hx;have b:=h.one _ n hx hk hx1;simp only[↓reduceIte] at a;omega
 have hno:∀i m e,find t.ae i=some m->e∈m.aM->e.an≠x:=by
  intro i m e hm hem hh;have:=uq.2 ⟨m,e,(bP hm).1,hem,hh⟩;omega
 have hent:∀i m e,find t.ae i=some m->e∈m.aM->1<=e.aj/\e.aj<t.aj/\e.an≠1/\Nm e.name/\∃m,find (eu t.ae { n with up:=to }) e.an=some m/\(m.kind=2->m.up=i):=by
  intro i m e hm hem;obtain⟨a1,a2,a3,a4,q,a5,a6⟩:=h.Au _ _ e hm hem;obtain⟨q',j1,j2,j3⟩:=ov _ _ a5;exact⟨a1,a2,a3,a4,q',j1,fun hk=>by rw[j3 (hno _ _ e hm hem)]; exact a6 (by omega)⟩
 refine⟨h.jo.with (n:={ n with up:=to }) (h.jo.aM n (bP hx).1) t.next t.aj,?_,?_,?_,?_,?_,?_,?_,?_,?_,h1,?_,?_,?_,h.next,h.aj⟩
 ·obtain⟨r,r1,r2,r3⟩:=h.root;obtain⟨r',k1,k2,k3⟩:=ov _ _ r1;exact⟨r',k1,by omega,by rw[k3 (fun hh=>hx1 hh.symm)]; exact r3⟩
 ·intro i m hm;rcases back i m hm with ⟨rfl,rfl⟩|⟨_,hm⟩
  ·exact h.num _ n hx
  ·exact h.num _ _ hm
 ·intro i m hm;rcases back i m hm with ⟨rfl,rfl⟩|⟨_,hm⟩
  ·exact h.kind _ n hx
  ·exact h.kind _ _ hm
 ·intro i m hm hk1;rcases back i m hm with ⟨rfl,rfl⟩|⟨_,hm⟩
  ·simp only at hk1; omega
  ·exact h.file _ _ hm hk1
 ·intro i m hm hk1;rcases back i m hm with ⟨rfl,rfl⟩|⟨_,hm⟩
  ·exact h.dir _ n hx hk
  ·exact h.dir _ _ hm hk1
 ·intro i m e hm hem;rcases back i m hm with ⟨rfl,rfl⟩|⟨_,hm⟩
  ·exact hent _ n e hx hem
  ·exact hent _ _ e hm hem
 ·intro i m hm;rcases back i m hm with ⟨rfl,rfl⟩|⟨_,hm⟩
  ·exact h.x9 _ n hx
  ·exact h.x9 _ _ hm
 ·intro i m hm;simp only[hcn];rcases back i m hm with ⟨rfl,rfl⟩|⟨_,hm⟩
  ·exact h.cL _ n hx
  ·exact h.cL _ _ hm
 ·intro i m hm hk1 hi1;rcases back i m hm with ⟨rfl,rfl⟩|⟨_,hm⟩
  ·exact h.one _ n hx hk hi1
  ·exact h.one _ _ hm hk1 hi1
 ·intro i m hm hk1 hi1;rcases back i m hm with ⟨rfl,rfl⟩|⟨hne,hm⟩
  ·obtain⟨p',k1,k2,_⟩:=ov _ _ hp;exact⟨hdx,p',k1,by omega⟩
  ·obtain⟨_,q,b,c⟩:=h.oZ _ _ hm hk1 hi1;obtain⟨q',k1,k2,_⟩:=ov _ _ b;exact⟨hds _ _ hm hk1 hi1 hne,q',k1,by omega⟩
 ·intro i m hm hk1;rcases back i m hm with ⟨rfl,rfl⟩|⟨_,hm⟩
  ·exact hdeep _ n hx hk
  ·exact hdeep _ _ hm hk1
 ·simp only;rw[xP h.jo.jv (o:=n) (by simp only[hi]; exact hx)]
  exact h.ae
def cr.made{t:Tree}{cE:Int->Nat}{d kind:Int}{p:Node}(h:cr t cE 0)(hp:find t.ae d=some p)(hpk:p.kind=2)(hk:kind=1\/kind=2)(hdp:cE d<12)(hl:t.ae.length<200)(hn:t.next<1099511627776) :
  cr ⟨eu t.ae ⟨t.next,kind,1,[],[],if kind==2 then d else 0⟩,t.next+1,t.aj⟩ (fun i=>if i=t.next then cE d+1 else cE i) t.next:=by
 have jf:find t.ae t.next=none:=by
  cases hz:find t.ae t.next with
  |none=>rfl
  |some m=>have:=h.num _ _ hz; omega
 have hnx:2<=t.next:=by
  obtain⟨r,r1,_⟩:=h.root;have:=(h.num _ _ r1).2; omega
 generalize hn':Node.mk t.next kind 1 [] [] (if kind==2 then d else 0)=n'
 have i1:n'.an=t.next:=by rw[<-hn']
 have i2:n'.kind=kind:=by rw[<-hn']
 have i3:n'.cL=1:=by rw[<-hn']
 have i4:n'.data=[]:=by rw[<-hn']
 have i5:n'.aM=[]:=by rw[<-hn']
 have i6:n'.up=if kind==2 then d else 0:=by rw[<-hn']
 have hff:∀i,find (eu t.ae n') i=if i=t.next then some n' else find t.ae i:=by
  intro i;rw[fJ h.jo.jv n' i,i1]
 have ov:∀j m,find t.ae j=some m->find (eu t.ae n') j=some m/\j≠t.next:=by
  intro j m hm;have:=(h.num _ _ hm).2;rw[hff,aH (by omega)]
  exact⟨hm,by omega⟩
 have back:∀j m',find (eu t.ae n') j=some m'->(j=t.next/\m'=n')\/(j≠t.next/\find t.ae j=some m'):=by
  intro j m' hm;rw[hff] at hm;split at hm
  ·rename_i he; injection hm with hm; exact .inl ⟨he,hm.symm⟩
  ·rename_i he; exact .inr ⟨he,hm⟩
 have hcn:∀i,ue (eu t.ae n') i=ue t.ae i:=by
  intro i;have:=u9 h.jo.jv n' i;simp only[aX,i1,jf,iW,Node.zero,i5,zz] at this;omega
 have hc0:ue t.ae t.next=0:=by
  rcases gL (ue t.ae t.next) with h0|h0
  ·exact h0
  ·obtain⟨m,e,e1,e2,e3⟩:=uq.1 h0;obtain⟨_,_,_,_,k,k1,_⟩:=h.Au _ _ e ((fC h.jo.jv).2 ⟨e1,rfl⟩) e2;rw[e3,jf] at k1; cases k1
 refine⟨h.jo.with (n:=n') (by rw[i5]; exact List.Pairwise.nil) _ _,?_,?_,?_,?_,?_,?_,?_,?_,?_,?_,?_,?_,?_,?_,h.aj⟩
 ·obtain⟨r,r1,r2⟩:=h.root;exact⟨r,(ov _ _ r1).1,r2⟩
 ·intro i m hm;simp only;rcases back i m hm with ⟨rfl,rfl⟩|⟨_,hm⟩
  ·omega
  ·have:=h.num _ _ hm; omega
 ·intro i m hm;rcases back i m hm with ⟨rfl,rfl⟩|⟨_,hm⟩
  ·rw[i2]; exact hk
  ·exact h.kind _ _ hm
 ·intro i m hm hk1;rcases back i m hm with ⟨rfl,rfl⟩|⟨_,hm⟩
  ·rw[i2] at hk1;exact⟨i5,by rw[i6,hk1]; rfl,by rw[i4]; simp⟩
  ·exact h.file _ _ hm hk1
 ·intro i m hm hk1;rcases back i m hm with ⟨rfl,rfl⟩|⟨_,hm⟩
  ·exact i4
  ·exact h.dir _ _ hm hk1
 ·intro i m e hm hem;rcases back i m hm with ⟨rfl,rfl⟩|⟨_,hm⟩
  ·rw[i5] at hem; cases hem
  ·obtain⟨a1,a2,a3,a4,q,a5,a6⟩:=h.Au _ _ e hm hem;exact⟨a1,a2,a3,a4,q,(ov _ _ a5).1,a6⟩
 ·intro i m hm;rcases back i m hm with ⟨rfl,rfl⟩|⟨_,hm⟩
  ·rw[i5]; exact⟨List.Pairwise.nil,by simp⟩
  ·exact h.x9 _ _ hm
 ·intro i m hm;simp only[hcn];rcases back i m hm with ⟨rfl,rfl⟩|⟨hne,hm⟩
  ·rw[hc0,i3]; simp
  ·rw[aH hne];have:=h.cL _ _ hm;rw[aH (by have:=(h.num _ _ hm).1; omega)] at this
   exact this
 ·intro i m hm hk1 hi1;rcases back i m hm with ⟨rfl,rfl⟩|⟨_,hm⟩
  ·exact i3
  ·exact h.one _ _ hm hk1 hi1
 ·show(if (1:Int)=t.next then cE d+1 else cE 1)=0
  rw[aH (by omega)]; exact h.zB
 ·intro i m hm hk1 hi1
  show(if i=t.next then cE d+1 else cE i)=(if m.up=t.next then cE d+1 else cE m.up)+1/\_
  rcases back i m hm with ⟨rfl,rfl⟩|⟨hne,hm⟩
  ·rw[i2] at hk1;have hu:m.up=d:=by rw[i6,hk1]; rfl
   rw[hu,bc rfl,aH (ov _ _ hp).2];exact⟨rfl,p,(ov _ _ hp).1,hpk⟩
  ·obtain⟨a,q,b,c⟩:=h.oZ _ _ hm hk1 hi1;rw[aH hne,aH (ov _ _ b).2];exact⟨a,q,(ov _ _ b).1,c⟩
 ·intro i m hm hk1
  show(if i=t.next then cE d+1 else cE i)<=12/\((if i=t.next then cE d+1 else cE i)=12->_)
  rcases back i m hm with ⟨rfl,rfl⟩|⟨hne,hm⟩
  ·rw[bc rfl]; exact⟨by omega,fun _=>i5⟩
  ·rw[aH hne]; exact h.deep _ _ hm hk1
 ·have:=FW t.ae n';simp only; omega
 ·simp only; omega
def cover:∀(k:Nat)(l:List Nat),(∀j,j<k->j∈l)->k<=l.length
 |0,_,_=>cV _
 |k+1,l,h=>by
  have hk:=h k (by omega)
  have:=cover k (l.erase k) (fun j hj=>(List.mem_erase_of_ne (by omega)).2 (h j (by omega)))
  rw[List.length_erase_of_mem hk] at this;have:=List.length_pos_of_mem hk;omega
def cr.amU{t:Tree}{cE:Int->Nat}{x:Int}(h:cr t cE x):∀(m:Nat)(i:Int)(n:Node),find t.ae i=some n->n.kind=2->cE i=m->∀k,k<=m->∃j p,find t.ae j=some p/\cE j=k:=by
 intro m;induction m with
 |zero=>intro i n hi _ hm k hk; exact⟨i,n,hi,by omega⟩
 |succ m ih =>
  intro i n hi hk2 hm k hk;rcases Nat.eq_or_lt_of_le hk with rfl|cz
  ·exact⟨i,n,hi,hm⟩
  ·have h1:i≠1:=fun hh=>by subst hh; have:=h.zB; omega
   obtain⟨a,p,b,c⟩:=h.oZ _ _ hi hk2 h1;exact ih _ p b c (by omega) k (by omega)
def cr.C2{t:Tree}{cE:Int->Nat}{x:Int}(h:cr t cE x){i:Int}{n:Node}(hi:find t.ae i=some n)(hk:n.kind=2):cE i<t.ae.length:=by
 have:=cover (cE i+1) (t.ae.map fun n=>cE n.an) (fun j hj=>by
  obtain⟨a,p,h1,h2⟩:=h.amU _ _ _ hi hk rfl j (by omega)
  rw[dj];exact⟨p,(bP h1).1,by rw[(bP h1).2,h2]⟩)
 rw[fH] at this;omega
def cr.Kv{t:Tree}{cE:Int->Nat}{x:Int}(h:cr t cE x):∀(m:Nat)(i:Int)(d:Nat)(n:Node),find t.ae i=some n->n.kind=2->cE i<=m->vM t.ae m i d=d+cE i:=by
 intro m;induction m with
 |zero=>intro i d n _ _ hd; simp only[vM]; omega
 |succ m ih =>
  intro i d n hi hk hd;simp only[vM];split
  ·rename_i h1; subst h1; have:=h.zB; omega
  ·rename_i h1;obtain⟨a,p,b,c⟩:=h.oZ _ _ hi hk h1;have hu:Pj t.ae i=n.up:=by simp[Pj,hi]
   rw[hu,ih _ _ p b c (by omega)]
   omega
def cr.pq{t:Tree}{cE:Int->Nat}{x:Int}(h:cr t cE x){i:Int}{n:Node}(hi:find t.ae i=some n)(hk:n.kind=2):o7 t.ae i=cE i:=by
 have:=h.Kv 201 i 0 n hi hk (by have:=(h.deep _ _ hi hk).1; omega)
 simp only[o7,this]; omega
def cr.xZ{t:Tree}{cE:Int->Nat}{x:Int}(h:cr t cE x):∀(m:Nat)(i:Int)(out:List Int)(n:Node),find t.ae i=some n->n.kind=2->cE i<=m->(ua t.ae m i out).length=out.length+cE i:=by
 intro m;induction m with
 |zero=>intro i out n _ _ hd; simp only[ua]; omega
 |succ m ih =>
  intro i out n hi hk hd;simp only[ua]
  by_cases h1:i=1
  ·subst h1; have:=h.zB; simp; omega
  ·obtain⟨a,p,b,c⟩:=h.oZ _ _ hi hk h1;simp only[mJ,ne_eq,h1,oW,↓reduceIte,aX,hi,bZ,c8,bh,hk,ak,eH,af];rw[ih _ _ p b c (by omega)]
   simp only[aD,au,av];omega
def cr.ub{t:Tree}{cE:Int->Nat}{x:Int}(h:cr t cE x){i:Int}{n:Node}(hi:find t.ae i=some n)(hk:n.kind=2):(uj t.ae i).length=cE i+1:=by
 have:=h.xZ t.ae.length i [i] n hi hk (by have:=h.C2 hi hk; omega)
 simp only[uj,this,au,av]; omega
def cr.V5{t:Tree}{cE:Int->Nat}{x:Int}(_:cr t cE x){i:Int}{n:Node}(hi:find t.ae i=some n):Pj t.ae i=n.up:=by simp[Pj,hi]
def cr.CP{t:Tree}{cE:Int->Nat}{x:Int}(h:cr t cE x)(of:Int):∀(m:Nat)(i:Int)(n:Node),find t.ae i=some n->n.kind=2->cE i<m->mw t.ae of m i=mw t.ae of (cE i+1) i:=by
 intro m;induction m with
 |zero=>intro i n _ _ hd; omega
 |succ m ih =>
  intro i n hi hk hd
  by_cases h1:i=1
  ·subst h1; simp only[mw]; split<;>rfl
  ·obtain⟨a,p,b,c⟩:=h.oZ _ _ hi hk h1;simp only[mw,h1,↓reduceIte,h.V5 hi];rw[ih _ p b c (by omega),a]
def cr.iY{t:Tree}(i:Int):gR t.ae i i=true:=by simp[gR,mw]
def cr.nK{t:Tree}{of:Int}(h1:of≠1):gR t.ae 1 of=false:=by
 simp only[gR,mw];rw[aH (fun hh=>h1 hh.symm)]
 rfl
def cr.oX{t:Tree}{cE:Int->Nat}{x:Int}(h:cr t cE x){of i:Int}{n:Node}(hi:find t.ae i=some n)(hk:n.kind=2)(h1:i≠1)(ho:i≠of):gR t.ae i of=gR t.ae n.up of:=by
 obtain⟨a,p,b,c⟩:=h.oZ _ _ hi hk h1;have d1:=h.C2 b c;have d2:=h.C2 hi hk;simp only[gR];rw[h.CP of _ _ p b c (by omega)]
 rw[h.CP of _ _ n hi hk (by omega)]
 conv=>lhs; rw[mw]
 simp only[ho,h1,↓reduceIte,h.V5 hi];rw[a]
def cr.AD{t:Tree}{cE:Int->Nat}{x:Int}(h:cr t cE x){of:Int}:∀(m:Nat)(i:Int)(n:Node),find t.ae i=some n->n.kind=2->cE i=m->gR t.ae i of=true->cE of<=cE i:=by
 intro m;induction m with
 |zero =>
  intro i n hi hk hm hb
  by_cases h1:i=1
  ·by_cases h2:of=1
   ·subst h1; subst h2; exact aC _
   ·subst h1; rw[cr.nK h2] at hb; cases hb
  ·obtain⟨a,_⟩:=h.oZ _ _ hi hk h1;omega
 |succ m ih =>
  intro i n hi hk hm hb;have h1:i≠1:=fun hh=>by subst hh; have:=h.zB; omega
  obtain⟨a,p,b,c⟩:=h.oZ _ _ hi hk h1
  by_cases ho:i=of
  ·subst ho; exact aC _
  ·rw[h.oX hi hk h1 ho] at hb;have:=ih _ p b c (by omega) hb
   omega
def zY{α:Type}[DecidableEq α]:∀(l k:List α),l.Nodup->(∀x,x∈l->x∈k)->l.length<=k.length
 | [],_,_,_=>cV _
 |a::l,k,h,hs=>by
  have ha:=hs a aV;obtain⟨h1,h2⟩:=nH.1 h;have:=zY l (k.erase a) h2 (fun x hx=>(List.mem_erase_of_ne (by rintro rfl; exact h1 hx)).2 (hs x (aO _ hx)))
  rw[List.length_erase_of_mem ha] at this;have:=List.length_pos_of_mem ha;simp only[au];omega
def cr.few{t:Tree}{cE:Int->Nat}{x:Int}(h:cr t cE x){i:Int}{n:Node}(hi:find t.ae i=some n):n.aM.length<=64:=(h.x9 _ _ hi).2
def Qf(i:Int):∀(ns:List Node),(∀n,n∈ns->n.aM.length<=64)->ue ns i<=64*ns.length
 | [],_=>cV _
 |n::ns,h=>by
  have h1:=Qf i ns (fun m hm=>h m (aO _ hm))
  have h2:pP n.aM i<=n.aM.length:=mH;have h3:=h n aV;rw[u6,au];omega
def cr.Qg{t:Tree}{cE:Int->Nat}{x:Int}(h:cr t cE x)(i:Int):ue t.ae i<=12800:=by
 have:=Qf i t.ae (fun n hn=>h.few ((fC h.jo.jv).2 ⟨hn,rfl⟩))
 have:=h.ae;omega
def cr.wV{t:Tree}{cE:Int->Nat}{x:Int}(h:cr t cE x){i:Int}{n:Node}(hi:find t.ae i=some n){e:fp}(he:e∈n.aM):e.an≠i:=by
 intro hh;obtain⟨_,_,h1,_,m,hm,hu⟩:=h.Au _ _ e hi he;rw[hh,hi] at hm; cases hm
 have hk:n.kind=2:=by
  rcases h.kind _ _ hi with hk|hk
  ·rw[(h.file _ _ hi hk).1] at he; cases he
  ·exact hk
 have:=(h.oZ _ _ hi hk (by omega)).1
 rw[hu hk] at this;omega
def HM{t:Tree}{an:Int}{s:Bytes}(h:(nW t an s != 0)=false):∃d,find t.ae an=some d/\d.kind=2/\eh s=true/\eG d.aM s=none/\d.aM.length<64/\o7 t.ae an<12/\t.aj<1099511627776:=by
 have h0:nW t an s=0:=by simpa using h
 unfold nW at h0;split at h0
 ·rename_i h1; exact absurd h0 h1
 ·rename_i h1;obtain⟨d,d1,d2,d3⟩:=yH (show(gr t.ae an).2=0 by omega)
  rw[d3] at h0;split at h0
  ·cases h0
  ·rename_i h2;split at h0
   ·cases h0
   ·rename_i h3;split at h0
    ·cases h0
    ·rename_i h4;simp only[Dc,(bP d1).2,cN,bg,lu] at h4;refine⟨d,d1,d2,by simpa using h2,by simpa using h3,by omega,by omega,by omega⟩
def cr.cw{t:Tree}{cE:Int->Nat}{x:Int}(h:cr t cE x)(hn:t.next<1099511627776):kR (t.next+1)=t.next+1:=gn (by
 obtain⟨r,r1,_⟩:=h.root;have:=h.num _ _ r1; omega) (by omega)
def PY{t:Tree}{cE:Int->Nat}(h:cr t cE 0)(an:Int)(s:Bytes)(kind:Int)(hs:eh s=true->Nm s):∃dep',cr (rl t an s kind).1 dep' 0:=by
 unfold rl;split
 ·exact⟨cE,h⟩
 ·rename_i hk;split
  ·exact⟨cE,h⟩
  ·rename_i he;split
   ·exact⟨cE,h⟩
   ·rename_i hb;obtain⟨d,d1,d2,d3,d4,d5,d6,d7⟩:=HM (by simpa using he)
    simp only[cN,bg,lu] at hb;have hn:t.next<1099511627776:=by omega
    rw[h.pq d1 d2] at d6
    have hk':kind=1\/kind=2:=by
     simp only[bn,mJ,ne_eq,not_and,Decidable.not_not] at hk
     by_cases h1:kind=1
     ·exact .inl h1
     ·exact .inr (hk h1)
    have hm:=h.made d1 d2 hk' d6 (by omega) hn
    rw[h.cw hn];have cz:=(h.num _ _ d1).2;have hne:an≠t.next:=by omega
    refine⟨_,hm.mR (d:=an) (n:=d) (m:=⟨t.next,kind,1,[],[],if kind==2 then an else 0⟩) ?_ d2 d4 (by simpa using d5) (hs d3) ?_ ?_ ?_ ?_ d7⟩
    ·simp only; rw[fJ h.jo.jv]; simp only[hne,↓reduceIte]; exact d1
    ·simp only; rw[fJ h.jo.jv]; simp only[↓reduceIte]
    ·have:=(h.num _ _ d1).1; omega
    ·intro h2;simp only at h2;simp[h2]
    ·simp only[hne,↓reduceIte]; exact d6
def YC{t:Tree}{cE:Int->Nat}(h:cr t cE 0)(an to:Int)(s:Bytes)(hs:eh s=true->Nm s):cr (Cd t an to s).1 cE 0:=by
 unfold Cd;split
 ·exact h
 ·rename_i hf;split
  ·exact h
  ·rename_i hk;split
   ·exact h
   ·rename_i he;obtain⟨d,d1,d2,d3,d4,d5,d6,d7⟩:=HM (by simpa using he)
    rw[h.pq d1 d2] at d6;cases hi:find t.ae an with
    |none=>simp[hi] at hf
    |some n =>
     simp only[aX,hi,bh] at hk ⊢
     have hk1:n.kind=1:=by
      rcases h.kind _ _ hi with h1|h1
      ·exact h1
      ·simp[h1] at hk
     have hlk:=h.cL _ _ hi;rw[aH (by have:=(h.num _ _ hi).1; omega)] at hlk
     have hcl:=h.Qg an;have hw:kR (n.cL+1)=n.cL+1:=gn (by omega) (by omega)
     rw[hw];obtain⟨f1,f2,f3⟩:=h.file _ _ hi hk1
     have hg:=h.QA (n':={ n with cL:=n.cL+1 }) (x':=an) hi hk1 (bP hi).2 hk1 rfl rfl f3 (fun i h0=>by
      simp only;rw[aH (show i≠0 by omega)]
      split<;>omega)
     have hne:to≠an:=fun hh=>by subst hh; rw[hi] at d1; cases d1; omega
     refine hg.mR (d:=to) (n:=d) (m:={ n with cL:=n.cL+1 }) ?_ d2 d4 (by simpa using d5) (hs d3) ?_ ?_ ?_ d6 d7
     ·simp only; rw[fJ h.jo.jv]; simp only[h.an hi,hne,↓reduceIte]; exact d1
     ·simp only; rw[fJ h.jo.jv]; simp only[h.an hi,↓reduceIte]
     ·intro hh; subst hh;obtain⟨r,r1,r2,_⟩:=h.root;rw[hi] at r1; cases r1; omega
     ·intro h2; simp only at h2; omega
def cr.unnamed{t:Tree}{cE:Int->Nat}{k:Int}{n:Node}(h:cr t cE k)(hk:find t.ae k=some n)(he:n.aM=[])(h1:k≠1):cr ⟨dY t.ae k,t.next,t.aj⟩ cE 0:=by
 unfold dY;simp only[aX,hk,bh];have hl:=h.cL _ _ hk;simp only[↓reduceIte] at hl;split
 ·rename_i h2;have:=h.one _ _ hk (by simpa using h2) h1
  exact h.drop (.inl rfl) hk he h1 (by omega)
 ·rename_i h2
  have hk1:n.kind=1:=by
   rcases h.kind _ _ hk with h1|h1
   ·exact h1
   ·simp[h1] at h2
  have hcl:=h.Qg k;have hw:kR (n.cL-1)=n.cL-1:=gn (by omega) (by omega)
  rw[hw];obtain⟨f1,f2,f3⟩:=h.file _ _ hk hk1
  exact h.QA (n':={ n with cL:=n.cL-1 }) (x':=0) hk hk1 (bP hk).2 hk1 rfl rfl f3 (fun i h0=>by
   simp only;rw[aH (show i≠0 by omega)]
   split<;>omega)
def cr.un{t:Tree}{cE:Int->Nat}(h:cr t cE 0){d:Int}{n m:Node}{s:Bytes}{e:fp}(hd:find t.ae d=some n)(he:eG n.aM s=some e)(hm:find t.ae e.an=some m)(hm0:m.aM=[]):cr ⟨dY (cK t.ae d s) e.an,t.next,t.aj⟩ cE 0:=by
 have hem:=(gu he).1;have hl:=h.left hd he;refine hl.unnamed (n:=m) ?_ hm0 (h.Au _ _ e hd hem).2.2.1;simp only;rw[iZ h.jo.jv hd,aH (h.wV hd hem)];exact hm
def M5{t:Tree}{cE:Int->Nat}(h:cr t cE 0)(an:Int)(s:Bytes):cr (Aj t an s).1 cE 0:=by
 unfold Aj;split
 ·exact h
 ·rename_i hl;obtain⟨d,e,d1,d2,d3,d4,d5⟩:=look_ok (by simpa using hl)
  rw[d5];split
  ·exact h
  ·rename_i h0;obtain⟨_,_,_,_,m,hm,_⟩:=h.Au _ _ e d1 (gu d4).1;simp only[aX,hm,bh,bg] at h0;exact h.un d1 d4 hm (cj.1 (by omega))
def Vn{t:Tree}{cE:Int->Nat}(h:cr t cE 0)(an:Int)(data:Bytes):cr (rf t an data).1 cE 0:=by
 unfold rf;split
 ·exact h
 ·rename_i hf;split
  ·exact h
  ·rename_i hk;split
   ·exact h
   ·rename_i hd;cases hi:find t.ae an with
    |none=>simp[hi] at hf
    |some n =>
     simp only[aX,hi,bh] at hk ⊢
     have hk1:n.kind=1:=by
      rcases h.kind _ _ hi with h1|h1
      ·exact h1
      ·simp[h1] at hk
     simp only[bg] at hd
     exact h.QA (n':={ n with data:=data }) (x':=0) hi hk1 (bP hi).2 hk1 rfl rfl (by simp only; omega) (fun i h0=>by
      simp only;rw[aH (show i≠0 by omega)]
      split<;>omega)
def EU{t:Tree}{cE:Int->Nat}(h:cr t cE 0)(an:Int):cr (jO t an).1 cE 0:=by
 unfold jO;split
 ·exact h
 ·rename_i hf;split
  ·exact h
  ·rename_i hk;split
   ·exact h
   ·rename_i hd;cases hi:find t.ae an with
    |none=>simp[hi] at hf
    |some n =>
     simp only[aX,hi,bh] at hk hd
     have hk1:n.kind=1:=by
      rcases h.kind _ _ hi with h1|h1
      ·exact h1
      ·simp[h1] at hk
     simp only[bg] at hd;have hl:=h.cL _ _ hi;rw[aH (by have:=(h.num _ _ hi).1; omega)] at hl
     refine h.drop (.inr rfl) hi (h.file _ _ hi hk1).1 ?_ (by omega)
     intro hh; subst hh;obtain⟨r,r1,r2,_⟩:=h.root;rw[hi] at r1; cases r1; omega
def LD:∀ {a b:List Node},mG a->mG b->(∀m,m∈a↔m∈b)->a=b
 | [],[],_,_,_=>rfl
 | [],y::b,_,_,h=>by have:=(h y).2 aV; cases this
 |x::a,[],_,_,h=>by have:=(h x).1 aV; cases this
 |x::a,y::b,ha,hb,h=>by
  obtain⟨a1,a2⟩:=cv.1 ha;obtain⟨b1,b2⟩:=cv.1 hb
  have hxy:x=y:=by
   rcases bC.1 ((h x).1 aV) with h1|h1
   ·exact h1
   ·rcases bC.1 ((h y).2 aV) with h2|h2
    ·exact h2.symm
    ·have:=b1 x h1; have:=a1 y h2; omega
  subst hxy;rw[LD a2 b2 (fun m=>?_)]
  constructor
  ·intro hm;rcases bC.1 ((h m).1 (aO _ hm)) with h1|h1
   ·subst h1; have:=a1 m hm; omega
   ·exact h1
  ·intro hm;rcases bC.1 ((h m).2 (aO _ hm)) with h1|h1
   ·subst h1; have:=b1 m hm; omega
   ·exact h1
def QE{a b:List Node}(ha:mG a)(hb:mG b)(h:∀i,find a i=find b i):a=b :=
 LD ha hb fun m=>by
  constructor
  ·intro hm;have:=(fC ha).2 ⟨hm,rfl⟩;rw[h] at this;exact(bP this).1
  ·intro hm;have:=(fC hb).2 ⟨hm,rfl⟩;rw[<-h] at this;exact(bP this).1
def vW{ae:List Node}(h:mG ae)(k:Int):mG (dY ae k):=by
 unfold dY;split
 ·exact qX h _
 ·exact kf h _
def ly{ae:List Node}(h:mG ae)(k:Int)(s:Bytes):mG (cK ae k s):=kf h _
def Fm(n:Node):Option Node:=if n.kind==2 then none else some { n with cL:=kR (n.cL-1) }
def pJ{ae:List Node}(h:mG ae){k:Int}{n:Node}(hk:find ae k=some n)(i:Int):find (dY ae k) i=if i=k then Fm n else find ae i:=by
 unfold dY Fm;simp only[aX,hk,bh];split
 ·rw[ll h]
 ·rw[fJ h];simp only[(bP hk).2]
def Kx(l:List fp)(a b:Bytes):ga (ga l a) b=ga (ga l b) a:=by
 simp only[ga,List.filter_filter];congr 1;funext e;rw[Bool.and_comm]
def V2{ae:List Node}(h:mG ae){f to y:Int}{s nm:Bytes}{dF dT m:Node}(hF:find ae f=some dF)(hT:find ae to=some dT)(hy:find ae y=some m)(h1:y≠f)(h2:y≠to) :
  dY (cK (cK ae f s) to nm) y=cK (dY (cK ae to nm) y) f s:=by
 have a1:=ly h f s;have a2:=ly h to nm;have a3:=ly a1 to nm;have a4:=vW a2 y;have f1:=iZ h hF (s:=s);have f2:=iZ h hT (s:=nm);have hy1:find (cK ae to nm) y=some m:=by rw[f2,aH h2]; exact hy
 have f4:=pJ a2 hy1;obtain⟨dT',hT'⟩:∃dT',find (cK ae f s) to=some dT':=by rw[f1]; split<;>simp_all
 have f3:=iZ a1 hT' (s:=nm);have hy3:find (cK (cK ae f s) to nm) y=some m:=by rw[f3,aH h2,f1,aH h1]; exact hy
 have f5:=pJ a3 hy3;obtain⟨dF',hF'⟩:∃dF',find (dY (cK ae to nm) y) f=some dF':=by rw[f4,aH (fun hh=>h1 hh.symm),f2]; split<;>simp_all
 have f6:=iZ a4 hF' (s:=s);refine QE (vW a3 y) (ly a4 f s) (fun i=>?_)
 rw[f5,f6,f4,f3];rw[f1] at hT';rw[f4,aH (fun hh=>h1 hh.symm),f2] at hF'
 by_cases i1:i=y
 ·subst i1; simp[h1]
 ·simp only[i1,↓reduceIte]
  by_cases i2:i=to
  ·subst i2;simp only[↓reduceIte]
   by_cases i3:i=f
   ·subst i3;simp only[↓reduceIte] at hT' hF' ⊢;injection hT' with hT'; injection hF' with hF'
    rw[<-hT',<-hF'];rw[hF] at hT; cases hT;simp only[Kx]
   ·simp only[i3,↓reduceIte] at hT' ⊢;rw[f2]; simp only[↓reduceIte];rw[hT] at hT'; injection hT' with hT'; rw[hT']
  ·simp only[i2,↓reduceIte];rw[f1,f2]
   by_cases i3:i=f
   ·subst i3;simp only[↓reduceIte,i2] at hF' ⊢;rw[hF] at hF'; injection hF' with hF'; rw[hF']
   ·simp only[i3,i2,↓reduceIte]
def HL{l:List fp}{s:Bytes}{e:fp}(h:eG l s=some e):(ga l s).length<l.length:=by
 obtain⟨h1,h2⟩:=gu h;refine Nat.lt_of_le_of_ne (bU _ _) fun hh=>?_
 have:=List.length_filter_eq_length_iff.1 hh e h1;simp[h2] at this
def cr.acf{t:Tree}{cE dep':Int->Nat}{f to:Int}{s nm:Bytes}{dF dT m:Node}{e:fp}(h:cr t cE 0)(hF:find t.ae f=some dF)(he:eG dF.aM s=some e)(hT:find t.ae to=some dT)(hTk:dT.kind=2)(hfree:eG dT.aM nm=none)(hroom:to≠f->dT.aM.length<64)(hnm:Nm nm)
  (hm:find t.ae e.an=some m) (hne:e.an≠to) (hd12:dep' to<12) (hck:t.aj<1099511627776)
  (hcase:(m.kind=1/\dep'=cE)\/(m.kind=2/\dep' 1=0/\(∀i n,find t.ae i=some n->n.kind=2->i≠1->i≠e.an->dep' i=dep' n.up+1)/\dep' e.an=dep' to+1 /\
   ∀i n,find t.ae i=some n->n.kind=2->dep' i<=12/\(dep' i=12->n.aM=[]))):cr (jQ t f s to nm e.an 0) dep' 0:=by
 have hem:=(gu he).1;have hnf:e.an≠f:=h.wV hF hem;have h1:e.an≠1:=(h.Au _ _ e hF hem).2.2.1;have hl:=h.left hF he;have fl:=iZ h.jo.jv hF (s:=s);have hmx:find (cK t.ae f s) e.an=some m:=by rw[fl,aH hnf]; exact hm
 obtain⟨d1,g1,g2,g3,g4⟩:∃d1,find (cK t.ae f s) to=some d1/\d1.kind=2/\eG d1.aM nm=none/\d1.aM.length<64:=by
  rw[fl];split
  ·rename_i hh;subst hh;rw[hF] at hT; cases hT;exact⟨_,rfl,hTk,pr hfree,bz (HL he) (h.few hF)⟩
  ·rename_i hh;exact⟨dT,hT,hTk,hfree,hroom hh⟩
 have hnode:aX t.ae e.an=m:=by simp[aX,hm]
 unfold jQ;simp only[hnode,ak,af,↓reduceIte];rcases hcase with ⟨hk,rfl⟩|⟨hk,c1,c2,c3,c4⟩
 ·rw[aH (by simp[hk])]
  exact hl.mR g1 g2 g3 g4 hnm hmx h1 (fun h2=>by omega) hd12 hck
 ·rw[bc (by simp[hk])]
  have hs:=hl.amI (dep':=dep') hmx hk h1 g1 g2 c1 (fun i n hi hk2 hi1 hie=>by
    simp only[fl] at hi;split at hi
    ·rename_i hh; subst hh;cases hi;exact c2 i dF hF hk2 hi1 hie
    ·exact c2 _ _ hi hk2 hi1 hie) c3 (fun i n hi hk2=>by
    simp only[fl] at hi;split at hi
    ·rename_i hh; subst hh;cases hi;obtain⟨q1,q2⟩:=c4 i dF hF hk2;exact⟨q1,fun h12=>by simp[q2 h12,ga]⟩
    ·exact c4 _ _ hi hk2)
  have hmi:m.an=e.an:=(bP hm).2;have fw:=fJ (ly h.jo.jv f s) { m with up:=to }
  refine hs.mR (n:=d1) (m:={ m with up:=to }) ?_ g2 g3 g4 hnm ?_ h1 (fun _=>rfl) hd12 hck
  ·simp only;rw[fw];rw[aH (show ¬to=m.an from fun hh=>hne (by omega))]
   exact g1
  ·simp only;rw[fw];simp only[hmi,↓reduceIte]
def uM(ae:List Node)(at' d:Int)(n:Node):Int :=
 if decide ((0:Int)<n.aM.length) then kR (kR (kR (at'+o7 ae n.an)-d)+1) else kR (kR (at'+o7 ae n.an)-d)
def Ia(ae:List Node)(an at' d:Int)(n:Node)(most:Int):most<=rU ae an at' d n most/\((n.kind==2&&gR ae n.an an)=true->uM ae at' d n<=rU ae an at' d n most):=by
 have e:rU ae an at' d n most=if n.kind==2&&gR ae n.an an then (if uM ae at' d n>most then uM ae at' d n else most) else most:=rfl
 rw[e];split
 ·split
  ·exact⟨by omega,fun _=>cp _⟩
  ·exact⟨cp _,fun _=>by omega⟩
 ·rename_i h; exact⟨cp _,fun hh=>absurd hh h⟩
def AW(ae:List Node)(an at' d:Int):∀(l:List Node)(most:Int),most<=vP ae an at' d l most/\∀n,n∈l->(n.kind==2&&gR ae n.an an)=true->uM ae at' d n<=vP ae an at' d l most
 | [],most=>⟨cp _,fun n hn=>by cases hn⟩
 |m::l,most=>by
  obtain⟨h1,h2⟩:=AW ae an at' d l (rU ae an at' d m most);obtain⟨h3,h4⟩:=Ia ae an at' d m most;rw[vP];refine⟨by omega,fun n hn hb=>?_⟩
  rcases bC.1 hn with rfl|hn
  ·have:=h4 hb; omega
  ·exact h2 n hn hb
def qR(ae:List Node)(cE:Int->Nat)(x to:Int):Int->Nat:=fun i=>if gR ae i x then cE i+(cE to+1)-cE x else cE i
def cr.E1{t:Tree}{cE:Int->Nat}(h:cr t cE 0){x to i:Int}{m n:Node}(hx:find t.ae x=some m)(hk:m.kind=2)(hd:cE to<12)(hi:find t.ae i=some n)(hk2:n.kind=2)(hb:gR t.ae i x=true) :
  uM t.ae (((cE to+1:Nat):Int)) (cE x) n=((qR t.ae cE x to i+(if 0<n.aM.length then 1 else 0):Nat):Int):=by
 have d1:=(h.deep _ _ hi hk2).1;have d2:=(h.deep _ _ hx hk).1;have d3:=h.AD _ i n hi hk2 rfl hb;have hdn:o7 t.ae n.an=cE i:=by rw[h.an hi]; exact h.pq hi hk2
 have w1:kR ((((cE to+1:Nat):Int))+(cE i:Nat))=(((cE to+1:Nat):Int))+(cE i:Nat):=gn (by omega) (by omega)
 have w2:kR ((((cE to+1:Nat):Int))+(cE i:Nat)-(cE x:Nat))=(((cE to+1:Nat):Int))+(cE i:Nat)-(cE x:Nat):=gn (by omega) (by omega)
 have w3:kR ((((cE to+1:Nat):Int))+(cE i:Nat)-(cE x:Nat)+1)=(((cE to+1:Nat):Int))+(cE i:Nat)-(cE x:Nat)+1:=gn (by omega) (by omega)
 unfold uM qR;rw[bc hb,hdn,w1,w2,w3]
 by_cases hl:0<n.aM.length
 ·rw[bc (by simpa using hl),bc hl]; omega
 ·rw[aH (by simpa using hl),aH hl]; omega
def cr.agz{t:Tree}{cE:Int->Nat}(h:cr t cE 0){x to:Int}{m dT:Node}(hx:find t.ae x=some m)(hk:m.kind=2)(hx1:x≠1)(hT:find t.ae to=some dT)(hTk:dT.kind=2)(hnb:gR t.ae to x=false)(hd:cE to<12)
  (hh:BF t.ae x (((cE to+1:Nat):Int))<=12) :
  qR t.ae cE x to 1=0/\(∀i n,find t.ae i=some n->n.kind=2->i≠1->i≠x->qR t.ae cE x to i=qR t.ae cE x to n.up+1)/\qR t.ae cE x to x=qR t.ae cE x to to+1 /\
   (∀i n,find t.ae i=some n->n.kind=2->qR t.ae cE x to i<=12/\(qR t.ae cE x to i=12->n.aM=[]))/\qR t.ae cE x to to=cE to:=by
 have hto:qR t.ae cE x to to=cE to:=by unfold qR; rw[aH (by simp[hnb])]
 refine⟨?_,?_,?_,?_,hto⟩
 ·unfold qR;rw[aH (by simp[cr.nK hx1])]
  exact h.zB
 ·intro i n hi hk2 hi1 hix;obtain⟨a,p,b,c⟩:=h.oZ _ _ hi hk2 hi1;have hb:=h.oX hi hk2 hi1 hix;unfold qR;rw[hb];split
  ·rename_i hb2;have:=h.AD _ _ p b c rfl hb2;omega
  ·exact a
 ·rw[hto];unfold qR;rw[bc (cr.iY x)];omega
 ·intro i n hi hk2
  by_cases hb:gR t.ae i x=true
  ·have h1:=(AW t.ae x (((cE to+1:Nat):Int)) (o7 t.ae x) t.ae 0).2 n (bP hi).1 (by rw[hk2,h.an hi,hb]; rfl)
   rw[h.pq hx hk,h.E1 hx hk hd hi hk2 hb] at h1;unfold BF at hh;rw[h.pq hx hk] at hh;have h2:=Int.le_trans h1 hh;split at h2
   ·rename_i hl;exact⟨by omega,fun h12=>by omega⟩
   ·rename_i hl;exact⟨by omega,fun _=>cj.1 (by omega)⟩
  ·have:qR t.ae cE x to i=cE i:=by unfold qR; rw[aH hb]
   rw[this];exact h.deep _ _ hi hk2
def qx{l:List fp}{s r:Bytes}(h:r≠s):eG (ga l s) r=eG l r:=by
 unfold eG ga;rw[List.find?_filter];congr 1;funext e
 by_cases he:e.name=r
 ·have hn:e.name≠s:=he▸h;simp[he,h]
 ·simp[he]
structure sx(t:Tree)(cE:Int->Nat)(f:Int)(s:Bytes)(to:Int)(nm:Bytes)(dF dT m:Node)(e:fp):Prop where
 hF:find t.ae f=some dF
 kF:dF.kind=2
 he:eG dF.aM s=some e
 hT:find t.ae to=some dT
 kT:dT.kind=2
 hn:eh nm=true
 hm:find t.ae e.an=some m
 ne:e.an≠to
 nf:e.an≠f
 loop:m.kind=2->gR t.ae to e.an=false
 deep:cE to<12
 high:m.kind=2->BF t.ae e.an (((cE to+1:Nat):Int))<=12
 aj:t.aj<1099511627776
 room:eG dT.aM nm=none->to≠f->dT.aM.length<64
 IV:∀e2,eG dT.aM nm=some e2->e2.an≠e.an/\∃y,find t.ae e2.an=some y/\y.aM=[]/\(m.kind=2↔y.kind=2)/\e2.an≠f/\e2.an≠to
def cr.mv{t:Tree}{cE:Int->Nat}(h:cr t cE 0){f:Int}{s:Bytes}{to:Int}{nm:Bytes}{dF dT m:Node}{e:fp}(hs:eh nm=true->Nm nm)(k:sx t cE f s to nm dF dT m e):∃dep',cr (jQ t f s to nm e.an (dB dT.aM nm)) dep' 0:=by
 have hem:=(gu k.he).1;have hx1:=(h.Au _ _ e k.hF hem).2.2.1
 have hcase:∃dep':Int->Nat,dep' to<12/\((m.kind=1/\dep'=cE)\/(m.kind=2/\dep' 1=0/\(∀i n,find t.ae i=some n->n.kind=2->i≠1->i≠e.an->dep' i=dep' n.up+1)/\dep' e.an=dep' to+1 /\
   ∀i n,find t.ae i=some n->n.kind=2->dep' i<=12/\(dep' i=12->n.aM=[]))):=by
  rcases h.kind _ _ k.hm with hk|hk
  ·exact⟨cE,k.deep,.inl ⟨hk,rfl⟩⟩
  ·obtain⟨c1,c2,c3,c4,c5⟩:=h.agz k.hm hk hx1 k.hT k.kT (k.loop hk) k.deep (k.high hk);exact⟨qR t.ae cE e.an to,by rw[c5]; exact k.deep,.inr ⟨hk,c1,c2,c3,c4⟩⟩
 obtain⟨dep',hd12,hcase⟩:=hcase;refine⟨dep',?_⟩;cases hfr:eG dT.aM nm with
 |none =>
  have hu:dB dT.aM nm=0:=by simp[dB,hfr]
  rw[hu];exact h.acf k.hF k.he k.hT k.kT hfr (k.room hfr) (hs k.hn) k.hm k.ne hd12 k.aj hcase
 |some e2 =>
  have hu:dB dT.aM nm=e2.an:=by simp[dB,hfr]
  rw[hu];obtain⟨q1,y,q2,q3,q4,q5,q6⟩:=k.IV e2 hfr;have h1:=h.un k.hT hfr q2 q3;have a2:=ly h.jo.jv to nm;have f2:=iZ h.jo.jv k.hT (s:=nm);have hy1:find (cK t.ae to nm) e2.an=some y:=by rw[f2,aH q6]; exact q2
  have f4:∀i,find (dY (cK t.ae to nm) e2.an) i=if i=e2.an then Fm y else if i=to then some { dT with aM:=ga dT.aM nm } else find t.ae i:=by
   intro i;rw[pJ a2 hy1,f2]
  have hnn:aX (dY (cK t.ae to nm) e2.an) e.an=aX t.ae e.an:=by
   simp only[aX];rw[f4,aH (fun hh=>q1 hh.symm),aH k.ne]
  have hy0:=(h.num _ _ q2).1
  have hmv:jQ t f s to nm e.an e2.an=jQ ⟨dY (cK t.ae to nm) e2.an,t.next,t.aj⟩ f s to nm e.an 0:=by
   unfold jQ;simp only[hnn];rw[V2 h.jo.jv k.hF k.hT q2 q5 q6];have e1:(e2.an != 0)=true:=by simp; omega
   simp only[e1,ak,af,↓reduceIte]
  rw[hmv]
  have hsn:to=f->s≠nm:=fun hh hsn=>by
   subst hh; subst hsn;have:=k.hF; rw[k.hT] at this; cases this;have:=k.he; rw[hfr] at this; cases this;exact q1 rfl
  obtain⟨dF',g1,g2⟩:∃dF',find (dY (cK t.ae to nm) e2.an) f=some dF'/\eG dF'.aM s=some e:=by
   rw[f4,aH (fun hh=>q5 hh.symm)]
   split
   ·rename_i hh;refine⟨_,rfl,?_⟩;rw[qx (hsn hh.symm)];subst hh;have:=k.hF; rw[k.hT] at this; cases this;exact k.he
   ·exact⟨dF,k.hF,k.he⟩
  have back:∀i n,find (dY (cK t.ae to nm) e2.an) i=some n->n.kind=2->∃n0,find t.ae i=some n0/\n0.kind=2/\n0.up=n.up/\(n0.aM=[]->n.aM=[]):=by
   intro i n hi hk;rw[f4] at hi;split at hi
   ·unfold Fm at hi;split at hi
    ·cases hi
    ·rename_i hh;cases hi;simp only at hk;simp[hk] at hh
   ·split at hi
    ·rename_i hh; subst hh;cases hi;exact⟨dT,k.hT,hk,rfl,fun h0=>by simp[h0,ga]⟩
    ·exact⟨n,hi,hk,rfl,fun h0=>h0⟩
  refine h1.acf (dep':=dep') g1 g2 (dT:={ dT with aM:=ga dT.aM nm }) ?_ k.kT (rR _ _) (fun _=>bz (HL hfr) (h.few k.hT)) (hs k.hn) (m:=m) ?_ k.ne hd12 k.aj ?_
  ·simp only; rw[f4,aH (fun hh=>q6 hh.symm),bc rfl]
  ·simp only; rw[f4,aH (fun hh=>q1 hh.symm),aH k.ne]; exact k.hm
  ·rcases hcase with hc|⟨hk,c1,c2,c3,c4⟩
   ·exact .inl hc
   ·refine .inr ⟨hk,c1,?_,c3,?_⟩
    ·intro i n hi hk2 hi1 hie;obtain⟨n0,b1,b2,b3,_⟩:=back i n hi hk2;rw[<-b3]; exact c2 i n0 b1 b2 hi1 hie
    ·intro i n hi hk2;obtain⟨n0,b1,b2,_,b4⟩:=back i n hi hk2;exact⟨(c4 i n0 b1 b2).1,fun h12=>b4 ((c4 i n0 b1 b2).2 h12)⟩
def cr.zero{t:Tree}{cE:Int->Nat}{x:Int}(h:cr t cE x):find t.ae 0=none:=by
 cases hz:find t.ae 0 with
 |none=>rfl
 |some m=>have:=h.num _ _ hz; omega
def Fu{t:Tree}{cE:Int->Nat}(h:cr t cE 0)(f:Int)(s:Bytes)(to:Int)(nm:Bytes) :
  ((wE t f s to nm).1=t/\(wE t f s to nm).2.1=0/\(wE t f s to nm).2.2≠0) \/
  (wE t f s to nm=(t,0,0)/\∃dF dT e e2,find t.ae f=some dF/\dF.kind=2/\eh s=true/\eG dF.aM s=some e/\dX t.ae f s=(e.an,0)/\find t.ae to=some dT/\dT.kind=2/\eh nm=true/\eG dT.aM nm=some e2/\e2.an=e.an) \/
  ∃dF dT m e,sx t cE f s to nm dF dT m e/\eh s=true/\dX t.ae f s=(e.an,0)/\wE t f s to nm=(jQ t f s to nm e.an (dB dT.aM nm),dB dT.aM nm,0):=by
 unfold wE;split
 ·rename_i c1; exact .inl ⟨rfl,rfl,by simpa using c1⟩
 rename_i c1;split
 ·rename_i c2; exact .inl ⟨rfl,rfl,by simpa using c2⟩
 rename_i c2;split
 ·exact .inl ⟨rfl,rfl,by simp⟩
 rename_i c3;obtain⟨dF,e,e1,e2,e3,e4,e5⟩:=look_ok (by simpa using c1)
 obtain⟨dT,g1,g2,g3⟩:=yH (show(gr t.ae to).2=0 by simpa using c2)
 have hem:=(gu e4).1;obtain⟨_,_,x1,_,m,hm,hup⟩:=h.Au _ _ e e1 hem;have hnode:aX t.ae e.an=m:=by simp[aX,hm]
 simp only[e5,g3,hnode];split
 ·rename_i c4;right; left;refine⟨rfl,dF,dT,e,?_⟩;have c4':dB dT.aM nm=e.an:=by simpa using c4
  cases hfr:eG dT.aM nm with
  |none=>simp only[dB,hfr] at c4'; have:=(h.num _ _ hm).1; omega
  |some e2'=>simp only[dB,hfr] at c4'; exact⟨e2',e1,e2,e3,e4,rfl,g1,g2,by simpa using c3,rfl,c4'⟩
 rename_i c4;split
 ·exact .inl ⟨rfl,rfl,by simp⟩
 rename_i c5;split
 ·rename_i c6; exact .inl ⟨rfl,rfl,by simpa using c6⟩
 rename_i c6;split
 ·exact .inl ⟨rfl,rfl,by simp⟩
 rename_i c7;right; right;have hdt:=h.pq g1 g2;simp only[manyN,hdt,cN,bn,eM,bg,lu,not_and,mJ] at c7;obtain⟨r1,r2,r3,r4⟩:=c7
 have hw:kR (((cE to:Nat):Int)+1)=((cE to+1:Nat):Int):=by
  have:=(h.deep _ _ g1 g2).1;rw[show(((cE to:Nat):Int)+1)=((cE to+1:Nat):Int) by omega]
  exact gn (by omega) (by omega)
 rw[hw] at r3;have hnf:=h.wV e1 hem
 have hne:e.an≠to:=fun hh=>by
  rw[hh,g1] at hm; cases hm;simp only[g2,iX,c9] at c5;rw[hh,cr.iY] at c5;exact c5 rfl
 refine⟨dF,dT,m,e,⟨e1,e2,e4,g1,g2,by simpa using c3,hm,hne,hnf,?_,by omega,?_,by omega,?_,?_⟩,e3,rfl,rfl⟩
 ·intro hk;simpa[hk] using c5
 ·intro hk;have:=r3 hk; omega
 ·intro hfr hne;have hu:dB dT.aM nm=0:=by simp[dB,hfr]
  have:=r1 ⟨hu,hne⟩;omega
 ·intro e2' hfr;have hu:dB dT.aM nm=e2'.an:=by simp[dB,hfr]
  rw[hu] at c4 c6;obtain⟨_,_,_,_,y,hy,_⟩:=h.Au _ _ e2' g1 (gu hfr).1;have hny:aX t.ae e2'.an=y:=by simp[aX,hy]
  have hto:=h.wV g1 (gu hfr).1;simp only[uK,hy,bZ,c8,af,↓reduceIte,hny,mJ,ne_eq,Decidable.not_not] at c6;split at c6
  ·cases c6
  ·rename_i k1;split at c6
   ·cases c6
   ·rename_i k2;split at c6
    ·cases c6
    ·rename_i k3;have hy0:y.aM=[]:=cj.1 (by simpa using k3)
     refine⟨by simpa using c4,y,hy,hy0,?_,?_,hto⟩
     ·simp at k1 k2;constructor
      ·exact k1
      ·intro hy2;rcases h.kind _ _ hm with hk|hk
       ·exact absurd hy2 (k2 (by omega))
       ·exact hk
     ·intro hh;rw[hh,e1] at hy; cases hy;rw[hy0] at hem; cases hem
def Zu{t:Tree}{cE:Int->Nat}(h:cr t cE 0)(f:Int)(s:Bytes)(to:Int)(nm:Bytes)(hs:eh nm=true->Nm nm):∃dep',cr (wE t f s to nm).1 dep' 0:=by
 rcases Fu h f s to nm with ⟨h1,_⟩|⟨h1,_⟩|⟨dF,dT,m,e,k,_,_,hk⟩
 ·rw[h1]; exact⟨cE,h⟩
 ·rw[h1]; exact⟨cE,h⟩
 ·rw[hk]; exact h.mv hs k
def UM:cr wC (fun _=>0) 0:=by
 have hf:∀i n,find wC.ae i=some n->i=1/\n=⟨1,2,0,[],[],1⟩:=by
  intro i n hi;obtain⟨h1,h2⟩:=bP hi;simp[wC] at h1;subst h1;exact⟨h2.symm,rfl⟩
 refine⟨⟨?_,?_⟩,⟨_,rfl,rfl,rfl⟩,?_,?_,?_,?_,?_,?_,?_,?_,rfl,?_,?_,by simp[wC],by simp[wC],by simp[wC]⟩
 ·simp[wC,mG]
 ·intro n hn; simp[wC] at hn; subst hn; exact List.Pairwise.nil
 ·intro i n hi; obtain⟨rfl,rfl⟩:=hf i n hi; simp[wC]
 ·intro i n hi; obtain⟨rfl,rfl⟩:=hf i n hi; simp
 ·intro i n hi; obtain⟨rfl,rfl⟩:=hf i n hi; simp
 ·intro i n hi; obtain⟨rfl,rfl⟩:=hf i n hi; simp
 ·intro i n e hi he; obtain⟨rfl,rfl⟩:=hf i n hi; cases he
 ·intro i n hi; obtain⟨rfl,rfl⟩:=hf i n hi; exact⟨List.Pairwise.nil,by simp⟩
 ·intro i n hi; obtain⟨rfl,rfl⟩:=hf i n hi; simp[wC,ue,pP]
 ·intro i n hi _ h1; exact absurd (hf i n hi).1 h1
 ·intro i n hi _ h1; exact absurd (hf i n hi).1 h1
 ·intro i n hi; obtain⟨rfl,rfl⟩:=hf i n hi; simp
section
attribute [local irreducible] eV fZ je gK eo kr ar aU cA bH
def uX:∀(d:Bytes),bytesOf (d.map pU)=some d
 | []=>rfl
 |b::d=>by
  rw[aP]
  show bH (bytesOf (d.map pU)) (fun l=>some (UInt8.ofNat ((b.toNat:Int)).toNat::l))=some (b::d)
  rw[uX d,bV];simp
def c99(a b:Bytes):ar bN 99 [cR a,cR b] []=some (.bool (a==b),[]):=by
 refine az ?_;simp only[akI,E99,uX,EN,seval]
def k99 a b:=cP (c99 a b)
def aql(x y:fp):decide (x=y)=(x.name==y.name&&(x.an==y.an&&(x.aj==y.aj&&true))):=by
 cases x; cases y;simp only[fp.mk.injEq,gq];rw[eD];simp
def Qr(x y:fp):ko [.s,.i,.i] (fm x) (fm y)=some (decide (x=y)):=by
 rw[aql];simp only[fm,ko,mc,bV,↓reduceIte]
def PZ(x:fp):(fm x).all ag.iP=true:=rfl
def anU(x:Node):(aI x).all ag.iP=true:=rfl
def YF{a b:List fp}(ha:a.length<=100000){k:List K}{R:Bool->Option (ag×aG)}
  (hx:∀e,kr (ar bN) [.tmp 4] 0 k ⟨.exit 0,e,[]⟩=R true) (hr:kr (ar bN) [.tmp 4] 0 k ⟨.ret,[(4,.bool false)],[]⟩=R false) :
  ∀(l m pre pre':List fp),a=pre++l->b=pre'++m->pre.length=pre'.length->l.length=m.length->eV (ar bN) [.tmp 4] 0 k (.loop [0,1,12,13] XN) [(0,ic a),(1,ic b),(12,aF a.length),(13,aF pre.length)] []=R (decide (l=m)):=by
 intro l;induction l with
 |nil =>
  intro m pre pre' h h' hp hl;have hm:m=[]:=cj.1 hl.symm;subst hm;rw[bt];simp only[F1,gU h,EN,seval];exact hx _
 |cons n r ih =>
  intro m pre pre' h h' hp hl;cases m with
  |nil=>cases hl
  |cons n' m =>
  rw[bt];have dQ:pre.length+1<=100000:=by rw[h] at ha; simp at ha; omega
  have hw:=vY pre n;have hi:=ih m (pre++[n]) (pre'++[n']) (by rw[h]; simp) (by rw[h']; simp) (by simp[hp]) (by simpa using hl)
  have ha2:b[pre.length]?=some n':=by rw[hp]; exact fc h'
  have hdc:decide (n::r=n'::m)=(decide (n=n')&&decide (r=m)):=by
   rw[eD]; simp
  rw[hdc];simp only[aD,au,av] at hi;simp only[F1,gd h,fc h,ha2,tkE,shE,Qr,PZ,EN,seval];refine bp (fun hb=>?_) (fun hb=>?_)
  ·have hb':decide (n=n')=false:=by simpa using hb
   simp only[F1,hb',dw,EN,seval];exact hr
  ·have hb':decide (n=n')=true:=by simpa using hb
   simp only[F1,hb',c9,hw,EN,seval];exact hi
def aji(a b:List fp)(ha:a.length<=100000):ar bN 100 [ic a,ic b] []=some (.bool (decide (a=b)),[]):=by
 refine az ?_;simp only[aaI,F1,EN,seval];refine bp (fun hb=>?_) (fun hb=>?_)
 ·have:decide (a=b)=false:=by
   simp at hb ⊢;rintro rfl; exact hb rfl
  simp only[F1,this,EN,seval]
 ·simp only[F1,EN,seval];exact YF (R:=fun z=>some (.bool z,[])) ha (fun e=>by simp only[F1,EN,seval]) (by simp only[F1,EN,seval]) a b [] [] rfl rfl rfl (by simp at hb; omega)
def aqQ a b ha:=cP (aji a b ha)
def ach(x y:Node):decide (x=y)=(x.an==y.an&&(x.kind==y.kind&&(x.cL==y.cL&&(x.up==y.up&&(x.data==y.data&&decide (x.aM=y.aM)))))):=by
 cases x; cases y;simp only[Node.mk.injEq];rw[eD];simp only[bg,bn,eM];constructor
 ·rintro⟨h1,h2,h3,h4,h5,h6⟩; exact⟨h1,h2,h3,h6,h4,h5⟩
 ·rintro⟨h1,h2,h3,h6,h4,h5⟩; exact⟨h1,h2,h3,h4,h5,h6⟩
def c98(x y:Node)(hx:x.aM.length<=100000):ar bN 98 [.agg (aI x),.agg (aI y)] []=some (.bool (decide (x=y)),[]):=by
 rw[ach];refine az ?_;simp only[akH,E98,bG,aI,EN,seval]
 repeat' ((first|apply bp|apply bR|apply dE)<;>intro hb<;>simp only[hb,EN,E98,k99,aqQ,hx,seval])
 all_goals simp_all only[pE,↓reduceIte,reduceCtorEq,ak]
def k98 x y hx:=cP (c98 x y hx)
def YG{a b:List Node}(ha:a.length<=100000)(he:∀n,n∈a->n.aM.length<=100000){k:List K}{R:Bool->Option (ag×aG)}
  (hx:∀e,kr (ar bN) [.tmp 6] 0 k ⟨.exit 0,e,[]⟩=R true) (hr:∀M,kr (ar bN) [.tmp 6] 0 k ⟨.ret,[(6,.bool false)],M⟩=R false) :
  ∀(l m pre pre':List Node),a=pre++l->b=pre'++m->pre.length=pre'.length->l.length=m.length->eV (ar bN) [.tmp 6] 0 k (.loop [1,2,15,16,17] XO) [(1,aY b),(2,.func 98 []),(15,aY a),(16,aF a.length),(17,aF pre.length)] []=R (decide (l=m)):=by
 intro l;induction l with
 |nil =>
  intro m pre pre' h h' hp hl;have hm:m=[]:=cj.1 hl.symm;subst hm;rw[bt];simp only[F2,gU h,EN,seval];exact hx _
 |cons n r ih =>
  intro m pre pre' h h' hp hl;cases m with
  |nil=>cases hl
  |cons n' m =>
  rw[bt];have dQ:pre.length+1<=100000:=by rw[h] at ha; simp at ha; omega
  have hw:=vY pre n;have hi:=ih m (pre++[n]) (pre'++[n']) (by rw[h]; simp) (by rw[h']; simp) (by simp[hp]) (by simpa using hl)
  have ha2:b[pre.length]?=some n':=by rw[hp]; exact fc h'
  have hen:=he n (by rw[h]; simp)
  have hdc:decide (n::r=n'::m)=(decide (n=n')&&decide (r=m)):=by
   rw[eD]; simp
  have hfl:List.flatMap ag.mM (aI n)=[]:=rfl;have hfl':List.flatMap ag.mM (aI n')=[]:=rfl;rw[hdc];simp only[aD,au,av] at hi;simp only[F2,gd h,fc h,ha2,tkN,shN,anU,k98,hen,hfl,hfl',EN,seval];refine bp (fun hb=>?_) (fun hb=>?_)
  ·have hb':decide (n=n')=false:=by simpa using hb
   simp only[F2,hb',dw,EN,seval];exact hr _
  ·have hb':decide (n=n')=true:=by simpa using hb
   simp only[F2,hb',c9,hw,EN,seval];exact hi
def aob(a b:List Node)(ha:a.length<=100000)(he:∀n,n∈a->n.aM.length<=100000):ar bN 101 [aY a,aY b,.func 98 []] []=some (.bool (decide (a=b)),[]):=by
 refine az ?_;simp only[aaJ,F2,EN,seval];refine bp (fun hb=>?_) (fun hb=>?_)
 ·have:decide (a=b)=false:=by
   simp at hb ⊢;rintro rfl; exact hb rfl
  simp only[F2,this,EN,seval]
 ·simp only[F2,EN,seval];exact YG (R:=fun z=>some (.bool z,[])) ha he (fun e=>by simp only[F2,EN,seval]) (fun M=>by simp only[F2,EN,seval]) a b [] [] rfl rfl rfl (by simp at hb; omega)
def aqR a b ha he:=cP (aob a b ha he)
def amT(x y:Tree):decide (x=y)=(x.next==y.next&&(x.aj==y.aj&&decide (x.ae=y.ae))):=by
 cases x; cases y;simp only[Tree.mk.injEq];rw[eD];simp only[bg,bn,eM];constructor
 ·rintro⟨h1,h2,h3⟩; exact⟨h2,h3,h1⟩
 ·rintro⟨h2,h3,h1⟩; exact⟨h1,h2,h3⟩
def c41(a b:Tree)(ha:Small a):ar bN 41 [bq a,bq b] []=some (.bool (decide (a=b)),[]):=by
 rw[amT];have h1:=ha.ae;have h2:=ha.aM;refine az ?_;simp only[akp,E41,bq,aJ,EN,seval]
 repeat' ((first|apply bp|apply bR|apply dE)<;>intro hb<;>simp only[hb,EN,E41,aqR _ _ h1 h2,seval])
 all_goals simp_all only[pE,↓reduceIte,reduceCtorEq,ak]
def cr.jf{t:Tree}{cE:Int->Nat}{x:Int}(h:cr t cE x):∀m,m∈t.ae->m.an<t.next:=fun m hm=>(h.num _ _ ((fC h.jo.jv).2 ⟨hm,rfl⟩)).2
end
def cr.D5{t:Tree}{cE:Int->Nat}{x:Int}(h:cr t cE x){i:Int}{n:Node}(hi:find t.ae i=some n)(hk:n.kind=2):rJ t.ae i=cE i:=by
 simp only[rJ,h.ub hi hk]; omega
def cr.Pk{t:Tree}{cE:Int->Nat}{x:Int}(h:cr t cE x)(of:Int):∀(m:Nat)(i:Int)(out:List Int)(n:Node),find t.ae i=some n->n.kind=2->cE i<=m->out.contains i=true->(ua t.ae m i out).contains of=(out.contains of||mw t.ae of (m+1) i):=by
 intro m;induction m with
 |zero =>
  intro i out n hi hk hd ho;simp only[ua,mw]
  by_cases h1:i=of
  ·subst h1; rw[ho]; rfl
  ·simp[h1]
 |succ m ih =>
  intro i out n hi hk hd ho;simp only[ua];rw[mw]
  by_cases h1:i=1
  ·by_cases h2:i=of
   ·subst h2; simp[h1] at ho ⊢; exact ho
   ·simp[h1,h2];intro h3; exact absurd (h1.trans h3) h2
  ·obtain⟨a,p,b,c⟩:=h.oZ _ _ hi hk h1;simp only[mJ,ne_eq,h1,oW,↓reduceIte,aX,hi,bZ,c8,bh,hk,ak,eH,af];rw[ih _ _ p b c (by omega) (by simp),h.V5 hi]
   by_cases h2:i=of
   ·subst h2;have:(out++[n.up]).contains i=true:=by simp at ho ⊢; exact .inl ho
    rw[this,ho]; simp
   ·rw[aH h2]
    by_cases h3:n.up=of
    ·have:mw t.ae of (m+1) n.up=true:=by simp[mw,h3]
     rw[this]; simp
    ·have:(out++[n.up]).contains of=out.contains of:=by
      simp;intro hh; exact absurd hh.symm h3
     rw[this]
def cr.yt{t:Tree}{cE:Int->Nat}{x:Int}(h:cr t cE x)(of:Int){i:Int}{n:Node}(hi:find t.ae i=some n)(hk:n.kind=2):(uj t.ae i).contains of=gR t.ae i of:=by
 have:=h.Pk of t.ae.length i [i] n hi hk (by have:=h.C2 hi hk; omega) (by simp)
 simp only[uj,this,gR]
 by_cases h2:i=of
 ·subst h2; simp[mw]
 ·have:([i]:List Int).contains of=false:=by simp; exact fun hh=>h2 hh.symm
  rw[this]; rfl
def cr.under{t:Tree}{cE:Int->Nat}(h:cr t cE 0){to:Int}{nm:Bytes}{dT:Node}(hT:find t.ae to=some dT):(lB t.ae dT.aM nm).an=dB dT.aM nm:=by
 unfold lB dB;cases he:eG dT.aM nm with
 |none=>rfl
 |some e =>
  obtain⟨_,_,_,_,m,hm,_⟩:=h.Au _ _ e hT (gu he).1;simp[aX,hm,(bP hm).2]
def UJ{t:Tree}{cE:Int->Nat}(h:cr t cE 0)(dir:Int)(s:Bytes):oh t dir s=nW t dir s:=by
 unfold oh nW
 by_cases h0:(gr t.ae dir).2=0
 ·obtain⟨d,d1,d2,d3⟩:=yH h0
  have hf:Dc t d=(decide ((64:Int)<=d.aM.length)||(decide ((12:Int)<=rJ t.ae dir)||decide ((1099511627776:Int)<=t.aj))):=by
   unfold Dc;rw[(bP d1).2,h.pq d1 d2,h.D5 d1 d2]
  simp only[d3,hf,ak,af,↓reduceIte,ne_eq,not_true_eq_false];cases eh s<;>simp
 ·rw[bc (by simpa using h0),bc h0]
def WG{t:Tree}{cE:Int->Nat}(h:cr t cE 0)(dir:Int)(s:Bytes)(kind:Int):J3 t dir s kind=rl t dir s kind:=by
 unfold J3 rl;rw[UJ h]
def afD{t:Tree}{cE:Int->Nat}(h:cr t cE 0)(an dir:Int)(s:Bytes):lnW t an dir s=Cd t an dir s:=by
 unfold lnW Cd;rw[UJ h]
def B2{ae:List Node}{x:Int}{m:Node}(hx:find ae x=some m):j7 ae m=dY ae x:=by
 unfold j7 dY;simp only[aX,hx,bh,(bP hx).2]
def agS{t:Tree}{cE:Int->Nat}(h:cr t cE 0)(dir:Int)(s:Bytes):unW t dir s=Aj t dir s:=by
 unfold unW Aj;split
 ·rfl
 ·rename_i hl;obtain⟨d,e,d1,d2,d3,d4,d5⟩:=look_ok (by simpa using hl)
  simp only[d5];obtain⟨_,_,_,_,m,hm,_⟩:=h.Au _ _ e d1 (gu d4).1
  have hm':find (cK t.ae dir s) e.an=some m:=by
   rw[iZ h.jo.jv d1,aH (h.wV d1 (gu d4).1)]; exact hm
  have hn:aX t.ae e.an=m:=by simp[aX,hm]
  rw[hn,B2 hm']
def E2(ae:List Node)(an at' d:Int)(b:Int):∀(l:List Node)(most:Int),b<vP ae an at' d l most->b<most\/∃n,n∈l/\(n.kind==2&&gR ae n.an an)=true/\b<uM ae at' d n
 | [],most,h => .inl h
 |m::l,most,h=>by
  rw[vP] at h;rcases E2 ae an at' d b l _ h with h1|⟨n,h1,h2,h3⟩
  ·have e:rU ae an at' d m most=if m.kind==2&&gR ae m.an an then (if uM ae at' d m>most then uM ae at' d m else most) else most:=rfl
   rw[e] at h1;split at h1
   ·rename_i hb;split at h1
    ·exact .inr ⟨m,aV,hb,h1⟩
    ·exact .inl h1
   ·exact .inl h1
  ·exact .inr ⟨n,aO _ h1,h2,h3⟩
def cr.W6{t:Tree}{cE:Int->Nat}(h:cr t cE 0){x to:Int}{m:Node}(hx:find t.ae x=some m)(hk:m.kind=2)(hd:cE to<12) :
  HI t.ae x (((cE to+1:Nat):Int))=decide ((12:Int)<BF t.ae x (((cE to+1:Nat):Int))):=by
 have key:∀n,n∈t.ae->tC t.ae (((cE to+1:Nat):Int)) ((cE x:Nat):Int) x n=((n.kind==2&&gR t.ae n.an x)&&decide ((12:Int)<uM t.ae (((cE to+1:Nat):Int)) ((cE x:Nat):Int) n)):=by
  intro n hn;have hi:find t.ae n.an=some n:=(fC h.jo.jv).2 ⟨hn,rfl⟩;unfold tC
  by_cases hk2:n.kind=2
  ·rw[h.yt x hi hk2,h.ub hi hk2]
   by_cases hb:gR t.ae n.an x=true
   ·rw[h.E1 hx hk hd hi hk2 hb];have d1:=(h.deep _ _ hi hk2).1;have d2:=(h.deep _ _ hx hk).1;have d3:=h.AD _ _ n hi hk2 rfl hb;have w1:kR ((((cE to+1:Nat):Int))+((cE n.an+1:Nat):Int))=(((cE to+1:Nat):Int))+((cE n.an+1:Nat):Int):=gn (by omega) (by omega)
    have w2:kR ((((cE to+1:Nat):Int))+((cE n.an+1:Nat):Int)-1)=(((cE to+1:Nat):Int))+((cE n.an+1:Nat):Int)-1:=gn (by omega) (by omega)
    have w3:kR ((((cE to+1:Nat):Int))+((cE n.an+1:Nat):Int)-1-(cE x:Nat))=(((cE to+1:Nat):Int))+((cE n.an+1:Nat):Int)-1-(cE x:Nat):=gn (by omega) (by omega)
    rw[w1,w2,w3];unfold qR;rw[bc hb,hb];simp only[hk2,iX,c9];rw[eD];simp only[cN,bn,bg,eM];split<;>omega
   ·have:gR t.ae n.an x=false:=by simpa using hb
    simp[this]
  ·have:(n.kind==2)=false:=by simpa using hk2
   simp[this]
 have hdx:(rJ t.ae x:Int)=((cE x:Nat):Int):=by rw[h.D5 hx hk]
 unfold HI BF;rw[h.pq hx hk,hdx];rw[eD];simp only[gN,bg];constructor
 ·rintro⟨n,hn,hp⟩;rw[key n hn] at hp;simp only[bn,bg] at hp;have:=(AW t.ae x (((cE to+1:Nat):Int)) ((cE x:Nat):Int) t.ae 0).2 n hn (by simp[hp.1.1,hp.1.2])
  omega
 ·intro hh;rcases E2 t.ae x _ _ 12 t.ae 0 hh with h1|⟨n,h1,h2,h3⟩
  ·omega
  ·exact⟨n,h1,by rw[key n h1,h2]; simpa using h3⟩
def afL{t:Tree}{cE:Int->Nat}(h:cr t cE 0)(f:Int)(s:Bytes)(to:Int)(nm:Bytes):MB t f s to nm=wE t f s to nm:=by
 unfold MB wE;split
 ·rfl
 rename_i c1;split
 ·rfl
 rename_i c2;split
 ·rfl
 obtain⟨dF,e,e1,e2,e3,e4,e5⟩:=look_ok (by simpa using c1)
 obtain⟨dT,g1,g2,g3⟩:=yH (show(gr t.ae to).2=0 by simpa using c2)
 have hem:=(gu e4).1;obtain⟨_,_,x1,_,m,hm,hup⟩:=h.Au _ _ e e1 hem;have hnode:aX t.ae e.an=m:=by simp[aX,hm]
 simp only[e5,g3,hnode,h.under g1,h.yt e.an g1 g2];split
 ·rfl
 rename_i c4;split
 ·rfl
 rename_i c5;have hup':dB dT.aM nm≠e.an:=by simpa using c4
 have hnf:=h.wV e1 hem
 have hne:e.an≠to:=fun hh=>by
  rw[hh,g1] at hm; cases hm;simp only[g2,iX,c9] at c5;rw[hh,cr.iY] at c5;exact c5 rfl
 have hmany:∀there:Bool,(dB dT.aM nm==0) = !there->DA t f to dT.aM there m.kind e.an=manyN t f to dT.aM m.kind (dB dT.aM nm) e.an:=by
  intro there hth;unfold DA manyN;rw[hth,h.ub g1 g2,h.pq g1 g2]
  by_cases hd:cE to<12
  ·have hw:kR (((cE to:Nat):Int)+1)=((cE to+1:Nat):Int):=by
    rw[show(((cE to:Nat):Int)+1)=((cE to+1:Nat):Int) by omega]
    exact gn (by omega) (by omega)
   rw[hw]
   have hdd:decide ((12:Int)<((cE to+1:Nat):Int))=decide ((12:Int)<=((cE to:Nat):Int)):=by
    rw[decide_eq_decide]; omega
   rw[hdd];rcases h.kind _ _ hm with hk|hk
   ·simp[hk]
   ·rw[h.W6 hm hk hd]
  ·have h1:decide ((12:Int)<((cE to+1:Nat):Int))=true:=by rw[bg]; omega
   have h2:decide ((12:Int)<=((cE to:Nat):Int))=true:=by rw[bg]; omega
   rw[h1,h2]; simp
 cases hfr:eG dT.aM nm with
 |none =>
  have hu:dB dT.aM nm=0:=by simp[dB,hfr]
  have hm1:=hmany false (by rw[hu]; rfl)
  rw[hu] at hm1 ⊢;have hcl:uK t.ae m.kind 0=0:=by simp[uK,h.zero]
  simp only[eJ,dw,af,↓reduceIte,hcl,ak,hm1];split
  ·rfl
  ·unfold yp jQ;simp only[hnode,af,↓reduceIte,ak]
 |some e2 =>
  have hu:dB dT.aM nm=e2.an:=by simp[dB,hfr]
  obtain⟨_,_,_,_,y,hy,_⟩:=h.Au _ _ e2 g1 (gu hfr).1;have hny:aX t.ae e2.an=y:=by simp[aX,hy]
  have hto:=h.wV g1 (gu hfr).1;have hy0:=(h.num _ _ hy).1;have hm1:=hmany true (by rw[hu]; simp; omega)
  have hnu:lB t.ae dT.aM nm=y:=by simp[lB,hfr,hny]
  rw[hu] at hm1 ⊢
  have hcl:uK t.ae m.kind e2.an=zZ m y:=by
   unfold uK zZ;simp only[hy,bZ,c8,af,↓reduceIte,hny]
  rw[hnu,hcl];simp only[bZ,c9,hm1];split
  ·rfl
  rename_i c6;split
  ·rfl
  have hy00:y.aM=[]:=by
   have:zZ m y=0:=by simpa using c6
   unfold zZ at this;split at this
   ·cases this
   split at this
   ·cases this
   split at this
   ·cases this
   ·rename_i k3; exact cj.1 (by simpa using k3)
  have hnf2:e2.an≠f:=fun hh=>by
   rw[hh,e1] at hy; cases hy;rw[hy00] at hem; cases hem
  have hyl:find (cK (cK t.ae f s) to nm) e2.an=some y:=by
   have f1:=iZ h.jo.jv e1 (s:=s);obtain⟨dT',hT'⟩:∃dT',find (cK t.ae f s) to=some dT':=by rw[f1]; split<;>simp_all
   rw[iZ (ly h.jo.jv f s) hT',aH hto,f1,aH hnf2];exact hy
  have hb:(e2.an != 0)=true:=by simp; omega
  unfold yp jQ;simp only[hnode,↓reduceIte,hb,B2 hyl]
def WZ{C:eK}{f p:Nat}{x:fp}{r:ag}{M:aG}{z:Int}(hM:nth M p=some (bT [aF z]))(h:C f [.agg (fm x),b9 0] [bT [aF z]]=some (r,[bT [aF z]]))(h3:r.we=true)(h5:r.Bg (wD [p])=r) :
  aU C f [.agg (fm x),b9 p] M=some (r,M):=by
 have hids:[ag.agg (fm x),b9 p].flatMap ag.ids=[p]:=rfl;have hi:pX M [p]=[]:=by simp[pX,hM,dy.ids,ag.mM,ag.ig]
 have e0:kD M [p]=[p]:=by simp[kD,hi,j8]
 have e1:reach M [p]=[p]:=by
  have ea:j8 [] [p]=[p]:=rfl;simp only[reach,ea,e0]
 have hfl:[ag.agg (fm x),b9 p].all ag.flat=true:=rfl;unfold aU;rw[bc hfl,hids,e1];have hpk:jE M (iy [p]) [p]=some [bT [aF z]]:=by simp[jE,hM,dy.flat,dy.pL,ag.r8,ag.sZ,ag.vf,ag.EP]
 rw[hpk];simp only[bV];rw[bc e0]
 have hrn:[ag.agg (fm x),b9 p].map (ag.pL (iy [p]))=[ag.agg (fm x),b9 0]:=by
  simp[ag.pL,ag.r8,ag.sZ,iy,fm]
 rw[hrn,h];simp only[bV];rw[bc ⟨by trivial,h3,rfl⟩,h5]
 have hs:kY [p] M [p] [bT [aF z]]=M:=by
  simp only[kY,dy.pL,aP,a8,ag.r8,ag.sZ];exact uC hM
 rw[hs]
def amv(xs:List ag)(z:Int):jE [.arr 3 0 xs,bT [aF z]] (iy [0,1]) [0,1]=some [.arr 3 0 xs,bT [aF z]]:=rfl
section
attribute [local irreducible] eV fZ je gK eo kr ar aU cA bH
def apF(e:fp)(z:Int):ar bN 215 [fW e,b9 0] [bT [aF z]]=some (.bool (decide (e.aj<z)),[bT [aF z]]):=by
 refine az ?_;simp only[abD,anv,fW,fm,EN,seval]
def alq(e:fp)(z:Int)(p:Nat)(M:aG)(hM:nth M p=some (bT [aF z])):aU (ar bN) 215 [.agg (fm e),b9 p] M=some (.bool (decide (e.aj<z)),M) :=
 WZ hM (apF e z) rfl rfl
def AX(z:Int):List fp->Nat->Int
 | [],_ => -1
 |e::r,i=>if decide (e.aj<z) then (i:Int) else AX z r (i+1)
def YL{xs:List fp}{z:Int}(hn:xs.length<=100000){k:List K}{R:Int->Option (ag×aG)}
  (hx:∀e,kr (ar bN) [.tmp 4] 2 k ⟨.exit 0,e,[.arr 3 0 (xs.map fW),bT [aF z]]⟩=R (-1)) (hr:∀(i:Nat),kr (ar bN) [.tmp 4] 2 k ⟨.ret,[(4,aF i)],[.arr 3 0 (xs.map fW),bT [aF z]]⟩=R i) :
  ∀(l pre:List fp),xs=pre++l->eV (ar bN) [.tmp 4] 2 k (.loop [0,1,7,8] Mt) [(0,.cS 0 0 3 0 xs.length),(1,.func 215 [b9 1]),(7,aF xs.length),(8,aF pre.length)] [.arr 3 0 (xs.map fW),bT [aF z]]=R (AX z l pre.length):=by
 intro l;induction l with
 |nil =>
  intro pre h;rw[bt];simp only[x7,gU h,EN,seval];exact hx _
 |cons n rest ih =>
  intro pre h;rw[bt];have dQ:pre.length+1<=100000:=by rw[h] at hn; simp at hn; omega
  have hw:=vY pre n;have hi:=ih (pre++[n]) (by rw[h]; simp)
  simp only[aD,au,av] at hi;have q59:=fun e=>alq e z 1 [.arr 3 0 (xs.map fW),bT [aF z]] rfl
  have cz:((pre.length:Int)<((xs.length-0:Nat):Int))=True:=by simp only[fq,jc]; rw[h]; simp; omega
  rw[AX];simp only[x7,gd h,fc h,tkE,shE,q59,cz,EN,seval];refine bp (fun hb=>?_) (fun hb=>?_)
  ·simp only[x7,hb,EN,seval];exact hr _
  ·simp only[x7,hb,hw,af,EN,seval];exact hi
def aoK(xs:List fp)(z:Int)(hn:xs.length<=100000):ar bN 145 [.cS 0 0 3 0 xs.length,.func 215 [b9 1]] [.arr 3 0 (xs.map fW),bT [aF z]]=some (aF (AX z xs 0),[.arr 3 0 (xs.map fW),bT [aF z]]):=by
 refine az ?_;simp only[L4,x7,bK,EN,seval];exact YL (R:=fun i=>some (aF i,[.arr 3 0 (xs.map fW),bT [aF z]])) hn (fun e=>by simp only[x7,EN,seval]) (fun i=>by simp only[x7,EN,seval]) xs [] rfl
def aq7(xs:List fp)(z:Int)(hn:xs.length<=100000):aU (ar bN) 145 [.cS 0 0 3 0 xs.length,.func 215 [b9 1]] [.arr 3 0 (xs.map fW),bT [aF z]]=some (aF (AX z xs 0),[.arr 3 0 (xs.map fW),bT [aF z]]) :=
 kB (ids:=[0,1]) rfl rfl (amv ..) rfl rfl (aoK xs z hn) rfl rfl rfl rfl rfl
def kS(z:Int)(l:List fp):List fp:=l.filter fun e => !decide (e.aj<z)
def yN(z:Int)(x:fp)(l:List fp):kS z (x::l)=if decide (x.aj<z) then kS z l else x::kS z l:=by
 unfold kS;rw[eF];cases decide (x.aj<z)<;>rfl
def VO(xs:List fp)(b:Nat)(o n:fp)(h:xs[b]?=some o):(jj (xs.map fW) b (putCells (fW o) 0 (fm n)))=(xs.set b n).map fW:=by
 have:putCells (fW o) 0 (fm n)=fW n:=rfl;rw[this,gy,kN]
def agb(x:fp):(fm x).all ag.plainCell=true:=rfl
def Y2{z:Int}{N:Nat}(hN:N<=100000){k:List K}{R:List fp->Nat->Option (ag×aG)}
  (hx:∀(A G:List fp) v q,A.length+G.length=N->G≠[]->kr (ar bN) [.tmp 4] 2 k ⟨.exit 0,[(0,.cS 0 0 3 0 N),(1,.func 215 [b9 1]),(5,aF A.length),(6,v),(19,q)],[.arr 3 0 ((A++G).map fW),bT [aF z]]⟩=R A G.length) :
  ∀(T A G:List fp),A.length+G.length+T.length=N->G≠[]->eV (ar bN) [.tmp 4] 2 k (.loop [0,1,5,6] Yj) [(0,.cS 0 0 3 0 N),(1,.func 215 [b9 1]),(5,aF A.length),(6,aF ((A.length+G.length:Nat):Int))] [.arr 3 0 ((A++G++T).map fW),bT [aF z]]=R (A++kS z T) (N-(A++kS z T).length):=by
 intro T;induction T with
 |nil =>
  intro A G hl hg;have cz:(((A.length+G.length:Nat):Int)<((N-0:Nat):Int))=False:=by simp only[fq,pn]; simp at hl ⊢; omega
  have hk:kS z []=[]:=rfl;have hgl:N-(A++kS z []).length=G.length:=by rw[hk]; simp at hl ⊢; omega
  rw[hgl,hk,cZ,cZ];rw[bt];simp only[F8,cz,EN,seval];exact hx A G _ _ (by simpa using hl) hg
 |cons x T ih =>
  intro A G hl hg;simp only[au] at hl;have cz:(((A.length+G.length:Nat):Int)<((N-0:Nat):Int))=True:=vG;have hnn:((0:Int)<=((A.length+G.length:Nat):Int))=True:=vG
  have hat:(A++G++x::T)[A.length+G.length]?=some x:=by
   rw[bA (by simp)]; simp
  have hw:IntKind.i64.wrap (((A.length+G.length:Nat):Int)+1)=((A.length+G.length+1:Nat):Int):=by rw[gn (by omega) (by omega)]; omega
  have hw1:IntKind.i64.wrap ((A.length:Int)+1)=((A.length+1:Nat):Int):=by rw[gn (by omega) (by omega)]; omega
  have q59:=fun e a b M=>alq e z 1 (a :: bT [aF z]::b::M) rfl
  obtain⟨g,G',hG⟩:=ec hg;have hga:(A++G++x::T)[A.length]?=some g:=by rw[hG]; simp
  have hset:(A++G++x::T).set A.length x=(A++[x])++(G'++[x])++T:=by rw[hG]; simp
  have hlt2:((A.length:Int)<((N-0:Nat):Int))=True:=vG;have h1:=ih (A++[x]) (G'++[x]) (by rw[hG] at hl; simp at hl ⊢; omega) (by simp)
  have h2:=ih A (G++[x]) (by simp; omega) (by simp)
  have hl1:(((A++[x]).length+(G'++[x]).length:Nat):Int)=((A.length+G.length+1:Nat):Int):=by rw[hG]; simp; omega
  have hl2:((A.length+(G++[x]).length:Nat):Int)=((A.length+G.length+1:Nat):Int):=by simp; omega
  have hl3:((A++[x]).length:Int)=((A.length+1:Nat):Int):=by simp
  have e2:A++(G++[x])++T=A++G++x::T:=by simp
  have e1:A++[x]++kS z T=A++x::kS z T:=by simp
  rw[hl1,hl3,e1] at h1;rw[hl2,e2] at h2;simp only[aD,au] at h1 h2;have hput:=VO (A++G++x::T) A.length g x hga;rw[hset] at hput;rw[yN];rw[bt];simp only[F8,cz,hnn,hat,tkE,shE,PZ,q59,EN,seval];refine bp (fun hb=>?_) (fun hb=>?_)
  ·have hb':decide (x.aj<z)=false:=by simpa using hb
   simp only[F8,hb',hlt2,hga,hput,tkE,shE,agb,hw,hw1,af,EN,seval];exact h1
  ·have hb':decide (x.aj<z)=true:=by simpa using hb
   simp only[F8,hb',hw,EN,seval];exact h2
def JK:fp:=⟨[],0,0⟩
def E3(z:Int):∀(l:List fp)(i:Nat),AX z l i = -1->kS z l=l
 | [],_,_=>rfl
 |x::l,i,h=>by
  rw[AX] at h;split at h
  ·omega
  ·rename_i hx;rw[yN,aH hx,E3 z l _ h]
def E4(z:Int):∀(l:List fp)(i:Nat),AX z l i ≠ -1->∃A x T,l=A++x::T/\AX z l i=((i+A.length:Nat):Int)/\kS z l=A++kS z T
 | [],_,h=>absurd rfl h
 |x::l,i,h=>by
  rw[AX] at h ⊢;rw[yN];split
  ·rename_i hx; exact⟨[],x,l,rfl,rfl,rfl⟩
  ·rename_i hx;rw[aH hx] at h;obtain⟨A,y,T,h1,h2,h3⟩:=E4 z l (i+1) h;exact⟨x::A,y,T,by rw[h1]; rfl,by rw[h2]; simp; omega,by rw[h3]; rfl⟩
def GW(m:Nat):ag:=if m=0 then .slice .sh [] else .cS 0 0 3 0 m
def NG(A G:List fp):((A++G).map fW).take A.length++(List.replicate G.length (ag.agg [.str [],aF 0,aF 0])++((A++G).map fW).drop (A++G).length)=(A++List.replicate G.length JK).map fW:=by
 have h1:((A++G).map fW).take A.length=A.map fW:=by simp[fE]
 have h2:((A++G).map fW).drop (A++G).length=[]:=by rw[List.drop_eq_nil_iff]; simp
 rw[h1,h2];simp[gJ];exact .inr rfl
def ajv(xs:List fp)(z:Int)(hn:xs.length<=100000)(h0:xs≠[]):ar bN 213 [.cS 0 0 3 0 xs.length,.func 215 [b9 1]] [.arr 3 0 (xs.map fW),bT [aF z]] =
  some (GW (kS z xs).length,[.arr 3 0 ((kS z xs++List.replicate (xs.length-(kS z xs).length) JK).map fW),bT [aF z]]):=by
 have q89:=aq7 xs z hn;refine az ?_
 by_cases hi:AX z xs 0 = -1
 ·have hk:=E3 z xs 0 hi;have hb:(AX z xs 0 == -1)=true:=by simpa using hi
  have hl:xs.length≠0:=fun hh=>h0 (cj.1 hh)
  rw[hk];simp only[Ma,F8,q89,hb,EN,seval];simp[GW,hl]
 ·obtain⟨A,x,T,h1,h2,h3⟩:=E4 z xs 0 hi;have hb:(AX z xs 0 == -1)=false:=by simpa using hi
  simp only[aL] at h2;have dQ:xs.length=A.length+(T.length+1):=by rw[h1]; simp
  have hw:IntKind.i64.wrap ((A.length:Int)+1)=((A.length+[x].length:Nat):Int):=by rw[gn (by omega) (by omega)]; simp
  have hlp:=fun k R hx=>Y2 (z:=z) hn (k:=k) (R:=R) hx T A [x] (by simp; omega) (by simp)
  have e1:A++[x]++T=xs:=by rw[h1]; simp
  rw[e1] at hlp;rw[h2] at hb q89;rw[h3];simp only[Ma,F8,q89,hb,hw,EN,seval];refine(hlp _ (fun A' g=>some (GW A'.length,[.arr 3 0 ((A'++List.replicate g JK).map fW),bT [aF z]])) (fun A' G v q hl hg=>?_)).trans (by simp only[aD])
  have hgl:G.length≠0:=fun hh=>hg (cj.1 hh)
  have b1:(((A'.length:Nat):Int)<=(xs.length:Int))=True:=vG;have b2:(((A'.length:Nat):Int)==(xs.length:Int))=false:=by simp; omega
  have hcl:=NG A' G;have hN:(A'++G).length=xs.length:=by simp; omega
  have hd:xs.length-A'.length=G.length:=by omega
  rw[hN] at hcl;have hz0:Int.toNat ((0:Nat):Int)=0:=rfl;have hb0:((0:Int)<=((A'.length:Nat):Int))=True:=by simp
  by_cases hA:A'.length=0
  ·have b3:((0:Int)==((A'.length:Nat):Int))=true:=by simp[hA]
   simp only[F8,fF,bK,cp,b1,b2,hd,hcl,b3,hz0,hb0,EN,seval];simp[GW,hA]
  ·have b3:((0:Int)==((A'.length:Nat):Int))=false:=by simp; omega
   simp only[F8,fF,bK,cp,b1,b2,hd,hcl,b3,hz0,hb0,EN,seval];simp[GW,hA]
end
end
end Go.Proofs.YtahkjijkflobhaaGreatDoor
