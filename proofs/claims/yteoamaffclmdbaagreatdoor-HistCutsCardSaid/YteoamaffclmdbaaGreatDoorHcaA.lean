import Derived.KernelRfl
import Derived.Calls
import Derived.Laws.Sem
import Derived.Below
import Derived.Test.YteoamaffclmdbaaGreatDoorProg
import Derived.Test.YteoamaffclmdbaaGreatDoorCards
import Derived.ChangeSame
import Derived.ChangeVars
import Derived.JoinedOf
import Derived.RowKit
import Derived.RowKitTokens
import Derived.LaidLaws
import Derived.LaidHandle
import Derived.Stop.Joined
import Derived.Lib.LaidU8
import Derived.Deep.DeepHandedRow
import Derived.Deep.DeepWitnessRowRef
import Derived.ProofKit
import Derived.SizedLaws
import Derived.Carry
import Derived.OpenShut
import Derived.Deep.Slices
import Derived.Deep.Fields
import Derived.ChangeOld
import Derived.Shelf.Vars
import Derived.Lib.LaidIn
set_option linter.unusedSimpArgs false
set_option linter.unusedVariables false
set_option linter.unusedSectionVars false
set_option linter.defProp false
namespace Go
def sW{α:Type}{o:Option α}{a b:α}(h:o=some a)(e:a=b:=by kernel_rfl):o=some b:=h.trans (congrArg some e)
def aH{p:Prop}(h:p:=by omega):=h
def gh{p:Prop}(h:p:=by simp;omega):=h
def dy{p:Prop}(h:p:=by simp):=h
def fz{p:Prop}(h:p:=by kernel_rfl):=h
def jK{p:Prop}(h:p:=by grind):=h
def mi{p:Prop}(h:p:=by decide):=h
def bQ{a b:Prop}(x:a)(y:b):=And.intro x y
def dq:=@Array.getD_eq_getD_getElem?
def cj:=@Array.getElem?_append_left
def bg:=@Array.getElem?_eq_getElem
def im:=@Array.getElem?_eq_none
def fJ:=@Array.getElem?_eq_some_iff
def iI:=@Array.getElem?_map
def gU:=@Array.getElem?_modify
def fS:=@Array.getElem?_push
def fE:=@Array.getElem?_setIfInBounds_ne
def gY:=@Array.getElem?_setIfInBounds_self
def lN:=@Array.mapM_eq_mapM_toList
def jM:=@Array.replicate_succ
def jN:=@Array.replicate_zero
def fW:=@Array.size_append
def bw:=@Bool.and_eq_true
def dV:=@Bool.and_false
def jO:=@Bool.and_self
def gA:=@Bool.and_true
def cE:=@Bool.eq_iff_iff
def dW:=@Bool.false_and
def af:=@Bool.false_eq_true
def cQ:=@Bool.false_or
def ij:=@Bool.not_eq_true'
def fO:=@Bool.not_false
def dQ:=@Bool.not_true
def jP:=@Bool.or_eq_false_iff
def cW:=@Bool.or_eq_true
def fF:=@Bool.or_false
def fG:=@Bool.or_self
def er:=@Bool.or_true
def dZ:=@Bool.true_and
def dH:=@Bool.true_or
def ik:=@Eq.trans
def dL:=@Int.le_refl
def br:=@Int.lt_irrefl
def kH:=@Int.natCast_nonneg
def eL:=@Int.toNat_natCast
def oy:=@Int.toNat_of_nonneg
def jQ:=@List.Pairwise.filter
def oz:=@List.all_append
def kL:=@List.all_cons
def bM:=@List.all_eq_true
def jR:=@List.any_cons
def km:=@List.any_eq_true
def oV:=@List.any_nil
def bZ:=@List.append_assoc
def cX:=@List.append_nil
def kc:=@List.append_toArray
def mB:=@List.cons.injEq
def aI:=@List.cons_append
def jB:=@List.contains_iff_mem
def lR:=@List.countP_cons
def ny:=@List.countP_le_length
def dp:=@List.drop_eq_getElem_cons
def jm:=@List.drop_eq_nil_of_le
def iq:=@List.drop_of_length_le
def oE:=@List.drop_succ_cons
def na:=@List.drop_zero
def dB:=@List.eq_nil_of_length_eq_zero
def kU:=@List.eq_nil_or_concat
def mf:=@List.eq_of_mem_replicate
def fj:=@List.exists_cons_of_ne_nil
def cA:=@List.ext_getElem?
def jx:=@List.filter_append
def fq:=@List.filter_cons
def mC:=@List.filter_cons_of_pos
def jh:=@List.filter_eq_self
def kM:=@List.filter_nil
def fx:=@List.find?_eq_none
def mD:=@List.flatMap_eq_nil_iff
def eK:=@List.foldl_cons
def nb:=@List.foldl_nil
def lg:=@List.getD_eq_getElem?_getD
def nL:=@List.getElem?_append
def aO:=@List.getElem?_append_left
def bj:=@List.getElem?_append_right
def cS:=@List.getElem?_cons_succ
def gk:=@List.getElem?_cons_zero
def cH:=@List.getElem?_drop
def ai:=@List.getElem?_eq_getElem
def fX:=@List.getElem?_eq_none
def aj:=@List.getElem?_eq_some_iff
def aX:=@List.getElem?_map
def hZ:=@List.getElem?_modify
def bV:=@List.getElem?_of_mem
def ji:=@List.getElem?_range
def iU:=@List.getElem?_replicate
def gJ:=@List.getElem?_set
def fa:=@List.getElem?_set_ne
def eZ:=@List.getElem?_set_self
def fy:=@List.getElem?_take
def bH:=@List.getElem?_take_of_lt
def jr:=@List.getElem_mem
def kd:=@List.getElem_of_mem
def aA:=@List.length_append
def aw:=@List.length_cons
def gZ:=@List.length_drop
def dM:=@List.length_eq_zero_iff
def bT:=@List.length_filter_le
def dU:=@List.length_map
def az:=@List.length_nil
def gM:=@List.length_pos_iff
def kV:=@List.length_replicate
def cY:=@List.length_set
def cq:=@List.length_take
def aW:=@List.map_append
def cT:=@List.map_congr_left
def aE:=@List.map_cons
def jS:=@List.map_drop
def oG:=@List.map_eq_nil_iff
def gD:=@List.map_map
def aQ:=@List.map_nil
def gW:=@List.map_replicate
def gF:=@List.map_set
def eb:=@List.map_take
def bm:=@List.mem_append
def ft:=@List.mem_append_left
def iC:=@List.mem_append_right
def bI:=@List.mem_cons
def bt:=@List.mem_cons_of_mem
def bD:=@List.mem_cons_self
def ei:=@List.mem_filter
def js:=@List.mem_flatMap
def eJ:=@List.mem_map
def iz:=@List.mem_of_find?_eq_some
def aK:=@List.mem_of_getElem?
def dr:=@List.mem_of_mem_drop
def dK:=@List.mem_of_mem_take
def jF:=@List.mem_or_eq_of_mem_set
def gb:=@List.mem_range
def bS:=@List.mem_singleton
def aP:=@List.nil_append
def lh:=@List.nodup_append
def oH:=@List.nodup_cons
def lx:=@List.nodup_nil
def fu:=@List.pairwise_append
def df:=@List.pairwise_cons
def cd:=@List.pairwise_iff_getElem
def jT:=@List.pairwise_map
def pL:=@List.pairwise_singleton
def lU:=@List.prefix_refl
def lj:=@List.push_toArray
def ly:=@List.range_eq_range'
def jj:=@List.replicate_succ
def nM:=@List.replicate_succ'
def jt:=@List.set_eq_take_append_cons_drop
def cU:=@List.size_toArray
def gN:=@List.takeWhile_cons
def cB:=@List.take_add_one
def cC:=@List.take_append_drop
def eM:=@List.take_append_of_le_length
def bE:=@List.take_length
def bC:=@List.take_of_length_le
def bP:=@Nat.add_mul
def dj:=@Nat.add_sub_cancel'
def iV:=@Nat.add_sub_cancel_left
def c8:=@Nat.add_zero
def kW:=@Nat.div_lt_iff_lt_mul
def nN:=@Nat.eq_of_testBit_eq
def gX:=@Nat.eq_zero_or_pos
def ko:=@Nat.le_add_right
def fK:=@Nat.le_mul_of_pos_right
def au:=@Nat.le_refl
def iW:=@Nat.le_succ_of_le
def aY:=@Nat.le_trans
def ia:=@Nat.lt_irrefl
def bu:=@Nat.lt_of_lt_of_le
def bz:=@Nat.lt_or_ge
def iX:=@Nat.lt_trichotomy
def ir:=@Nat.min_eq_left
def nG:=@Nat.mod_eq_of_lt
def kX:=@Nat.mod_lt
def bd:=@Nat.mul_le_mul_right
def pM:=@Nat.mul_one
def gG:=@Nat.ne_of_lt
def jJ:=@Nat.not_lt_zero
def fL:=@Nat.one_mul
def lA:=@Nat.pow_lt_pow_right
def mF:=@Nat.sub_mul
def bO:=@Nat.sub_zero
def mW:=@Nat.succ_mul
def nc:=@Nat.testBit_or
def oI:=@Nat.testBit_two_pow
def aG:=@Nat.zero_add
def cL:=@Nat.zero_le
def jG:=@Nat.zero_mul
def eW:=@Ne.symm
def du:=@Option.bind_eq_some_iff
def iH:=@Option.getD_none
def bA:=@Option.getD_some
def fA:=@Option.isSome_iff_exists
def dg:=@Option.isSome_none
def bX:=@Option.isSome_some
def aV:=@Option.map_eq_some_iff
def oJ:=@Option.map_none
def eo:=@Option.map_some
def jw:=@Option.ne_none_iff_exists'
def oL:=@Option.some.inj
def fY:=@Option.some.injEq
def kI:=@Option.toList_some
def jk:=@Prod.mk.injEq
def kY:=@UInt8.lt_iff_toNat_lt
def oM:=@UInt8.lt_irrefl
def kN:=@UInt8.toNat_inj
def jU:=@and_self
def pN:=@and_true
def ke:=@beq_eq_false_iff_ne
def eG:=@beq_iff_eq
def lV:=@beq_self_eq_true
def o6:=@bne_iff_ne
def av:=@bne_self_eq_false
def iY:=@decide_eq_false
def dv:=@decide_eq_false_iff_not
def kf:=@decide_eq_true
def bh:=@decide_eq_true_eq
def fH:=@eq_iff_iff
def pZ:=@ge_iff_le
def mX:=@getElem!_pos
def aD:=@if_false
def aR:=@if_neg
def aZ:=@if_pos
def aJ:=@if_true
def iZ:=@iff_true
def o7:=@not_or
def ng:=@not_true_eq_false
def jV:=@of_decide_eq_true
end Go
namespace Go.Abs
section
open Go
inductive Tk where
 |sh|c0|own (k:Nat)
 deriving DecidableEq,Repr
inductive ag where
 |bool (b:Bool)
 |int (k:IntKind) (n:Int)
 |str (s:List UInt8)
 |slice (tk:Tk) (xs:List ag)
 |agg (cs:List ag)
 |tuple (vs:List ag)
 |ptr (id off:Nat)
 |jE (cs:List ag)
 |func (f:Nat) (caps:List ag)
 |iw (id:Nat)
 |j7 (id:Nat)
 |kj (ks vs:List ag)
 |cv (id ver sz lo hi:Nat)
 |ju (id ver i off:Nat)
 |qX (f:Nat) (fs:List ag)
 |kx (t id off:Nat)
 |raw (v:Value)
 |nF (v:Value)
 |any
 deriving Inhabited
def ag.jn:ag->Bool
 | .nF _=>true
 | .bool _ | .int .. | .str _ | .slice .. | .agg _ | .tuple _ | .ptr .. | .jE _ | .func .. | .iw _ | .j7 _ | .kj .. | .cv .. | .ju .. | .qX .. | .kx .. | .raw _ | .any=>false
abbrev aF(n:Int):ag:=.int .i64 n
abbrev gS(l:List ag):ag:=.slice .sh l
abbrev ct(n:Nat):ag:=.ptr n 0
inductive cI where
 |cells (cs:List ag)
 |tick (sz n:Nat)
 |map (ks vs:List ag)
 |nS (s:List UInt8) (pos:Nat)
 |arr (sz ver:Nat) (xs:List ag)
 |vQ
def cI.tag:cI->Nat
 | .cells _=>0
 | .tick sz _=>sz+3
 | .map _ _=>1
 | .nS _ _=>2
 | .arr sz _ _=>sz+3
 | .vQ=>3
def cI.fixed:cI->Bool
 | .tick _ _ | .arr _ _ _ | .vQ=>false
 |_=>true
def cI.loose:cI->Bool
 | .tick _ _ | .arr _ _ _=>true
 |_=>false
abbrev cu(l:List ag):cI:=.cells l
abbrev aC:=List cI
abbrev Env:=List (Nat×ag)
def bJ{α β:Type}(x:Option α)(f:α->Option β):Option β:=match x with
 |some a=>f a
 |none=>none
@[congr] theorem adN {α β:Type} {x x':Option α} {f:α->Option β} (h:x=x'):bJ x f=bJ x' f:=by rw[h]
@[simp] theorem bN {α β:Type} (a:α) (f:α->Option β):bJ (some a) f=f a:=rfl
@[simp] theorem ahl {α β:Type} (f:α->Option β):bJ none f=none:=rfl
def Bq{α:Type}(b:Bool)(x y:Option α):Option α:=match b with
 |true=>x
 |false=>y
@[congr] theorem aij {α:Type} {b b':Bool} {x y:Option α} (h:b=b'):Bq b x y=Bq b' x y:=by rw[h]
@[simp] theorem vE {α:Type} (x y:Option α):Bq true x y=x:=rfl
@[simp] theorem p8 {α:Type} (x y:Option α):Bq false x y=y:=rfl
@[simp] theorem PU {α β:Type} (b:Bool) (x y:Option α) (f:α->Option β):bJ (Bq b x y) f=Bq b (bJ x f) (bJ y f):=by cases b<;>rfl
open Classical in
noncomputable def cr{α:Type}(p:Prop)(x:Option α):Option α:=if p then x else none
@[congr] theorem adP {α:Type} {p p':Prop} {x:Option α} (h:p=p'):cr p x=cr p' x:=by rw[h]
theorem fh{α:Type}{p:Prop}{x:Option α}(h:p):cr p x=x:=aZ h
@[simp] theorem Ma {α:Type} (x:Option α):cr True x=x:=if_pos trivial
@[simp] theorem adQ {α:Type} (x:Option α):cr False x=none:=if_neg not_false
@[simp] theorem adO {α β:Type} (p:Prop) (x:Option α) (f:α->Option β):bJ (cr p x) f=cr p (bJ x f):=by
 unfold cr; split<;>rfl
def hV:Env->Nat->ag
 | [],_ => .any
 |(k,v)::e,t=>if k=t then v else hV e t
def ag.cells:ag->List ag
 | .agg cs=>cs
 |x=>[x]
def ag.je:ag->Bool
 | .agg _ | .tuple _ | .any | .nF _=>false
 | .raw v=>match v with | .agg _ | .tuple _=>false|_=>true
 |_=>true
def ag.cells?:ag->Option (List ag)
 | .agg cs=>some cs
 | .tuple _ | .any | .nF _=>none
 | .raw (.agg _)=>none
 |x=>some [x]
def ag.shut:ag->ag
 | .slice _ xs => .slice .sh xs
 |x=>x
def ag.fR:ag->ag
 | .slice _ xs => .slice .sh xs
 | .agg cs => .agg (cs.map ag.shut)
 |x=>x
def ag.plainCell:ag->Bool
 | .bool _ | .int .. | .str _=>true
 | .slice .sh _=>true
 | .raw v=>match v with | .pointer none | .nilFunc | .nilIface | .map none | .func _ ⟨[]⟩ ⟨[]⟩=>true|_=>false
 |_=>false
def ag.plain:ag->Bool
 | .agg cs=>cs.all ag.plainCell
 |x=>x.plainCell
def ag.jC(bR:Nat)(M:aC):ag->ag
 | .slice (.own k) xs=>if k<bR then .slice (.own k) xs else .slice .sh xs
 | .ptr id off=>if id<bR then .ptr id off else .any
 | .iw id=>if id<bR then .iw id else .any
 | .j7 id=>if id<bR then .j7 id else .any
 | .cv id ver sz lo hi=>if id<bR then .cv id ver sz lo hi else match M[id]? with
  |some (.arr _ v xs)=>if v=ver then .slice .sh ((xs.take hi).drop lo) else .any
  |_ => .any
 | .ju id ver i off=>if id<bR then .ju id ver i off else .any
 | .kx t id off=>if id<bR then .kx t id off else .any
 | .func _ _ | .agg _ | .tuple _ => .any
 |x=>x
def ag.jW(bR:Nat)(M:aC):ag->ag
 | .func f caps => .func f (caps.map (ag.jC bR M))
 |x=>x.jC bR M
def ag.jX(bR:Nat)(M:aC):ag->ag
 | .agg cs => .agg (cs.map (ag.jW bR M))
 |x=>x.jW bR M
def ag.mH(bR:Nat)(M:aC):ag->ag
 | .tuple vs => .tuple (vs.map (ag.jX bR M))
 |x=>x.jX bR M
def cI.back(bR:Nat)(M:aC):cI->cI
 | .cells cs => .cells (cs.map (ag.jW bR M))
 | .tick sz n => .tick sz n
 | .map ks vs => .map ks (vs.map (ag.jX bR M))
 | .nS s p => .nS s p
 | .arr sz v xs => .arr sz v xs
 | .vQ => .vQ
def iQ(bR:Nat)(M:aC):aC:=(M.take bR).map (cI.back bR M)
def wx(bR:Nat)(M:aC)(bp:Env):Env:=bp.map fun x=>(x.1,x.2.mH bR M)
def ag.kh(bR:Nat)(M:aC):ag->ag
 | .slice _ xs => .slice .sh xs
 | .iw id=>if id<bR then .iw id else match M[id]? with
  |some (.map ks vs)=>if vs.all ag.plain&&ks.all ag.plainCell then .kj ks vs else .any
  |_ => .any
 |x=>x.jW bR M
def ag.kO(bR:Nat)(M:aC):ag->ag
 | .agg cs => .agg (cs.map (ag.kh bR M))
 |x=>x.kh bR M
def ag.lC(bR:Nat)(M:aC):ag->ag
 | .tuple vs => .tuple (vs.map (ag.kO bR M))
 |x=>x.kO bR M
def ag.iG:ag->List Nat
 | .ptr id _ | .iw id | .j7 id | .cv id _ _ _ _ | .ju id _ _ _=>[id]
 | .slice (.own k) _=>[k]
 | .kx _ id _=>[id]
 |_=>[]
def ag.nD:ag->List Nat
 | .func _ caps=>caps.flatMap ag.iG
 |x=>x.iG
def ag.ids:ag->List Nat
 | .agg cs=>cs.flatMap ag.nD
 |x=>x.nD
def ag.IV:ag->Bool
 | .func _ _ | .agg _ | .tuple _=>false
 |_=>true
def ag.vw:ag->Bool
 | .func _ caps=>caps.all ag.IV
 | .agg _ | .tuple _=>false
 |_=>true
def ag.flat:ag->Bool
 | .agg cs=>cs.all ag.vw
 |x=>x.vw
def cI.flat:cI->Bool
 | .vQ=>false
 | .cells cs=>cs.all ag.vw
 | .map _ vs=>vs.all ag.flat
 |_=>true
def ag.um(ρ:Nat->Nat):ag->ag
 | .ptr id off => .ptr (ρ id) off
 | .iw id => .iw (ρ id)
 | .j7 id => .j7 (ρ id)
 | .cv id v sz lo hi => .cv (ρ id) v sz lo hi
 | .ju id v i off => .ju (ρ id) v i off
 | .slice (.own k) xs => .slice (.own (ρ k)) xs
 | .kx t id off => .kx t (ρ id) off
 |x=>x
def ag.sf(ρ:Nat->Nat):ag->ag
 | .func f caps => .func f (caps.map (ag.um ρ))
 |x=>x.um ρ
def ag.pj(ρ:Nat->Nat):ag->ag
 | .agg cs => .agg (cs.map (ag.sf ρ))
 |x=>x.sf ρ
def ag.Ap(ρ:Nat->Nat):ag->ag
 | .tuple vs => .tuple (vs.map (ag.pj ρ))
 |x=>x.pj ρ
def ag.wA:ag->Bool
 | .tuple vs=>vs.all ag.flat
 |x=>x.flat
def cI.pj(ρ:Nat->Nat):cI->cI
 | .cells cs => .cells (cs.map (ag.sf ρ))
 | .map ks vs => .map ks (vs.map (ag.pj ρ))
 |b=>b
def cI.ids:cI->List Nat
 | .cells cs=>cs.flatMap ag.nD
 | .map _ vs=>vs.flatMap ag.ids
 |_=>[]
def nth{α:Type}:List α->Nat->Option α
 | [],_=>none
 |a::_,0=>some a
 |_::l,n+1=>nth l n
def iP{α:Type}:List α->Nat->α->List α
 | [],_,_=>[]
 |_::l,0,x=>x::l
 |a::l,n+1,x=>a::iP l n x
def kb:List Nat->List Nat->List Nat
 |a,[]=>a
 |a,x::r=>kb (if a.contains x then a else a++[x]) r
def qq(M:aC):List Nat->List Nat
 | []=>[]
 |i::r=>(match nth M i with|some b=>b.ids|none=>[])++qq M r
def kC(M:aC)(acc:List Nat):List Nat:=kb acc (qq M acc)
def reach(M:aC)(l:List Nat):List Nat:=kC M (kC M (kC M (kb [] l)))
def iv:List Nat->Nat->Nat
 | [],_=>0
 |a::l,x=>if a=x then 0 else iv l x+1
def wv(ids:List Nat)(i:Nat):Nat:=(nth ids i).getD 0
def j4(M:aC)(ρ:Nat->Nat):List Nat->Option aC
 | []=>some []
 |i::r=>match nth M i with
  |some b=>if b.flat then bJ (j4 M ρ r) fun l=>some (b.pj ρ::l) else none
  |none=>none
def mb(ids:List Nat)(M:aC):List Nat->aC->aC
 |i::r,b::l=>mb ids (iP M i (b.pj (wv ids))) r l
 |_,_=>M
def ag.oY(M:aC):ag->ag
 | .cv id ver sz lo hi=>match nth M id with
  |some (.arr _ v xs)=>if v=ver then .slice .sh ((xs.take hi).drop lo) else .any
  |_ => .any
 |x=>x
def ag.ry(M:aC):ag->ag
 | .agg cs => .agg (cs.map (ag.oY M))
 |x=>x.oY M
def qz(M:aC):List Nat->aC
 | []=>M
 |i::r=>match nth M i with
  |some (.arr sz _ xs)=>qz (iP M i (.tick sz xs.length)) r
  |_=>qz M r
inductive fV where
 |tmp (t:Nat)
 |sY (v:ag)
def fV.ev(bp:Env):fV->ag
 | .tmp t=>hV bp t
 | .sY v=>v
inductive Od where
 |add|sub|mul|quo|rem|eql|neq|lss|leq|gtr|geq|shl|shr|and|or|bic
 deriving DecidableEq,Repr
inductive FK where
 |i|s|b
 deriving DecidableEq
inductive kD where
 |mv (x:fV)
 |own (sz:Nat) (x:fV)
 |pick (c a b:fV)
 |yO (cs:List ag)
 |box (x:fV)
 |build (zero:List ag) (parts:List (Nat×Nat×fV))
 |lits (sz:Nat) (parts:List fV)
 |Gb (sz:Nat) (parts:List fV)
 |mN (n:Nat) (x:fV)
 |rD (x:fV)
 |store (n:Nat) (a x:fV)
 |BF (sz p n:Nat) (a x:fV)
 |chk (x:fV)
 |bin (op:Od) (x y:fV)
 |QG (ks:List FK) (neg:Bool) (x y:fV)
 |eqB (neg:Bool) (x y:fV)
 |not (x:fV)
 |neg (x:fV)
 |conv (k:IntKind) (x:fV)
 |same (x:fV)
 |fn (f:Nat) (caps:List fV)
 |Fv (f:Nat) (firsts:List fV)
 |BC (x:fV) (lo hi:Option fV)
 |uq (sz:Nat) (x:fV) (lo hi mx:Option fV)
 |O1 (sz:Nat) (x hi:fV)
 |yx (off:Nat) (x:fV)
 |DC (off n:Nat) (x:fV)
 |DB (off:Nat) (x:fV)
 |ub (sz:Nat) (x i:fV)
 |Bb (n sz:Nat) (x i:fV)
 |Bc (x i:fV)
 |extract (x:fV) (i:Nat)
 |call (f:Nat) (args:List fV)
 |sw (f:fV) (args:List fV)
 |BV (f:fV) (args:List fV)
 |BU (f:Nat) (args:List fV)
 |lk (f:Nat) (args:List fV)
 |wy (f:Nat) (args:List fV)
 |w6 (sz:Nat) (zero:List ag) (x:fV)
 |VD (x:fV)
 |zZ (x:fV)
 |append (sz bytes:Nat) (x y:fV)
 |Bo (mx:Bool) (x y:fV)
 |b2s (x:fV)
 |mkMap
 |look (fk:FK) (zero:ag) (ok:Bool) (m k:fV)
 |gz (fk:FK) (m k v:fV)
 |PE (m:fV)
 |Qi (x:fV)
 |Gh (it:fV)
 |iface (t:Nat) (x:fV)
 |raise (x:fV)
 |mkS (zero:List ag) (n:fV)
 |PR (zero:List ag) (n:fV)
 |xQ (sz bytes:Nat) (zero:List ag) (x n:fV)
 |vT (sz bytes:Nat) (x y:fV)
 |FC (sz:Nat) (x y:fV)
 |OL (sz:Nat)
structure cV where
 dst:Option Nat
 op:kD
 guard:Option (Nat×Bool)
 grow:Bool:=false
 xv:Bool:=false
 sep:List Nat:=[]
 stop:Bool:=true
def ob(d:Nat)(o:kD):cV:=⟨some d,o,none,false,false,[],true⟩
def og(d g:Nat)(b:Bool)(o:kD):cV:=⟨some d,o,some (g,b),false,false,[],true⟩
def ox(o:kD):cV:=⟨none,o,none,false,false,[],true⟩
def kD.Rl:kD->Bool
 | .call .. | .sw .. | .BV .. | .BU .. | .lk .. | .raise _=>true
 |_=>false
inductive cz where
 |skip
 |region (ops:List cV) (draw:Bool) (live:List Nat)
 |seq (a b:cz)
 |cond (c:fV) (x y:cz)
 |block (id:Nat) (c:cz)
 |loop (live:List Nat) (c:cz)
 |nC (live:List Nat) (c:cz)
 |ry (t:Nat) (c:cz)
 |exit (id:Nat)
 |ret
inductive abC where
 |normal|exit (id:Nat)|ret|nF (v:Value)
abbrev eP:=Nat->List ag->aC->Option (ag×aC)
def strLt:List UInt8->List UInt8->Bool
 |_,[]=>false
 | [],_::_=>true
 |a::x,b::y=>a<b||(a==b&&strLt x y)
def DT(k:IntKind)(a b:Int):Int:=k.wrap (BitVec.ofInt k.bits a &&& BitVec.ofInt k.bits b).toNat
def ior(k:IntKind)(a b:Int):Int:=k.wrap (BitVec.ofInt k.bits a ||| BitVec.ofInt k.bits b).toNat
def Hi(k:IntKind)(a b:Int):Int:=k.wrap (BitVec.ofInt k.bits a &&& ~~~BitVec.ofInt k.bits b).toNat
def pt(b:UInt8):ag := .int .u8 b.toNat
def pY(op:Od):ag->ag->Option ag
 | .int k a,.int k' b =>
  match op with
  | .shl=>if 0<=b then some (.int k (k.wrap (a*2 ^ (min b.toNat k.bits)))) else none
  | .shr=>if 0<=b then some (.int k (a.fdiv (2 ^ (min b.toNat k.bits)))) else none
  |op=>if k≠k' then none else
   match op with
   | .add=>some (.int k (k.wrap (a+b)))
   | .sub=>some (.int k (k.wrap (a-b)))
   | .mul=>some (.int k (k.wrap (a*b)))
   | .quo=>if b=0 then none else some (.int k (k.wrap (a.tdiv b)))
   | .rem=>if b=0 then none else some (.int k (a.tmod b))
   | .eql=>some (.bool (a==b))
   | .neq=>some (.bool (a != b))
   | .lss=>some (.bool (a<b))
   | .leq=>some (.bool (a<=b))
   | .gtr=>some (.bool (a>b))
   | .geq=>some (.bool (a>=b))
   | .and=>some (.int k (DT k a b))
   | .or=>some (.int k (ior k a b))
   | .bic=>some (.int k (Hi k a b))
   |_=>none
 | .str a,.str b =>
  match op with
  | .add=>if ((a.length+b.length:Nat):Int)>IntKind.i64.max then none else some (.str (a++b))
  | .eql=>some (.bool (a==b))
  | .neq=>some (.bool (a != b))
  | .lss=>some (.bool (strLt a b))
  | .leq=>some (.bool (strLt a b||a==b))
  | .gtr=>some (.bool (!(strLt a b||a==b)))
  | .geq=>some (.bool (!(strLt a b)))
  |_=>none
 |_,_=>none
def kB:FK->ag->ag->Option Bool
 | .i,.int k a,.int k' b=>if k=k' then some (a==b) else none
 | .s,.str a,.str b=>some (a==b)
 | .b,.bool a,.bool b=>some (a==b)
 |_,_,_=>none
def kZ:List FK->List ag->List ag->Option Bool
 | [],[],[]=>some true
 |k::ks,a::x,b::y=>bJ (kB k a b) fun e=>bJ (kZ ks x y) fun f=>some (e&&f)
 |_,_,_=>none
def ag.norm:ag->ag
 | .agg [c]=>c
 |x=>x
def valOf:ag->Option Value
 | .int k n=>some (.int k n)
 | .agg [.int k n]=>some (.agg #[.int k n])
 |_=>none
def bytesOf:List ag->Option (List UInt8)
 | []=>some []
 | .int .u8 n::r=>bJ (bytesOf r) fun l=>some (UInt8.ofNat n.toNat::l)
 |_=>none
def xk(fk:FK)(k:ag):List ag->List ag->Option (Option ag)
 | [],[]=>some none
 |k'::ks,v::vs=>bJ (kB fk k k') fun b=>Bq b (some (some v)) (xk fk k ks vs)
 |_,_=>none
def xm(fk:FK)(k v:ag):List ag->List ag->Option (List ag×List ag)
 | [],[]=>bJ (kB fk k k) fun _=>some ([k],[v])
 |k'::ks,v'::vs=>bJ (kB fk k k') fun b=>Bq b (some (k::ks,v::vs)) (bJ (xm fk k v ks vs) fun x=>some (k'::x.1,v'::x.2))
 |_,_=>none
def ph(zero:ag)(ok:Bool)(r:Option ag):ag:=match ok with
 |true => .tuple [r.getD zero,.bool r.isSome]
 |false=>r.getD zero
def mapOf(M:aC):ag->Option (List ag×List ag)
 | .iw id=>match nth M id with|some (.map ks vs)=>some (ks,vs)|_=>none
 | .kj ks vs=>some (ks,vs)
 |_=>none
def mS(cs:List ag)(off:Nat)(new:List ag):List ag:=cs.take off++(new++cs.drop (off+new.length))
def putCells(e:ag)(off:Nat)(new:List ag):ag:=match e,new with
 | .agg cs,new => .agg (mS cs off new)
 |_,[c]=>c
 |e,_=>e
def mq(bp:Env):List ag->List (Nat×Nat×fV)->Option (List ag)
 |cs,[]=>some cs
 |cs,(off,n,x)::r =>
  bJ (x.ev bp).cells? fun new=>if new.length=n/\off+n<=cs.length then mq bp (mS cs off new) r else none
def sR(bp:Env)(sz:Nat):List fV->Option (List ag)
 | []=>some []
 |x::r=>if (x.ev bp).fR.plain=true/\(x.ev bp).fR.cells.length=sz then bJ (sR bp sz r) fun l=>some ((x.ev bp).fR::l) else none
def gw(bp:Env)(n:Nat):Option fV->Option Int
 |none=>some n
 |some x=>match x.ev bp with | .int _ i=>some i|_=>none
def wid(xs:List ag)(sz:Nat):Prop:=∀x,x∈xs->x.cells.length=sz
def cp(n bytes:Nat):Prop:=n*bytes<=2 ^ 44
noncomputable def aU(call:eP)(f:Nat)(vs:List ag)(M:aC):Option (ag×aC) :=
 if vs.all ag.flat then
  bJ (j4 M (iv (reach M (vs.flatMap ag.ids))) (reach M (vs.flatMap ag.ids))) fun B =>
   if kC M (reach M (vs.flatMap ag.ids))=reach M (vs.flatMap ag.ids) then
    bJ (call f (vs.map (ag.pj (iv (reach M (vs.flatMap ag.ids))))) B) fun x =>
     if x.2.length=B.length/\x.1.wA=true/\x.2.all cI.flat=true then some (x.1.Ap (wv (reach M (vs.flatMap ag.ids))),mb (reach M (vs.flatMap ag.ids)) M (reach M (vs.flatMap ag.ids)) x.2) else none
   else none
 else none
noncomputable def Bx(call:eP)(f:Nat)(vs:List ag)(M:aC):Option (ag×aC) :=
 if vs.all ag.flat=true/\vs.flatMap ag.ids=[] then
  bJ (call f vs []) fun x=>match x.1,x.2 with
   | .slice (.own 0) xs,[.tick sz n]=>some (.slice (.own M.length) xs,M++[.tick sz n])
   |_,_=>none
 else none
def P9(sz L:Nat):ag:=if 500<=sz then .cv L 0 (sz-500) 0 0 else .slice (.own L) []
def P8(sz:Nat):cI:=if 500<=sz then .arr (sz-500) 0 [] else .tick sz 0
noncomputable def ef(call:eP)(bp:Env)(M:aC):kD->Option (ag×aC)
 | .mv x=>some (x.ev bp,M)
 | .own sz x =>
  match x.ev bp with
  | .slice .c0 []=>some (P9 sz M.length,M++[P8 sz])
  |v=>some (v,M)
 | .pick c a b=>match c.ev bp with
  | .bool t=>Bq t (some (a.ev bp,M)) (some (b.ev bp,M))
  |_=>none
 | .yO cs=>some (.ptr M.length 0,M++[.cells cs])
 | .box x=>bJ (x.ev bp).cells? fun cs=>some (.ptr M.length 0,M++[.cells cs])
 | .build zero parts=>bJ (mq bp zero parts) fun cs=>some (.agg cs,M)
 | .lits sz parts=>bJ (sR bp sz parts) fun l=>some (match l with|[] => .slice .c0 []|_ => .slice .sh l,M)
 | .Gb sz parts=>bJ (sR bp sz parts) fun l=>some (.slice (.own M.length) l,M++[.tick sz l.length])
 | .mN n x =>
  match x.ev bp with
  | .ptr id off=>match nth M id with
   |some (.cells cs)=>if off+n<=cs.length then some (.agg ((cs.drop off).take n),M) else none
   |_=>none
  | .jE cs=>if n<=cs.length then some (.agg (cs.take n),M) else none
  | .ju id ver i off=>match nth M id with
   |some (.arr _ v xs)=>if v=ver then bJ (xs[i]?) fun e=>if off+n<=e.cells.length then some (.agg ((e.cells.drop off).take n),M) else none else none
   |_=>none
  |_=>none
 | .rD x =>
  match x.ev bp with
  | .ptr id off=>match nth M id with
   |some (.cells cs)=>bJ (nth cs off) fun c=>some (c,M)
   |_=>none
  | .jE cs=>bJ (nth cs 0) fun c=>some (c,M)
  | .ju id ver i off=>match nth M id with
   |some (.arr _ v xs)=>if v=ver then bJ (xs[i]?) fun e=>bJ (nth e.cells off) fun c=>some (c,M) else none
   |_=>none
  |_=>none
 | .store n a x =>
  match a.ev bp with
  | .ptr id off=>match nth M id with
   |some (.cells cs)=>bJ (x.ev bp).cells? fun new =>
    if new.length=n/\off+n<=cs.length/\new.all ag.je=true then some (.any,iP M id (.cells (mS cs off new))) else none
   |_=>none
  | .ju id ver i off=>match nth M id with
   |some (.arr sz v xs)=>bJ (x.ev bp).cells? fun new=>bJ (xs[i]?) fun e =>
    if v=ver/\new.length=n/\off+n<=e.cells.length/\(new.map ag.shut).all ag.plainCell=true then some (.any,iP M id (.arr sz ver (iP xs i (putCells e off (new.map ag.shut))))) else none
   |_=>none
  |_=>none
 | .BF sz p n a x =>
  match a.ev bp with
  | .ptr id off=>match nth M id with
   |some (.cells cs)=>bJ (x.ev bp).cells? fun new =>
    match nth new p with
    |some (.slice .c0 [])=>if new.length=n/\off+n<=cs.length/\new.all ag.je=true then some (.any,iP M id (.cells (mS cs off (iP new p (P9 sz M.length))))++[P8 sz]) else none
    |_=>none
   |_=>none
  |_=>none
 | .chk x=>match x.ev bp with
  | .ptr id off=>some (.ptr id off,M)
  | .jE cs=>some (.jE cs,M)
  | .func f caps=>some (.func f caps,M)
  | .ju id v i off=>some (.ju id v i off,M)
  |_=>none
 | .bin op x y=>bJ (pY op (x.ev bp) (y.ev bp)) fun v=>some (v,M)
 | .QG ks neg x y =>
  match x.ev bp,y.ev bp with
  | .agg a,.agg b=>bJ (kZ ks a b) fun e=>some (.bool (match neg with|true => !e|false=>e),M)
  |_,_=>none
 | .eqB neg x y=>match x.ev bp,y.ev bp with
  | .bool a,.bool b=>some (.bool (match neg with|true => !(a==b)|false=>a==b),M)
  |_,_=>none
 | .not x=>match x.ev bp with | .bool b=>some (.bool (!b),M)|_=>none
 | .neg x=>match x.ev bp with | .int k n=>some (.int k (k.wrap (0-n)),M)|_=>none
 | .conv k x=>match x.ev bp with | .int _ n=>some (.int k (k.wrap n),M)|_=>none
 | .same x=>match x.ev bp with | .str s=>some (.str s,M)|_=>none
 | .fn f caps=>some (.func f (caps.map (fV.ev bp)),M)
 | .Fv f firsts=>if (firsts.map fun x=>(x.ev bp).fR).all ag.plain then some (.qX f (firsts.map fun x=>(x.ev bp).fR),M) else none
 | .BC x lo hi =>
  match x.ev bp with
  | .str s=>bJ (gw bp s.length hi) fun h=>bJ (gw bp 0 lo) fun l =>
   cr (0<=h/\h<=s.length/\0<=l/\l<=h) (some (.str ((s.take h.toNat).drop l.toNat),M))
  |_=>none
 | .uq sz x lo hi mx =>
  match x.ev bp with
  | .slice _ xs=>cr (wid xs sz) <| bJ (gw bp xs.length hi) fun h=>bJ (gw bp 0 lo) fun l =>
   match mx with
   |none=>cr (0<=h/\h<=xs.length/\0<=l/\l<=h) (some (.slice .sh ((xs.take h.toNat).drop l.toNat),M))
   |some m=>match m.ev bp with
    | .int _ m=>cr (0<=m/\m<=xs.length/\0<=h/\h<=m/\0<=l/\l<=h)
      (Bq (m==0) (some (.slice .c0 [],M)) (some (.slice .sh ((xs.take h.toNat).drop l.toNat),M)))
    |_=>none
  | .cv id v sz' al ah=>cr (sz'=sz) <| bJ (gw bp (ah-al) hi) fun h=>bJ (gw bp 0 lo) fun l =>
   match mx with
   |none=>cr (0<=h/\h<=(ah-al:Nat)/\0<=l/\l<=h) (Bq (l==h) (some (.slice .sh [],M)) (some (.cv id v sz (al+l.toNat) (al+h.toNat),M)))
   |some m=>match m.ev bp with
    | .int _ m=>cr (0<=m/\m<=(ah-al:Nat)/\0<=h/\h<=m/\0<=l/\l<=h)
      (Bq (m==0) (some (.slice .c0 [],M)) (Bq (l==h) (some (.slice .sh [],M)) (some (.cv id v sz (al+l.toNat) (al+h.toNat),M))))
    |_=>none
  |_=>none
 | .O1 sz x hi =>
  match x.ev bp,hi.ev bp with
  | .cv id v sz' lo ah,.int _ h=>cr (sz'=sz/\lo=0/\0<=h/\h<ah) (some (.cv id v sz 0 h.toNat,M))
  |_,_=>none
 | .yx off x=>match x.ev bp with
  | .ptr id o=>some (.ptr id (o+off),M)
  | .jE cs=>some (.jE (cs.drop off),M)
  | .ju id v i o=>some (.ju id v i (o+off),M)
  |_=>none
 | .DC off n x=>match x.ev bp with
  | .agg cs=>if off+n<=cs.length then some (.agg ((cs.drop off).take n),M) else none
  |_=>none
 | .DB off x=>match x.ev bp with
  | .agg cs=>bJ (nth cs off) fun c=>some (c,M)
  |_=>none
 | .ub sz x i =>
  match x.ev bp,i.ev bp with
  | .slice _ xs,.int _ n=>cr (0<=n) (bJ (xs[n.toNat]?) fun e=>if e.cells.length=sz then some (.jE e.cells,M) else none)
  | .cv id v sz' lo hi,.int _ n=>cr (0<=n/\n<(hi-lo:Nat)/\sz'=sz) (some (.ju id v (lo+n.toNat) 0,M))
  |_,_=>none
 | .Bb n sz x i =>
  match x.ev bp,i.ev bp with
  | .jE cs,.int _ m=>cr (0<=m/\m<n/\n*sz<=cs.length) (some (.jE (cs.drop (m.toNat*sz)),M))
  | .ptr id off,.int _ m=>cr (0<=m/\m<n) (some (.ptr id (off+m.toNat*sz),M))
  |_,_=>none
 | .Bc x i =>
  match x.ev bp,i.ev bp with
  | .str s,.int _ n=>cr (0<=n) (bJ (s[n.toNat]?) fun b=>some (.int .u8 b.toNat,M))
  |_,_=>none
 | .extract x i=>match x.ev bp with | .tuple vs=>bJ (nth vs i) fun v=>some (v,M)|_=>none
 | .call f args=>aU call f (args.map fun x=>(x.ev bp).fR) M
 | .BU f args=>call f (args.map (fV.ev bp)) M
 | .BV f args=>match f.ev bp with
  | .func g caps=>call g (args.map (fV.ev bp)++caps) M
  |_=>none
 | .lk f args=>aU call f (args.map fun x=>((x.ev bp).ry M).fR) (qz M ((args.map (fV.ev bp)).flatMap ag.ids))
 | .wy f args=>Bx call f (args.map fun x=>(x.ev bp).fR) M
 | .w6 sz zero x=>match x.ev bp with
  | .slice _ xs=>match xs with|[]=>some (.any,M)|_=>none
  | .cv id ver sz' lo hi=>match nth M id with
   |some (.arr sz0 v xs)=>if v=ver/\sz'=sz/\zero.length=sz/\zero.all ag.plainCell=true then some (.any,iP M id (.arr sz0 ver (xs.take lo++(List.replicate (hi-lo) (.agg zero)++xs.drop hi)))) else none
   |_=>none
  |_=>none
 | .sw f args=>match f.ev bp with
  | .func g caps=>aU call g ((args.map fun x=>(x.ev bp).fR)++caps) M
  | .qX g fs=>aU call g (fs++args.map fun x=>(x.ev bp).fR) M
  | .raw v=>match v with
   | .func (.func g) ⟨[]⟩ ⟨[]⟩=>aU call g (args.map fun x=>(x.ev bp).fR) M
   |_=>none
  |_=>none
 | .VD x=>match x.ev bp with | .str s=>some (.int .i64 s.length,M)|_=>none
 | .zZ x=>match x.ev bp with
  | .slice _ xs=>some (.int .i64 xs.length,M)
  | .cv _ _ _ lo hi=>some (.int .i64 (hi-lo:Nat),M)
  |_=>none
 | .append sz bytes x y =>
  match x.ev bp,y.ev bp with
  | .slice tk xs,.slice _ ys =>
   cr (cp (xs.length+ys.length) bytes/\wid xs sz/\wid ys sz) (
    match tk with
    | .c0=>match xs with|[]=>some (.slice (.own M.length) ys,M++[.tick sz ys.length])|_=>none
    | .own k=>match nth M k with
     |some (.tick sz' n)=>cr (sz'=sz/\n=xs.length) (some (.slice (.own k) (xs++ys),iP M k (.tick sz (xs.length+ys.length))))
     |_=>none
    | .sh=>none)
  | .cv id ver sz' lo hi,.slice _ ys=>match nth M id with
   |some (.arr sz0 v xs)=>cr (v=ver/\sz'=sz/\lo=0/\hi<=xs.length/\cp (hi+ys.length) bytes/\wid (xs.take hi) sz/\wid ys sz)
     (Bq (ys.length==0) (some (.cv id ver sz lo hi,M)) (some (.cv id (ver+1) sz 0 (hi+ys.length),iP M id (.arr sz0 (ver+1) (xs.take hi++ys)))))
   |_=>none
  |_,_=>none
 | .Bo mx x y=>match x.ev bp,y.ev bp with
  | .int k a,.int _ b=>some (.int k (match mx with|true=>if b>a then b else a|false=>if b<a then b else a),M)
  |_,_=>none
 | .b2s x=>match x.ev bp with | .slice _ xs=>bJ (bytesOf xs) fun l=>some (.str l,M)|_=>none
 | .mkMap=>some (.iw M.length,M++[.map [] []])
 | .look fk zero ok m k=>bJ (mapOf M (m.ev bp)) fun e=>bJ (xk fk (k.ev bp) e.1 e.2) fun r=>some (ph zero ok r,M)
 | .gz fk m k v=>match m.ev bp with
  | .iw id=>match nth M id with
   |some (.map ks vs)=>bJ (xm fk (k.ev bp) (v.ev bp) ks vs) fun e=>some (.any,iP M id (.map e.1 e.2))
   |_=>none
  |_=>none
 | .PE m=>bJ (mapOf M (m.ev bp)) fun e=>some (.int .i64 e.1.length,M)
 | .Qi x=>match x.ev bp with | .str s=>some (.j7 M.length,M++[.nS s 0])|_=>none
 | .Gh it=>match it.ev bp with
  | .j7 id=>match nth M id with
   |some (.nS s pos)=>Bq (decide (pos<s.length))
     (some (.tuple [.bool true,.int .i64 pos,.int .i32 (Utf8.decode ⟨s.toArray⟩ pos).1],iP M id (.nS s (pos+(Utf8.decode ⟨s.toArray⟩ pos).2))))
     (some (.tuple [.bool false],M))
   |_=>none
  |_=>none
 | .mkS zero n=>match n.ev bp with
  | .int _ k=>cr (0<=k/\cp k.toNat (8*zero.length)/\zero.all ag.plainCell=true) (some (.slice .sh (List.replicate k.toNat (ag.agg zero).norm),M))
  |_=>none
 | .PR zero n=>match n.ev bp with
  | .int _ k=>cr (0<=k/\cp k.toNat (8*zero.length)/\zero.all ag.plainCell=true) (some (.cv M.length 0 zero.length 0 k.toNat,M++[.arr zero.length 0 (List.replicate k.toNat (ag.agg zero).norm)]))
  |_=>none
 | .xQ sz bytes zero x n =>
  match x.ev bp,n.ev bp with
  | .slice .c0 [],.int _ k=>cr (0<=k/\cp k.toNat bytes/\zero.length=sz/\zero.all ag.plainCell=true)
    (Bq (k==0) (some (.slice .c0 [],M)) (some (.cv M.length 0 sz 0 k.toNat,M++[.arr sz 0 (List.replicate k.toNat (ag.agg zero).norm)])))
  | .cv id ver sz' lo hi,.int _ k=>match nth M id with
   |some (.arr sz0 v xs)=>cr (v=ver/\sz'=sz/\lo=0/\hi=xs.length/\0<=k/\cp (xs.length+k.toNat) bytes/\zero.length=sz/\zero.all ag.plainCell=true/\0<xs.length)
     (Bq (k==0) (some (.cv id ver sz' lo hi,M)) (some (.cv id (ver+1) sz 0 (xs.length+k.toNat),iP M id (.arr sz0 (ver+1) (xs++List.replicate k.toNat (ag.agg zero).norm)))))
   |_=>none
  |_,_=>none
 | .vT sz bytes x y =>
  match x.ev bp,y.ev bp with
  | .slice .c0 [],.slice _ ys=>cr (cp ys.length bytes/\wid ys sz) (some (.cv M.length 0 sz 0 ys.length,M++[.arr sz 0 ys]))
  |_,_=>none
 | .FC sz x y =>
  match x.ev bp,y.ev bp with
  | .slice .sh [],.slice _ ys=>cr (wid ys sz) (some (.int .i64 0,M))
  | .cv id ver sz' lo hi,.slice _ ys=>match nth M id with
   |some (.arr sz0 v xs)=>cr (v=ver/\sz'=sz/\wid ys sz/\0<xs.length)
     (some (.int .i64 (min ys.length (hi-lo):Nat),iP M id (.arr sz0 ver (xs.take lo++(ys.take (min ys.length (hi-lo))++xs.drop (lo+min ys.length (hi-lo)))))))
   |_=>none
  |_,_=>none
 | .OL sz=>some (.ptr (M.length+1) 0,M++[.arr sz 0 [],.cells [.cv M.length 0 sz 0 0]])
 | .iface t x=>match x.ev bp with
  | .ptr id off=>some (.kx t id off,M)
  |y=>bJ (valOf y) fun v=>some (.raw (.iface t v),M)
 | .raise x=>match x.ev bp with
  | .raw v=>match v with
   | .iface t u=>some (.nF (.iface t u),M)
   |_=>none
  |_=>none
def rG(bp:Env)(dst:Option Nat)(v:ag):Env :=
 match dst with
 |some d=>(d,v)::bp
 |none=>bp
def kD.ew(bp:Env):kD->List Nat
 | .call _ args=>(args.map fun x=>(x.ev bp).fR).flatMap ag.ids
 | .sw f args=>match f.ev bp with
  | .func _ caps=>((args.map fun x=>(x.ev bp).fR)++caps).flatMap ag.ids
  | .qX _ fs=>(fs++args.map fun x=>(x.ev bp).fR).flatMap ag.ids
  | .raw v=>match v with
   | .func (.func _) ⟨[]⟩ ⟨[]⟩=>(args.map fun x=>(x.ev bp).fR).flatMap ag.ids
   |_=>[]
  |_=>[]
 |_=>[]
def zl(bp:Env)(M M':aC):List Nat->Prop
 | []=>True
 |z::r=>(match hV bp z with
  | .ptr id _=>nth M' id=nth M id
  |_=>False)/\zl bp M M' r
noncomputable def qk(call:eP)(o:cV)(bp:Env)(M:aC):Option (ag×aC) :=
 match o.xv with
 |true=>cr (o.op.ew bp=[]) (ef call bp M o.op)
 |false=>match o.grow with
  |false=>ef call bp M o.op
  |true=>bJ (ef call bp M o.op) fun x=>cr (M <+: x.2\/(o.sep≠[]/\zl bp M x.2 o.sep)) (some x)
structure Out where
 e:abC
 bp:Env
 mem:aC
def EU(c:Bool)(x:ag×aC)(k:Option Out):Option Out:=match x.1 with
 | .nF v=>match c with
  |true=>some ⟨.nF v,[],x.2⟩
  |false=>none
 |_=>k
def cV.lets(o:cV):Bool:=o.op.Rl&&o.stop
noncomputable def gn(call:eP):List cV->Env->aC->Option Out
 | [],bp,M=>some ⟨.normal,bp,M⟩
 |o::r,bp,M =>
  match o.guard with
  |none=>bJ (qk call o bp M) fun x=>EU o.lets x (gn call r (rG bp o.dst x.1) x.2)
  |some (t,want)=>match hV bp t with
   | .bool b=>Bq (b==want) (bJ (qk call o bp M) fun x=>EU o.lets x (gn call r (rG bp o.dst x.1) x.2))
    (gn call r (rG bp o.dst (.tuple [])) M)
   | .tuple []=>gn call r (rG bp o.dst (.tuple [])) M
   |_=>none
def jo(bp:Env)(live:List Nat):Env:=live.map fun t=>(t,hV bp t)
def Out.rj(live:List Nat)(o:Out):Out:=match o.e with
 | .normal=>⟨.normal,jo o.bp live,o.mem⟩
 |_=>o
open Classical in
noncomputable def lim{α:Type}(F:Nat->Option α):Option α:=if h:∃n,(F n).isSome=true then F (Classical.choose h) else none
def tZ(o:Out)(k:Env->aC->Option Out):Option Out:=match o.e with
 | .normal=>k o.bp o.mem
 |_=>some o
def xy(id:Nat)(o:Out):Out:=match o.e with
 | .exit i=>if i=id then ⟨.normal,o.bp,o.mem⟩ else o
 |_=>o
def iter(g:Nat->Nat->Nat)(f:Env->aC->Option Out)(live:List Nat):Nat->Env->aC->Option Out
 |0,_,_=>none
 |n+1,bp,M=>bJ (f (jo bp live) M) fun o=>tZ o fun e m=>iter g f live n (wx (g M.length m.length) m (jo e live)) (iQ (g M.length m.length) m)
abbrev gL(a _b:Nat):Nat:=a
abbrev gR(_a b:Nat):Nat:=b
def Lz(M:aC)(t:Nat)(bp:Env):Env:=(t,(hV bp t).ry M)::bp
noncomputable def eO(call:eP):cz->Env->aC->Option Out
 | .skip,bp,M=>some ⟨.normal,bp,M⟩
 | .region ops _ live,bp,M=>bJ (gn call ops bp M) fun o=>some (o.rj live)
 | .seq a b,bp,M=>bJ (eO call a bp M) fun o=>tZ o (eO call b)
 | .cond c x y,bp,M=>match c.ev bp with
  | .bool t=>Bq t (eO call x bp M) (eO call y bp M)
  |_=>none
 | .block id c,bp,M=>bJ (eO call c bp M) fun o=>some (xy id o)
 | .loop live c,bp,M=>lim fun n=>iter gL (eO call c) live n bp M
 | .nC live c,bp,M=>lim fun n=>iter gR (eO call c) live n bp M
 | .ry t c,bp,M=>eO call c (Lz M t bp) (qz M (hV bp t).ids)
 | .exit id,bp,M=>some ⟨.exit id,bp,M⟩
 | .ret,bp,M=>some ⟨.ret,bp,M⟩
inductive sN where
 |tmp (t:Nat)
 |dE (t n:Nat)
 |abQ (t:Nat)
structure eH where
 nparams:Nat
 results:List sN
 body:cz
def Ew(bp:Env)(M:aC):sN->Option ag
 | .tmp t=>some (hV bp t)
 | .dE t n=>match hV bp t with
  | .ptr id off=>match nth M id with
   |some (.cells cs)=>if off+n<=cs.length then some (.agg ((cs.drop off).take n)) else none
   |_=>none
  |_=>none
 | .abQ t=>match hV bp t with
  | .ptr id off=>match nth M id with
   |some (.cells cs)=>nth cs off
   |_=>none
  |_=>none
def sV(bp:Env)(M:aC):List sN->Option (List ag)
 | []=>some []
 |r::rs=>bJ (Ew bp M r) fun v=>bJ (sV bp M rs) fun l=>some (v::l)
def one:List ag->ag
 | [v]=>v
 |l => .tuple l
def eF:Nat->List ag->Env
 |_,[]=>[]
 |i,v::r=>(i,v)::eF (i+1) r
def finish(res:List sN)(bR:Nat)(o:Out):Option (ag×aC) :=
 match o.e with
 | .exit _=>none
 | .nF v=>some (.nF v,iQ bR o.mem)
 |_=>bJ (sV o.bp o.mem res) fun l=>some ((one l).lC bR o.mem,iQ bR o.mem)
structure zt where
 code:Nat->Option eH
 oS:Nat->Option (List ag->aC->Option (ag×aC))
noncomputable def ka(T:zt):Nat->eP
 |0,f,args,M=>match T.oS f with
  |some g=>g args M
  |none=>none
 |n+1,f,args,M=>match T.oS f with
  |some g=>g args M
  |none=>match T.code f with
   |none=>none
   |some fn=>if args.length=fn.nparams then bJ (eO (ka T n) fn.body (eF 0 args) M) (finish fn.results M.length) else none
noncomputable def aq(T:zt):eP:=fun f args M=>lim fun n=>ka T n f args M
theorem pR{α:Type}{F:Nat->Option α}(hm:∀n x,F n=some x->F (n+1)=some x){n:Nat}{x:α}(h:F n=some x):lim F=some x:=by
 have up:∀k n x,F n=some x->F (n+k)=some x:=by
  intro k;induction k<;>grind
 unfold lim;have hex:∃n,(F n).isSome=true:=⟨n,jK⟩;rw[dif_pos hex];have hc:=Classical.choose_spec hex;generalize Classical.choose _=m at *;obtain⟨y,hy⟩:=fA.1 hc;rcases Nat.le_total n m with hle|hle
 ·have:=up (m-n) n x h;rw[show n+(m-n)=m by omega] at this
  omega
 ·have:=up (n-m) m y hy;rw[show m+(n-m)=n by omega,h] at this
  rw[hy,this]
theorem ug{α:Type}{F:Nat->Option α}{x:α}(h:lim F=some x):∃n,F n=some x:=by
 unfold lim at h;split at h
 ·grind
 grind
def wR(C C':eP):Prop:=∀f a M x,C f a M=some x->C' f a M=some x
def bo{α β:Type}{x:Option α}{f:α->Option β}{y:β}(h:bJ x f=some y):∃a,x=some a/\f a=some y:=by
 cases x<;>simp_all
def lG{α:Type}{b:Bool}{x y:Option α}{z:α}(h:Bq b x y=some z):(b=true/\x=some z)\/(b=false/\y=some z):=by
 cases b
 ·simp_all
 simp_all
theorem da{α:Type}{p:Prop}{x:Option α}{z:α}(h:cr p x=some z):p/\x=some z:=by
 grind [cr]
theorem pO{C:eP}{f:Nat}{vs:List ag}{M:aC}{x:ag×aC}(h:aU C f vs M=some x) :
  ∃a B y,C f a B=some y/\∀C':eP,C' f a B=some y->aU C' f vs M=some x:=by
 unfold aU at h;split at h
 ·obtain⟨B,hB,h⟩:=bo h;split at h
  ·obtain⟨y,hy,h⟩:=bo h;refine⟨_,B,y,hy,fun C' hC'=>?_⟩
   simp_all [aU]
  grind
 grind
theorem Mx{C:eP}{bp:Env}{M:aC}{o:kD}{x:ag×aC}(h:ef C bp M o=some x) :
  (∀C':eP,ef C' bp M o=some x)\/∃f a B y,C f a B=some y/\∀C':eP,C' f a B=some y->ef C' bp M o=some x:=by
 cases o
 case call f args =>
  simp only[ef] at h ⊢;obtain⟨a,B,y,h1,h2⟩:=pO h;exact .inr ⟨f,a,B,y,h1,h2⟩
 case wy f args =>
  simp only[ef] at h ⊢;unfold Bx at h;split at h
  ·rename_i hc;obtain⟨y,hy,h⟩:=bo h;refine .inr ⟨f,_,[],y,hy,fun C' hC'=>?_⟩
   unfold Bx;rw[aZ hc,hC'];exact h
  ·cases h
 case BV f args =>
  simp only[ef] at h ⊢;split at h
  ·exact .inr ⟨_,_,_,_,h,fun _ h'=>h'⟩
  ·cases h
 case BU f args=>exact .inr ⟨f,_,_,_,h,fun _ h'=>h'⟩
 case lk f args =>
  simp only[ef] at h ⊢;obtain⟨a,B,y,h1,h2⟩:=pO h;exact .inr ⟨f,a,B,y,h1,h2⟩
 case sw f args =>
  simp only[ef] at h ⊢;split at h<;>grind [pO]
 all_goals exact .inl fun _=>h
theorem Q8{C C':eP}(hC:wR C C'){bp:Env}{M:aC}{o:kD}{x:ag×aC}(h:ef C bp M o=some x):ef C' bp M o=some x:=by
 rcases Mx h with h|⟨f,a,B,y,h1,h2⟩
 ·grind
 ·exact h2 _ (hC _ _ _ _ h1)
theorem rY{C:eP}{o:cV}{bp:Env}{M:aC}{x:ag×aC}(h:qk C o bp M=some x) :
  (o.xv=true/\o.op.ew bp=[]/\ef C bp M o.op=some x)\/(o.xv=false/\o.grow=false/\ef C bp M o.op=some x)\/(o.xv=false/\o.grow=true/\(M <+: x.2\/(o.sep≠[]/\zl bp M x.2 o.sep))/\ef C bp M o.op=some x):=by
 unfold qk at h;split at h
 ·grind [da]
 ·split at h
  ·exact .inr (.inl ⟨by assumption,by assumption,h⟩)
  ·obtain⟨y,hy,h⟩:=bo h
   grind [da]
theorem Dd{C C':eP}(hC:wR C C'){bp:Env}{M:aC}{o:cV}{x:ag×aC}(h:qk C o bp M=some x):qk C' o bp M=some x:=by
 grind [rY,qk,Q8]
theorem NJ{c:Bool}{x:ag×aC}{k:Option Out}{o:Out}(h:EU c x k=some o):(x.1.jn=false/\k=some o)\/∃v,c=true/\x.1 = .nF v/\o=⟨.nF v,[],x.2⟩:=by
 obtain⟨x,M⟩:=x
 cases x<;>first
  |exact .inl ⟨rfl,h⟩
  |(cases c
    ·cases h
    ·injection h with h; grind)
def Md{c:Bool}{x:ag×aC}{k:Option Out}(h:x.1.jn=false):EU c x k=k:=by
 obtain⟨x,M⟩:=x;cases x<;>first|rfl|cases h
theorem NK{c:Bool}{x:ag×aC}{k:Option Out}{v:Value}(hc:c=true)(h:x.1 = .nF v):EU c x k=some ⟨.nF v,[],x.2⟩:=by
 grind [EU]
theorem p6{C:eP}{o:cV}{r:List cV}{bp:Env}{M:aC}{x:Out}(h:gn C (o::r) bp M=some x) :
  (∃y,(∀t want,o.guard=some (t,want)->hV bp t = .bool want)/\qk C o bp M=some y/\((y.1.jn=false/\gn C r (rG bp o.dst y.1) y.2=some x)\/∃v,o.lets=true/\y.1 = .nF v/\x=⟨.nF v,[],y.2⟩)) \/
  (∃t want,o.guard=some (t,want)/\(hV bp t = .bool (!want)\/hV bp t = .tuple [])/\gn C r (rG bp o.dst (.tuple [])) M=some x):=by
 unfold gn at h;split at h
 ·rename_i hg;obtain⟨y,hy,h⟩:=bo h
  grind [NJ]
 ·rename_i t want hg;split at h
  ·rename_i b hb;rcases lG h with ⟨h1,h2⟩|⟨h1,h2⟩
   ·obtain⟨y,hy,h2⟩:=bo h2
    grind [NJ]
   ·refine .inr ⟨t,want,hg,.inl ?_,h2⟩;cases b<;>cases want<;>simp_all
  ·grind
  grind
def rX{C:eP}{o:cV}{r:List cV}{bp:Env}{M:aC}{y:ag×aC}(hg:∀t want,o.guard=some (t,want)->hV bp t = .bool want)
  (hy:qk C o bp M=some y):gn C (o::r) bp M=EU o.lets y (gn C r (rG bp o.dst y.1) y.2):=by
 rw[gn];split
 ·rw[hy]; rfl
 simp_all
theorem wu{C:eP}{o:cV}{r:List cV}{bp:Env}{M:aC}{t:Nat}{want:Bool}(hg:o.guard=some (t,want))
  (hb:hV bp t = .bool (!want)\/hV bp t = .tuple []):gn C (o::r) bp M=gn C r (rG bp o.dst (.tuple [])) M:=by
 rw[gn];simp[hg];rcases hb with hb|hb
 ·rw[hb]; cases want<;>simp
 grind
theorem tg{C C':eP}(hC:wR C C'):∀ {ops:List cV} {bp:Env} {M:aC} {x:Out},gn C ops bp M=some x->gn C' ops bp M=some x
 | [],_,_,_,h=>h
 |o::r,bp,M,x,h=>by
  rcases p6 h with ⟨y,h1,h2,h3⟩|⟨t,want,h1,h2,h3⟩
  ·rw[rX h1 (Dd hC h2)];rcases h3 with ⟨h3,h4⟩|⟨v,h0,h3,rfl⟩
   ·rw[Md h3]; exact tg hC h4
   grind [NK]
  ·rw[wu h1 h2]; exact tg hC h3
theorem ua{o:Out}{k:Env->aC->Option Out}{x:Out}(h:tZ o k=some x):(o.e = .normal/\k o.bp o.mem=some x)\/(o.e ≠ .normal/\x=o):=by
 grind [tZ]
theorem uL{o:Out}{k:Env->aC->Option Out}(h:o.e = .normal):tZ o k=k o.bp o.mem:=by grind [tZ]
theorem zQ{o:Out}{k:Env->aC->Option Out}(h:o.e ≠ .normal):tZ o k=some o:=by
 simp[tZ]
theorem x5{o:Out}{k k':Env->aC->Option Out}{x:Out}(hk:∀bp M x,k bp M=some x->k' bp M=some x)(h:tZ o k=some x):tZ o k'=some x:=by
 grind [ua,uL,zQ]
def x7{g0:Nat->Nat->Nat}{f g:Env->aC->Option Out}(hfg:∀bp M x,f bp M=some x->g bp M=some x)(live:List Nat):∀n {bp M x},iter g0 f live n bp M=some x->iter g0 g live n bp M=some x
 |0,_,_,_,h=>h
 |n+1,bp,M,x,h=>by
  rw[iter] at *;obtain⟨a,ha,h⟩:=bo h;rw[hfg _ _ _ ha];exact x5 (fun bp M x h=>x7 hfg _ n h) h
def uN{g0:Nat->Nat->Nat}{f:Env->aC->Option Out}(live:List Nat):∀n {bp M x},iter g0 f live n bp M=some x->iter g0 f live (n+1) bp M=some x
 |0,_,_,_,h=>by cases h
 |n+1,bp,M,x,h=>by
  rw[iter] at h ⊢;obtain⟨a,ha,h⟩:=bo h;rw[ha];exact x5 (fun bp M x h=>uN _ n h) h
theorem jI{C C':eP}(hC:wR C C'):∀(c:cz){bp:Env}{M:aC}{x:Out},eO C c bp M=some x->eO C' c bp M=some x
 | .skip,_,_,_,h=>h
 | .exit _,_,_,_,h=>h
 | .ret,_,_,_,h=>h
 | .region _ d _,bp,M,x,h=>by
  simp[eO] at *;obtain⟨a,ha,h⟩:=bo h;rw[tg hC ha]; grind
 | .seq a b,bp,M,x,h=>by
  simp[eO] at *;obtain⟨o,ho,h⟩:=bo h;rw[jI hC a ho];exact x5 (fun bp M x=>jI hC b) h
 | .cond c a b,bp,M,x,h=>by
  simp[eO] at *;split
  ·rename_i t ht;simp[ht] at h;rcases lG h with ⟨rfl,h⟩|⟨rfl,h⟩
   ·exact jI hC a h
   ·exact jI hC b h
  grind
 | .block id c,bp,M,x,h=>by
  simp[eO] at *;obtain⟨o,ho,h⟩:=bo h;rw[jI hC c ho]; grind
 | .loop _ c,bp,M,x,h=>by
  obtain⟨n,hn⟩:=ug h;exact pR (fun n x=>uN _ n) (x7 (fun bp M x=>jI hC c) _ n hn)
 | .nC _ c,bp,M,x,h=>by
  obtain⟨n,hn⟩:=ug h;exact pR (fun n x=>uN _ n) (x7 (fun bp M x=>jI hC c) _ n hn)
 | .ry _ c,bp,M,x,h=>jI hC c h
theorem tw(T:zt):∀n,wR (ka T n) (ka T (n+1))
 |0,f,a,M,x,h=>by
  grind [ka]
 |n+1,f,a,M,x,h=>by
  rw[ka] at h ⊢;split
  ·grind
  ·rename_i hg;simp[hg] at h;split
   ·grind
   ·rename_i fn hf;simp only[hf] at h;split
    ·rename_i hl;rw[aZ hl] at h;obtain⟨o,ho,h⟩:=bo h;rw[jI (tw T n) _ ho]
     grind
    grind
def tv(T:zt){n m:Nat}(h:n<=m):wR (ka T n) (ka T m):=by
 obtain⟨k,rfl⟩:=Nat.exists_eq_add_of_le h;induction k with
 |zero=>exact fun _ _ _ _ h=>h
 |succ k ih=>exact fun f a M x hx=>tw T _ f a M x (ih dy f a M x hx)
theorem KJ(T:zt){bp:Env}{M:aC}{o:cV}{x:ag×aC}(h:qk (aq T) o bp M=some x):∃n,qk (ka T n) o bp M=some x:=by
 have key:∀y,ef (aq T) bp M o.op=some y->∃n,ef (ka T n) bp M o.op=some y:=by
  intro y hy;rcases Mx hy with h|⟨f,a,B,z,h1,h2⟩
  ·simp_all
  ·obtain⟨n,hn⟩:=ug h1
   grind
 rcases rY h with ⟨hn,hi,h1⟩|⟨hn,hg,h1⟩|⟨hn,hg,hp,h1⟩<;>obtain⟨n,h2⟩:=key _ h1
 ·grind [qk]
 ·grind [qk]
 grind [qk]
def vU(T:zt):∀ {ops:List cV} {bp:Env} {M:aC} {x:Out},gn (aq T) ops bp M=some x->∃n,gn (ka T n) ops bp M=some x
 | [],_,_,_,h=>⟨0,h⟩
 |o::r,bp,M,x,h=>by
  rcases p6 h with ⟨y,h1,h2,h3⟩|⟨t,want,h1,h2,h3⟩
  ·obtain⟨n,hn⟩:=KJ T h2;rcases h3 with ⟨h3,h4⟩|⟨v,h0,h3,rfl⟩
   ·obtain⟨m,hm⟩:=vU T h4;refine⟨max n m,?_⟩;rw[rX h1 (Dd (tv T (Nat.le_max_left n m)) hn),Md h3];exact tg (tv T (Nat.le_max_right n m)) hm
   ·exact⟨n,by rw[rX h1 hn]; exact NK h0 h3⟩
  ·obtain⟨m,hm⟩:=vU T h3;exact⟨m,by rw[wu h1 h2]; exact hm⟩
def Bg(T:zt){g:Nat->Nat->Nat}{live:List Nat}{c:cz}(hc:∀ {bp:Env} {M:aC} {x:Out},eO (aq T) c bp M=some x->∃n,eO (ka T n) c bp M=some x){x:Out} :
  ∀k bp M,iter g (eO (aq T) c) live k bp M=some x->∃n,iter g (eO (ka T n) c) live k bp M=some x
 |0,bp,M,h=>by cases h
 |k+1,bp,M,h=>by
  rw[iter] at h;obtain⟨a,ha,h⟩:=bo h;obtain⟨n,hn⟩:=hc ha;rcases ua h with ⟨h1,h2⟩|⟨h1,h2⟩
  ·obtain⟨m,hm⟩:=Bg T hc k _ _ h2;refine⟨max n m,?_⟩;rw[iter,jI (tv T (Nat.le_max_left n m)) c hn,bN,uL h1];exact x7 (fun bp M x=>jI (tv T (Nat.le_max_right n m)) c) live k hm
  ·exact⟨n,by rw[iter,hn,bN,zQ h1,h2]⟩
def ow(T:zt):∀(c:cz){bp:Env}{M:aC}{x:Out},eO (aq T) c bp M=some x->∃n,eO (ka T n) c bp M=some x
 | .skip,_,_,_,h=>⟨0,h⟩
 | .exit _,_,_,_,h=>⟨0,h⟩
 | .ret,_,_,_,h=>⟨0,h⟩
 | .region ops d live,bp,M,x,h=>by
  simp only[eO] at *;obtain⟨a,ha,h⟩:=bo h;obtain⟨n,hn⟩:=vU T ha;exact⟨n,by rw[hn]; exact h⟩
 | .seq a b,bp,M,x,h=>by
  simp only[eO] at *;obtain⟨o,ho,h⟩:=bo h;obtain⟨n,hn⟩:=ow T a ho;rcases ua h with ⟨h1,h2⟩|⟨h1,h2⟩
  ·obtain⟨m,hm⟩:=ow T b h2;refine⟨max n m,?_⟩;rw[jI (tv T (Nat.le_max_left n m)) a hn,bN,uL h1];exact jI (tv T (Nat.le_max_right n m)) b hm
  ·exact⟨n,by rw[hn,bN,zQ h1,h2]⟩
 | .cond c a b,bp,M,x,h=>by
  simp only[eO] at *;split at h
  ·rename_i t ht;rcases lG h with ⟨rfl,h⟩|⟨rfl,h⟩
   ·obtain⟨n,hn⟩:=ow T a h; exact⟨n,hn⟩
   ·obtain⟨n,hn⟩:=ow T b h; exact⟨n,hn⟩
  ·cases h
 | .block id c,bp,M,x,h=>by
  simp only[eO] at *;obtain⟨o,ho,h⟩:=bo h;obtain⟨n,hn⟩:=ow T c ho;exact⟨n,by rw[hn]; exact h⟩
 | .loop live c,bp,M,x,h=>by
  simp only[eO] at *;obtain⟨k,hk⟩:=ug h;obtain⟨n,hn⟩:=Bg T (ow T c) k bp M hk;exact⟨n,pR (fun n x=>uN live n) hn⟩
 | .nC live c,bp,M,x,h=>by
  simp only[eO] at *;obtain⟨k,hk⟩:=ug h;obtain⟨n,hn⟩:=Bg T (ow T c) k bp M hk;exact⟨n,pR (fun n x=>uN live n) hn⟩
 | .ry _ c,bp,M,x,h=>ow T c h
def F5(g:Nat->Nat->Nat)(C:eP)(live:List Nat)(c:cz)(bp:Env)(M:aC) :
  lim (fun n=>iter g (eO C c) live n bp M)=bJ (eO C c (jo bp live) M) fun o=>tZ o fun e m=>lim fun n=>iter g (eO C c) live n (wx (g M.length m.length) m (jo e live)) (iQ (g M.length m.length) m):=by
 apply Option.ext;intro x;constructor
 ·intro h;obtain⟨n,hn⟩:=ug h;cases n with
  |zero=>cases hn
  |succ n =>
   rw[iter] at hn;obtain⟨o,ho,hn⟩:=bo hn;rw[ho,bN];exact x5 (fun bp M x hx=>pR (fun n x=>uN live n) hx) hn
 ·intro h;obtain⟨o,ho,h⟩:=bo h;rcases ua h with ⟨h1,h2⟩|⟨h1,h2⟩
  ·obtain⟨n,hn⟩:=ug h2;refine pR (F:=fun n=>iter g (eO C c) live n bp M) (n:=n+1) (fun n x=>uN live n) ?_
   show iter g (eO C c) live (n+1) bp M=some x
   rw[iter,ho,bN,uL h1];exact hn
  ·refine pR (F:=fun n=>iter g (eO C c) live n bp M) (n:=1) (fun n x=>uN live n) ?_
   show iter g (eO C c) live 1 bp M=some x
   rw[iter,ho,bN,zQ h1,h2]
def KD(C:eP)(live:List Nat)(c:cz)(bp:Env)(M:aC) :
  eO C (.loop live c) bp M=bJ (eO C c (jo bp live) M) fun o=>tZ o fun e m=>eO C (.loop live c) (wx M.length m (jo e live)) (iQ M.length m):=F5 gL C live c bp M
def H6(C:eP)(live:List Nat)(c:cz)(bp:Env)(M:aC) :
  eO C (.nC live c) bp M=bJ (eO C c (jo bp live) M) fun o=>tZ o fun e m=>eO C (.nC live c) (wx m.length m (jo e live)) (iQ m.length m):=F5 gR C live c bp M
def KB{T:zt}{f:Nat}{fn:eH}{args:List ag}{M:aC}{x:ag×aC}(hp:T.oS f=none)(hc:T.code f=some fn)(hl:args.length=fn.nparams)
  (h:bJ (eO (aq T) fn.body (eF 0 args) M) (finish fn.results M.length)=some x):aq T f args M=some x:=by
 obtain⟨o,hb,hf⟩:=bo h;obtain⟨n,hn⟩:=ow T fn.body hb;refine pR (n:=n+1) (fun n x h=>tw T n f args M x h) ?_
 rw[ka];simp only[hp,hc,aZ hl,hn,bN];exact hf
def fe{T:zt}{f:Nat}{g:List ag->aC->Option (ag×aC)}{args:List ag}{M:aC}{x:ag×aC}(hp:T.oS f=some g)(hg:g args M=some x):aq T f args M=some x:=by
 refine pR (n:=0) (fun n x h=>tw T n f args M x h) ?_
 rw[ka];simp only[hp,hg]
inductive K where
 |seq (c:cz)
 |block (id:Nat)
 |loop (live:List Nat) (n:Nat) (c:cz)
 |nC (live:List Nat) (c:cz)
noncomputable def kr(C:eP)(fn:List sN)(bR:Nat):List K->Out->Option (ag×aC)
 | [],o=>finish fn bR o
 | .seq c::k,o=>bJ (tZ o (eO C c)) (kr C fn bR k)
 | .block id::k,o=>kr C fn bR k (xy id o)
 | .loop live n c::k,o=>bJ (tZ o fun e m=>eO C (.loop live c) (wx n m (jo e live)) (iQ n m)) (kr C fn bR k)
 | .nC live c::k,o=>bJ (tZ o fun e m=>eO C (.nC live c) (wx m.length m (jo e live)) (iQ m.length m)) (kr C fn bR k)
noncomputable def eX(C:eP)(fn:List sN)(bR:Nat)(k:List K)(c:cz)(bp:Env)(M:aC):Option (ag×aC):=bJ (eO C c bp M) (kr C fn bR k)
noncomputable def fM(C:eP)(fn:List sN)(bR:Nat)(k:List K)(live:List Nat)(ops:List cV)(bp:Env)(M:aC):Option (ag×aC) :=
 bJ (gn C ops bp M) fun o=>kr C fn bR k (o.rj live)
noncomputable def lu(C:eP)(fn:List sN)(bR:Nat)(k:List K)(live:List Nat)(c:Bool)(dst:Option Nat)(r:List cV)(bp:Env)(y:Option (ag×aC)):Option (ag×aC) :=
 bJ y fun x=>bJ (EU c x (gn C r (rG bp dst x.1) x.2)) fun o=>kr C fn bR k (o.rj live)
noncomputable def gK(C:eP)(fn:List sN)(bR:Nat)(k:List K)(live:List Nat)(g:ag)(want:Bool)(o:cV)(r:List cV)(bp:Env)(M:aC):Option (ag×aC) :=
 match g with
 | .bool b=>Bq (b==want) (lu C fn bR k live o.lets o.dst r bp (qk C o bp M)) (fM C fn bR k live r (rG bp o.dst (.tuple [])) M)
 | .tuple []=>fM C fn bR k live r (rG bp o.dst (.tuple [])) M
 |_=>none
noncomputable def dX(C:eP)(fn:List sN)(bR:Nat)(k:List K)(v:ag)(x y:cz)(bp:Env)(M:aC):Option (ag×aC) :=
 match v with
 | .bool t=>Bq t (eX C fn bR k x bp M) (eX C fn bR k y bp M)
 |_=>none
def pS{α β γ:Type}(x:Option α)(f:α->Option β)(g:β->Option γ):bJ (bJ x f) g=bJ x fun a=>bJ (f a) g:=by cases x<;>rfl
section
variable (C:eP) (fn:List sN) (bR:Nat) (k:List K) (bp:Env) (M:aC)
def RY:eX C fn bR k .skip bp M=kr C fn bR k ⟨.normal,bp,M⟩:=rfl
def RX(id:Nat):eX C fn bR k (.exit id) bp M=kr C fn bR k ⟨.exit id,bp,M⟩:=rfl
def YU:eX C fn bR k .ret bp M=kr C fn bR k ⟨.ret,bp,M⟩:=rfl
def YV(a b:cz):eX C fn bR k (.seq a b) bp M=eX C fn bR (.seq b::k) a bp M:=by
 unfold eX;rw[eO,pS];rfl
def Pd(id:Nat)(c:cz):eX C fn bR k (.block id c) bp M=eX C fn bR (.block id::k) c bp M:=by
 unfold eX;rw[eO,pS];rfl
def RV(c:fV)(x y:cz):eX C fn bR k (.cond c x y) bp M=dX C fn bR k (c.ev bp) x y bp M:=by
 unfold eX dX;rw[eO];cases c.ev bp<;>simp[eX]
def Lq(ops:List cV)(d:Bool)(live:List Nat):eX C fn bR k (.region ops d live) bp M=fM C fn bR k live ops bp M:=by
 unfold eX fM;rw[eO,pS];rfl
def bG(live:List Nat)(c:cz):eX C fn bR k (.loop live c) bp M=eX C fn bR (.loop live M.length c::k) c (jo bp live) M:=by
 unfold eX;rw[KD,pS];rfl
def vu(live:List Nat)(c:cz):eX C fn bR k (.nC live c) bp M=eX C fn bR (.nC live c::k) c (jo bp live) M:=by
 unfold eX;rw[H6,pS];rfl
def YT(t:Nat)(c:cz):eX C fn bR k (.ry t c) bp M=eX C fn bR k c (Lz M t bp) (qz M (hV bp t).ids):=rfl
def VA(live:List Nat)(c:cz):kr C fn bR (.nC live c::k) ⟨.normal,bp,M⟩=eX C fn bR k (.nC live c) (wx M.length M (jo bp live)) (iQ M.length M):=rfl
def Fg(live:List Nat)(c:cz)(i:Nat):kr C fn bR (.nC live c::k) ⟨.exit i,bp,M⟩=kr C fn bR k ⟨.exit i,bp,M⟩:=rfl
def Ho(live:List Nat)(c:cz):kr C fn bR (.nC live c::k) ⟨.ret,bp,M⟩=kr C fn bR k ⟨.ret,bp,M⟩:=rfl
def WI(live:List Nat):fM C fn bR k live [] bp M=kr C fn bR k ⟨.normal,jo bp live,M⟩:=rfl
def P6(live:List Nat)(d:Option Nat)(op:kD)(g m:Bool)(s:List Nat)(st:Bool)(r:List cV) :
  fM C fn bR k live (⟨d,op,none,g,m,s,st⟩::r) bp M=lu C fn bR k live (cV.lets ⟨d,op,none,g,m,s,st⟩) d r bp (qk C ⟨d,op,none,g,m,s,st⟩ bp M):=by
 unfold fM lu;rw[gn,pS]
def P7(live:List Nat)(d:Option Nat)(op:kD)(t:Nat)(w g m:Bool)(s:List Nat)(st:Bool)(r:List cV) :
  fM C fn bR k live (⟨d,op,some (t,w),g,m,s,st⟩::r) bp M=gK C fn bR k live (hV bp t) w ⟨d,op,some (t,w),g,m,s,st⟩ r bp M:=by
 unfold fM gK;rw[gn];simp only;generalize hV bp t=v;split
 ·rw[PU,pS]; rfl
 ·rfl
 ·rename_i h1 h2
  first
   |rfl
   |(split
     ·rename_i b; exact absurd rfl (h1 b)
     ·exact absurd rfl h2
     ·rfl)
def Wi(live:List Nat)(c:Bool)(d:Option Nat)(r:List cV)(v:ag)(M':aC)(hv:v.jn=false):lu C fn bR k live c d r bp (some (v,M'))=fM C fn bR k live r (rG bp d v) M':=by
 unfold lu;rw[bN,Md hv]; rfl
def aaQ(live:List Nat)(d:Option Nat)(r:List cV)(v:Value)(M':aC):lu C fn bR k live true d r bp (some (.nF v,M'))=kr C fn bR k ⟨.nF v,[],M'⟩:=rfl
def PJ(d g f:_)(a m s1 s:_):cV.lets ⟨d,.call f a,g,m,s1,s,true⟩=true:=rfl
def LX(d g f:_)(a m s1 s:_):cV.lets ⟨d,.sw f a,g,m,s1,s,true⟩=true:=rfl
def LY(d g f:_)(a m s1 s:_):cV.lets ⟨d,.BV f a,g,m,s1,s,true⟩=true:=rfl
def LV(d g f:_)(a m s1 s:_):cV.lets ⟨d,.BU f a,g,m,s1,s,true⟩=true:=rfl
def LW(d g f:_)(a m s1 s:_):cV.lets ⟨d,.lk f a,g,m,s1,s,true⟩=true:=rfl
def LZ(d g f:_)(m s1 s:_):cV.lets ⟨d,.raise f,g,m,s1,s,true⟩=true:=rfl
def al2(live:List Nat)(o:cV)(r:List cV):gK C fn bR k live (.bool true) true o r bp M=lu C fn bR k live o.lets o.dst r bp (qk C o bp M):=rfl
def alZ(live:List Nat)(o:cV)(r:List cV):gK C fn bR k live (.bool false) false o r bp M=lu C fn bR k live o.lets o.dst r bp (qk C o bp M):=rfl
def al1(live:List Nat)(o:cV)(r:List cV):gK C fn bR k live (.bool true) false o r bp M=fM C fn bR k live r (rG bp o.dst (.tuple [])) M:=rfl
def al0(live:List Nat)(o:cV)(r:List cV):gK C fn bR k live (.bool false) true o r bp M=fM C fn bR k live r (rG bp o.dst (.tuple [])) M:=rfl
def al3(live:List Nat)(w:Bool)(o:cV)(r:List cV):gK C fn bR k live (.tuple []) w o r bp M=fM C fn bR k live r (rG bp o.dst (.tuple [])) M:=rfl
def Y2(x y:cz):dX C fn bR k (.bool true) x y bp M=eX C fn bR k x bp M:=rfl
def Y1(x y:cz):dX C fn bR k (.bool false) x y bp M=eX C fn bR k y bp M:=rfl
def agT(c:cz):kr C fn bR (.seq c::k) ⟨.normal,bp,M⟩=eX C fn bR k c bp M:=rfl
def Jq(c:cz)(i:Nat):kr C fn bR (.seq c::k) ⟨.exit i,bp,M⟩=kr C fn bR k ⟨.exit i,bp,M⟩:=rfl
def LL(c:cz):kr C fn bR (.seq c::k) ⟨.ret,bp,M⟩=kr C fn bR k ⟨.ret,bp,M⟩:=rfl
def LK(c:cz)(v:Value):kr C fn bR (.seq c::k) ⟨.nF v,bp,M⟩=kr C fn bR k ⟨.nF v,bp,M⟩:=rfl
def Hm(id:Nat)(v:Value):kr C fn bR (.block id::k) ⟨.nF v,bp,M⟩=kr C fn bR k ⟨.nF v,bp,M⟩:=rfl
def Jo(live:List Nat)(n:Nat)(c:cz)(v:Value):kr C fn bR (.loop live n c::k) ⟨.nF v,bp,M⟩=kr C fn bR k ⟨.nF v,bp,M⟩:=rfl
def Vz(id:Nat):kr C fn bR (.block id::k) ⟨.normal,bp,M⟩=kr C fn bR k ⟨.normal,bp,M⟩:=rfl
def Ff(id i:Nat):kr C fn bR (.block id::k) ⟨.exit i,bp,M⟩=if i=id then kr C fn bR k ⟨.normal,bp,M⟩ else kr C fn bR k ⟨.exit i,bp,M⟩:=by
 rw[kr]; simp only[xy]; split<;>rfl
def Hn(id:Nat):kr C fn bR (.block id::k) ⟨.ret,bp,M⟩=kr C fn bR k ⟨.ret,bp,M⟩:=rfl
def Zl(live:List Nat)(n:Nat)(c:cz):kr C fn bR (.loop live n c::k) ⟨.normal,bp,M⟩=eX C fn bR k (.loop live c) (wx n M (jo bp live)) (iQ n M):=rfl
def Hp(live:List Nat)(n:Nat)(c:cz)(i:Nat):kr C fn bR (.loop live n c::k) ⟨.exit i,bp,M⟩=kr C fn bR k ⟨.exit i,bp,M⟩:=rfl
def Jp(live:List Nat)(n:Nat)(c:cz):kr C fn bR (.loop live n c::k) ⟨.ret,bp,M⟩=kr C fn bR k ⟨.ret,bp,M⟩:=rfl
def agS(o:Out):kr C fn bR [] o=finish fn bR o:=rfl
end
def nq{q body:cz}(h:q=body)(C:eP)(fn:List sN)(bR:Nat)(k:List K)(bp:Env)(M:aC):eX C fn bR k q bp M=eX C fn bR k body bp M:=by rw[h]
def aB{T:zt}{f:Nat}{fn:eH}{args:List ag}{M:aC}{x:ag×aC}(h:eX (aq T) fn.results M.length [] fn.body (eF 0 args) M=some x)
  (hp:T.oS f=none:=by exact rfl) (hc:T.code f=some fn:=by exact rfl) (hl:args.length=fn.nparams:=by exact rfl):aq T f args M=some x :=
 KB hp hc hl (by
  unfold eX at h;obtain⟨o,h1,h2⟩:=bo h;rw[h1]; exact h2)
end
section
open Go Go.RowKit
def bs(s:List UInt8):ByteArray:=⟨s.toArray⟩
structure J where
 f:Nat->Option Nat
 X:Nat->Nat->Prop
instance:CoeFun J (fun _=>Nat->Option Nat):=⟨J.f⟩
structure oo(j:J)(M:aC)(w:World)(b off:Nat):Prop where
 lt:b<w.heap.size
 ids:∀id,id<M.length->j id=some b->∃sz n,M[id]?=some (.tick sz n)/\off<n*sz
 nx:¬j.X b off
inductive fQ(w:World)(iy:Nat->Nat->Prop):ag->Value->Prop where
 |bool (b:Bool):fQ w iy (.bool b) (.bool b)
 |int (k:IntKind) (n:Int):fQ w iy (.int k n) (.int k n)
 |str (s:List UInt8):fQ w iy (.str s) (.string (bs s))
 |raw (v:Value) (h1:v.oneCell'=true):fQ w iy (.raw v) v
 |slice (xs:List ag) (A:Option Addr) (len cap b off sz:Nat) (vs:Nat->Value) (hl:len=xs.length) (hc:len<=cap)
   (ha:xs≠[]->A=some ⟨b,off,none⟩) (hz:∀x,x∈xs->x.cells.length=sz)
   (hs:∀(i:Nat)(x:ag)(k:Nat)(c:ag),xs[i]?=some x->x.cells[k]?=some c->w.cell? ⟨b,off+(i*sz+k),none⟩=some (vs (i*sz+k))/\iy b (off+(i*sz+k)))
   (hr:∀(i:Nat)(x:ag)(k:Nat)(c:ag),xs[i]?=some x->x.cells[k]?=some c->fQ w iy c (vs (i*sz+k))):fQ w iy (.slice .sh xs) (.slice A len cap)
def Q3(j:J)(w:World)(k n t:Nat)(x:Bool)(v:Value):Prop :=
 (j k=none/\n=0/\∃A,v = .slice A 0 0/\(x=true->A=none)) \/
 ∃b cap vs,0<n/\j k=some b/\v = .slice (some ⟨b,0,none⟩) n cap/\w.heap[b]?=some (.cells vs t (0,0))/\cap<=vs.size/\n<=cap
def H0(j:J)(w:World)(k sz n:Nat)(v:Value):Prop :=
 (j k=none/\n=0/\∃A,v = .slice A 0 0) \/
 ∃b cap vs t,j k=some b/\v = .slice (some ⟨b,0,none⟩) n cap/\w.heap[b]?=some (.cells vs t (0,0))/\cap*sz<=vs.size/\n<=cap
def CC(w:World)(iy:Nat->Nat->Prop)(x:ag)(v:Value):Prop :=
 match x with
 | .agg cs=>∃us:Array Value,v = .agg us/\cs.length=us.size/\∀(i:Nat)(c:ag)(u:Value),cs[i]?=some c->us[i]?=some u->fQ w iy c u
 |x=>fQ w iy x v
inductive gj(j:J)(M:aC)(w:World):ag->Value->Prop where
 |plain {x:ag} {v:Value} (h:fQ w (oo j M w) x v):gj j M w x v
 |c0 (A:Option Addr):gj j M w (.slice .c0 []) (.slice A 0 0)
 |own {k:Nat} {xs:List ag} {v:Value} {sz n:Nat} (hk:M[k]?=some (.tick sz n)) (hn:xs.length<=n) (h:fQ w (oo j M w) (.slice .sh xs) v)
   (ht:xs.length=n->H0 j w k sz n v):gj j M w (.slice (.own k) xs) v
 |agg {cs:List ag} {vs:Array Value} (hl:cs.length=vs.size) (h:∀(i:Nat)(c:ag)(v:Value),cs[i]?=some c->vs[i]?=some v->gj j M w c v):gj j M w (.agg cs) (.agg vs)
 |tuple {cs:List ag} {vs:Array Value} (hl:cs.length=vs.size) (h:∀(i:Nat)(c:ag)(v:Value),cs[i]?=some c->vs[i]?=some v->gj j M w c v):gj j M w (.tuple cs) (.tuple vs)
 |ptr {id off b:Nat} (hid:id<M.length) (hc:∃cs,M[id]?=some (.cells cs)) (hj:j id=some b):gj j M w (.ptr id off) (.pointer (some ⟨b,off,none⟩))
 |jE {cs:List ag} {b off:Nat} {vs:Nat->Value} (h:∀(k:Nat)(c:ag),cs[k]?=some c->w.cell? ⟨b,off+k,none⟩=some (vs k)/\oo j M w b (off+k)/\fQ w (oo j M w) c (vs k)) :
   gj j M w (.jE cs) (.pointer (some ⟨b,off,none⟩))
 |func {f:Nat} {caps:List ag} {vs:Array Value} (hl:caps.length=vs.size) (h:∀(i:Nat)(c:ag)(v:Value),caps[i]?=some c->vs[i]?=some v->gj j M w c v) :
   gj j M w (.func f caps) (.func (.func f) #[] vs)
 |iw {id b:Nat} (hc:∃ks vs,M[id]?=some (.map ks vs)) (hj:j id=some b):gj j M w (.iw id) (.map (some b))
 |j7 {id b:Nat} (hc:∃s p,M[id]?=some (.nS s p)) (hj:j id=some b):gj j M w (.j7 id) (.pointer (some ⟨b,0,none⟩))
 |kj {ks vs:List ag} {b:Nat} {es:Array MapEntry} {clock:Nat} (hb:b<w.heap.size) (hf:∀i,i<M.length->j i≠some b) (hx:∀off,¬j.X b off) (hw:w.heap[b]?=some (.map es clock)) (hk:ks.length=es.size) (hv:vs.length=es.size)
   (hks:∀(i:Nat)(k:ag)(e:MapEntry),ks[i]?=some k->es[i]?=some e->fQ w (oo j M w) k e.key) (hvs:∀(i:Nat)(v:ag)(e:MapEntry),vs[i]?=some v->es[i]?=some e->CC w (oo j M w) v e.val) :
   gj j M w (.kj ks vs) (.map (some b))
 |cv {id ver sz lo hi:Nat} {v:Value} (h0:(∃b off c,v = .slice (some ⟨b,off,none⟩) (hi-lo) c/\hi-lo<=c)\/hi-lo=0/\∃A,v = .slice A 0 0) (hid:id<M.length) (hM:∀bx,M[id]?=some bx->bx.loose=true)
   (hv:∀sz' v' xs,M[id]?=some (.arr sz' v' xs)->ver<=v'/\(v'=ver->sz'=sz/\lo<=hi/\hi<=xs.length/\((xs=[]/\j id=none/\∃A,v = .slice A 0 0)\/∃b cap vs t,j id=some b/\v = .slice (some ⟨b,lo*sz,none⟩) (hi-lo) cap/\hi-lo<=cap/\w.heap[b]?=some (.cells vs t (0,0))/\(lo+cap)*sz<=vs.size))) :
   gj j M w (.cv id ver sz lo hi) v
 |ju {id ver i off:Nat} {v:Value} (h0:∃b o,v = .pointer (some ⟨b,o,none⟩)) (hid:id<M.length) (hM:∀bx,M[id]?=some bx->bx.loose=true)
   (hv:∀sz v' xs,M[id]?=some (.arr sz v' xs)->ver<=v'/\(v'=ver->i<xs.length/\∃b,j id=some b/\v = .pointer (some ⟨b,i*sz+off,none⟩))) :
   gj j M w (.ju id ver i off) v
 |qX {f:Nat} {fs:List ag} {vs:Array Value} (hl:fs.length=vs.size) (h:∀(i:Nat)(c:ag)(v:Value),fs[i]?=some c->vs[i]?=some v->CC w (oo j M w) c v):gj j M w (.qX f fs) (.func (.func f) vs #[])
 |kx {t id off b:Nat} (hc:∃cs,M[id]?=some (.cells cs)) (hj:j id=some b):gj j M w (.kx t id off) (.iface t (.pointer (some ⟨b,off,none⟩)))
 |any (v:Value):gj j M w .any v
def RC(j:J)(M:aC)(w:World)(cs:List ag)(vs:Array Value):Prop :=
 cs.length=vs.size/\∀(i:Nat)(c:ag)(v:Value),cs[i]?=some c->vs[i]?=some v->gj j M w c v
def Holds(j:J)(M:aC)(w:World)(b:Nat):cI->Prop
 | .cells cs=>∃vs t,w.heap[b]?=some (.cells vs t (0,0))/\RC j M w cs vs
 | .tick _ _=>True
 | .map ks vs=>∃es clock,w.heap[b]?=some (.map es clock)/\ks.length=es.size/\vs.length=es.size/\(∀(i:Nat)(k:ag)(e:MapEntry),ks[i]?=some k->es[i]?=some e->fQ w (oo j M w) k e.key) /\
   ∀(i:Nat)(v:ag)(e:MapEntry),vs[i]?=some v->es[i]?=some e->gj j M w v e.val
 | .nS s pos=>w.heap[b]?=some (.stringIter (bs s) pos)
 | .arr _ _ _=>True
 | .vQ=>True
structure Rel(j:J)(M:aC)(w:World):Prop where
 inj:∀i i' b,i<M.length->i'<M.length->j i=some b->j i'=some b->i=i'
 lt:∀i b,i<M.length->j i=some b->b<w.heap.size
 fix:∀i bx,M[i]?=some bx->bx.fixed=true->∃b,j i=some b/\Holds j M w b bx
 tick:∀i sz n b,M[i]?=some (.tick sz n)->j i=some b->∃vs t,w.heap[b]?=some (.cells vs t (0,0))
 arr:∀i sz ver xs,M[i]?=some (.arr sz ver xs)->(xs=[]/\j i=none)\/∃b vs t,j i=some b/\w.heap[b]?=some (.cells vs t (0,0))/\xs.length*sz<=vs.size/\(∀x,x∈xs->x.cells.length=sz) /\
  ∀(q:Nat)(x:ag)(k:Nat)(c:ag),xs[q]?=some x->x.cells[k]?=some c->∃v,vs[q*sz+k]?=some v/\fQ w (oo j M w) c v
 vf:∀i b,i<M.length->j i=some b->∀off,¬j.X b off
 AB:∀b off,j.X b off->b<w.heap.size
def Rel.box{j:J}{M:aC}{w:World}(h:Rel j M w)(i:Nat)(cs:List ag)(hi:M[i]?=some (.cells cs)):∃b vs t,j i=some b/\w.heap[b]?=some (.cells vs t (0,0))/\cs.length=vs.size /\
  ∀(q:Nat)(c:ag)(v:Value),cs[q]?=some c->vs[q]?=some v->gj j M w c v:=by
 obtain⟨b,h1,vs,t,h2,h3⟩:=h.fix i _ hi rfl;exact⟨b,vs,t,h1,h2,h3.1,h3.2⟩
structure Ext(j:J)(M:aC)(w:World)(j':J)(M':aC)(w':World):Prop where
 len:M.length<=M'.length
 size:w.heap.size<=w'.heap.size
 os:w'.os=w.os
 tape:w'.tape=w.tape
 output:w'.output=w.output
 X:j'.X=j.X
 fix:∀i bx,M[i]?=some bx->bx.fixed=true->j' i=j i/\∃bx',M'[i]?=some bx'/\bx'.tag=bx.tag
 tick:∀i sz n,M[i]?=some (.tick sz n)->∃n',n<=n'/\M'[i]?=some (.tick sz n') /\
  (n'=n->j' i=j i/\∀b vs t,j i=some b->w.heap[b]?=some (.cells vs t (0,0))->∃vs',w'.heap[b]?=some (.cells vs' t (0,0))/\vs'.size=vs.size)
 arr:∀i sz ver xs,M[i]?=some (.arr sz ver xs)->(∃n',M'[i]?=some (.tick sz n'))\/∃ver' xs',M'[i]?=some (.arr sz ver' xs')/\ver<=ver' /\
  (ver'=ver->j' i=j i/\xs'.length=xs.length/\∀b vs t,j i=some b->w.heap[b]?=some (.cells vs t (0,0))->∃vs',w'.heap[b]?=some (.cells vs' t (0,0))/\vs'.size=vs.size)
 tags:∀(b:Nat)(vs:Array Value)(t:TypeId)(fr:Nat×Nat),w.heap[b]?=some (.cells vs t fr)->∃vs' fr',w'.heap[b]?=some (.cells vs' t fr')/\vs'.size=vs.size
 iy:∀b off,oo j M w b off->oo j' M' w' b off/\w'.cell? ⟨b,off,none⟩=w.cell? ⟨b,off,none⟩
 ui:∀b,b<w.heap.size->(∀i,i<M.length->j i≠some b)->w'.heap[b]?=w.heap[b]?/\∀i,i<M'.length->j' i≠some b
def BH{a b:cI}(h:b.tag=a.tag)(ha:a.fixed=true):b.fixed=true:=by
 cases a<;>cases b<;>simp[cI.tag,cI.fixed] at * <;> omega
def GF{b:cI}(h:b.tag=0):∃cs,b = .cells cs:=by cases b<;>simp[cI.tag] at h; simp
def abu{b:cI}(h:b.tag=1):∃ks vs,b = .map ks vs:=by cases b<;>simp[cI.tag] at h; simp
def Qp{b:cI}(h:b.tag=2):∃s p,b = .nS s p:=by cases b<;>simp[cI.tag] at h; simp
theorem fQ.mono{w w':World}{iy saf':Nat->Nat->Prop}(h:∀b off,iy b off->saf' b off/\w'.cell? ⟨b,off,none⟩=w.cell? ⟨b,off,none⟩)
  {x:ag} {v:Value} (hr:fQ w iy x v):fQ w' saf' x v:=by
 induction hr with
 |bool b=>simp[bool]
 |int k n=>exact .int k n
 |str s=>exact .str s
 |raw v h1=>exact .raw v h1
 |slice xs A len cap b off sz vs hl hc ha hz hs _ ih =>
  refine .slice _ A _ _ b _ _ _ hl hc ha hz (fun i x k c hx hk=>?_) ih
  grind
def CC.mono{w w':World}{iy saf':Nat->Nat->Prop}(h:∀b off,iy b off->saf' b off/\w'.cell? ⟨b,off,none⟩=w.cell? ⟨b,off,none⟩)
  {x:ag} {v:Value} (hr:CC w iy x v):CC w' saf' x v:=by
 by_cases hag:∃cs,x = .agg cs
 ·obtain⟨cs,rfl⟩:=hag;obtain⟨us,h1,h2,h3⟩:=hr;exact⟨us,h1,h2,fun i c u hc hu=>(h3 i c u hc hu).mono h⟩
 ·cases x<;>first|exact absurd ⟨_,rfl⟩ hag|exact fQ.mono h hr
section
variable {j j' j'':J} {M M' M'':aC} {w w' w'':World}
def Q3.mono{k n t:Nat}{x:Bool}{v:Value}(h:Q3 j w k n t x v)(hj:j' k=j k)
  (hb:∀b vs t,j k=some b->w.heap[b]?=some (.cells vs t (0,0))->∃vs',w'.heap[b]?=some (.cells vs' t (0,0))/\vs'.size=vs.size):Q3 j' w' k n t x v:=by
 rcases h with ⟨h1,h2,h3⟩|⟨b,cap,vs,h0,h1,h2,h3,h4,h5⟩
 ·exact .inl ⟨hj.trans h1,h2,h3⟩
 ·obtain⟨vs',h6,h7⟩:=hb b _ t h1 h3;exact .inr ⟨b,cap,vs',h0,hj.trans h1,h2,h6,aH,h5⟩
def H0.mono{k sz n:Nat}{v:Value}(h:H0 j w k sz n v)(hj:j' k=j k)
  (hb:∀b vs t,j k=some b->w.heap[b]?=some (.cells vs t (0,0))->∃vs',w'.heap[b]?=some (.cells vs' t (0,0))/\vs'.size=vs.size):H0 j' w' k sz n v:=by
 rcases h with ⟨h1,h2,h3⟩|⟨b,cap,vs,t,h1,h2,h3,h4,h5⟩
 ·exact .inl ⟨hj.trans h1,h2,h3⟩
 ·obtain⟨vs',h6,h7⟩:=hb b _ t h1 h3;exact .inr ⟨b,cap,vs',t,hj.trans h1,h2,h6,aH,h5⟩
theorem Ext.loose(hx:Ext j M w j' M' w'){id:Nat}(hid:id<M.length)(hM:∀bx,M[id]?=some bx->bx.loose=true):(∀bx,M'[id]?=some bx->bx.loose=true) /\
  ∀sz v' xs,M'[id]?=some (.arr sz v' xs)->∃v0 xs0,M[id]?=some (.arr sz v0 xs0)/\v0<=v' /\
   (v'=v0->j' id=j id/\xs.length=xs0.length/\∀b vs t,j id=some b->w.heap[b]?=some (.cells vs t (0,0))->∃vs',w'.heap[b]?=some (.cells vs' t (0,0))/\vs'.size=vs.size):=by
 have h0:=ai hid;have hf:=hM _ h0;generalize M[id]=bx at h0 hf;cases bx with
 |cells=>cases hf
 |map=>cases hf
 |nS=>cases hf
 |vQ=>cases hf
 |tick sz n =>
  obtain⟨n',h1,h2,h3⟩:=hx.tick _ _ _ h0;refine⟨fun bx hb=>?_,fun sz v' xs h=>?_⟩
  ·rw[h2] at hb; cases hb; rfl
  grind
 |arr sz v xs =>
  rcases hx.arr _ _ _ _ h0 with ⟨n',h2⟩|⟨v1,xs1,h2,h3,h4⟩
  ·refine⟨fun bx hb=>?_,fun sz v' xs h=>?_⟩
   ·rw[h2] at hb; cases hb; rfl
   grind
  ·refine⟨fun bx hb=>?_,fun sz' v' xs' h=>?_⟩
   ·rw[h2] at hb; cases hb; rfl
   grind
theorem gj.mono(hx:Ext j M w j' M' w'){x:ag}{v:Value}(hr:gj j M w x v):gj j' M' w' x v:=by
 induction hr with
 |plain h=>exact .plain (h.mono hx.iy)
 |c0 A=>exact .c0 A
 |own hk hn h ht =>
  obtain⟨n',h1,h2,h3⟩:=hx.tick _ _ _ hk;refine .own h2 aH (h.mono hx.iy) (fun he=>?_)
  have:n'=_:=Nat.le_antisymm aH h1;obtain⟨h4,h5⟩:=h3 this;subst this;exact(ht he).mono h4 h5
 |agg hl _ ih=>exact .agg hl ih
 |tuple hl _ ih=>exact .tuple hl ih
 |ptr hid hc hj =>
  obtain⟨cs,hc⟩:=hc;obtain⟨h1,bx,h2,h3⟩:=hx.fix _ _ hc rfl;obtain⟨cs',rfl⟩:=GF h3;exact .ptr (bu hid hx.len) ⟨_,h2⟩ (h1.trans hj)
 | @jE cs b off vs h =>
  refine .jE (vs:=vs) fun k c hk=>?_
  obtain⟨h1,h2,h3⟩:=h k c hk;obtain⟨h4,h5⟩:=hx.iy _ _ h2;exact⟨h5.trans h1,h4,h3.mono hx.iy⟩
 |func hl _ ih=>exact .func hl ih
 |iw hc hj =>
  obtain⟨ks,vs,hc⟩:=hc;obtain⟨h1,bx,h2,h3⟩:=hx.fix _ _ hc rfl;obtain⟨ks',vs',rfl⟩:=abu h3;exact .iw ⟨_,_,h2⟩ (h1.trans hj)
 |j7 hc hj =>
  obtain⟨ks,vs,hc⟩:=hc;obtain⟨h1,bx,h2,h3⟩:=hx.fix _ _ hc rfl;obtain⟨ks',vs',rfl⟩:=Qp h3;exact .j7 ⟨_,_,h2⟩ (h1.trans hj)
 |kj hb hf hxx hw hk hv hks hvs =>
  obtain⟨h1,h2⟩:=hx.ui _ hb hf;exact .kj (bu hb hx.size) h2 (by rw[hx.X]; omega) (h1.trans hw) hk hv (fun i k e h1 h2=>(hks i k e h1 h2).mono hx.iy) (fun i k e h1 h2=>(hvs i k e h1 h2).mono hx.iy)
 |cv hs hid hM hv =>
  obtain⟨g1,g2⟩:=hx.loose hid hM;refine .cv hs (bu hid hx.len) g1 fun sz v' xs h=>?_
  obtain⟨v0,xs0,h0,h1,h2⟩:=g2 sz v' xs h;obtain⟨h3,h4⟩:=hv sz v0 xs0 h0;refine⟨aH,fun he=>?_⟩
  obtain⟨h5,h6,h7⟩:=h2 aH;obtain⟨l0,l1,l2,⟨rfl,l3,l4⟩|⟨b,cap,vs,t,l3,l4,l5,l6,l7⟩⟩:=h4 aH
  ·exact⟨l0,l1,aH,.inl ⟨dB aH,h5.trans l3,l4⟩⟩
  obtain⟨vs',l8,l9⟩:=h7 b vs t l3 l6;exact⟨l0,l1,aH,.inr ⟨b,cap,vs',t,h5.trans l3,l4,l5,l8,aH⟩⟩
 |ju hs hid hM hv =>
  obtain⟨g1,g2⟩:=hx.loose hid hM;refine .ju hs (bu hid hx.len) g1 fun sz v' xs h=>?_
  grind
 |qX hl h=>exact .qX hl fun i c v hc hv=>(h i c v hc hv).mono hx.iy
 |kx hc hj =>
  obtain⟨cs,hc⟩:=hc;obtain⟨h1,bx,h2,h3⟩:=hx.fix _ _ hc rfl;obtain⟨cs',rfl⟩:=GF h3;exact .kx ⟨_,h2⟩ (h1.trans hj)
 |any v=>exact .any v
def Holds.mono{b:Nat}{bx:cI}(hx:Ext j M w j' M' w')(hb:w'.heap[b]?=w.heap[b]?)(h:Holds j M w b bx):Holds j' M' w' b bx:=by
 cases bx with
 |cells cs =>
  obtain⟨vs,t,h1,h2,h3⟩:=h;exact⟨vs,t,hb.trans h1,h2,fun i c v hc hv=>(h3 i c v hc hv).mono hx⟩
 |tick=>trivial
 |map ks vs =>
  obtain⟨es,clock,h1,h2,h3,h4,h5⟩:=h;exact⟨es,clock,hb.trans h1,h2,h3,fun i k e hk he=>(h4 i k e hk he).mono hx.iy,fun i k e hk he=>(h5 i k e hk he).mono hx⟩
 |nS s pos=>exact hb.trans h
 |arr=>trivial
 |vQ=>trivial
theorem Holds.lt{b:Nat}{bx:cI}(h:Holds j M w b bx)(hf:bx.fixed=true):∃o,w.heap[b]?=some o:=by
 cases bx with
 |cells cs=>obtain⟨vs,t,h1,_⟩:=h; grind
 |tick=>cases hf
 |map ks vs=>obtain⟨es,clock,h1,_⟩:=h; grind
 |nS s pos=>exact⟨_,h⟩
 |arr=>cases hf
 |vQ=>cases hf
def Ext.refl(j:J)(M:aC)(w:World):Ext j M w j M w where
 len:=au _
 size:=au _
 os:=rfl
 tape:=rfl
 output:=rfl
 X:=rfl
 fix:=fun i bx h _=>⟨rfl,bx,h,rfl⟩
 tick:=fun i sz n h=>⟨n,au _,h,fun _=>⟨rfl,fun b vs t _ h=>⟨vs,h,rfl⟩⟩⟩
 arr:=fun i sz v xs h => .inr ⟨v,xs,h,au _,fun _=>⟨rfl,rfl,fun b vs t _ h=>⟨vs,h,rfl⟩⟩⟩
 tags:=fun b vs t fr h=>⟨vs,fr,h,rfl⟩
 iy:=fun b off h=>⟨h,rfl⟩
 ui:=fun b hb h=>⟨rfl,h⟩
theorem Ext.trans(h:Ext j M w j' M' w')(k:Ext j' M' w' j'' M'' w''):Ext j M w j'' M'' w'' where
 len:=aY h.len k.len
 size:=aY h.size k.size
 os:=k.os.trans h.os
 tape:=k.tape.trans h.tape
 output:=k.output.trans h.output
 X:=k.X.trans h.X
 fix:=fun i bx hi hf=>by
  obtain⟨h1,bx',h2,h3⟩:=h.fix i bx hi hf;have hf':bx'.fixed=true:=BH h3 hf;obtain⟨h4,bx'',h5,h6⟩:=k.fix i bx' h2 hf'
  grind
 tick:=fun i sz n hi=>by
  obtain⟨n1,a1,a2,a3⟩:=h.tick i sz n hi;obtain⟨n2,b1,b2,b3⟩:=k.tick i sz n1 a2
  grind
 arr:=fun i sz v xs hi=>by
  rcases h.arr i sz v xs hi with ⟨n1,a1⟩|⟨v1,xs1,a1,a2,a3⟩
  ·obtain⟨n2,_,b2,_⟩:=k.tick i sz n1 a1
   grind
  ·rcases k.arr i sz v1 xs1 a1 with ⟨n2,b1⟩|⟨v2,xs2,b1,b2,b3⟩
   ·grind
   grind
 tags:=fun b vs t fr hb=>by
  obtain⟨vs1,fr1,h1,h2⟩:=h.tags b vs t fr hb;obtain⟨vs2,fr2,h3,h4⟩:=k.tags b vs1 t fr1 h1
  grind
 iy:=fun b off hs=>by
  obtain⟨h1,h2⟩:=h.iy b off hs;obtain⟨h3,h4⟩:=k.iy b off h1
  grind
 ui:=fun b hb hn=>by
  obtain⟨h1,h2⟩:=h.ui b hb hn;obtain⟨h3,h4⟩:=k.ui b (bu hb h.size) h2
  grind
theorem Ext.grow(hsz:w.heap.size<=w'.heap.size)(hos:w'.os=w.os)(ht:w'.tape=w.tape)(ho:w'.output=w.output)
  (hb:∀b,b<w.heap.size->w'.heap[b]?=w.heap[b]?):Ext j M w j M w' where
 len:=au _
 size:=hsz
 os:=hos
 tape:=ht
 output:=ho
 X:=rfl
 fix:=fun i bx h _=>⟨rfl,bx,h,rfl⟩
 tick:=fun i sz n h=>⟨n,au _,h,fun _=>⟨rfl,fun b vs t _ hv=>by
  grind⟩⟩
 arr:=fun i sz v xs h => .inr ⟨v,xs,h,au _,fun _=>⟨rfl,rfl,fun b vs t _ hv=>by
  grind⟩⟩
 tags:=fun b vs t fr h=>by
  grind
 iy:=fun b off h=>⟨⟨bu h.1 hsz,h.2,h.3⟩,World.cell?_of_block (hb b h.1)⟩
 ui:=fun b cG h=>⟨hb b cG,h⟩
theorem Rel.grow(hr:Rel j M w)(hsz:w.heap.size<=w'.heap.size)(hos:w'.os=w.os)(ht:w'.tape=w.tape)(ho:w'.output=w.output)
  (hb:∀b,b<w.heap.size->w'.heap[b]?=w.heap[b]?):Rel j M w' where
 inj:=hr.inj
 lt:=fun i b hi h=>bu (hr.lt i b hi h) hsz
 fix:=fun i bx h hf=>by
  obtain⟨b,h1,h2⟩:=hr.fix i _ h hf;have hi  := (aj.1 h).1;exact⟨b,h1,h2.mono (Ext.grow hsz hos ht ho hb) (hb b (hr.lt i b hi h1))⟩
 tick:=fun i sz n b h hj=>by
  obtain⟨vs,t,h1⟩:=hr.tick i _ n b h hj
  grind
 arr:=fun i sz v xs h=>by
  rcases hr.arr i _ v _ h with he|⟨b,vs,t,h1,h2,h3,h4,h5⟩
  ·exact .inl he
  have hi  := (aj.1 h).1;refine .inr ⟨b,vs,t,h1,(hb b (hr.lt i b hi h1)).trans h2,h3,h4,fun q x k c hx hk=>?_⟩
  obtain⟨u,h6,h7⟩:=h5 q x k c hx hk;exact⟨u,h6,h7.mono (Ext.grow hsz hos ht ho hb).iy⟩
 vf:=hr.vf
 AB:=fun b off h=>bu (hr.AB b _ h) hsz
end
class kG where
 g:Nat->Option (List Value)
 q:Nat->Option (Value->Prop):=fun _=>none
 u8:Nat:=0
structure sO[kG](j:J)(M:aC)(w:World):Prop where
 g:∀b vs k v,kG.g b=some vs->vs[k]?=some v->oo j M w b k/\w.cell? ⟨b,k,none⟩=some v
 n:∀b vs,kG.g b=some vs->∃us t fr,w.heap[b]?=some (.cells us t fr)/\us.size=vs.length
 q:∀b p,kG.q b=some p->∃v,p v/\oo j M w b 0/\w.cell? ⟨b,0,none⟩=some v
theorem sO.iy[kG]{j j':J}{M M':aC}{w:World}(h:sO j M w)(hx:∀b off,oo j M w b off->oo j' M' w b off):sO j' M' w where
 g:=fun b vs k v hb hk=>⟨hx _ _ (h.g b _ k v hb hk).1,(h.g b _ k v hb hk).2⟩
 n:=h.n
 q:=fun b p hb=>by
  obtain⟨v,h0,h1,h2⟩:=h.q b p hb
  grind
theorem sO.mono[kG]{j j':J}{M M':aC}{w w':World}(h:sO j M w)(hx:Ext j M w j' M' w'):sO j' M' w' where
 g:=fun b vs k v hb hk=>by
  obtain⟨h1,h2⟩:=h.g b _ k v hb hk;obtain⟨h3,h4⟩:=hx.iy _ _ h1
  grind
 n:=fun b vs hb=>by
  obtain⟨us,t,fr,h1,h2⟩:=h.n b _ hb;obtain⟨us',fr',h3,h4⟩:=hx.tags b _ t _ h1
  grind
 q:=fun b p hb=>by
  obtain⟨v,h0,h1,h2⟩:=h.q b p hb;obtain⟨h3,h4⟩:=hx.iy _ _ h1
  grind
variable [kG]
structure cn(j:J)(M:aC)(w:World)(bp:Env)(a:Act):Prop where
 at':∀t,gj j M w (hV bp t) (a.tmps.getD t undef)
 gl:sO j M w
def cn.mono{j j':J}{M M':aC}{w w':World}{bp:Env}{a:Act}(h:cn j M w bp a)(hx:Ext j M w j' M' w'):cn j' M' w' bp a :=
 ⟨fun t=>(h.at' t).mono hx,h.gl.mono hx⟩
def cn.put{j:J}{M:aC}{w:World}{bp:Env}{a:Act}{n:Nat}(h:cn j M w bp a)(hs:a.tmps.size=n){dst:Option Nat}(hd:∀d,dst=some d->d<n)
  {x:ag} {v:Value} (hv:gj j M w x v):cn j M w (rG bp dst x) (a.put dst v):=by
 refine⟨fun t=>?_,h.gl⟩
 cases dst with
 |none=>exact h.at' t
 |some d =>
  simp[rG,hV,Act.put]
  by_cases he:d=t
  ·simp_all
  ·have:=h.at' t;simp_all
theorem yY(bp:Env)(live:List Nat)(t:Nat):hV (jo bp live) t=if t∈live then hV bp t else .any:=by
 induction live<;>grind [jo,hV]
def cn.rj{j:J}{M:aC}{w:World}{bp:Env}{a:Act}(h:cn j M w bp a)(live:List Nat):cn j M w (jo bp live) a:=by
 refine⟨fun t=>?_,h.gl⟩
 rw[yY];split
 ·exact h.at' t
 ·exact .any _
end
section
open Go
def KA:Value->Option ag
 | .bool b=>some (.bool b)
 | .int k n=>some (.int k n)
 | .string s=>some (.str s.data.toList)
 | .slice none 0 0=>some (.slice .c0 [])
 | .pointer none=>some (.raw (.pointer none))
 | .nilFunc=>some (.raw .nilFunc)
 | .nilIface=>some (.raw .nilIface)
 | .map none=>some (.raw (.map none))
 |_=>none
def tf:List Value->Option (List ag)
 | []=>some []
 |v::r=>(KA v).bind fun x=>(tf r).bind fun l=>some (x::l)
def Q5:Value->Option ag
 | .agg vs=>(tf vs.toList).bind fun l=>some (.agg l)
 |v=>KA v
def abM:Value->Option ag
 | .bool b=>some (.bool b)
 | .int k n=>some (.int k n)
 | .string s=>some (.str s.data.toList)
 | .pointer none=>some (.raw (.pointer none))
 | .nilIface=>some (.raw .nilIface)
 |_=>none
def Q4:List Value->Option (List ag)
 | []=>some []
 |v::r=>(abM v).bind fun x=>(Q4 r).bind fun l=>some (x::l)
variable [kG]
def ah2:Operand->Operand->Bool
 | .tmp x,.tmp y=>x==y
 | .const (.int k x),.const (.int l y)=>decide (k=l)&&decide (x=y)
 |_,_=>false
def abv:∀ {x y:Operand},ah2 x y=true->x=y:=by
 intro x y h;unfold ah2 at h;split at h<;>simp_all
def eV:Operand->Option fV
 | .tmp t=>some (.tmp t)
 | .const v=>(Q5 v).bind fun x=>some (.sY x)
 | .func f=>some (.sY (.func f []))
 | .global g=>(kG.g g).bind fun vs=>(Q4 vs).bind fun l=>some (.sY (.jE l))
def Rj:Operand->Option fV
 | .func f=>some (.sY (.raw (.func (.func f) ⟨[]⟩ ⟨[]⟩)))
 |x=>eV x
def xW(n:Nat):List (Nat×Operand)->Option (List (Nat×Nat×fV))
 | []=>some []
 |(i,x)::r=>(eV x).bind fun y=>(xW n r).bind fun l=>some ((i*n,n,y)::l)
def vo:List Operand->Option (List fV)
 | []=>some []
 |x::r=>(eV x).bind fun y=>(vo r).bind fun l=>some (y::l)
def yQ:Option Operand->Option (Option fV)
 |none=>some none
 |some x=>(eV x).bind fun y=>some (some y)
def qB(P:Program)(t:TypeId):Option Nat:=(P.info? t).bind fun i=>some i.size
def CD(P:Program)(t:TypeId):Option Bool:=(P.underlying t).bind fun d=>some (match d with | .struct _ | .array _ _=>true|_=>false)
def AO(P:Program)(fs:Array Field):List (Nat×Operand)->Option (List (Nat×Nat×fV))
 | []=>some []
 |(i,x)::r=>(fs[i]?).bind fun f=>(qB P f.type).bind fun n=>(eV x).bind fun y=>(AO P fs r).bind fun l=>some ((f.offset,n,y)::l)
def GZ:Nat->List (Nat×Operand)->Option (List fV)
 |_,[]=>some []
 |k,(i,x)::r=>if i=k then (eV x).bind fun y=>(GZ (k+1) r).bind fun l=>some (y::l) else none
def R3 (P:Program) (f:Field):Option FK:=if f.name = "_" then none else match P.underlying f.type with
 |some .bool=>some .b
 |some (.int _)=>some .i
 |some .string=>some .s
 |_=>none
def B7(P:Program):Nat->List Field->Option (List FK)
 |_,[]=>some []
 |k,f::r=>if f.offset=k then (R3 P f).bind fun x=>(B7 P (k+1) r).bind fun l=>some (x::l) else none
def D2(P:Program)(t:TypeId):Option FK:=match P.underlying t with
 |some .bool=>some .b
 |some (.int _)=>some .i
 |some .string=>some .s
 |_=>none
def ON:BinOp->Option Od
 | .and=>some .and | .or=>some .or | .andNot=>some .bic
 | .add=>some .add | .sub=>some .sub | .mul=>some .mul | .quo=>some .quo | .rem=>some .rem
 | .eql=>some .eql | .neq=>some .neq | .lss=>some .lss | .leq=>some .leq | .gtr=>some .gtr | .geq=>some .geq
 | .shl=>some .shl | .shr=>some .shr
 |_=>none
def lF (P:Program) (f:Nat):Bool:=match P.funcs[f]? with|some fn=>fn.name != "runtime.NumGoroutine" && fn.body.isSome|none=>false
def Ri(P:Program)(own:List Nat)(dst:Option Nat)(type:TypeId)(c:Call):Option kD :=
 match c.callee with
 | .value (.func f)=>if lF P f then (vo c.args.toList).bind fun l=>some (if own.contains (1000000+f) then .BU f l else if own.contains (2000000+f) then .lk f l else if own.contains (8000000+f) then .wy f l else .call f l) else none
 | .value (.tmp t)=>(vo c.args.toList).bind fun l=>some (if own.contains (12000000+t) then .BV (.tmp t) l else .sw (.tmp t) l)
 | .builtin .len=>match c.args.toList,(c.argTypes[0]?).bind P.underlying with
  | [x],some .string=>(eV x).bind fun y=>some (.VD y)
  | [x],some (.slice _)=>(eV x).bind fun y=>some (.zZ y)
  | [x],some (.map _ _)=>(eV x).bind fun y=>some (.PE y)
  |_,_=>none
 | .builtin .copy=>match c.args.toList,c.argTypes.toList with
  | [x,y],[t,t']=>match P.underlying t,P.underlying t' with
   |some (.slice e),some (.slice _)=>(qB P e).bind fun n=>(eV x).bind fun x=>(eV y).bind fun y=>if 0<n then some (.FC n x y) else none
   |_,_=>none
  |_,_=>none
 | .builtin .append=>match c.args.toList,c.argTypes.toList with
  | [x,y],[t,t']=>match P.underlying t,P.underlying t' with
   |some (.slice e),some (.int _)=>(P.info? e).bind fun i=>i.zero.bind fun z=>(tf z.cells.toList).bind fun l=>(eV x).bind fun x=>(eV y).bind fun y =>
    if l.length=i.size/\0<i.size/\0<i.bytes/\i.bytes<=2 ^ 20 then some (.xQ i.size i.bytes (l.map ag.shut) x y) else none
   |some (.slice e),some (.slice _)=>(P.info? e).bind fun i=>(eV x).bind fun x=>(eV y).bind fun y =>
    if decide ((i.zero.map fun z=>z.cells.size)=some i.size)&&decide (0<i.size)&&decide (0<i.bytes)&&decide (i.bytes<=2 ^ 20) then some (match dst with|some d=>if own.contains (7000000+d) then .vT i.size i.bytes x y else .append i.size i.bytes x y|none => .append i.size i.bytes x y) else none
   |_,_=>none
  |_,_=>none
 | .builtin .clear=>match c.args.toList,c.argTypes.toList with
  | [x],[t]=>match P.underlying t with
   |some (.slice e)=>(P.info? e).bind fun i=>i.zero.bind fun z=>(tf z.cells.toList).bind fun l=>(eV x).bind fun x =>
    if l.length=i.size/\0<i.size then some (.w6 i.size (l.map ag.shut) x) else none
   |_=>none
  |_,_=>none
 | .builtin .max=>match c.args.toList with|[x,y]=>(eV x).bind fun x=>(eV y).bind fun y=>some (.Bo true x y)|_=>none
 | .builtin .min=>match c.args.toList with|[x,y]=>(eV x).bind fun x=>(eV y).bind fun y=>some (.Bo false x y)|_=>none
 |_=>none
def Rk(own:List Nat)(dst:Option Nat)(n:Nat)(x:fV)(lo hi mx:Option fV):kD :=
 match dst,hi with
 |some d,some h=>if own.contains (15000000+d)&&lo.isNone&&mx.isNone then .O1 n x h else .uq n x lo hi mx
 |_,_ => .uq n x lo hi mx
def OO(P:Program)(own:List Nat)(o:Oper):Option kD :=
 match o.op with
 | .move x=>(eV x).bind fun x=>some (.mv x)
 | .assign x=>(eV x).bind fun x =>
  match o.dst with
  |some d=>if own.contains d then match P.underlying o.type with
    |some (.slice e)=>(qB P e).bind fun n=>match x with
     | .sY (.slice .c0 [])=>some (.own n x)
     |_=>some (.mv x)
    |_=>none
   else if own.contains (13000000+d) then match P.underlying o.type with
    |some (.slice e)=>(qB P e).bind fun n=>some (.own (500+n) x)
    |_=>none
   else some (.mv x)
  |none=>some (.mv x)
 | .pick c a b=>(eV c).bind fun c=>(eV a).bind fun a=>(eV b).bind fun b=>some (.pick c a b)
 | .alloc t=>(P.info? t).bind fun i=>i.zero.bind fun z=>(tf z.cells.toList).bind fun l =>
  match o.dst with
  |some d=>if own.contains (6000000+d) then (match P.underlying t,l with
    |some (.slice e),[.slice .c0 []]=>(qB P e).bind fun n=>some (.OL n)
    |_,_=>none) else some (.yO l)
  |none=>some (.yO l)
 | .box t x=>(eV x).bind fun x=>some (.box x)
 | .build t parts=>match P.underlying t with
  |some (.struct fs)=>(P.info? t).bind fun i=>i.zero.bind fun z=>(tf z.cells.toList).bind fun l=>(AO P fs parts.toList).bind fun ps =>
   if fs.all (fun f=>(P.info? f.type).isSome) then some (.build l ps) else none
  |some (.array _ e)=>(P.info? t).bind fun i=>i.zero.bind fun z=>(tf z.cells.toList).bind fun l=>(qB P e).bind fun n=>(xW n parts.toList).bind fun ps=>some (.build l ps)
  |_=>none
 | .buildSlice t len parts=>match P.underlying t with
  |some (.slice e)=>(P.info? e).bind fun i=>(GZ 0 parts.toList).bind fun l =>
   if l.length=len/\len*i.size<=2 ^ 24/\(i.zero.map fun z=>z.cells.size)=some i.size/\0<i.size then some (match o.dst with|some d=>if own.contains d then .Gb i.size l else if own.contains (13000000+d)&&l.isEmpty then .own (500+i.size) (.sY (.slice .c0 [])) else .lits i.size l|none => .lits i.size l) else none
  |_=>none
 | .load t x=>(CD P t).bind fun g=>(qB P t).bind fun n=>(eV x).bind fun x=>some (if g then .mN n x else .rD x)
 | .store t a x=>(qB P t).bind fun n=>(eV a).bind fun a=>(eV x).bind fun x=>some (match a with
  | .tmp s=>match own.find? (fun m=>decide (1000000000<=m)&&decide (m<2000000000)&&decide (m % 1000=s)) with
   |some m => .BF (m / 1000000 % 1000) (m / 1000 % 1000) n a x
   |none => .store n a x
  |_ => .store n a x)
 | .nilCheck x=>(eV x).bind fun x=>some (.chk x)
 | .binOp op t x y _=>(eV x).bind fun x=>(eV y).bind fun y=>match P.underlying t with
  |some (.int _)|some .string=>(ON op).bind fun b=>some (.bin b x y)
  |some .bool=>match op with
   | .eql=>some (.eqB false x y)
   | .neq=>some (.eqB true x y)
   |_=>none
  |some (.struct fs)=>if P.stoodInHeld t then none else (B7 P 0 fs.toList).bind fun ks=>match op with
   | .eql=>some (.QG ks false x y)
   | .neq=>some (.QG ks true x y)
   |_=>none
  |some (.array len e)=>match P.underlying e,op with
   |some (.int _),.eql=>if qB P e=some 1 then some (.QG (List.replicate len .i) false x y) else none
   |_,_=>none
  |_=>none
 | .unOp .not _ x=>(eV x).bind fun x=>some (.not x)
 | .unOp .neg _ x=>(eV x).bind fun x=>some (.neg x)
 | .convert s d x=>(eV x).bind fun x=>match P.underlying s,P.underlying d with
  |some (.int _),some (.int k)=>some (.conv k x)
  |some .string,some .string=>some (.same x)
  |some (.slice e),some .string=>match P.underlying e with|some (.int .u8)=>some (.b2s x)|_=>none
  |_,_=>none
 | .makeFunc (.func f) first caps=>if first.isEmpty then (vo caps.toList).bind fun l=>some (.fn f l) else if caps.isEmpty then (vo first.toList).bind fun l=>some (.Fv f l) else none
 | .slice t x lo hi mx=>(eV x).bind fun x=>(yQ lo).bind fun lo=>(yQ hi).bind fun hi=>(yQ mx).bind fun mx=>match P.underlying t with
  |some .string=>if mx.isNone then some (.BC x lo hi) else none
  |some (.slice e)=>(qB P e).bind fun n=>if 0<n/\(mx.isNone\/hi.isSome) then some (Rk own o.dst n x lo hi mx) else none
  |_=>none
 | .fieldAddr s x f=>match P.underlying s with
  |some (.struct fs)=>(fs[f]?).bind fun f=>(qB P f.type).bind fun n=>(eV x).bind fun x=>if 0<n then some (.yx f.offset x) else none
  |_=>none
 | .field s x f=>match P.underlying s with
  |some (.struct fs)=>(fs[f]?).bind fun f=>(CD P f.type).bind fun g=>(qB P f.type).bind fun n=>(eV x).bind fun x=>some (if g then .DC f.offset n x else .DB f.offset x)
  |_=>none
 | .indexAddr t x i=>match P.underlying t with
  |some (.slice e)=>(qB P e).bind fun n=>(eV x).bind fun x=>(eV i).bind fun i=>if 0<n then some (.ub n x i) else none
  |some (.array len e)=>(qB P e).bind fun n=>(eV x).bind fun x=>(eV i).bind fun i=>if 0<n then some (.Bb len n x i) else none
  |_=>none
 | .index t x i=>match P.underlying t with
  |some .string=>(eV x).bind fun x=>(eV i).bind fun i=>some (.Bc x i)
  |_=>none
 | .extract x i=>(eV x).bind fun x=>some (.extract x i)
 | .call c=>Ri P own o.dst o.type c
 | .makeMap _ none=>some .mkMap
 | .lookup t x i ok=>match P.underlying t with
  |some (.map k e)=>(D2 P k).bind fun fk=>(P.info? e).bind fun ie=>ie.zero.bind fun zv=>(Q5 zv).bind fun z=>(eV x).bind fun x=>(eV i).bind fun i=>some (.look fk z ok x i)
  |_=>none
 | .mapUpdate t m k v=>match P.underlying t with
  |some (.map kt _)=>(D2 P kt).bind fun fk=>(eV m).bind fun m=>(eV k).bind fun k=>(eV v).bind fun v=>some (.gz fk m k v)
  |_=>none
 | .range t x=>match P.underlying t with
  |some .string=>(eV x).bind fun x=>some (.Qi x)
  |_=>none
 | .next it true=>(eV it).bind fun it=>some (.Gh it)
 | .makeInterface t x=>(eV x).bind fun x=>match P.underlying t with
  |some (.interface _)=>none
  |some _=>some (.iface t x)
  |none=>none
 | .panic x=>(eV x).bind fun x=>some (.raise x)
 | .insert t m k v=>match P.underlying t with
  |some (.map kt _)=>(D2 P kt).bind fun fk=>(eV m).bind fun m=>(eV k).bind fun k=>(Rj v).bind fun v=>some (.gz fk m k v)
  |_=>none
 | .makeSlice t x y=>match P.underlying t with
  |some (.slice e)=>(P.info? e).bind fun i=>i.zero.bind fun z=>(tf z.cells.toList).bind fun l=>(eV x).bind fun x' =>
   if ah2 x y=true/\l.length=i.size/\0<i.size/\i.bytes<=32*i.size then some (match o.dst with|some d=>if own.contains (5000000+d) then .PR (l.map ag.shut) x' else .mkS (l.map ag.shut) x'|none => .mkS (l.map ag.shut) x') else none
  |_=>none
 |_=>none
structure Cz where
 n:Nat
 own:List Nat:=[]
 lv:List (Nat×List Nat)
 lp:List (Nat×List Nat):=[]
def find(l:List (Nat×List Nat))(k:Nat):List Nat:=match l with
 | []=>[]
 |(i,x)::r=>if i=k then x else find r k
def abY(n:Nat):Option Nat->Bool
 |some d=>decide (d<n)
 |none=>true
def MF(P:Program)(A:Cz)(ops:Array Oper)(grow:Bool)(o:Oper):Option cV :=
 (OO P A.own o).bind fun op =>
  if abY A.n o.dst then
   match o.guard with
   |none=>some { dst:=o.dst,op,guard:=none,grow }
   |some (k,want)=>((ops[k]?).bind (·.dst)).bind fun t=>if t<A.n then some { dst:=o.dst,op,guard:=some (t,want),grow } else none
  else none
def tQ(P:Program)(A:Cz)(ops:Array Oper)(grow:List Bool):List Oper->Option (List cV)
 | []=>some []
 |o::r=>(MF P A ops (grow.headD false) o).bind fun x=>(tQ P A ops grow.tail r).bind fun l=>some (x::l)
def ll:Code->Nat
 | .region id _ _=>id
 | .seq a _=>ll a
 | .block _ c=>ll c
 | .loop c=>ll c
 | .cond _ a _=>ll a
 |_=>0
def fV.ma:fV->List Nat
 | .tmp t=>[t]
 | .sY _=>[]
def Bu:Option fV->List Nat
 |some x=>x.ma
 |none=>[]
def kD.ma:kD->List Nat
 | .mv x | .own _ x | .box x | .mN _ x | .rD x | .chk x | .not x | .neg x | .conv _ x | .same x | .yx _ x | .DC _ _ x | .DB _ x | .extract x _ | .VD x | .zZ x | .b2s x | .PE x | .Qi x | .Gh x | .w6 _ _ x | .iface _ x | .raise x | .mkS _ x | .PR _ x=>x.ma
 | .pick c a b=>c.ma++(a.ma++b.ma)
 | .yO _ | .mkMap | .OL _=>[]
 | .build _ ps=>ps.flatMap fun p=>p.2.2.ma
 | .lits _ ps | .Gb _ ps=>ps.flatMap fV.ma
 | .store _ a x | .BF _ _ _ a x=>a.ma++x.ma
 | .gz _ m k v=>m.ma++(k.ma++v.ma)
 | .bin _ x y | .look _ _ _ x y | .QG _ _ x y | .eqB _ x y | .ub _ x y | .Bb _ _ x y | .Bc x y | .O1 _ x y | .append _ _ x y | .vT _ _ x y | .Bo _ x y | .xQ _ _ _ x y | .FC _ x y=>x.ma++y.ma
 | .fn _ l | .Fv _ l=>l.flatMap fV.ma
 | .BC x l h=>x.ma++(Bu l++Bu h)
 | .uq _ x l h m=>x.ma++(Bu l++(Bu h++Bu m))
 | .call _ l | .BU _ l | .lk _ l | .wy _ l=>l.flatMap fV.ma
 | .sw f l | .BV f l=>f.ma++l.flatMap fV.ma
def kD.QI:kD->Bool
 | .own .. | .Gb .. | .PR .. | .xQ .. | .FC .. | .OL _ | .yO _ | .box _ | .store .. | .BF .. | .call .. | .sw .. | .BV .. | .BU .. | .lk .. | .wy .. | .w6 .. | .append .. | .vT .. | .mkMap | .gz .. | .PE _ | .Qi _ | .Gh _=>true
 |_=>false
def kD.QJ:kD->Bool
 | .mN .. | .rD _ | .look .. => true
 |_=>false
def cV.reads(o:cV):List Nat:=o.op.ma++(match o.guard with|some (t,_)=>[t]|none=>[])
def xn(acc:List Nat):List Edge->Nat
 | []=>0
 |e::r=>if Region.binds .any e then xn acc r ||| (2 ^ e.on ||| (nth acc e.on).getD 0) else xn acc r
def Dh:List Oper->List Nat->List Nat
 | [],acc=>acc
 |o::r,acc=>Dh r (acc++[xn acc o.after.toList])
def ri(ops:List Oper):List Nat:=Dh ops []
def ahead(bs:List Nat)(i k:Nat):Bool:=((nth bs k).getD 0).testBit i
def meet(x y:cV):Bool :=
 (match x.dst with|some d=>y.reads.contains d||y.dst==some d|none=>false)||(match y.dst with|some d=>x.reads.contains d|none=>false)
def fenced(bs:List Nat)(l:List cV)(k:Nat):Bool:=(List.range l.length).all fun i=>match nth l i with
 |some x => !x.op.QJ||(if i<k then ahead bs i k else i==k||ahead bs k i)
 |none=>true
def kD.xe:kD->Bool
 | .call .. | .sw .. => true
 |_=>false
def ordered(bs:List Nat)(i k:Nat):Bool:=i==k||(if i<k then ahead bs i k else ahead bs k i)
def alone(bs:List Nat)(l:List cV)(k:Nat):Bool:=(List.range l.length).any fun i=>match nth l i with
 |some x=>x.op.QI && !ordered bs i k
 |none=>false
def kD.NZ:kD->Option Nat
 | .rD (.tmp z)=>some z
 | .mN _ (.tmp z)=>some z
 | .look _ _ _ (.tmp z) _=>some z
 |_=>none
def kD.asi:kD->Bool
 | .store .. => true
 | .append .. | .vT .. => true
 |_=>false
def am4(l:List cV)(i k z:Nat):Bool:=(List.range k).all fun p=>decide (p<i)||match nth l p with|some x=>x.dst != some z|none=>true
def Mp(bs:List Nat)(l:List cV)(k:Nat):Bool:=(List.range l.length).all fun i=>i==k||(if i<k then (ahead bs i k||match nth l i with|some x => !x.op.QI|none=>false) else ahead bs k i)
def NW(bs:List Nat)(l:List cV)(k:Nat):List Nat:=(List.range k).filterMap fun i=>match nth l i with
 |some x=>if x.op.QJ && !ahead bs i k then x.op.NZ else none
 |none=>none
def C2(bs:List Nat)(l:List cV)(k:Nat)(sep:List Nat):Bool:=(List.range l.length).all fun i=>match nth l i with
 |some x => !x.op.QJ||i==k||(if i<k then (ahead bs i k||match x.op.NZ with|some z=>sep.contains z&&am4 l i k z|none=>false) else ahead bs k i)
 |none=>true
def qe(bs:List Nat)(l:List cV):Nat->List cV->List cV
 |_,[]=>[]
 |k,x::r=>{ x with grow:=x.op.QI && !(x.op.xe&&alone bs l k) && !fenced bs l k,xv:=x.op.xe&&alone bs l k,sep:=if x.op.asi && !fenced bs l k&&C2 bs l k (NW bs l k) then NW bs l k else [],stop := !x.op.Rl||Mp bs l k }::qe bs l (k+1) r
def cV.ud(x:cV):Bool:=x.op.QI && !x.xv
def L3:kD->Bool
 | .rD (.sY _) | .mN _ (.sY _) | .look _ _ _ (.sY _) _=>false
 |_=>true
def Ca(ops:Array Oper)(l:List cV)(k:Nat):Bool:=match ops[k]?,nth l k with
 |some o,some y=>(match y.op with
  | .yO _=>(match o.op with | .alloc _=>true|_=>false)
  | .box _=>(match o.op with | .box _ _=>true|_=>false)
  | .wy .. => (match o.op with | .call c=>(match c.callee with | .value (.func _)=>true|_=>false)|_=>false)
  |_=>false)&&y.guard.isNone
 |_,_=>false
def Hw(ops:Array Oper)(bs:List Nat)(l:List cV):Bool:=(List.range l.length).all fun k=>match nth l k,ops[k]? with
 |some y,some o=>o.after.toList.all (fun e => !Region.binds .any e||decide (e.on<k))&&((!y.xv||y.op.xe)&&L3 y.op)&&((!(y.ud && !y.grow)||fenced bs l k)&&(y.sep.isEmpty||C2 bs l k y.sep)) &&
  ((!y.lets||Mp bs l k)&&(List.range k).all fun i=>match nth l i with
   |some x=>(!meet x y||ahead bs i k)&&(!(x.ud&&y.ud)||(ahead bs i k||(Ca ops l i&&Ca ops l k)))
   |none=>false)
 |_,_=>false
def Bt(ops:Array Oper)(l:List cV):Option (List cV) :=
 if Hw ops (ri ops.toList) (qe (ri ops.toList) l 0 l) then some (qe (ri ops.toList) l 0 l) else none
def Y4(A:Cz)(y:Code)(c:cz):cz:=match A.own.find? (fun m=>decide (m / 1000=14000000+ll y)) with
 |some m => .ry (m % 1000) c
 |none=>c
def Ny(A:Cz)(c:Code)(l:List Nat)(x:cz):cz:=if A.own.contains (11000000+ll c) then .nC l x else .loop l x
def comp(P:Program)(A:Cz):Code->Option cz
 | .skip=>some .skip
 | .region id ops draw=>if draw then
   (tQ P { A with own:=A.own.filter (1000000 <= ·) } ops [] ops.toList).bind fun l0=>(Bt ops l0).bind fun l=>some (.region l true (find A.lv id))
  else (tQ P A ops [] ops.toList).bind fun l=>some (.region l false (find A.lv id))
 | .seq a b=>(comp P A a).bind fun x=>(comp P A b).bind fun y=>some (.seq x (Y4 A b y))
 | .cond c a b=>(eV c).bind fun c=>(comp P A a).bind fun x=>(comp P A b).bind fun y=>some (.cond c x y)
 | .block id c=>(comp P A c).bind fun x=>some (.block id x)
 | .loop c=>(comp P A c).bind fun x=>some (Ny A c (find A.lp (ll c)) x)
 | .exit id=>some (.exit id)
 | .ret=>some .ret
 |_=>none
def Ik(P:Program):List ResultVar->Option (List sN)
 | []=>some []
 | .tmp t::r=>(Ik P r).bind fun l=>some (.tmp t::l)
 | .cell a t::r=>(CD P t).bind fun g=>(qB P t).bind fun n=>(Ik P r).bind fun l=>some ((if g then .dE a n else .abQ a)::l)
def pa(P:Program)(A:Cz)(fn:Func):Option eH :=
 match fn.body with
 |none=>none
 |some c=>if fn.name != "runtime.NumGoroutine" /\ A.n=fn.ntmps/\fn.params.size+fn.nfree<=fn.ntmps then
   (comp P A c).bind fun b=>(Ik P fn.results.toList).bind fun r=>some { nparams:=fn.params.size+fn.nfree,results:=r,body:=b }
  else none
end
section
open Go
def an7(x:Operand)(s:Nat):Nat:=match x with
 | .tmp t=>s ||| (1 <<< t)
 |_=>s
def opB(ops:Array Oper)(o:Oper)(s:Nat):Nat :=
 let s:=match o.dst,o.guard with
  |some d,none=>if s.testBit d then s-(1 <<< d) else s
  |_,_=>s
 let s:=o.op.operands.toList.foldl (fun s x=>an7 x s) s
 match o.guard with
 |some (k,_)=>match (ops[k]?).bind (·.dst) with
  |some t=>s ||| (1 <<< t)
  |none=>s
 |none=>s
def aub(ops:Array Oper)(out:Nat):Nat :=
 let l:=ops.toList.foldr (opB ops) out
 let g:=ops.toList.foldl (fun g o=>match o.dst,o.guard with
  |some d,some _=>g ||| (1 <<< d)
  |_,_=>g) 0
 let d:=g ^^^ (g &&& out)
 l ^^^ (l &&& d)
def Nv:List (Nat×Nat)->Nat->Nat
 | [],_=>0
 |(i,x)::r,k=>if i=k then x else Nv r k
def z7(ret:Nat):Code->List (Nat×Nat)->Nat->Nat×List (Nat×Nat)×List (Nat×Nat)
 | .skip,_,out=>(out,[],[])
 | .region id ops _,_,out=>(aub ops out,[(id,out)],[])
 | .seq a b,ex,out =>
  let y:=z7 ret b ex out
  let x:=z7 ret a ex y.1
  (x.1,x.2.1++y.2.1,x.2.2++y.2.2)
 | .cond c a b,ex,out =>
  let x:=z7 ret a ex out
  let y:=z7 ret b ex out
  (an7 c (x.1 ||| y.1),x.2.1++y.2.1,x.2.2++y.2.2)
 | .block id c,ex,out=>z7 ret c ((id,out)::ex) out
 | .loop c,ex,_ =>
  let h1:=(z7 ret c ex 0).1
  let h2:=h1 ||| (z7 ret c ex h1).1
  let z:=z7 ret c ex h2
  let h3:=h2 ||| z.1
  (h3,z.2.1,(ll c,h3)::z.2.2)
 | .exit id,ex,_=>(Nv ex id,[],[])
 | .ret,_,_=>(ret,[],[])
 |_,_,out=>(out,[],[])
def akG(n s:Nat):List Nat:=(List.range n).filter s.testBit
def Fo(own:List Nat)(fn:Func):Cz:=match fn.body with
 |none=>{ n:=0,lv:=[] }
 |some c =>
  let r:=fn.results.toList.foldl (fun s x=>match x with
   | .tmp t=>s ||| (1 <<< t)
   | .cell t _=>s ||| (1 <<< t)) 0
  let z:=z7 r c [] r
  let f:=fun(p:Nat×Nat)=>(p.1,akG fn.ntmps p.2)
  { n:=fn.ntmps,own:=own,lv:=z.2.1.map f,lp:=z.2.2.map f }
def cz.size:cz->Nat
 | .seq a b=>a.size+b.size+1
 | .cond _ a b=>a.size+b.size+1
 | .block _ a=>a.size+1
 | .loop _ a=>a.size+1
 | .nC _ a=>a.size+1
 | .ry _ a=>a.size+1
 | .region .. => 1
 | .skip=>1
 | .exit _=>1
 | .ret=>1
def cz.sK:cz->List cz
 | .seq a b => .seq a b::(a.sK++b.sK)
 | .cond c a b => .cond c a b::(a.sK++b.sK)
 | .block i a => .block i a::a.sK
 | .loop l a => .loop l a::a.sK
 | .nC l a => .nC l a::a.sK
 | .ry l a => .ry l a::a.sK
 |c=>[c]
def sub(c:cz)(i:Nat):cz:=(c.sK[i]?).getD .skip
def ref(r:cz)(i:Nat):cz->cz
 | .skip => .skip
 | .exit n => .exit n
 | .ret => .ret
 | .region .. => sub r i
 | .seq .. => sub r i
 | .cond .. => sub r i
 | .block .. => sub r i
 | .loop .. => sub r i
 | .nC .. => sub r i
 | .ry .. => sub r i
def Ao(r:cz)(i:Nat):cz->cz
 | .region a b c => .region a b c
 | .skip => .skip
 | .exit n => .exit n
 | .ret => .ret
 | .seq .. => sub r i
 | .cond .. => sub r i
 | .block .. => sub r i
 | .loop .. => sub r i
 | .nC .. => sub r i
 | .ry .. => sub r i
abbrev Hd(q b:cz):Prop:=∀(C:eP)(fn:List sN)(bR:Nat)(k:List K)(bp:Env)(M:aC),eX C fn bR k q bp M=eX C fn bR k b bp M
def CG(e:Prop):cz->Prop
 | .region .. => True
 | .skip | .exit _ | .ret=>True
 | .seq .. => e
 | .cond .. => e
 | .block .. => e
 | .loop .. => e
 | .nC .. => e
 | .ry .. => e
def eqs(r:cz):Nat->cz->Prop
 |i,.seq a b=>Hd (sub r i) (.seq (Ao r (i+1) a) (ref r (i+1+a.size) b))/\(CG (eqs r (i+1) a) a/\eqs r (i+1+a.size) b)
 |i,.cond c a b=>Hd (sub r i) (.cond c (ref r (i+1) a) (ref r (i+1+a.size) b))/\(eqs r (i+1) a/\eqs r (i+1+a.size) b)
 |i,.block n a=>Hd (sub r i) (.block n (ref r (i+1) a))/\eqs r (i+1) a
 |i,.loop n a=>Hd (sub r i) (.loop n (ref r (i+1) a))/\eqs r (i+1) a
 |i,.nC n a=>Hd (sub r i) (.nC n (ref r (i+1) a))/\eqs r (i+1) a
 |i,.ry n a=>Hd (sub r i) (.ry n (ref r (i+1) a))/\eqs r (i+1) a
 |i,.region a b c=>Hd (sub r i) (.region a b c)
 |_,.skip=>True
 |_,.exit _=>True
 |_,.ret=>True
def pW:∀c:cz,c.sK.length=c.size
 | .seq a b=>by simp[cz.sK,cz.size,pW a,pW b]
 | .cond _ a b=>by simp[cz.sK,cz.size,pW a,pW b]
 | .block _ a=>by simp[cz.sK,cz.size,pW a]
 | .loop _ a=>by simp[cz.sK,cz.size,pW a]
 | .nC _ a=>by simp[cz.sK,cz.size,pW a]
 | .ry _ a=>by simp[cz.sK,cz.size,pW a]
 | .region .. | .skip | .exit _ | .ret=>by simp[cz.sK,cz.size]
def ahW(c:cz):c.sK[0]?=some c:=by cases c<;>simp[cz.sK]
def At(r:cz)(i:Nat)(c:cz):Prop:=∀j,j<c.size->r.sK[i+j]?=c.sK[j]?
def size_pos(c:cz):0<c.size:=by cases c<;>simp[cz.size]
def At.sub{r c:cz}{i:Nat}(h:At r i c):sub r i=c:=by
 have:=h 0 (size_pos c);rw[c8,ahW] at this;simp[Abs.sub,this]
def At.ref{r c:cz}{i:Nat}(h:At r i c):ref r i c=c:=by
 cases c<;>first|rfl|exact h.sub
def At.Ao{r c:cz}{i:Nat}(h:At r i c):Ao r i c=c:=by
 cases c<;>first|rfl|exact h.sub
def YN{e:Prop}{c:cz}(h:e):CG e c:=by
 cases c<;>first|trivial|exact h
def At.two{r a b x:cz}{i:Nat}(h:At r i x)(hx:x.sK=x::(a.sK++b.sK))(hs:x.size=a.size+b.size+1):At r (i+1) a/\At r (i+1+a.size) b:=by
 refine⟨fun j hj=>?_,fun j hj=>?_⟩
 ·have:=h (j+1) aH;rw[hx,cS,aO (by rw[pW]; exact hj)] at this
  rw[<-this]; congr 1; omega
 ·have:=h (a.size+j+1) aH;rw[hx,cS,bj (by rw[pW]; omega),pW] at this
  rw[show a.size+j-a.size=j by omega] at this
  rw[<-this]; congr 1; omega
def At.one{r a x:cz}{i:Nat}(h:At r i x)(hx:x.sK=x::a.sK)(hs:x.size=a.size+1):At r (i+1) a:=by
 intro j hj;have:=h (j+1) aH;rw[hx,cS] at this;rw[<-this]; congr 1; omega
def DR{q b:cz}(h:q=b):Hd q b:=nq h
def wb(r:cz):∀(c:cz)(i:Nat),At r i c->eqs r i c
 | .seq a b,i,h=>by
  obtain⟨h1,h2⟩:=h.two (a:=a) (b:=b) rfl rfl;exact⟨DR (by rw[h.sub,h1.Ao,h2.ref]),YN (wb r a _ h1),wb r b _ h2⟩
 | .cond c a b,i,h=>by
  obtain⟨h1,h2⟩:=h.two (a:=a) (b:=b) rfl rfl;exact⟨DR (by rw[h.sub,h1.ref,h2.ref]),wb r a _ h1,wb r b _ h2⟩
 | .block n a,i,h=>by
  have h1:=h.one (a:=a) rfl rfl;exact⟨DR (by rw[h.sub,h1.ref]),wb r a _ h1⟩
 | .loop n a,i,h=>by
  have h1:=h.one (a:=a) rfl rfl;exact⟨DR (by rw[h.sub,h1.ref]),wb r a _ h1⟩
 | .nC n a,i,h=>by
  have h1:=h.one (a:=a) rfl rfl;exact⟨DR (by rw[h.sub,h1.ref]),wb r a _ h1⟩
 | .ry n a,i,h=>by
  have h1:=h.one (a:=a) rfl rfl;exact⟨DR (by rw[h.sub,h1.ref]),wb r a _ h1⟩
 | .region ..,_,h=>DR h.sub
 | .skip,_,_=>trivial
 | .exit _,_,_=>trivial
 | .ret,_,_=>trivial
def aiQ(r:cz):At r 0 r:=fun j _=>by rw[aG]
def Dq[kG](P:Program)(A:Cz):Code->Option cz
 | .skip=>some .skip
 | .region id ops draw=>if draw then
   (tQ P { A with own:=A.own.filter (1000000 <= ·) } ops [] ops.toList).bind fun l=>some (.region (qe (ri ops.toList) l 0 l) true (find A.lv id))
  else (tQ P A ops [] ops.toList).bind fun l=>some (.region l false (find A.lv id))
 | .seq a b=>(Dq P A a).bind fun x=>(Dq P A b).bind fun y=>some (.seq x (Y4 A b y))
 | .cond c a b=>(eV c).bind fun c=>(Dq P A a).bind fun x=>(Dq P A b).bind fun y=>some (.cond c x y)
 | .block id c=>(Dq P A c).bind fun x=>some (.block id x)
 | .loop c=>(Dq P A c).bind fun x=>some (Ny A c (find A.lp (ll c)) x)
 | .exit id=>some (.exit id)
 | .ret=>some .ret
 |_=>none
def ak5[kG](P:Program)(A:Cz)(fn:Func):Option cz:=match fn.body with
 |some c=>Dq P A c
 |none=>none
abbrev Cv[kG](P:Program)(A:Cz)(f:Func):={ g:cz // ak5 P A f=some g }
def okc{o:Option eH}{n:Nat}{r:List sN}{c:cz}(h:o=some (eH.mk n r c)):o=some (eH.mk n r (sub c 0)):=by
 rw[h,(aiQ c).sub]
set_option linter.defProp false in
def yI:=bQ @eqs.eq_1 (bQ @eqs.eq_2 (bQ @eqs.eq_3 (bQ @eqs.eq_4 (bQ @eqs.eq_5 (bQ @eqs.eq_6 (bQ @eqs.eq_7 (bQ @eqs.eq_8 (bQ @eqs.eq_9 (bQ @eqs.eq_10 (bQ @ref.eq_1 (bQ @ref.eq_2 (bQ @ref.eq_3 (bQ @ref.eq_4 (bQ @ref.eq_5 (bQ @ref.eq_6 (bQ @ref.eq_7 (bQ @ref.eq_8 (bQ @ref.eq_9 (bQ @ref.eq_10 (bQ @Ao.eq_1 (bQ @Ao.eq_2 (bQ @Ao.eq_3 (bQ @Ao.eq_4 (bQ @Ao.eq_5 (bQ @Ao.eq_6 (bQ @Ao.eq_7 (bQ @Ao.eq_8 (bQ @Ao.eq_9 (bQ @Ao.eq_10 (bQ @CG.eq_1 (bQ @CG.eq_2 (bQ @CG.eq_3 (bQ @CG.eq_4 (bQ @CG.eq_5 (bQ @CG.eq_6 (bQ @CG.eq_7 (bQ @CG.eq_8 (bQ @CG.eq_9 (bQ @CG.eq_10 (bQ @cz.size.eq_1 (bQ @cz.size.eq_2 (bQ @cz.size.eq_3 (bQ @cz.size.eq_4 (bQ @cz.size.eq_5 (bQ @cz.size.eq_6 (bQ @cz.size.eq_7 (bQ @cz.size.eq_8 (bQ @cz.size.eq_9 (bQ @cz.size.eq_10 (bQ @pN (@true_and)))))))))))))))))))))))))))))))))))))))))))))))))))
end
end Go.Abs
namespace Go.Proofs.YteoamaffclmdbaaGreatDoor
open Go Go.Abs
def IM:Value := .iface 215 (.agg #[.pointer (some ⟨2,99,none⟩)])
instance:kG where
 g:=fun b=>match b with
  |0=>some [IM]
  |_=>none
 u8:=5
def alY:Func:={ name := "",origin := "",params := #[],resultTypes := #[],nfree:=0,ntmps:=0,results := #[],body:=some .skip,norace:=false,tmpNames := #[] }
noncomputable def anO:Program:={ toTables:={ goVersion := "",platform := "",initOrder := "",godebug := "",types:=Tryz.types,rt:=Tryz.progTables.rt,cutTypes := #[],globals := #[],inits := #[],main:=0 },funcs:=⟨List.replicate 900 alY⟩ }
abbrev Ko(own:List Nat)(f:Func):=Cv anO (Fo own f) f
def eN{A:List Nat}{f:Func}(h:Ko A f:=by apply Subtype.mk; cbv):=h
abbrev sL(own:List Nat)(f:Func)(c:eH):Prop:=pa Tryz.prog (Fo own f) f=some c
section
open Go.ChangeShapes Go.WideShapes Go.RowKit
def at4:ownKnob Tryz.prog.godebug=none:=fz
abbrev VB:List (String×DataW Unit):=[("errors.errorType",Rows.laid_errors_errorType)]
def SZ:J:=⟨fun _=>none,fun _ _=>False⟩
def auc(W:World):Rel SZ [] W where
 inj:=fun _ _ _ h=>by cases h
 lt:=fun _ _ h=>by cases h
 fix:=fun _ _ h=>by cases h
 tick:=fun _ _ _ _ h=>by cases h
 arr:=fun _ _ _ _ h=>by cases h
 vf:=fun _ _ h=>by cases h
 AB:=fun _ _ h=>h.elim
def MH{w:World}{b off:Nat}{v:Value}(h:w.cell? ⟨b,off,none⟩=some v):b<w.heap.size:=by
 rcases bz b w.heap.size with hb|hb
 ·exact hb
 ·simp[World.cell?,im hb] at h
def ahq:((List.range Tryz.prog.types.size).filter fun t=>Tryz.prog.rowNamed t [101,114,114,111,114])=[99]:=fz
theorem rtK{a:Option Nat}{u n:Nat}(e:a=some u)(h:a=some n):n=u:=Option.some.inj (h.symm.trans e)
def al7{W:World}(hL:laidMetH Tryz.prog VB W)(hsh:W.ShapedOpen Tryz.prog):sO SZ [] W:=by
 have h':laidMet Tryz.prog [] W/\handlesMet Tryz.prog VB W:=hL;obtain⟨name,u,ty,e1,e2,e3,e4,e5⟩:=h'.2 _ (bS.2 rfl);have en:name=[101,114,114,111,114]:=(oL e1).symm;subst en;obtain rfl:=rtK e2 (n:=215) (by kernel_rfl)
 have hm:ty∈(List.range Tryz.prog.types.size).filter fun t=>Tryz.prog.rowNamed t [101,114,114,111,114]:=ei.2 ⟨gb.2 e3,e4⟩
 rw[ahq] at hm;obtain rfl:=bS.1 hm;rw[show typeHandle Tryz.prog 99 = .pointer (some ⟨2,99,none⟩) by kernel_rfl] at e5
 have hc:W.cell? ⟨0,0,none⟩=some IM:=by simpa[IM] using World.var?_cell (show Tryz.prog.globalNamed "errors.errorType" = some 0 by kernel_rfl) e5 0
 obtain⟨⟨zero,t'⟩,hz,he⟩:=aV.1 (show(((begin Tryz.prog (fun _ _=>0) default).world.heap[0]?).bind Obj.row?).map (fun x=>x.1.size)=some 1 by kernel_rfl)
 obtain⟨cs,h1,h2,_⟩:=hsh.1 0 zero t' (jV fz) hz;refine⟨fun b vs k v hb hk=>?_,fun b vs hb=>?_,fun b p hb=>by cases hb⟩
 ·match b,hb with
  |0,hb =>
   cases hb
   match k,hk with
   |0,hk=>cases hk; exact⟨⟨MH hc,fun id hid=>by simp at hid,fun h=>h⟩,hc⟩
 ·match b,hb with
  |0,hb=>cases hb; exact⟨cs,_,_,h1,h2.trans he⟩
noncomputable def x8(os:Os):World :=
 let w0:=World.holding Tryz.prog os ⟨#[],#[],[]⟩
 { w0 with heap:=w0.heap.modify 0 fun
   | .cells _ t frozen => .cells #[IM] t frozen
   |o=>o }
def VC(os:Os)(args:Array Value):laidMetH Tryz.prog VB ((x8 os).forCall (fun _ _=>0) ⟨#[],args,[]⟩).memory :=
 laidMetH_of_parts (laidMet_nil _ _) fz
end
end Go.Proofs.YteoamaffclmdbaaGreatDoor
