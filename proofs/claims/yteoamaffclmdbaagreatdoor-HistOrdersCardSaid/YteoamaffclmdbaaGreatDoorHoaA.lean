import Derived.KernelRfl
import Derived.Calls
import Derived.Laws.Sem
import Derived.Below
import Derived.Test.YteoamaffclmdbaaGreatDoorProg
import Derived.Test.YteoamaffclmdbaaGreatDoorCards
import Derived.ChangeSame
import Derived.ChangeVars
import Derived.JoinedOf
import Derived.RowKit
import Derived.RowKitTokens
import Derived.LaidLaws
import Derived.LaidHandle
import Derived.Stop.Joined
import Derived.Lib.LaidU8
import Derived.Deep.DeepHandedRow
import Derived.Deep.DeepWitnessRowRef
import Derived.ProofKit
import Derived.SizedLaws
import Derived.Carry
import Derived.OpenShut
import Derived.Deep.Slices
import Derived.Deep.Fields
import Derived.ChangeOld
import Derived.Shelf.Vars
import Derived.Lib.LaidIn
set_option linter.unusedSimpArgs false
set_option linter.unusedVariables false
set_option linter.unusedSectionVars false
set_option linter.defProp false
namespace Go
def sW{α:Type}{o:Option α}{a b:α}(h:o=some a)(e:a=b:=by kernel_rfl):o=some b:=h.trans (congrArg some e)
def aH{p:Prop}(h:p:=by omega):=h
def gh{p:Prop}(h:p:=by simp;omega):=h
def dw{p:Prop}(h:p:=by simp):=h
def fA{p:Prop}(h:p:=by kernel_rfl):=h
def j6{p:Prop}(h:p:=by grind):=h
def mu{p:Prop}(h:p:=by decide):=h
def bR{a b:Prop}(x:a)(y:b):=And.intro x y
def dx:=@Array.getD_eq_getD_getElem?
def cj:=@Array.getElem?_append_left
def bg:=@Array.getElem?_eq_getElem
def ir:=@Array.getElem?_eq_none
def fK:=@Array.getElem?_eq_some_iff
def iL:=@Array.getElem?_map
def gX:=@Array.getElem?_modify
def fW:=@Array.getElem?_push
def fF:=@Array.getElem?_setIfInBounds_ne
def hV:=@Array.getElem?_setIfInBounds_self
def lL:=@Array.mapM_eq_mapM_toList
def jK:=@Array.replicate_succ
def jL:=@Array.replicate_zero
def ga:=@Array.size_append
def bu:=@Bool.and_eq_true
def dM:=@Bool.and_false
def jM:=@Bool.and_self
def gb:=@Bool.and_true
def cu:=@Bool.eq_iff_iff
def cI:=@Bool.false_and
def af:=@Bool.false_eq_true
def cV:=@Bool.false_or
def gN:=@Bool.not_eq_true'
def dC:=@Bool.not_false
def ct:=@Bool.not_true
def jN:=@Bool.or_eq_false_iff
def cU:=@Bool.or_eq_true
def fG:=@Bool.or_false
def fH:=@Bool.or_self
def eu:=@Bool.or_true
def cH:=@Bool.true_and
def dI:=@Bool.true_or
def im:=@Eq.trans
def dP:=@Int.le_refl
def bm:=@Int.lt_irrefl
def ky:=@Int.natCast_nonneg
def dJ:=@Int.toNat_natCast
def ou:=@Int.toNat_of_nonneg
def jO:=@List.Pairwise.filter
def ow:=@List.all_append
def kG:=@List.all_cons
def bM:=@List.all_eq_true
def jP:=@List.any_cons
def iJ:=@List.any_eq_true
def oU:=@List.any_nil
def bV:=@List.append_assoc
def db:=@List.append_nil
def j9:=@List.append_toArray
def aG:=@List.cons_append
def jy:=@List.contains_iff_mem
def lQ:=@List.countP_cons
def nt:=@List.countP_le_length
def cW:=@List.drop_eq_getElem_cons
def jl:=@List.drop_eq_nil_of_le
def nF:=@List.drop_length
def iu:=@List.drop_of_length_le
def oy:=@List.drop_succ_cons
def pd:=@List.drop_zero
def dD:=@List.eq_nil_of_length_eq_zero
def mc:=@List.eq_of_mem_replicate
def fm:=@List.exists_cons_of_ne_nil
def cE:=@List.ext_getElem?
def jv:=@List.filter_append
def ft:=@List.filter_cons
def mw:=@List.filter_cons_of_pos
def ji:=@List.filter_eq_self
def kH:=@List.filter_nil
def fy:=@List.find?_eq_none
def mB:=@List.flatMap_eq_nil_iff
def ei:=@List.foldl_cons
def mX:=@List.foldl_nil
def kW:=@List.getD_eq_getElem?_getD
def nK:=@List.getElem?_append
def aQ:=@List.getElem?_append_left
def bt:=@List.getElem?_append_right
def cX:=@List.getElem?_cons_succ
def gk:=@List.getElem?_cons_zero
def cC:=@List.getElem?_drop
def ai:=@List.getElem?_eq_getElem
def eS:=@List.getElem?_eq_none
def aj:=@List.getElem?_eq_some_iff
def aX:=@List.getElem?_map
def ib:=@List.getElem?_modify
def bZ:=@List.getElem?_of_mem
def gP:=@List.getElem?_range
def gm:=@List.getElem?_replicate
def fL:=@List.getElem?_set
def fc:=@List.getElem?_set_ne
def fa:=@List.getElem?_set_self
def fz:=@List.getElem?_take
def bG:=@List.getElem?_take_of_lt
def jq:=@List.getElem_mem
def ka:=@List.getElem_of_mem
def aA:=@List.length_append
def av:=@List.length_cons
def fS:=@List.length_drop
def dQ:=@List.length_eq_zero_iff
def bU:=@List.length_filter_le
def eK:=@List.length_map
def az:=@List.length_nil
def gQ:=@List.length_pos_iff
def kP:=@List.length_replicate
def dL:=@List.length_set
def cq:=@List.length_take
def aZ:=@List.map_append
def cY:=@List.map_congr_left
def aK:=@List.map_cons
def jQ:=@List.map_drop
def oz:=@List.map_eq_nil_iff
def gG:=@List.map_map
def aU:=@List.map_nil
def gZ:=@List.map_replicate
def gH:=@List.map_set
def eP:=@List.map_take
def bo:=@List.mem_append
def eH:=@List.mem_append_left
def iG:=@List.mem_append_right
def bJ:=@List.mem_cons
def bw:=@List.mem_cons_of_mem
def bD:=@List.mem_cons_self
def eo:=@List.mem_filter
def jr:=@List.mem_flatMap
def kQ:=@List.mem_iff_getElem?
def eJ:=@List.mem_map
def iB:=@List.mem_of_find?_eq_some
def aI:=@List.mem_of_getElem?
def dy:=@List.mem_of_mem_drop
def dN:=@List.mem_of_mem_take
def lM:=@List.mem_or_eq_of_mem_set
def gj:=@List.mem_range
def bQ:=@List.mem_singleton
def aO:=@List.nil_append
def kX:=@List.nodup_append
def oE:=@List.nodup_cons
def lq:=@List.nodup_nil
def fu:=@List.pairwise_append
def dq:=@List.pairwise_cons
def cm:=@List.pairwise_iff_getElem
def jR:=@List.pairwise_map
def lR:=@List.prefix_refl
def kY:=@List.push_toArray
def lu:=@List.range_eq_range'
def jj:=@List.replicate_succ
def nL:=@List.replicate_succ'
def js:=@List.set_eq_take_append_cons_drop
def cZ:=@List.size_toArray
def iv:=@List.takeWhile_cons
def cz:=@List.take_add_one
def cF:=@List.take_append_drop
def fP:=@List.take_append_of_le_length
def bH:=@List.take_length
def bB:=@List.take_of_length_le
def bP:=@Nat.add_mul
def du:=@Nat.add_sub_cancel'
def iX:=@Nat.add_sub_cancel_left
def df:=@Nat.add_zero
def kR:=@Nat.div_lt_iff_lt_mul
def nM:=@Nat.eq_of_testBit_eq
def hU:=@Nat.eq_zero_or_pos
def kh:=@Nat.le_add_right
def fM:=@Nat.le_mul_of_pos_right
def au:=@Nat.le_refl
def iY:=@Nat.le_succ_of_le
def aY:=@Nat.le_trans
def ic:=@Nat.lt_irrefl
def bz:=@Nat.lt_of_lt_of_le
def bE:=@Nat.lt_or_ge
def iZ:=@Nat.lt_trichotomy
def iw:=@Nat.min_eq_left
def nG:=@Nat.mod_eq_of_lt
def nu:=@Nat.mod_lt
def bd:=@Nat.mul_le_mul_right
def pK:=@Nat.mul_one
def gI:=@Nat.ne_of_lt
def jI:=@Nat.not_lt_zero
def fN:=@Nat.one_mul
def lx:=@Nat.pow_lt_pow_right
def mC:=@Nat.sub_mul
def bT:=@Nat.sub_zero
def mT:=@Nat.succ_mul
def mY:=@Nat.testBit_or
def oG:=@Nat.testBit_two_pow
def aJ:=@Nat.zero_add
def cR:=@Nat.zero_le
def jD:=@Nat.zero_mul
def eY:=@Ne.symm
def dz:=@Option.bind_eq_some_iff
def iK:=@Option.getD_none
def bj:=@Option.getD_some
def fD:=@Option.isSome_iff_exists
def dr:=@Option.isSome_none
def bX:=@Option.isSome_some
def aV:=@Option.map_eq_some_iff
def oH:=@Option.map_none
def eL:=@Option.map_some
def oI:=@Option.some.inj
def gS:=@Option.some.injEq
def kB:=@Option.toList_some
def pY:=@Prod.mk.injEq
def kS:=@UInt8.lt_iff_toNat_lt
def oJ:=@UInt8.lt_irrefl
def kI:=@UInt8.toNat_inj
def jS:=@and_self
def kb:=@beq_eq_false_iff_ne
def dZ:=@beq_iff_eq
def lU:=@beq_self_eq_true
def nv:=@bne_iff_ne
def aw:=@bne_self_eq_false
def gn:=@decide_eq_false
def dA:=@decide_eq_false_iff_not
def ik:=@decide_eq_true
def bh:=@decide_eq_true_eq
def fx:=@eq_iff_iff
def pZ:=@ge_iff_le
def mU:=@getElem!_pos
def aD:=@if_false
def aP:=@if_neg
def aW:=@if_pos
def aE:=@if_true
def p6:=@iff_false
def ja:=@iff_true
def o4:=@not_or
def mZ:=@not_true_eq_false
def jT:=@of_decide_eq_true
end Go
namespace Go.Abs
section
open Go
inductive Tk where
 |sh|c0|own (k:Nat)
 deriving DecidableEq,Repr
inductive ag where
 |bool (b:Bool)
 |int (k:IntKind) (n:Int)
 |str (s:List UInt8)
 |slice (tk:Tk) (xs:List ag)
 |agg (cs:List ag)
 |tuple (vs:List ag)
 |ptr (id off:Nat)
 |jB (cs:List ag)
 |func (f:Nat) (caps:List ag)
 |iz (id:Nat)
 |j4 (id:Nat)
 |kf (ks vs:List ag)
 |cB (id ver sz lo hi:Nat)
 |jt (id ver i off:Nat)
 |qV (f:Nat) (fs:List ag)
 |kj (t id off:Nat)
 |raw (v:Value)
 |nD (v:Value)
 |any
 deriving Inhabited
def ag.jm:ag->Bool
 | .nD _=>true
 | .bool _ | .int .. | .str _ | .slice .. | .agg _ | .tuple _ | .ptr .. | .jB _ | .func .. | .iz _ | .j4 _ | .kf .. | .cB .. | .jt .. | .qV .. | .kj .. | .raw _ | .any=>false
abbrev aF(n:Int):ag:=.int .i64 n
abbrev gA(l:List ag):ag:=.slice .sh l
abbrev cv(n:Nat):ag:=.ptr n 0
inductive cL where
 |cells (cs:List ag)
 |tick (sz n:Nat)
 |map (ks vs:List ag)
 |nR (s:List UInt8) (pos:Nat)
 |arr (sz ver:Nat) (xs:List ag)
 |vO
def cL.tag:cL->Nat
 | .cells _=>0
 | .tick sz _=>sz+3
 | .map _ _=>1
 | .nR _ _=>2
 | .arr sz _ _=>sz+3
 | .vO=>3
def cL.fixed:cL->Bool
 | .tick _ _ | .arr _ _ _ | .vO=>false
 |_=>true
def cL.loose:cL->Bool
 | .tick _ _ | .arr _ _ _=>true
 |_=>false
abbrev cA(l:List ag):cL:=.cells l
abbrev aC:=List cL
abbrev Env:=List (Nat×ag)
def bI{α β:Type}(x:Option α)(f:α->Option β):Option β:=match x with
 |some a=>f a
 |none=>none
@[congr] theorem adx {α β:Type} {x x':Option α} {f:α->Option β} (h:x=x'):bI x f=bI x' f:=by rw[h]
@[simp] theorem bO {α β:Type} (a:α) (f:α->Option β):bI (some a) f=f a:=rfl
@[simp] theorem ag6 {α β:Type} (f:α->Option β):bI none f=none:=rfl
def Be{α:Type}(b:Bool)(x y:Option α):Option α:=match b with
 |true=>x
 |false=>y
@[congr] theorem ah0 {α:Type} {b b':Bool} {x y:Option α} (h:b=b'):Be b x y=Be b' x y:=by rw[h]
@[simp] theorem vC {α:Type} (x y:Option α):Be true x y=x:=rfl
@[simp] theorem p9 {α:Type} (x y:Option α):Be false x y=y:=rfl
@[simp] theorem PF {α β:Type} (b:Bool) (x y:Option α) (f:α->Option β):bI (Be b x y) f=Be b (bI x f) (bI y f):=by cases b<;>rfl
open Classical in
noncomputable def cp{α:Type}(p:Prop)(x:Option α):Option α:=if p then x else none
@[congr] theorem adz {α:Type} {p p':Prop} {x:Option α} (h:p=p'):cp p x=cp p' x:=by rw[h]
theorem fi{α:Type}{p:Prop}{x:Option α}(h:p):cp p x=x:=aW h
@[simp] theorem LY {α:Type} (x:Option α):cp True x=x:=if_pos trivial
@[simp] theorem adA {α:Type} (x:Option α):cp False x=none:=if_neg not_false
@[simp] theorem ady {α β:Type} (p:Prop) (x:Option α) (f:α->Option β):bI (cp p x) f=cp p (bI x f):=by
 unfold cp; split<;>rfl
def ia:Env->Nat->ag
 | [],_ => .any
 |(k,v)::e,t=>if k=t then v else ia e t
def ag.cells:ag->List ag
 | .agg cs=>cs
 |x=>[x]
def ag.jf:ag->Bool
 | .agg _ | .tuple _ | .any | .nD _=>false
 | .raw v=>match v with | .agg _ | .tuple _=>false|_=>true
 |_=>true
def ag.cells?:ag->Option (List ag)
 | .agg cs=>some cs
 | .tuple _ | .any | .nD _=>none
 | .raw (.agg _)=>none
 |x=>some [x]
def ag.shut:ag->ag
 | .slice _ xs => .slice .sh xs
 |x=>x
def ag.fV:ag->ag
 | .slice _ xs => .slice .sh xs
 | .agg cs => .agg (cs.map ag.shut)
 |x=>x
def ag.plainCell:ag->Bool
 | .bool _ | .int .. | .str _=>true
 | .slice .sh _=>true
 | .raw v=>match v with | .pointer none | .nilFunc | .nilIface | .map none | .func _ ⟨[]⟩ ⟨[]⟩=>true|_=>false
 |_=>false
def ag.plain:ag->Bool
 | .agg cs=>cs.all ag.plainCell
 |x=>x.plainCell
def ag.jz(bS:Nat)(M:aC):ag->ag
 | .slice (.own k) xs=>if k<bS then .slice (.own k) xs else .slice .sh xs
 | .ptr id off=>if id<bS then .ptr id off else .any
 | .iz id=>if id<bS then .iz id else .any
 | .j4 id=>if id<bS then .j4 id else .any
 | .cB id ver sz lo hi=>if id<bS then .cB id ver sz lo hi else match M[id]? with
  |some (.arr _ v xs)=>if v=ver then .slice .sh ((xs.take hi).drop lo) else .any
  |_ => .any
 | .jt id ver i off=>if id<bS then .jt id ver i off else .any
 | .kj t id off=>if id<bS then .kj t id off else .any
 | .func _ _ | .agg _ | .tuple _ => .any
 |x=>x
def ag.jE(bS:Nat)(M:aC):ag->ag
 | .func f caps => .func f (caps.map (ag.jz bS M))
 |x=>x.jz bS M
def ag.jU(bS:Nat)(M:aC):ag->ag
 | .agg cs => .agg (cs.map (ag.jE bS M))
 |x=>x.jE bS M
def ag.mF(bS:Nat)(M:aC):ag->ag
 | .tuple vs => .tuple (vs.map (ag.jU bS M))
 |x=>x.jU bS M
def cL.back(bS:Nat)(M:aC):cL->cL
 | .cells cs => .cells (cs.map (ag.jE bS M))
 | .tick sz n => .tick sz n
 | .map ks vs => .map ks (vs.map (ag.jU bS M))
 | .nR s p => .nR s p
 | .arr sz v xs => .arr sz v xs
 | .vO => .vO
def iU(bS:Nat)(M:aC):aC:=(M.take bS).map (cL.back bS M)
def wv(bS:Nat)(M:aC)(bq:Env):Env:=bq.map fun x=>(x.1,x.2.mF bS M)
def ag.kd(bS:Nat)(M:aC):ag->ag
 | .slice _ xs => .slice .sh xs
 | .iz id=>if id<bS then .iz id else match M[id]? with
  |some (.map ks vs)=>if vs.all ag.plain&&ks.all ag.plainCell then .kf ks vs else .any
  |_ => .any
 |x=>x.jE bS M
def ag.kJ(bS:Nat)(M:aC):ag->ag
 | .agg cs => .agg (cs.map (ag.kd bS M))
 |x=>x.kd bS M
def ag.lA(bS:Nat)(M:aC):ag->ag
 | .tuple vs => .tuple (vs.map (ag.kJ bS M))
 |x=>x.kJ bS M
def ag.iI:ag->List Nat
 | .ptr id _ | .iz id | .j4 id | .cB id _ _ _ _ | .jt id _ _ _=>[id]
 | .slice (.own k) _=>[k]
 | .kj _ id _=>[id]
 |_=>[]
def ag.nC:ag->List Nat
 | .func _ caps=>caps.flatMap ag.iI
 |x=>x.iI
def ag.ids:ag->List Nat
 | .agg cs=>cs.flatMap ag.nC
 |x=>x.nC
def ag.IC:ag->Bool
 | .func _ _ | .agg _ | .tuple _=>false
 |_=>true
def ag.vu:ag->Bool
 | .func _ caps=>caps.all ag.IC
 | .agg _ | .tuple _=>false
 |_=>true
def ag.flat:ag->Bool
 | .agg cs=>cs.all ag.vu
 |x=>x.vu
def cL.flat:cL->Bool
 | .vO=>false
 | .cells cs=>cs.all ag.vu
 | .map _ vs=>vs.all ag.flat
 |_=>true
def ag.uk(ρ:Nat->Nat):ag->ag
 | .ptr id off => .ptr (ρ id) off
 | .iz id => .iz (ρ id)
 | .j4 id => .j4 (ρ id)
 | .cB id v sz lo hi => .cB (ρ id) v sz lo hi
 | .jt id v i off => .jt (ρ id) v i off
 | .slice (.own k) xs => .slice (.own (ρ k)) xs
 | .kj t id off => .kj t (ρ id) off
 |x=>x
def ag.sd(ρ:Nat->Nat):ag->ag
 | .func f caps => .func f (caps.map (ag.uk ρ))
 |x=>x.uk ρ
def ag.pj(ρ:Nat->Nat):ag->ag
 | .agg cs => .agg (cs.map (ag.sd ρ))
 |x=>x.sd ρ
def ag.Ah(ρ:Nat->Nat):ag->ag
 | .tuple vs => .tuple (vs.map (ag.pj ρ))
 |x=>x.pj ρ
def ag.wz:ag->Bool
 | .tuple vs=>vs.all ag.flat
 |x=>x.flat
def cL.pj(ρ:Nat->Nat):cL->cL
 | .cells cs => .cells (cs.map (ag.sd ρ))
 | .map ks vs => .map ks (vs.map (ag.pj ρ))
 |b=>b
def cL.ids:cL->List Nat
 | .cells cs=>cs.flatMap ag.nC
 | .map _ vs=>vs.flatMap ag.ids
 |_=>[]
def nth{α:Type}:List α->Nat->Option α
 | [],_=>none
 |a::_,0=>some a
 |_::l,n+1=>nth l n
def iT{α:Type}:List α->Nat->α->List α
 | [],_,_=>[]
 |_::l,0,x=>x::l
 |a::l,n+1,x=>a::iT l n x
def j8:List Nat->List Nat->List Nat
 |a,[]=>a
 |a,x::r=>j8 (if a.contains x then a else a++[x]) r
def qt(M:aC):List Nat->List Nat
 | []=>[]
 |i::r=>(match nth M i with|some b=>b.ids|none=>[])++qt M r
def ko(M:aC)(acc:List Nat):List Nat:=j8 acc (qt M acc)
def reach(M:aC)(l:List Nat):List Nat:=ko M (ko M (ko M (j8 [] l)))
def iy:List Nat->Nat->Nat
 | [],_=>0
 |a::l,x=>if a=x then 0 else iy l x+1
def wu(ids:List Nat)(i:Nat):Nat:=(nth ids i).getD 0
def jX(M:aC)(ρ:Nat->Nat):List Nat->Option aC
 | []=>some []
 |i::r=>match nth M i with
  |some b=>if b.flat then bI (jX M ρ r) fun l=>some (b.pj ρ::l) else none
  |none=>none
def ma(ids:List Nat)(M:aC):List Nat->aC->aC
 |i::r,b::l=>ma ids (iT M i (b.pj (wu ids))) r l
 |_,_=>M
def ag.pa(M:aC):ag->ag
 | .cB id ver sz lo hi=>match nth M id with
  |some (.arr _ v xs)=>if v=ver then .slice .sh ((xs.take hi).drop lo) else .any
  |_ => .any
 |x=>x
def ag.rM(M:aC):ag->ag
 | .agg cs => .agg (cs.map (ag.pa M))
 |x=>x.pa M
def qG(M:aC):List Nat->aC
 | []=>M
 |i::r=>match nth M i with
  |some (.arr sz _ xs)=>qG (iT M i (.tick sz xs.length)) r
  |_=>qG M r
inductive fZ where
 |tmp (t:Nat)
 |sY (v:ag)
def fZ.ev(bq:Env):fZ->ag
 | .tmp t=>ia bq t
 | .sY v=>v
inductive N1 where
 |add|sub|mul|quo|rem|eql|neq|lss|leq|gtr|geq|shl|shr|and|or|bic
 deriving DecidableEq,Repr
inductive FK where
 |i|s|b
 deriving DecidableEq
inductive ku where
 |mv (x:fZ)
 |own (sz:Nat) (x:fZ)
 |pick (c a b:fZ)
 |yL (cs:List ag)
 |box (x:fZ)
 |build (zero:List ag) (parts:List (Nat×Nat×fZ))
 |lits (sz:Nat) (parts:List fZ)
 |F3 (sz:Nat) (parts:List fZ)
 |mL (n:Nat) (x:fZ)
 |rz (x:fZ)
 |store (n:Nat) (a x:fZ)
 |Bu (sz p n:Nat) (a x:fZ)
 |chk (x:fZ)
 |bin (op:N1) (x y:fZ)
 |Qs (ks:List FK) (neg:Bool) (x y:fZ)
 |eqB (neg:Bool) (x y:fZ)
 |not (x:fZ)
 |neg (x:fZ)
 |conv (k:IntKind) (x:fZ)
 |same (x:fZ)
 |fn (f:Nat) (caps:List fZ)
 |Fm (f:Nat) (firsts:List fZ)
 |Bq (x:fZ) (lo hi:Option fZ)
 |uo (sz:Nat) (x:fZ) (lo hi mx:Option fZ)
 |ON (sz:Nat) (x hi:fZ)
 |yu (off:Nat) (x:fZ)
 |Du (off n:Nat) (x:fZ)
 |Dt (off:Nat) (x:fZ)
 |ua (sz:Nat) (x i:fZ)
 |AX (n sz:Nat) (x i:fZ)
 |AY (x i:fZ)
 |extract (x:fZ) (i:Nat)
 |call (f:Nat) (args:List fZ)
 |sv (f:fZ) (args:List fZ)
 |BK (f:fZ) (args:List fZ)
 |BJ (f:Nat) (args:List fZ)
 |kZ (f:Nat) (args:List fZ)
 |wx (f:Nat) (args:List fZ)
 |w5 (sz:Nat) (zero:List ag) (x:fZ)
 |Vm (x:fZ)
 |zP (x:fZ)
 |append (sz bytes:Nat) (x y:fZ)
 |Bb (mx:Bool) (x y:fZ)
 |b2s (x:fZ)
 |mkMap
 |look (fk:FK) (zero:ag) (ok:Bool) (m k:fZ)
 |gF (fk:FK) (m k v:fZ)
 |Pp (m:fZ)
 |P3 (x:fZ)
 |F8 (it:fZ)
 |iface (t:Nat) (x:fZ)
 |raise (x:fZ)
 |mkS (zero:List ag) (n:fZ)
 |PC (zero:List ag) (n:fZ)
 |xK (sz bytes:Nat) (zero:List ag) (x n:fZ)
 |vQ (sz bytes:Nat) (x y:fZ)
 |Ft (sz:Nat) (x y:fZ)
 |Ow (sz:Nat)
structure da where
 dst:Option Nat
 op:ku
 guard:Option (Nat×Bool)
 grow:Bool:=false
 xn:Bool:=false
 sep:List Nat:=[]
 stop:Bool:=true
def ob(d:Nat)(o:ku):da:=⟨some d,o,none,false,false,[],true⟩
def og(d g:Nat)(b:Bool)(o:ku):da:=⟨some d,o,some (g,b),false,false,[],true⟩
def ox(o:ku):da:=⟨none,o,none,false,false,[],true⟩
def ku.Q6:ku->Bool
 | .call .. | .sv .. | .BK .. | .BJ .. | .kZ .. | .raise _=>true
 |_=>false
inductive cD where
 |skip
 |region (ops:List da) (draw:Bool) (live:List Nat)
 |seq (a b:cD)
 |cond (c:fZ) (x y:cD)
 |block (id:Nat) (c:cD)
 |loop (live:List Nat) (c:cD)
 |nB (live:List Nat) (c:cD)
 |rM (t:Nat) (c:cD)
 |exit (id:Nat)
 |ret
inductive abl where
 |normal|exit (id:Nat)|ret|nD (v:Value)
abbrev eR:=Nat->List ag->aC->Option (ag×aC)
def strLt:List UInt8->List UInt8->Bool
 |_,[]=>false
 | [],_::_=>true
 |a::x,b::y=>a<b||(a==b&&strLt x y)
def DK(k:IntKind)(a b:Int):Int:=k.wrap (BitVec.ofInt k.bits a &&& BitVec.ofInt k.bits b).toNat
def ior(k:IntKind)(a b:Int):Int:=k.wrap (BitVec.ofInt k.bits a ||| BitVec.ofInt k.bits b).toNat
def G6(k:IntKind)(a b:Int):Int:=k.wrap (BitVec.ofInt k.bits a &&& ~~~BitVec.ofInt k.bits b).toNat
def qW(b:UInt8):ag := .int .u8 b.toNat
def pX(op:N1):ag->ag->Option ag
 | .int k a,.int k' b =>
  match op with
  | .shl=>if 0<=b then some (.int k (k.wrap (a*2 ^ (min b.toNat k.bits)))) else none
  | .shr=>if 0<=b then some (.int k (a.fdiv (2 ^ (min b.toNat k.bits)))) else none
  |op=>if k≠k' then none else
   match op with
   | .add=>some (.int k (k.wrap (a+b)))
   | .sub=>some (.int k (k.wrap (a-b)))
   | .mul=>some (.int k (k.wrap (a*b)))
   | .quo=>if b=0 then none else some (.int k (k.wrap (a.tdiv b)))
   | .rem=>if b=0 then none else some (.int k (a.tmod b))
   | .eql=>some (.bool (a==b))
   | .neq=>some (.bool (a != b))
   | .lss=>some (.bool (a<b))
   | .leq=>some (.bool (a<=b))
   | .gtr=>some (.bool (a>b))
   | .geq=>some (.bool (a>=b))
   | .and=>some (.int k (DK k a b))
   | .or=>some (.int k (ior k a b))
   | .bic=>some (.int k (G6 k a b))
   |_=>none
 | .str a,.str b =>
  match op with
  | .add=>if ((a.length+b.length:Nat):Int)>IntKind.i64.max then none else some (.str (a++b))
  | .eql=>some (.bool (a==b))
  | .neq=>some (.bool (a != b))
  | .lss=>some (.bool (strLt a b))
  | .leq=>some (.bool (strLt a b||a==b))
  | .gtr=>some (.bool (!(strLt a b||a==b)))
  | .geq=>some (.bool (!(strLt a b)))
  |_=>none
 |_,_=>none
def km:FK->ag->ag->Option Bool
 | .i,.int k a,.int k' b=>if k=k' then some (a==b) else none
 | .s,.str a,.str b=>some (a==b)
 | .b,.bool a,.bool b=>some (a==b)
 |_,_,_=>none
def kU:List FK->List ag->List ag->Option Bool
 | [],[],[]=>some true
 |k::ks,a::x,b::y=>bI (km k a b) fun e=>bI (kU ks x y) fun f=>some (e&&f)
 |_,_,_=>none
def ag.norm:ag->ag
 | .agg [c]=>c
 |x=>x
def valOf:ag->Option Value
 | .int k n=>some (.int k n)
 | .agg [.int k n]=>some (.agg #[.int k n])
 |_=>none
def bytesOf:List ag->Option (List UInt8)
 | []=>some []
 | .int .u8 n::r=>bI (bytesOf r) fun l=>some (UInt8.ofNat n.toNat::l)
 |_=>none
def xh(fk:FK)(k:ag):List ag->List ag->Option (Option ag)
 | [],[]=>some none
 |k'::ks,v::vs=>bI (km fk k k') fun b=>Be b (some (some v)) (xh fk k ks vs)
 |_,_=>none
def xj(fk:FK)(k v:ag):List ag->List ag->Option (List ag×List ag)
 | [],[]=>bI (km fk k k) fun _=>some ([k],[v])
 |k'::ks,v'::vs=>bI (km fk k k') fun b=>Be b (some (k::ks,v::vs)) (bI (xj fk k v ks vs) fun x=>some (k'::x.1,v'::x.2))
 |_,_=>none
def ph(zero:ag)(ok:Bool)(r:Option ag):ag:=match ok with
 |true => .tuple [r.getD zero,.bool r.isSome]
 |false=>r.getD zero
def mapOf(M:aC):ag->Option (List ag×List ag)
 | .iz id=>match nth M id with|some (.map ks vs)=>some (ks,vs)|_=>none
 | .kf ks vs=>some (ks,vs)
 |_=>none
def mQ(cs:List ag)(off:Nat)(new:List ag):List ag:=cs.take off++(new++cs.drop (off+new.length))
def putCells(e:ag)(off:Nat)(new:List ag):ag:=match e,new with
 | .agg cs,new => .agg (mQ cs off new)
 |_,[c]=>c
 |e,_=>e
def ml(bq:Env):List ag->List (Nat×Nat×fZ)->Option (List ag)
 |cs,[]=>some cs
 |cs,(off,n,x)::r =>
  bI (x.ev bq).cells? fun new=>if new.length=n/\off+n<=cs.length then ml bq (mQ cs off new) r else none
def sR(bq:Env)(sz:Nat):List fZ->Option (List ag)
 | []=>some []
 |x::r=>if (x.ev bq).fV.plain=true/\(x.ev bq).fV.cells.length=sz then bI (sR bq sz r) fun l=>some ((x.ev bq).fV::l) else none
def gy(bq:Env)(n:Nat):Option fZ->Option Int
 |none=>some n
 |some x=>match x.ev bq with | .int _ i=>some i|_=>none
def wid(xs:List ag)(sz:Nat):Prop:=∀x,x∈xs->x.cells.length=sz
def cr(n bytes:Nat):Prop:=n*bytes<=2 ^ 44
noncomputable def aR(call:eR)(f:Nat)(vs:List ag)(M:aC):Option (ag×aC) :=
 if vs.all ag.flat then
  bI (jX M (iy (reach M (vs.flatMap ag.ids))) (reach M (vs.flatMap ag.ids))) fun B =>
   if ko M (reach M (vs.flatMap ag.ids))=reach M (vs.flatMap ag.ids) then
    bI (call f (vs.map (ag.pj (iy (reach M (vs.flatMap ag.ids))))) B) fun x =>
     if x.2.length=B.length/\x.1.wz=true/\x.2.all cL.flat=true then some (x.1.Ah (wu (reach M (vs.flatMap ag.ids))),ma (reach M (vs.flatMap ag.ids)) M (reach M (vs.flatMap ag.ids)) x.2) else none
   else none
 else none
noncomputable def Bl(call:eR)(f:Nat)(vs:List ag)(M:aC):Option (ag×aC) :=
 if vs.all ag.flat=true/\vs.flatMap ag.ids=[] then
  bI (call f vs []) fun x=>match x.1,x.2 with
   | .slice (.own 0) xs,[.tick sz n]=>some (.slice (.own M.length) xs,M++[.tick sz n])
   |_,_=>none
 else none
def PV(sz L:Nat):ag:=if 500<=sz then .cB L 0 (sz-500) 0 0 else .slice (.own L) []
def PU(sz:Nat):cL:=if 500<=sz then .arr (sz-500) 0 [] else .tick sz 0
noncomputable def ef(call:eR)(bq:Env)(M:aC):ku->Option (ag×aC)
 | .mv x=>some (x.ev bq,M)
 | .own sz x =>
  match x.ev bq with
  | .slice .c0 []=>some (PV sz M.length,M++[PU sz])
  |v=>some (v,M)
 | .pick c a b=>match c.ev bq with
  | .bool t=>Be t (some (a.ev bq,M)) (some (b.ev bq,M))
  |_=>none
 | .yL cs=>some (.ptr M.length 0,M++[.cells cs])
 | .box x=>bI (x.ev bq).cells? fun cs=>some (.ptr M.length 0,M++[.cells cs])
 | .build zero parts=>bI (ml bq zero parts) fun cs=>some (.agg cs,M)
 | .lits sz parts=>bI (sR bq sz parts) fun l=>some (match l with|[] => .slice .c0 []|_ => .slice .sh l,M)
 | .F3 sz parts=>bI (sR bq sz parts) fun l=>some (.slice (.own M.length) l,M++[.tick sz l.length])
 | .mL n x =>
  match x.ev bq with
  | .ptr id off=>match nth M id with
   |some (.cells cs)=>if off+n<=cs.length then some (.agg ((cs.drop off).take n),M) else none
   |_=>none
  | .jB cs=>if n<=cs.length then some (.agg (cs.take n),M) else none
  | .jt id ver i off=>match nth M id with
   |some (.arr _ v xs)=>if v=ver then bI (xs[i]?) fun e=>if off+n<=e.cells.length then some (.agg ((e.cells.drop off).take n),M) else none else none
   |_=>none
  |_=>none
 | .rz x =>
  match x.ev bq with
  | .ptr id off=>match nth M id with
   |some (.cells cs)=>bI (nth cs off) fun c=>some (c,M)
   |_=>none
  | .jB cs=>bI (nth cs 0) fun c=>some (c,M)
  | .jt id ver i off=>match nth M id with
   |some (.arr _ v xs)=>if v=ver then bI (xs[i]?) fun e=>bI (nth e.cells off) fun c=>some (c,M) else none
   |_=>none
  |_=>none
 | .store n a x =>
  match a.ev bq with
  | .ptr id off=>match nth M id with
   |some (.cells cs)=>bI (x.ev bq).cells? fun new =>
    if new.length=n/\off+n<=cs.length/\new.all ag.jf=true then some (.any,iT M id (.cells (mQ cs off new))) else none
   |_=>none
  | .jt id ver i off=>match nth M id with
   |some (.arr sz v xs)=>bI (x.ev bq).cells? fun new=>bI (xs[i]?) fun e =>
    if v=ver/\new.length=n/\off+n<=e.cells.length/\(new.map ag.shut).all ag.plainCell=true then some (.any,iT M id (.arr sz ver (iT xs i (putCells e off (new.map ag.shut))))) else none
   |_=>none
  |_=>none
 | .Bu sz p n a x =>
  match a.ev bq with
  | .ptr id off=>match nth M id with
   |some (.cells cs)=>bI (x.ev bq).cells? fun new =>
    match nth new p with
    |some (.slice .c0 [])=>if new.length=n/\off+n<=cs.length/\new.all ag.jf=true then some (.any,iT M id (.cells (mQ cs off (iT new p (PV sz M.length))))++[PU sz]) else none
    |_=>none
   |_=>none
  |_=>none
 | .chk x=>match x.ev bq with
  | .ptr id off=>some (.ptr id off,M)
  | .jB cs=>some (.jB cs,M)
  | .func f caps=>some (.func f caps,M)
  | .jt id v i off=>some (.jt id v i off,M)
  |_=>none
 | .bin op x y=>bI (pX op (x.ev bq) (y.ev bq)) fun v=>some (v,M)
 | .Qs ks neg x y =>
  match x.ev bq,y.ev bq with
  | .agg a,.agg b=>bI (kU ks a b) fun e=>some (.bool (match neg with|true => !e|false=>e),M)
  |_,_=>none
 | .eqB neg x y=>match x.ev bq,y.ev bq with
  | .bool a,.bool b=>some (.bool (match neg with|true => !(a==b)|false=>a==b),M)
  |_,_=>none
 | .not x=>match x.ev bq with | .bool b=>some (.bool (!b),M)|_=>none
 | .neg x=>match x.ev bq with | .int k n=>some (.int k (k.wrap (0-n)),M)|_=>none
 | .conv k x=>match x.ev bq with | .int _ n=>some (.int k (k.wrap n),M)|_=>none
 | .same x=>match x.ev bq with | .str s=>some (.str s,M)|_=>none
 | .fn f caps=>some (.func f (caps.map (fZ.ev bq)),M)
 | .Fm f firsts=>if (firsts.map fun x=>(x.ev bq).fV).all ag.plain then some (.qV f (firsts.map fun x=>(x.ev bq).fV),M) else none
 | .Bq x lo hi =>
  match x.ev bq with
  | .str s=>bI (gy bq s.length hi) fun h=>bI (gy bq 0 lo) fun l =>
   cp (0<=h/\h<=s.length/\0<=l/\l<=h) (some (.str ((s.take h.toNat).drop l.toNat),M))
  |_=>none
 | .uo sz x lo hi mx =>
  match x.ev bq with
  | .slice _ xs=>cp (wid xs sz) <| bI (gy bq xs.length hi) fun h=>bI (gy bq 0 lo) fun l =>
   match mx with
   |none=>cp (0<=h/\h<=xs.length/\0<=l/\l<=h) (some (.slice .sh ((xs.take h.toNat).drop l.toNat),M))
   |some m=>match m.ev bq with
    | .int _ m=>cp (0<=m/\m<=xs.length/\0<=h/\h<=m/\0<=l/\l<=h)
      (Be (m==0) (some (.slice .c0 [],M)) (some (.slice .sh ((xs.take h.toNat).drop l.toNat),M)))
    |_=>none
  | .cB id v sz' al ah=>cp (sz'=sz) <| bI (gy bq (ah-al) hi) fun h=>bI (gy bq 0 lo) fun l =>
   match mx with
   |none=>cp (0<=h/\h<=(ah-al:Nat)/\0<=l/\l<=h) (Be (l==h) (some (.slice .sh [],M)) (some (.cB id v sz (al+l.toNat) (al+h.toNat),M)))
   |some m=>match m.ev bq with
    | .int _ m=>cp (0<=m/\m<=(ah-al:Nat)/\0<=h/\h<=m/\0<=l/\l<=h)
      (Be (m==0) (some (.slice .c0 [],M)) (Be (l==h) (some (.slice .sh [],M)) (some (.cB id v sz (al+l.toNat) (al+h.toNat),M))))
    |_=>none
  |_=>none
 | .ON sz x hi =>
  match x.ev bq,hi.ev bq with
  | .cB id v sz' lo ah,.int _ h=>cp (sz'=sz/\lo=0/\0<=h/\h<ah) (some (.cB id v sz 0 h.toNat,M))
  |_,_=>none
 | .yu off x=>match x.ev bq with
  | .ptr id o=>some (.ptr id (o+off),M)
  | .jB cs=>some (.jB (cs.drop off),M)
  | .jt id v i o=>some (.jt id v i (o+off),M)
  |_=>none
 | .Du off n x=>match x.ev bq with
  | .agg cs=>if off+n<=cs.length then some (.agg ((cs.drop off).take n),M) else none
  |_=>none
 | .Dt off x=>match x.ev bq with
  | .agg cs=>bI (nth cs off) fun c=>some (c,M)
  |_=>none
 | .ua sz x i =>
  match x.ev bq,i.ev bq with
  | .slice _ xs,.int _ n=>cp (0<=n) (bI (xs[n.toNat]?) fun e=>if e.cells.length=sz then some (.jB e.cells,M) else none)
  | .cB id v sz' lo hi,.int _ n=>cp (0<=n/\n<(hi-lo:Nat)/\sz'=sz) (some (.jt id v (lo+n.toNat) 0,M))
  |_,_=>none
 | .AX n sz x i =>
  match x.ev bq,i.ev bq with
  | .jB cs,.int _ m=>cp (0<=m/\m<n/\n*sz<=cs.length) (some (.jB (cs.drop (m.toNat*sz)),M))
  | .ptr id off,.int _ m=>cp (0<=m/\m<n) (some (.ptr id (off+m.toNat*sz),M))
  |_,_=>none
 | .AY x i =>
  match x.ev bq,i.ev bq with
  | .str s,.int _ n=>cp (0<=n) (bI (s[n.toNat]?) fun b=>some (.int .u8 b.toNat,M))
  |_,_=>none
 | .extract x i=>match x.ev bq with | .tuple vs=>bI (nth vs i) fun v=>some (v,M)|_=>none
 | .call f args=>aR call f (args.map fun x=>(x.ev bq).fV) M
 | .BJ f args=>call f (args.map (fZ.ev bq)) M
 | .BK f args=>match f.ev bq with
  | .func g caps=>call g (args.map (fZ.ev bq)++caps) M
  |_=>none
 | .kZ f args=>aR call f (args.map fun x=>((x.ev bq).rM M).fV) (qG M ((args.map (fZ.ev bq)).flatMap ag.ids))
 | .wx f args=>Bl call f (args.map fun x=>(x.ev bq).fV) M
 | .w5 sz zero x=>match x.ev bq with
  | .slice _ xs=>match xs with|[]=>some (.any,M)|_=>none
  | .cB id ver sz' lo hi=>match nth M id with
   |some (.arr sz0 v xs)=>if v=ver/\sz'=sz/\zero.length=sz/\zero.all ag.plainCell=true then some (.any,iT M id (.arr sz0 ver (xs.take lo++(List.replicate (hi-lo) (.agg zero)++xs.drop hi)))) else none
   |_=>none
  |_=>none
 | .sv f args=>match f.ev bq with
  | .func g caps=>aR call g ((args.map fun x=>(x.ev bq).fV)++caps) M
  | .qV g fs=>aR call g (fs++args.map fun x=>(x.ev bq).fV) M
  | .raw v=>match v with
   | .func (.func g) ⟨[]⟩ ⟨[]⟩=>aR call g (args.map fun x=>(x.ev bq).fV) M
   |_=>none
  |_=>none
 | .Vm x=>match x.ev bq with | .str s=>some (.int .i64 s.length,M)|_=>none
 | .zP x=>match x.ev bq with
  | .slice _ xs=>some (.int .i64 xs.length,M)
  | .cB _ _ _ lo hi=>some (.int .i64 (hi-lo:Nat),M)
  |_=>none
 | .append sz bytes x y =>
  match x.ev bq,y.ev bq with
  | .slice tk xs,.slice _ ys =>
   cp (cr (xs.length+ys.length) bytes/\wid xs sz/\wid ys sz) (
    match tk with
    | .c0=>match xs with|[]=>some (.slice (.own M.length) ys,M++[.tick sz ys.length])|_=>none
    | .own k=>match nth M k with
     |some (.tick sz' n)=>cp (sz'=sz/\n=xs.length) (some (.slice (.own k) (xs++ys),iT M k (.tick sz (xs.length+ys.length))))
     |_=>none
    | .sh=>none)
  | .cB id ver sz' lo hi,.slice _ ys=>match nth M id with
   |some (.arr sz0 v xs)=>cp (v=ver/\sz'=sz/\lo=0/\hi<=xs.length/\cr (hi+ys.length) bytes/\wid (xs.take hi) sz/\wid ys sz)
     (Be (ys.length==0) (some (.cB id ver sz lo hi,M)) (some (.cB id (ver+1) sz 0 (hi+ys.length),iT M id (.arr sz0 (ver+1) (xs.take hi++ys)))))
   |_=>none
  |_,_=>none
 | .Bb mx x y=>match x.ev bq,y.ev bq with
  | .int k a,.int _ b=>some (.int k (match mx with|true=>if b>a then b else a|false=>if b<a then b else a),M)
  |_,_=>none
 | .b2s x=>match x.ev bq with | .slice _ xs=>bI (bytesOf xs) fun l=>some (.str l,M)|_=>none
 | .mkMap=>some (.iz M.length,M++[.map [] []])
 | .look fk zero ok m k=>bI (mapOf M (m.ev bq)) fun e=>bI (xh fk (k.ev bq) e.1 e.2) fun r=>some (ph zero ok r,M)
 | .gF fk m k v=>match m.ev bq with
  | .iz id=>match nth M id with
   |some (.map ks vs)=>bI (xj fk (k.ev bq) (v.ev bq) ks vs) fun e=>some (.any,iT M id (.map e.1 e.2))
   |_=>none
  |_=>none
 | .Pp m=>bI (mapOf M (m.ev bq)) fun e=>some (.int .i64 e.1.length,M)
 | .P3 x=>match x.ev bq with | .str s=>some (.j4 M.length,M++[.nR s 0])|_=>none
 | .F8 it=>match it.ev bq with
  | .j4 id=>match nth M id with
   |some (.nR s pos)=>Be (decide (pos<s.length))
     (some (.tuple [.bool true,.int .i64 pos,.int .i32 (Utf8.decode ⟨s.toArray⟩ pos).1],iT M id (.nR s (pos+(Utf8.decode ⟨s.toArray⟩ pos).2))))
     (some (.tuple [.bool false],M))
   |_=>none
  |_=>none
 | .mkS zero n=>match n.ev bq with
  | .int _ k=>cp (0<=k/\cr k.toNat (8*zero.length)/\zero.all ag.plainCell=true) (some (.slice .sh (List.replicate k.toNat (ag.agg zero).norm),M))
  |_=>none
 | .PC zero n=>match n.ev bq with
  | .int _ k=>cp (0<=k/\cr k.toNat (8*zero.length)/\zero.all ag.plainCell=true) (some (.cB M.length 0 zero.length 0 k.toNat,M++[.arr zero.length 0 (List.replicate k.toNat (ag.agg zero).norm)]))
  |_=>none
 | .xK sz bytes zero x n =>
  match x.ev bq,n.ev bq with
  | .slice .c0 [],.int _ k=>cp (0<=k/\cr k.toNat bytes/\zero.length=sz/\zero.all ag.plainCell=true)
    (Be (k==0) (some (.slice .c0 [],M)) (some (.cB M.length 0 sz 0 k.toNat,M++[.arr sz 0 (List.replicate k.toNat (ag.agg zero).norm)])))
  | .cB id ver sz' lo hi,.int _ k=>match nth M id with
   |some (.arr sz0 v xs)=>cp (v=ver/\sz'=sz/\lo=0/\hi=xs.length/\0<=k/\cr (xs.length+k.toNat) bytes/\zero.length=sz/\zero.all ag.plainCell=true/\0<xs.length)
     (Be (k==0) (some (.cB id ver sz' lo hi,M)) (some (.cB id (ver+1) sz 0 (xs.length+k.toNat),iT M id (.arr sz0 (ver+1) (xs++List.replicate k.toNat (ag.agg zero).norm)))))
   |_=>none
  |_,_=>none
 | .vQ sz bytes x y =>
  match x.ev bq,y.ev bq with
  | .slice .c0 [],.slice _ ys=>cp (cr ys.length bytes/\wid ys sz) (some (.cB M.length 0 sz 0 ys.length,M++[.arr sz 0 ys]))
  |_,_=>none
 | .Ft sz x y =>
  match x.ev bq,y.ev bq with
  | .slice .sh [],.slice _ ys=>cp (wid ys sz) (some (.int .i64 0,M))
  | .cB id ver sz' lo hi,.slice _ ys=>match nth M id with
   |some (.arr sz0 v xs)=>cp (v=ver/\sz'=sz/\wid ys sz/\0<xs.length)
     (some (.int .i64 (min ys.length (hi-lo):Nat),iT M id (.arr sz0 ver (xs.take lo++(ys.take (min ys.length (hi-lo))++xs.drop (lo+min ys.length (hi-lo)))))))
   |_=>none
  |_,_=>none
 | .Ow sz=>some (.ptr (M.length+1) 0,M++[.arr sz 0 [],.cells [.cB M.length 0 sz 0 0]])
 | .iface t x=>match x.ev bq with
  | .ptr id off=>some (.kj t id off,M)
  |y=>bI (valOf y) fun v=>some (.raw (.iface t v),M)
 | .raise x=>match x.ev bq with
  | .raw v=>match v with
   | .iface t u=>some (.nD (.iface t u),M)
   |_=>none
  |_=>none
def rE(bq:Env)(dst:Option Nat)(v:ag):Env :=
 match dst with
 |some d=>(d,v)::bq
 |none=>bq
def ku.eE(bq:Env):ku->List Nat
 | .call _ args=>(args.map fun x=>(x.ev bq).fV).flatMap ag.ids
 | .sv f args=>match f.ev bq with
  | .func _ caps=>((args.map fun x=>(x.ev bq).fV)++caps).flatMap ag.ids
  | .qV _ fs=>(fs++args.map fun x=>(x.ev bq).fV).flatMap ag.ids
  | .raw v=>match v with
   | .func (.func _) ⟨[]⟩ ⟨[]⟩=>(args.map fun x=>(x.ev bq).fV).flatMap ag.ids
   |_=>[]
  |_=>[]
 |_=>[]
def zh(bq:Env)(M M':aC):List Nat->Prop
 | []=>True
 |z::r=>(match ia bq z with
  | .ptr id _=>nth M' id=nth M id
  |_=>False)/\zh bq M M' r
noncomputable def qm(call:eR)(o:da)(bq:Env)(M:aC):Option (ag×aC) :=
 match o.xn with
 |true=>cp (o.op.eE bq=[]) (ef call bq M o.op)
 |false=>match o.grow with
  |false=>ef call bq M o.op
  |true=>bI (ef call bq M o.op) fun x=>cp (M <+: x.2\/(o.sep≠[]/\zh bq M x.2 o.sep)) (some x)
structure Out where
 e:abl
 bq:Env
 mem:aC
def EJ(c:Bool)(x:ag×aC)(k:Option Out):Option Out:=match x.1 with
 | .nD v=>match c with
  |true=>some ⟨.nD v,[],x.2⟩
  |false=>none
 |_=>k
def da.lets(o:da):Bool:=o.op.Q6&&o.stop
noncomputable def gr(call:eR):List da->Env->aC->Option Out
 | [],bq,M=>some ⟨.normal,bq,M⟩
 |o::r,bq,M =>
  match o.guard with
  |none=>bI (qm call o bq M) fun x=>EJ o.lets x (gr call r (rE bq o.dst x.1) x.2)
  |some (t,want)=>match ia bq t with
   | .bool b=>Be (b==want) (bI (qm call o bq M) fun x=>EJ o.lets x (gr call r (rE bq o.dst x.1) x.2))
    (gr call r (rE bq o.dst (.tuple [])) M)
   | .tuple []=>gr call r (rE bq o.dst (.tuple [])) M
   |_=>none
def jn(bq:Env)(live:List Nat):Env:=live.map fun t=>(t,ia bq t)
def Out.pO(live:List Nat)(o:Out):Out:=match o.e with
 | .normal=>⟨.normal,jn o.bq live,o.mem⟩
 |_=>o
open Classical in
noncomputable def lim{α:Type}(F:Nat->Option α):Option α:=if h:∃n,(F n).isSome=true then F (Classical.choose h) else none
def tY(o:Out)(k:Env->aC->Option Out):Option Out:=match o.e with
 | .normal=>k o.bq o.mem
 |_=>some o
def xu(id:Nat)(o:Out):Out:=match o.e with
 | .exit i=>if i=id then ⟨.normal,o.bq,o.mem⟩ else o
 |_=>o
def iter(g:Nat->Nat->Nat)(f:Env->aC->Option Out)(live:List Nat):Nat->Env->aC->Option Out
 |0,_,_=>none
 |n+1,bq,M=>bI (f (jn bq live) M) fun o=>tY o fun e m=>iter g f live n (wv (g M.length m.length) m (jn e live)) (iU (g M.length m.length) m)
abbrev gL(a _b:Nat):Nat:=a
abbrev gR(_a b:Nat):Nat:=b
def Ln(M:aC)(t:Nat)(bq:Env):Env:=(t,(ia bq t).rM M)::bq
noncomputable def eO(call:eR):cD->Env->aC->Option Out
 | .skip,bq,M=>some ⟨.normal,bq,M⟩
 | .region ops _ live,bq,M=>bI (gr call ops bq M) fun o=>some (o.pO live)
 | .seq a b,bq,M=>bI (eO call a bq M) fun o=>tY o (eO call b)
 | .cond c x y,bq,M=>match c.ev bq with
  | .bool t=>Be t (eO call x bq M) (eO call y bq M)
  |_=>none
 | .block id c,bq,M=>bI (eO call c bq M) fun o=>some (xu id o)
 | .loop live c,bq,M=>lim fun n=>iter gL (eO call c) live n bq M
 | .nB live c,bq,M=>lim fun n=>iter gR (eO call c) live n bq M
 | .rM t c,bq,M=>eO call c (Ln M t bq) (qG M (ia bq t).ids)
 | .exit id,bq,M=>some ⟨.exit id,bq,M⟩
 | .ret,bq,M=>some ⟨.ret,bq,M⟩
inductive sN where
 |tmp (t:Nat)
 |dG (t n:Nat)
 |abA (t:Nat)
structure eG where
 nparams:Nat
 results:List sN
 body:cD
def Ep(bq:Env)(M:aC):sN->Option ag
 | .tmp t=>some (ia bq t)
 | .dG t n=>match ia bq t with
  | .ptr id off=>match nth M id with
   |some (.cells cs)=>if off+n<=cs.length then some (.agg ((cs.drop off).take n)) else none
   |_=>none
  |_=>none
 | .abA t=>match ia bq t with
  | .ptr id off=>match nth M id with
   |some (.cells cs)=>nth cs off
   |_=>none
  |_=>none
def sV(bq:Env)(M:aC):List sN->Option (List ag)
 | []=>some []
 |r::rs=>bI (Ep bq M r) fun v=>bI (sV bq M rs) fun l=>some (v::l)
def one:List ag->ag
 | [v]=>v
 |l => .tuple l
def eF:Nat->List ag->Env
 |_,[]=>[]
 |i,v::r=>(i,v)::eF (i+1) r
def finish(res:List sN)(bS:Nat)(o:Out):Option (ag×aC) :=
 match o.e with
 | .exit _=>none
 | .nD v=>some (.nD v,iU bS o.mem)
 |_=>bI (sV o.bq o.mem res) fun l=>some ((one l).lA bS o.mem,iU bS o.mem)
structure zo where
 code:Nat->Option eG
 oO:Nat->Option (List ag->aC->Option (ag×aC))
noncomputable def j7(T:zo):Nat->eR
 |0,f,args,M=>match T.oO f with
  |some g=>g args M
  |none=>none
 |n+1,f,args,M=>match T.oO f with
  |some g=>g args M
  |none=>match T.code f with
   |none=>none
   |some fn=>if args.length=fn.nparams then bI (eO (j7 T n) fn.body (eF 0 args) M) (finish fn.results M.length) else none
noncomputable def aq(T:zo):eR:=fun f args M=>lim fun n=>j7 T n f args M
theorem pP{α:Type}{F:Nat->Option α}(hm:∀n x,F n=some x->F (n+1)=some x){n:Nat}{x:α}(h:F n=some x):lim F=some x:=by
 have up:∀k n x,F n=some x->F (n+k)=some x:=by
  intro k;induction k<;>grind
 unfold lim;have hex:∃n,(F n).isSome=true:=⟨n,j6⟩;rw[dif_pos hex];have hc:=Classical.choose_spec hex;generalize Classical.choose _=m at *;obtain⟨y,hy⟩:=fD.1 hc;rcases Nat.le_total n m with hle|hle
 ·have:=up (m-n) n x h;rw[show n+(m-n)=m by omega] at this
  omega
 ·have:=up (n-m) m y hy;rw[show m+(n-m)=n by omega,h] at this
  rw[hy,this]
theorem uf{α:Type}{F:Nat->Option α}{x:α}(h:lim F=some x):∃n,F n=some x:=by
 unfold lim at h;split at h
 ·grind
 grind
def wO(C C':eR):Prop:=∀f a M x,C f a M=some x->C' f a M=some x
def bp{α β:Type}{x:Option α}{f:α->Option β}{y:β}(h:bI x f=some y):∃a,x=some a/\f a=some y:=by
 cases x<;>simp_all
def lC{α:Type}{b:Bool}{x y:Option α}{z:α}(h:Be b x y=some z):(b=true/\x=some z)\/(b=false/\y=some z):=by
 cases b
 ·simp_all
 simp_all
theorem dh{α:Type}{p:Prop}{x:Option α}{z:α}(h:cp p x=some z):p/\x=some z:=by
 grind [cp]
theorem pL{C:eR}{f:Nat}{vs:List ag}{M:aC}{x:ag×aC}(h:aR C f vs M=some x) :
  ∃a B y,C f a B=some y/\∀C':eR,C' f a B=some y->aR C' f vs M=some x:=by
 unfold aR at h;split at h
 ·obtain⟨B,hB,h⟩:=bp h;split at h
  ·obtain⟨y,hy,h⟩:=bp h;refine⟨_,B,y,hy,fun C' hC'=>?_⟩
   simp_all [aR]
  grind
 grind
theorem Ml{C:eR}{bq:Env}{M:aC}{o:ku}{x:ag×aC}(h:ef C bq M o=some x) :
  (∀C':eR,ef C' bq M o=some x)\/∃f a B y,C f a B=some y/\∀C':eR,C' f a B=some y->ef C' bq M o=some x:=by
 cases o
 case call f args =>
  simp only[ef] at h ⊢;obtain⟨a,B,y,h1,h2⟩:=pL h;exact .inr ⟨f,a,B,y,h1,h2⟩
 case wx f args =>
  simp only[ef] at h ⊢;unfold Bl at h;split at h
  ·rename_i hc;obtain⟨y,hy,h⟩:=bp h;refine .inr ⟨f,_,[],y,hy,fun C' hC'=>?_⟩
   unfold Bl;rw[aW hc,hC'];exact h
  ·cases h
 case BK f args =>
  simp only[ef] at h ⊢;split at h
  ·exact .inr ⟨_,_,_,_,h,fun _ h'=>h'⟩
  ·cases h
 case BJ f args=>exact .inr ⟨f,_,_,_,h,fun _ h'=>h'⟩
 case kZ f args =>
  simp only[ef] at h ⊢;obtain⟨a,B,y,h1,h2⟩:=pL h;exact .inr ⟨f,a,B,y,h1,h2⟩
 case sv f args =>
  simp only[ef] at h ⊢;split at h<;>grind [pL]
 all_goals exact .inl fun _=>h
theorem QU{C C':eR}(hC:wO C C'){bq:Env}{M:aC}{o:ku}{x:ag×aC}(h:ef C bq M o=some x):ef C' bq M o=some x:=by
 rcases Ml h with h|⟨f,a,B,y,h1,h2⟩
 ·grind
 ·exact h2 _ (hC _ _ _ _ h1)
theorem rU{C:eR}{o:da}{bq:Env}{M:aC}{x:ag×aC}(h:qm C o bq M=some x) :
  (o.xn=true/\o.op.eE bq=[]/\ef C bq M o.op=some x)\/(o.xn=false/\o.grow=false/\ef C bq M o.op=some x)\/(o.xn=false/\o.grow=true/\(M <+: x.2\/(o.sep≠[]/\zh bq M x.2 o.sep))/\ef C bq M o.op=some x):=by
 unfold qm at h;split at h
 ·grind [dh]
 ·split at h
  ·exact .inr (.inl ⟨by assumption,by assumption,h⟩)
  ·obtain⟨y,hy,h⟩:=bp h
   grind [dh]
theorem C6{C C':eR}(hC:wO C C'){bq:Env}{M:aC}{o:da}{x:ag×aC}(h:qm C o bq M=some x):qm C' o bq M=some x:=by
 grind [rU,qm,QU]
theorem Ny{c:Bool}{x:ag×aC}{k:Option Out}{o:Out}(h:EJ c x k=some o):(x.1.jm=false/\k=some o)\/∃v,c=true/\x.1 = .nD v/\o=⟨.nD v,[],x.2⟩:=by
 obtain⟨x,M⟩:=x
 cases x<;>first
  |exact .inl ⟨rfl,h⟩
  |(cases c
    ·cases h
    ·injection h with h; grind)
def L1{c:Bool}{x:ag×aC}{k:Option Out}(h:x.1.jm=false):EJ c x k=k:=by
 obtain⟨x,M⟩:=x;cases x<;>first|rfl|cases h
theorem Nz{c:Bool}{x:ag×aC}{k:Option Out}{v:Value}(hc:c=true)(h:x.1 = .nD v):EJ c x k=some ⟨.nD v,[],x.2⟩:=by
 grind [EJ]
theorem p7{C:eR}{o:da}{r:List da}{bq:Env}{M:aC}{x:Out}(h:gr C (o::r) bq M=some x) :
  (∃y,(∀t want,o.guard=some (t,want)->ia bq t = .bool want)/\qm C o bq M=some y/\((y.1.jm=false/\gr C r (rE bq o.dst y.1) y.2=some x)\/∃v,o.lets=true/\y.1 = .nD v/\x=⟨.nD v,[],y.2⟩)) \/
  (∃t want,o.guard=some (t,want)/\(ia bq t = .bool (!want)\/ia bq t = .tuple [])/\gr C r (rE bq o.dst (.tuple [])) M=some x):=by
 unfold gr at h;split at h
 ·rename_i hg;obtain⟨y,hy,h⟩:=bp h
  grind [Ny]
 ·rename_i t want hg;split at h
  ·rename_i b hb;rcases lC h with ⟨h1,h2⟩|⟨h1,h2⟩
   ·obtain⟨y,hy,h2⟩:=bp h2
    grind [Ny]
   ·refine .inr ⟨t,want,hg,.inl ?_,h2⟩;cases b<;>cases want<;>simp_all
  ·grind
  grind
def rT{C:eR}{o:da}{r:List da}{bq:Env}{M:aC}{y:ag×aC}(hg:∀t want,o.guard=some (t,want)->ia bq t = .bool want)
  (hy:qm C o bq M=some y):gr C (o::r) bq M=EJ o.lets y (gr C r (rE bq o.dst y.1) y.2):=by
 rw[gr];split
 ·rw[hy]; rfl
 simp_all
theorem wq{C:eR}{o:da}{r:List da}{bq:Env}{M:aC}{t:Nat}{want:Bool}(hg:o.guard=some (t,want))
  (hb:ia bq t = .bool (!want)\/ia bq t = .tuple []):gr C (o::r) bq M=gr C r (rE bq o.dst (.tuple [])) M:=by
 rw[gr];simp[hg];rcases hb with hb|hb
 ·rw[hb]; cases want<;>simp
 grind
theorem tg{C C':eR}(hC:wO C C'):∀ {ops:List da} {bq:Env} {M:aC} {x:Out},gr C ops bq M=some x->gr C' ops bq M=some x
 | [],_,_,_,h=>h
 |o::r,bq,M,x,h=>by
  rcases p7 h with ⟨y,h1,h2,h3⟩|⟨t,want,h1,h2,h3⟩
  ·rw[rT h1 (C6 hC h2)];rcases h3 with ⟨h3,h4⟩|⟨v,h0,h3,rfl⟩
   ·rw[L1 h3]; exact tg hC h4
   grind [Nz]
  ·rw[wq h1 h2]; exact tg hC h3
theorem tZ{o:Out}{k:Env->aC->Option Out}{x:Out}(h:tY o k=some x):(o.e = .normal/\k o.bq o.mem=some x)\/(o.e ≠ .normal/\x=o):=by
 grind [tY]
theorem uK{o:Out}{k:Env->aC->Option Out}(h:o.e = .normal):tY o k=k o.bq o.mem:=by grind [tY]
theorem zI{o:Out}{k:Env->aC->Option Out}(h:o.e ≠ .normal):tY o k=some o:=by
 simp[tY]
theorem xV{o:Out}{k k':Env->aC->Option Out}{x:Out}(hk:∀bq M x,k bq M=some x->k' bq M=some x)(h:tY o k=some x):tY o k'=some x:=by
 grind [tZ,uK,zI]
def xX{g0:Nat->Nat->Nat}{f g:Env->aC->Option Out}(hfg:∀bq M x,f bq M=some x->g bq M=some x)(live:List Nat):∀n {bq M x},iter g0 f live n bq M=some x->iter g0 g live n bq M=some x
 |0,_,_,_,h=>h
 |n+1,bq,M,x,h=>by
  rw[iter] at *;obtain⟨a,ha,h⟩:=bp h;rw[hfg _ _ _ ha];exact xV (fun bq M x h=>xX hfg _ n h) h
def uM{g0:Nat->Nat->Nat}{f:Env->aC->Option Out}(live:List Nat):∀n {bq M x},iter g0 f live n bq M=some x->iter g0 f live (n+1) bq M=some x
 |0,_,_,_,h=>by cases h
 |n+1,bq,M,x,h=>by
  rw[iter] at h ⊢;obtain⟨a,ha,h⟩:=bp h;rw[ha];exact xV (fun bq M x h=>uM _ n h) h
theorem jH{C C':eR}(hC:wO C C'):∀(c:cD){bq:Env}{M:aC}{x:Out},eO C c bq M=some x->eO C' c bq M=some x
 | .skip,_,_,_,h=>h
 | .exit _,_,_,_,h=>h
 | .ret,_,_,_,h=>h
 | .region _ d _,bq,M,x,h=>by
  simp[eO] at *;obtain⟨a,ha,h⟩:=bp h;rw[tg hC ha]; grind
 | .seq a b,bq,M,x,h=>by
  simp[eO] at *;obtain⟨o,ho,h⟩:=bp h;rw[jH hC a ho];exact xV (fun bq M x=>jH hC b) h
 | .cond c a b,bq,M,x,h=>by
  simp[eO] at *;split
  ·rename_i t ht;simp[ht] at h;rcases lC h with ⟨rfl,h⟩|⟨rfl,h⟩
   ·exact jH hC a h
   ·exact jH hC b h
  grind
 | .block id c,bq,M,x,h=>by
  simp[eO] at *;obtain⟨o,ho,h⟩:=bp h;rw[jH hC c ho]; grind
 | .loop _ c,bq,M,x,h=>by
  obtain⟨n,hn⟩:=uf h;exact pP (fun n x=>uM _ n) (xX (fun bq M x=>jH hC c) _ n hn)
 | .nB _ c,bq,M,x,h=>by
  obtain⟨n,hn⟩:=uf h;exact pP (fun n x=>uM _ n) (xX (fun bq M x=>jH hC c) _ n hn)
 | .rM _ c,bq,M,x,h=>jH hC c h
theorem tw(T:zo):∀n,wO (j7 T n) (j7 T (n+1))
 |0,f,a,M,x,h=>by
  grind [j7]
 |n+1,f,a,M,x,h=>by
  rw[j7] at h ⊢;split
  ·grind
  ·rename_i hg;simp[hg] at h;split
   ·grind
   ·rename_i fn hf;simp only[hf] at h;split
    ·rename_i hl;rw[aW hl] at h;obtain⟨o,ho,h⟩:=bp h;rw[jH (tw T n) _ ho]
     grind
    grind
def tv(T:zo){n m:Nat}(h:n<=m):wO (j7 T n) (j7 T m):=by
 obtain⟨k,rfl⟩:=Nat.exists_eq_add_of_le h;induction k with
 |zero=>exact fun _ _ _ _ h=>h
 |succ k ih=>exact fun f a M x hx=>tw T _ f a M x (ih dw f a M x hx)
theorem Ky(T:zo){bq:Env}{M:aC}{o:da}{x:ag×aC}(h:qm (aq T) o bq M=some x):∃n,qm (j7 T n) o bq M=some x:=by
 have key:∀y,ef (aq T) bq M o.op=some y->∃n,ef (j7 T n) bq M o.op=some y:=by
  intro y hy;rcases Ml hy with h|⟨f,a,B,z,h1,h2⟩
  ·simp_all
  ·obtain⟨n,hn⟩:=uf h1
   grind
 rcases rU h with ⟨hn,hi,h1⟩|⟨hn,hg,h1⟩|⟨hn,hg,hp,h1⟩<;>obtain⟨n,h2⟩:=key _ h1
 ·grind [qm]
 ·grind [qm]
 grind [qm]
def vR(T:zo):∀ {ops:List da} {bq:Env} {M:aC} {x:Out},gr (aq T) ops bq M=some x->∃n,gr (j7 T n) ops bq M=some x
 | [],_,_,_,h=>⟨0,h⟩
 |o::r,bq,M,x,h=>by
  rcases p7 h with ⟨y,h1,h2,h3⟩|⟨t,want,h1,h2,h3⟩
  ·obtain⟨n,hn⟩:=Ky T h2;rcases h3 with ⟨h3,h4⟩|⟨v,h0,h3,rfl⟩
   ·obtain⟨m,hm⟩:=vR T h4;refine⟨max n m,?_⟩;rw[rT h1 (C6 (tv T (Nat.le_max_left n m)) hn),L1 h3];exact tg (tv T (Nat.le_max_right n m)) hm
   ·exact⟨n,by rw[rT h1 hn]; exact Nz h0 h3⟩
  ·obtain⟨m,hm⟩:=vR T h3;exact⟨m,by rw[wq h1 h2]; exact hm⟩
def A4(T:zo){g:Nat->Nat->Nat}{live:List Nat}{c:cD}(hc:∀ {bq:Env} {M:aC} {x:Out},eO (aq T) c bq M=some x->∃n,eO (j7 T n) c bq M=some x){x:Out} :
  ∀k bq M,iter g (eO (aq T) c) live k bq M=some x->∃n,iter g (eO (j7 T n) c) live k bq M=some x
 |0,bq,M,h=>by cases h
 |k+1,bq,M,h=>by
  rw[iter] at h;obtain⟨a,ha,h⟩:=bp h;obtain⟨n,hn⟩:=hc ha;rcases tZ h with ⟨h1,h2⟩|⟨h1,h2⟩
  ·obtain⟨m,hm⟩:=A4 T hc k _ _ h2;refine⟨max n m,?_⟩;rw[iter,jH (tv T (Nat.le_max_left n m)) c hn,bO,uK h1];exact xX (fun bq M x=>jH (tv T (Nat.le_max_right n m)) c) live k hm
  ·exact⟨n,by rw[iter,hn,bO,zI h1,h2]⟩
def ot(T:zo):∀(c:cD){bq:Env}{M:aC}{x:Out},eO (aq T) c bq M=some x->∃n,eO (j7 T n) c bq M=some x
 | .skip,_,_,_,h=>⟨0,h⟩
 | .exit _,_,_,_,h=>⟨0,h⟩
 | .ret,_,_,_,h=>⟨0,h⟩
 | .region ops d live,bq,M,x,h=>by
  simp only[eO] at *;obtain⟨a,ha,h⟩:=bp h;obtain⟨n,hn⟩:=vR T ha;exact⟨n,by rw[hn]; exact h⟩
 | .seq a b,bq,M,x,h=>by
  simp only[eO] at *;obtain⟨o,ho,h⟩:=bp h;obtain⟨n,hn⟩:=ot T a ho;rcases tZ h with ⟨h1,h2⟩|⟨h1,h2⟩
  ·obtain⟨m,hm⟩:=ot T b h2;refine⟨max n m,?_⟩;rw[jH (tv T (Nat.le_max_left n m)) a hn,bO,uK h1];exact jH (tv T (Nat.le_max_right n m)) b hm
  ·exact⟨n,by rw[hn,bO,zI h1,h2]⟩
 | .cond c a b,bq,M,x,h=>by
  simp only[eO] at *;split at h
  ·rename_i t ht;rcases lC h with ⟨rfl,h⟩|⟨rfl,h⟩
   ·obtain⟨n,hn⟩:=ot T a h; exact⟨n,hn⟩
   ·obtain⟨n,hn⟩:=ot T b h; exact⟨n,hn⟩
  ·cases h
 | .block id c,bq,M,x,h=>by
  simp only[eO] at *;obtain⟨o,ho,h⟩:=bp h;obtain⟨n,hn⟩:=ot T c ho;exact⟨n,by rw[hn]; exact h⟩
 | .loop live c,bq,M,x,h=>by
  simp only[eO] at *;obtain⟨k,hk⟩:=uf h;obtain⟨n,hn⟩:=A4 T (ot T c) k bq M hk;exact⟨n,pP (fun n x=>uM live n) hn⟩
 | .nB live c,bq,M,x,h=>by
  simp only[eO] at *;obtain⟨k,hk⟩:=uf h;obtain⟨n,hn⟩:=A4 T (ot T c) k bq M hk;exact⟨n,pP (fun n x=>uM live n) hn⟩
 | .rM _ c,bq,M,x,h=>ot T c h
def FU(g:Nat->Nat->Nat)(C:eR)(live:List Nat)(c:cD)(bq:Env)(M:aC) :
  lim (fun n=>iter g (eO C c) live n bq M)=bI (eO C c (jn bq live) M) fun o=>tY o fun e m=>lim fun n=>iter g (eO C c) live n (wv (g M.length m.length) m (jn e live)) (iU (g M.length m.length) m):=by
 apply Option.ext;intro x;constructor
 ·intro h;obtain⟨n,hn⟩:=uf h;cases n with
  |zero=>cases hn
  |succ n =>
   rw[iter] at hn;obtain⟨o,ho,hn⟩:=bp hn;rw[ho,bO];exact xV (fun bq M x hx=>pP (fun n x=>uM live n) hx) hn
 ·intro h;obtain⟨o,ho,h⟩:=bp h;rcases tZ h with ⟨h1,h2⟩|⟨h1,h2⟩
  ·obtain⟨n,hn⟩:=uf h2;refine pP (F:=fun n=>iter g (eO C c) live n bq M) (n:=n+1) (fun n x=>uM live n) ?_
   show iter g (eO C c) live (n+1) bq M=some x
   rw[iter,ho,bO,uK h1];exact hn
  ·refine pP (F:=fun n=>iter g (eO C c) live n bq M) (n:=1) (fun n x=>uM live n) ?_
   show iter g (eO C c) live 1 bq M=some x
   rw[iter,ho,bO,zI h1,h2]
def Kt(C:eR)(live:List Nat)(c:cD)(bq:Env)(M:aC) :
  eO C (.loop live c) bq M=bI (eO C c (jn bq live) M) fun o=>tY o fun e m=>eO C (.loop live c) (wv M.length m (jn e live)) (iU M.length m):=FU gL C live c bq M
def HS(C:eR)(live:List Nat)(c:cD)(bq:Env)(M:aC) :
  eO C (.nB live c) bq M=bI (eO C c (jn bq live) M) fun o=>tY o fun e m=>eO C (.nB live c) (wv m.length m (jn e live)) (iU m.length m):=FU gR C live c bq M
def Kr{T:zo}{f:Nat}{fn:eG}{args:List ag}{M:aC}{x:ag×aC}(hp:T.oO f=none)(hc:T.code f=some fn)(hl:args.length=fn.nparams)
  (h:bI (eO (aq T) fn.body (eF 0 args) M) (finish fn.results M.length)=some x):aq T f args M=some x:=by
 obtain⟨o,hb,hf⟩:=bp h;obtain⟨n,hn⟩:=ot T fn.body hb;refine pP (n:=n+1) (fun n x h=>tw T n f args M x h) ?_
 rw[j7];simp only[hp,hc,aW hl,hn,bO];exact hf
def fg{T:zo}{f:Nat}{g:List ag->aC->Option (ag×aC)}{args:List ag}{M:aC}{x:ag×aC}(hp:T.oO f=some g)(hg:g args M=some x):aq T f args M=some x:=by
 refine pP (n:=0) (fun n x h=>tw T n f args M x h) ?_
 rw[j7];simp only[hp,hg]
inductive K where
 |seq (c:cD)
 |block (id:Nat)
 |loop (live:List Nat) (n:Nat) (c:cD)
 |nB (live:List Nat) (c:cD)
noncomputable def kr(C:eR)(fn:List sN)(bS:Nat):List K->Out->Option (ag×aC)
 | [],o=>finish fn bS o
 | .seq c::k,o=>bI (tY o (eO C c)) (kr C fn bS k)
 | .block id::k,o=>kr C fn bS k (xu id o)
 | .loop live n c::k,o=>bI (tY o fun e m=>eO C (.loop live c) (wv n m (jn e live)) (iU n m)) (kr C fn bS k)
 | .nB live c::k,o=>bI (tY o fun e m=>eO C (.nB live c) (wv m.length m (jn e live)) (iU m.length m)) (kr C fn bS k)
noncomputable def eX(C:eR)(fn:List sN)(bS:Nat)(k:List K)(c:cD)(bq:Env)(M:aC):Option (ag×aC):=bI (eO C c bq M) (kr C fn bS k)
noncomputable def fJ(C:eR)(fn:List sN)(bS:Nat)(k:List K)(live:List Nat)(ops:List da)(bq:Env)(M:aC):Option (ag×aC) :=
 bI (gr C ops bq M) fun o=>kr C fn bS k (o.pO live)
noncomputable def lj(C:eR)(fn:List sN)(bS:Nat)(k:List K)(live:List Nat)(c:Bool)(dst:Option Nat)(r:List da)(bq:Env)(y:Option (ag×aC)):Option (ag×aC) :=
 bI y fun x=>bI (EJ c x (gr C r (rE bq dst x.1) x.2)) fun o=>kr C fn bS k (o.pO live)
noncomputable def gK(C:eR)(fn:List sN)(bS:Nat)(k:List K)(live:List Nat)(g:ag)(want:Bool)(o:da)(r:List da)(bq:Env)(M:aC):Option (ag×aC) :=
 match g with
 | .bool b=>Be (b==want) (lj C fn bS k live o.lets o.dst r bq (qm C o bq M)) (fJ C fn bS k live r (rE bq o.dst (.tuple [])) M)
 | .tuple []=>fJ C fn bS k live r (rE bq o.dst (.tuple [])) M
 |_=>none
noncomputable def dY(C:eR)(fn:List sN)(bS:Nat)(k:List K)(v:ag)(x y:cD)(bq:Env)(M:aC):Option (ag×aC) :=
 match v with
 | .bool t=>Be t (eX C fn bS k x bq M) (eX C fn bS k y bq M)
 |_=>none
def pQ{α β γ:Type}(x:Option α)(f:α->Option β)(g:β->Option γ):bI (bI x f) g=bI x fun a=>bI (f a) g:=by cases x<;>rfl
section
variable (C:eR) (fn:List sN) (bS:Nat) (k:List K) (bq:Env) (M:aC)
def RB:eX C fn bS k .skip bq M=kr C fn bS k ⟨.normal,bq,M⟩:=rfl
def RA(id:Nat):eX C fn bS k (.exit id) bq M=kr C fn bS k ⟨.exit id,bq,M⟩:=rfl
def YE:eX C fn bS k .ret bq M=kr C fn bS k ⟨.ret,bq,M⟩:=rfl
def YF(a b:cD):eX C fn bS k (.seq a b) bq M=eX C fn bS (.seq b::k) a bq M:=by
 unfold eX;rw[eO,pQ];rfl
def O0(id:Nat)(c:cD):eX C fn bS k (.block id c) bq M=eX C fn bS (.block id::k) c bq M:=by
 unfold eX;rw[eO,pQ];rfl
def Rz(c:fZ)(x y:cD):eX C fn bS k (.cond c x y) bq M=dY C fn bS k (c.ev bq) x y bq M:=by
 unfold eX dY;rw[eO];cases c.ev bq<;>simp[eX]
def Lf(ops:List da)(d:Bool)(live:List Nat):eX C fn bS k (.region ops d live) bq M=fJ C fn bS k live ops bq M:=by
 unfold eX fJ;rw[eO,pQ];rfl
def bF(live:List Nat)(c:cD):eX C fn bS k (.loop live c) bq M=eX C fn bS (.loop live M.length c::k) c (jn bq live) M:=by
 unfold eX;rw[Kt,pQ];rfl
def vr(live:List Nat)(c:cD):eX C fn bS k (.nB live c) bq M=eX C fn bS (.nB live c::k) c (jn bq live) M:=by
 unfold eX;rw[HS,pQ];rfl
def YD(t:Nat)(c:cD):eX C fn bS k (.rM t c) bq M=eX C fn bS k c (Ln M t bq) (qG M (ia bq t).ids):=rfl
def Vj(live:List Nat)(c:cD):kr C fn bS (.nB live c::k) ⟨.normal,bq,M⟩=eX C fn bS k (.nB live c) (wv M.length M (jn bq live)) (iU M.length M):=rfl
def E6(live:List Nat)(c:cD)(i:Nat):kr C fn bS (.nB live c::k) ⟨.exit i,bq,M⟩=kr C fn bS k ⟨.exit i,bq,M⟩:=rfl
def Hc(live:List Nat)(c:cD):kr C fn bS (.nB live c::k) ⟨.ret,bq,M⟩=kr C fn bS k ⟨.ret,bq,M⟩:=rfl
def Wq(live:List Nat):fJ C fn bS k live [] bq M=kr C fn bS k ⟨.normal,jn bq live,M⟩:=rfl
def PR(live:List Nat)(d:Option Nat)(op:ku)(g m:Bool)(s:List Nat)(st:Bool)(r:List da) :
  fJ C fn bS k live (⟨d,op,none,g,m,s,st⟩::r) bq M=lj C fn bS k live (da.lets ⟨d,op,none,g,m,s,st⟩) d r bq (qm C ⟨d,op,none,g,m,s,st⟩ bq M):=by
 unfold fJ lj;rw[gr,pQ]
def PS(live:List Nat)(d:Option Nat)(op:ku)(t:Nat)(w g m:Bool)(s:List Nat)(st:Bool)(r:List da) :
  fJ C fn bS k live (⟨d,op,some (t,w),g,m,s,st⟩::r) bq M=gK C fn bS k live (ia bq t) w ⟨d,op,some (t,w),g,m,s,st⟩ r bq M:=by
 unfold fJ gK;rw[gr];simp only;generalize ia bq t=v;split
 ·rw[PF,pQ]; rfl
 ·rfl
 ·rename_i h1 h2
  first
   |rfl
   |(split
     ·rename_i b; exact absurd rfl (h1 b)
     ·exact absurd rfl h2
     ·rfl)
def V0(live:List Nat)(c:Bool)(d:Option Nat)(r:List da)(v:ag)(M':aC)(hv:v.jm=false):lj C fn bS k live c d r bq (some (v,M'))=fJ C fn bS k live r (rE bq d v) M':=by
 unfold lj;rw[bO,L1 hv]; rfl
def aaA(live:List Nat)(d:Option Nat)(r:List da)(v:Value)(M':aC):lj C fn bS k live true d r bq (some (.nD v,M'))=kr C fn bS k ⟨.nD v,[],M'⟩:=rfl
def Pu(d g f:_)(a m s1 s:_):da.lets ⟨d,.call f a,g,m,s1,s,true⟩=true:=rfl
def LJ(d g f:_)(a m s1 s:_):da.lets ⟨d,.sv f a,g,m,s1,s,true⟩=true:=rfl
def LK(d g f:_)(a m s1 s:_):da.lets ⟨d,.BK f a,g,m,s1,s,true⟩=true:=rfl
def LH(d g f:_)(a m s1 s:_):da.lets ⟨d,.BJ f a,g,m,s1,s,true⟩=true:=rfl
def LI(d g f:_)(a m s1 s:_):da.lets ⟨d,.kZ f a,g,m,s1,s,true⟩=true:=rfl
def LL(d g f:_)(m s1 s:_):da.lets ⟨d,.raise f,g,m,s1,s,true⟩=true:=rfl
def alJ(live:List Nat)(o:da)(r:List da):gK C fn bS k live (.bool true) true o r bq M=lj C fn bS k live o.lets o.dst r bq (qm C o bq M):=rfl
def alG(live:List Nat)(o:da)(r:List da):gK C fn bS k live (.bool false) false o r bq M=lj C fn bS k live o.lets o.dst r bq (qm C o bq M):=rfl
def alI(live:List Nat)(o:da)(r:List da):gK C fn bS k live (.bool true) false o r bq M=fJ C fn bS k live r (rE bq o.dst (.tuple [])) M:=rfl
def alH(live:List Nat)(o:da)(r:List da):gK C fn bS k live (.bool false) true o r bq M=fJ C fn bS k live r (rE bq o.dst (.tuple [])) M:=rfl
def alK(live:List Nat)(w:Bool)(o:da)(r:List da):gK C fn bS k live (.tuple []) w o r bq M=fJ C fn bS k live r (rE bq o.dst (.tuple [])) M:=rfl
def YM(x y:cD):dY C fn bS k (.bool true) x y bq M=eX C fn bS k x bq M:=rfl
def YL(x y:cD):dY C fn bS k (.bool false) x y bq M=eX C fn bS k y bq M:=rfl
def agE(c:cD):kr C fn bS (.seq c::k) ⟨.normal,bq,M⟩=eX C fn bS k c bq M:=rfl
def Je(c:cD)(i:Nat):kr C fn bS (.seq c::k) ⟨.exit i,bq,M⟩=kr C fn bS k ⟨.exit i,bq,M⟩:=rfl
def Ly(c:cD):kr C fn bS (.seq c::k) ⟨.ret,bq,M⟩=kr C fn bS k ⟨.ret,bq,M⟩:=rfl
def Lx(c:cD)(v:Value):kr C fn bS (.seq c::k) ⟨.nD v,bq,M⟩=kr C fn bS k ⟨.nD v,bq,M⟩:=rfl
def Ha(id:Nat)(v:Value):kr C fn bS (.block id::k) ⟨.nD v,bq,M⟩=kr C fn bS k ⟨.nD v,bq,M⟩:=rfl
def Jc(live:List Nat)(n:Nat)(c:cD)(v:Value):kr C fn bS (.loop live n c::k) ⟨.nD v,bq,M⟩=kr C fn bS k ⟨.nD v,bq,M⟩:=rfl
def Vi(id:Nat):kr C fn bS (.block id::k) ⟨.normal,bq,M⟩=kr C fn bS k ⟨.normal,bq,M⟩:=rfl
def E5(id i:Nat):kr C fn bS (.block id::k) ⟨.exit i,bq,M⟩=if i=id then kr C fn bS k ⟨.normal,bq,M⟩ else kr C fn bS k ⟨.exit i,bq,M⟩:=by
 rw[kr]; simp only[xu]; split<;>rfl
def Hb(id:Nat):kr C fn bS (.block id::k) ⟨.ret,bq,M⟩=kr C fn bS k ⟨.ret,bq,M⟩:=rfl
def Y6(live:List Nat)(n:Nat)(c:cD):kr C fn bS (.loop live n c::k) ⟨.normal,bq,M⟩=eX C fn bS k (.loop live c) (wv n M (jn bq live)) (iU n M):=rfl
def He(live:List Nat)(n:Nat)(c:cD)(i:Nat):kr C fn bS (.loop live n c::k) ⟨.exit i,bq,M⟩=kr C fn bS k ⟨.exit i,bq,M⟩:=rfl
def Jd(live:List Nat)(n:Nat)(c:cD):kr C fn bS (.loop live n c::k) ⟨.ret,bq,M⟩=kr C fn bS k ⟨.ret,bq,M⟩:=rfl
def agD(o:Out):kr C fn bS [] o=finish fn bS o:=rfl
end
def ni{q body:cD}(h:q=body)(C:eR)(fn:List sN)(bS:Nat)(k:List K)(bq:Env)(M:aC):eX C fn bS k q bq M=eX C fn bS k body bq M:=by rw[h]
def aB{T:zo}{f:Nat}{fn:eG}{args:List ag}{M:aC}{x:ag×aC}(h:eX (aq T) fn.results M.length [] fn.body (eF 0 args) M=some x)
  (hp:T.oO f=none:=by exact rfl) (hc:T.code f=some fn:=by exact rfl) (hl:args.length=fn.nparams:=by exact rfl):aq T f args M=some x :=
 Kr hp hc hl (by
  unfold eX at h;obtain⟨o,h1,h2⟩:=bp h;rw[h1]; exact h2)
end
section
open Go Go.RowKit
def bs(s:List UInt8):ByteArray:=⟨s.toArray⟩
structure J where
 f:Nat->Option Nat
 X:Nat->Nat->Prop
instance:CoeFun J (fun _=>Nat->Option Nat):=⟨J.f⟩
structure om(j:J)(M:aC)(w:World)(b off:Nat):Prop where
 lt:b<w.heap.size
 ids:∀id,id<M.length->j id=some b->∃sz n,M[id]?=some (.tick sz n)/\off<n*sz
 nx:¬j.X b off
inductive fR(w:World)(iA:Nat->Nat->Prop):ag->Value->Prop where
 |bool (b:Bool):fR w iA (.bool b) (.bool b)
 |int (k:IntKind) (n:Int):fR w iA (.int k n) (.int k n)
 |str (s:List UInt8):fR w iA (.str s) (.string (bs s))
 |raw (v:Value) (h1:v.oneCell'=true):fR w iA (.raw v) v
 |slice (xs:List ag) (A:Option Addr) (len cap b off sz:Nat) (vs:Nat->Value) (hl:len=xs.length) (hc:len<=cap)
   (ha:xs≠[]->A=some ⟨b,off,none⟩) (hz:∀x,x∈xs->x.cells.length=sz)
   (hs:∀(i:Nat)(x:ag)(k:Nat)(c:ag),xs[i]?=some x->x.cells[k]?=some c->w.cell? ⟨b,off+(i*sz+k),none⟩=some (vs (i*sz+k))/\iA b (off+(i*sz+k)))
   (hr:∀(i:Nat)(x:ag)(k:Nat)(c:ag),xs[i]?=some x->x.cells[k]?=some c->fR w iA c (vs (i*sz+k))):fR w iA (.slice .sh xs) (.slice A len cap)
def QP(j:J)(w:World)(k n t:Nat)(x:Bool)(v:Value):Prop :=
 (j k=none/\n=0/\∃A,v = .slice A 0 0/\(x=true->A=none)) \/
 ∃b cap vs,0<n/\j k=some b/\v = .slice (some ⟨b,0,none⟩) n cap/\w.heap[b]?=some (.cells vs t (0,0))/\cap<=vs.size/\n<=cap
def HN(j:J)(w:World)(k sz n:Nat)(v:Value):Prop :=
 (j k=none/\n=0/\∃A,v = .slice A 0 0) \/
 ∃b cap vs t,j k=some b/\v = .slice (some ⟨b,0,none⟩) n cap/\w.heap[b]?=some (.cells vs t (0,0))/\cap*sz<=vs.size/\n<=cap
def Cr(w:World)(iA:Nat->Nat->Prop)(x:ag)(v:Value):Prop :=
 match x with
 | .agg cs=>∃us:Array Value,v = .agg us/\cs.length=us.size/\∀(i:Nat)(c:ag)(u:Value),cs[i]?=some c->us[i]?=some u->fR w iA c u
 |x=>fR w iA x v
inductive gu(j:J)(M:aC)(w:World):ag->Value->Prop where
 |plain {x:ag} {v:Value} (h:fR w (om j M w) x v):gu j M w x v
 |c0 (A:Option Addr):gu j M w (.slice .c0 []) (.slice A 0 0)
 |own {k:Nat} {xs:List ag} {v:Value} {sz n:Nat} (hk:M[k]?=some (.tick sz n)) (hn:xs.length<=n) (h:fR w (om j M w) (.slice .sh xs) v)
   (ht:xs.length=n->HN j w k sz n v):gu j M w (.slice (.own k) xs) v
 |agg {cs:List ag} {vs:Array Value} (hl:cs.length=vs.size) (h:∀(i:Nat)(c:ag)(v:Value),cs[i]?=some c->vs[i]?=some v->gu j M w c v):gu j M w (.agg cs) (.agg vs)
 |tuple {cs:List ag} {vs:Array Value} (hl:cs.length=vs.size) (h:∀(i:Nat)(c:ag)(v:Value),cs[i]?=some c->vs[i]?=some v->gu j M w c v):gu j M w (.tuple cs) (.tuple vs)
 |ptr {id off b:Nat} (hid:id<M.length) (hc:∃cs,M[id]?=some (.cells cs)) (hj:j id=some b):gu j M w (.ptr id off) (.pointer (some ⟨b,off,none⟩))
 |jB {cs:List ag} {b off:Nat} {vs:Nat->Value} (h:∀(k:Nat)(c:ag),cs[k]?=some c->w.cell? ⟨b,off+k,none⟩=some (vs k)/\om j M w b (off+k)/\fR w (om j M w) c (vs k)) :
   gu j M w (.jB cs) (.pointer (some ⟨b,off,none⟩))
 |func {f:Nat} {caps:List ag} {vs:Array Value} (hl:caps.length=vs.size) (h:∀(i:Nat)(c:ag)(v:Value),caps[i]?=some c->vs[i]?=some v->gu j M w c v) :
   gu j M w (.func f caps) (.func (.func f) #[] vs)
 |iz {id b:Nat} (hc:∃ks vs,M[id]?=some (.map ks vs)) (hj:j id=some b):gu j M w (.iz id) (.map (some b))
 |j4 {id b:Nat} (hc:∃s p,M[id]?=some (.nR s p)) (hj:j id=some b):gu j M w (.j4 id) (.pointer (some ⟨b,0,none⟩))
 |kf {ks vs:List ag} {b:Nat} {es:Array MapEntry} {clock:Nat} (hb:b<w.heap.size) (hf:∀i,i<M.length->j i≠some b) (hx:∀off,¬j.X b off) (hw:w.heap[b]?=some (.map es clock)) (hk:ks.length=es.size) (hv:vs.length=es.size)
   (hks:∀(i:Nat)(k:ag)(e:MapEntry),ks[i]?=some k->es[i]?=some e->fR w (om j M w) k e.key) (hvs:∀(i:Nat)(v:ag)(e:MapEntry),vs[i]?=some v->es[i]?=some e->Cr w (om j M w) v e.val) :
   gu j M w (.kf ks vs) (.map (some b))
 |cB {id ver sz lo hi:Nat} {v:Value} (h0:(∃b off c,v = .slice (some ⟨b,off,none⟩) (hi-lo) c/\hi-lo<=c)\/hi-lo=0/\∃A,v = .slice A 0 0) (hid:id<M.length) (hM:∀bx,M[id]?=some bx->bx.loose=true)
   (hv:∀sz' v' xs,M[id]?=some (.arr sz' v' xs)->ver<=v'/\(v'=ver->sz'=sz/\lo<=hi/\hi<=xs.length/\((xs=[]/\j id=none/\∃A,v = .slice A 0 0)\/∃b cap vs t,j id=some b/\v = .slice (some ⟨b,lo*sz,none⟩) (hi-lo) cap/\hi-lo<=cap/\w.heap[b]?=some (.cells vs t (0,0))/\(lo+cap)*sz<=vs.size))) :
   gu j M w (.cB id ver sz lo hi) v
 |jt {id ver i off:Nat} {v:Value} (h0:∃b o,v = .pointer (some ⟨b,o,none⟩)) (hid:id<M.length) (hM:∀bx,M[id]?=some bx->bx.loose=true)
   (hv:∀sz v' xs,M[id]?=some (.arr sz v' xs)->ver<=v'/\(v'=ver->i<xs.length/\∃b,j id=some b/\v = .pointer (some ⟨b,i*sz+off,none⟩))) :
   gu j M w (.jt id ver i off) v
 |qV {f:Nat} {fs:List ag} {vs:Array Value} (hl:fs.length=vs.size) (h:∀(i:Nat)(c:ag)(v:Value),fs[i]?=some c->vs[i]?=some v->Cr w (om j M w) c v):gu j M w (.qV f fs) (.func (.func f) vs #[])
 |kj {t id off b:Nat} (hc:∃cs,M[id]?=some (.cells cs)) (hj:j id=some b):gu j M w (.kj t id off) (.iface t (.pointer (some ⟨b,off,none⟩)))
 |any (v:Value):gu j M w .any v
def RC(j:J)(M:aC)(w:World)(cs:List ag)(vs:Array Value):Prop :=
 cs.length=vs.size/\∀(i:Nat)(c:ag)(v:Value),cs[i]?=some c->vs[i]?=some v->gu j M w c v
def Holds(j:J)(M:aC)(w:World)(b:Nat):cL->Prop
 | .cells cs=>∃vs t,w.heap[b]?=some (.cells vs t (0,0))/\RC j M w cs vs
 | .tick _ _=>True
 | .map ks vs=>∃es clock,w.heap[b]?=some (.map es clock)/\ks.length=es.size/\vs.length=es.size/\(∀(i:Nat)(k:ag)(e:MapEntry),ks[i]?=some k->es[i]?=some e->fR w (om j M w) k e.key) /\
   ∀(i:Nat)(v:ag)(e:MapEntry),vs[i]?=some v->es[i]?=some e->gu j M w v e.val
 | .nR s pos=>w.heap[b]?=some (.stringIter (bs s) pos)
 | .arr _ _ _=>True
 | .vO=>True
structure Rel(j:J)(M:aC)(w:World):Prop where
 inj:∀i i' b,i<M.length->i'<M.length->j i=some b->j i'=some b->i=i'
 lt:∀i b,i<M.length->j i=some b->b<w.heap.size
 fix:∀i bx,M[i]?=some bx->bx.fixed=true->∃b,j i=some b/\Holds j M w b bx
 tick:∀i sz n b,M[i]?=some (.tick sz n)->j i=some b->∃vs t,w.heap[b]?=some (.cells vs t (0,0))
 arr:∀i sz ver xs,M[i]?=some (.arr sz ver xs)->(xs=[]/\j i=none)\/∃b vs t,j i=some b/\w.heap[b]?=some (.cells vs t (0,0))/\xs.length*sz<=vs.size/\(∀x,x∈xs->x.cells.length=sz) /\
  ∀(q:Nat)(x:ag)(k:Nat)(c:ag),xs[q]?=some x->x.cells[k]?=some c->∃v,vs[q*sz+k]?=some v/\fR w (om j M w) c v
 vd:∀i b,i<M.length->j i=some b->∀off,¬j.X b off
 Aq:∀b off,j.X b off->b<w.heap.size
def Rel.box{j:J}{M:aC}{w:World}(h:Rel j M w)(i:Nat)(cs:List ag)(hi:M[i]?=some (.cells cs)):∃b vs t,j i=some b/\w.heap[b]?=some (.cells vs t (0,0))/\cs.length=vs.size /\
  ∀(q:Nat)(c:ag)(v:Value),cs[q]?=some c->vs[q]?=some v->gu j M w c v:=by
 obtain⟨b,h1,vs,t,h2,h3⟩:=h.fix i _ hi rfl;exact⟨b,vs,t,h1,h2,h3.1,h3.2⟩
structure Ext(j:J)(M:aC)(w:World)(j':J)(M':aC)(w':World):Prop where
 len:M.length<=M'.length
 size:w.heap.size<=w'.heap.size
 os:w'.os=w.os
 tape:w'.tape=w.tape
 output:w'.output=w.output
 X:j'.X=j.X
 fix:∀i bx,M[i]?=some bx->bx.fixed=true->j' i=j i/\∃bx',M'[i]?=some bx'/\bx'.tag=bx.tag
 tick:∀i sz n,M[i]?=some (.tick sz n)->∃n',n<=n'/\M'[i]?=some (.tick sz n') /\
  (n'=n->j' i=j i/\∀b vs t,j i=some b->w.heap[b]?=some (.cells vs t (0,0))->∃vs',w'.heap[b]?=some (.cells vs' t (0,0))/\vs'.size=vs.size)
 arr:∀i sz ver xs,M[i]?=some (.arr sz ver xs)->(∃n',M'[i]?=some (.tick sz n'))\/∃ver' xs',M'[i]?=some (.arr sz ver' xs')/\ver<=ver' /\
  (ver'=ver->j' i=j i/\xs'.length=xs.length/\∀b vs t,j i=some b->w.heap[b]?=some (.cells vs t (0,0))->∃vs',w'.heap[b]?=some (.cells vs' t (0,0))/\vs'.size=vs.size)
 tags:∀(b:Nat)(vs:Array Value)(t:TypeId)(fr:Nat×Nat),w.heap[b]?=some (.cells vs t fr)->∃vs' fr',w'.heap[b]?=some (.cells vs' t fr')/\vs'.size=vs.size
 iA:∀b off,om j M w b off->om j' M' w' b off/\w'.cell? ⟨b,off,none⟩=w.cell? ⟨b,off,none⟩
 uh:∀b,b<w.heap.size->(∀i,i<M.length->j i≠some b)->w'.heap[b]?=w.heap[b]?/\∀i,i<M'.length->j' i≠some b
def Bw{a b:cL}(h:b.tag=a.tag)(ha:a.fixed=true):b.fixed=true:=by
 cases a<;>cases b<;>simp[cL.tag,cL.fixed] at * <;> omega
def Gv{b:cL}(h:b.tag=0):∃cs,b = .cells cs:=by cases b<;>simp[cL.tag] at h; simp
def abe{b:cL}(h:b.tag=1):∃ks vs,b = .map ks vs:=by cases b<;>simp[cL.tag] at h; simp
def Qa{b:cL}(h:b.tag=2):∃s p,b = .nR s p:=by cases b<;>simp[cL.tag] at h; simp
theorem fR.mono{w w':World}{iA saf':Nat->Nat->Prop}(h:∀b off,iA b off->saf' b off/\w'.cell? ⟨b,off,none⟩=w.cell? ⟨b,off,none⟩)
  {x:ag} {v:Value} (hr:fR w iA x v):fR w' saf' x v:=by
 induction hr with
 |bool b=>simp[bool]
 |int k n=>exact .int k n
 |str s=>exact .str s
 |raw v h1=>exact .raw v h1
 |slice xs A len cap b off sz vs hl hc ha hz hs _ ih =>
  refine .slice _ A _ _ b _ _ _ hl hc ha hz (fun i x k c hx hk=>?_) ih
  grind
def Cr.mono{w w':World}{iA saf':Nat->Nat->Prop}(h:∀b off,iA b off->saf' b off/\w'.cell? ⟨b,off,none⟩=w.cell? ⟨b,off,none⟩)
  {x:ag} {v:Value} (hr:Cr w iA x v):Cr w' saf' x v:=by
 by_cases hag:∃cs,x = .agg cs
 ·obtain⟨cs,rfl⟩:=hag;obtain⟨us,h1,h2,h3⟩:=hr;exact⟨us,h1,h2,fun i c u hc hu=>(h3 i c u hc hu).mono h⟩
 ·cases x<;>first|exact absurd ⟨_,rfl⟩ hag|exact fR.mono h hr
section
variable {j j' j'':J} {M M' M'':aC} {w w' w'':World}
def QP.mono{k n t:Nat}{x:Bool}{v:Value}(h:QP j w k n t x v)(hj:j' k=j k)
  (hb:∀b vs t,j k=some b->w.heap[b]?=some (.cells vs t (0,0))->∃vs',w'.heap[b]?=some (.cells vs' t (0,0))/\vs'.size=vs.size):QP j' w' k n t x v:=by
 rcases h with ⟨h1,h2,h3⟩|⟨b,cap,vs,h0,h1,h2,h3,h4,h5⟩
 ·exact .inl ⟨hj.trans h1,h2,h3⟩
 ·obtain⟨vs',h6,h7⟩:=hb b _ t h1 h3;exact .inr ⟨b,cap,vs',h0,hj.trans h1,h2,h6,aH,h5⟩
def HN.mono{k sz n:Nat}{v:Value}(h:HN j w k sz n v)(hj:j' k=j k)
  (hb:∀b vs t,j k=some b->w.heap[b]?=some (.cells vs t (0,0))->∃vs',w'.heap[b]?=some (.cells vs' t (0,0))/\vs'.size=vs.size):HN j' w' k sz n v:=by
 rcases h with ⟨h1,h2,h3⟩|⟨b,cap,vs,t,h1,h2,h3,h4,h5⟩
 ·exact .inl ⟨hj.trans h1,h2,h3⟩
 ·obtain⟨vs',h6,h7⟩:=hb b _ t h1 h3;exact .inr ⟨b,cap,vs',t,hj.trans h1,h2,h6,aH,h5⟩
theorem Ext.loose(hx:Ext j M w j' M' w'){id:Nat}(hid:id<M.length)(hM:∀bx,M[id]?=some bx->bx.loose=true):(∀bx,M'[id]?=some bx->bx.loose=true) /\
  ∀sz v' xs,M'[id]?=some (.arr sz v' xs)->∃v0 xs0,M[id]?=some (.arr sz v0 xs0)/\v0<=v' /\
   (v'=v0->j' id=j id/\xs.length=xs0.length/\∀b vs t,j id=some b->w.heap[b]?=some (.cells vs t (0,0))->∃vs',w'.heap[b]?=some (.cells vs' t (0,0))/\vs'.size=vs.size):=by
 have h0:=ai hid;have hf:=hM _ h0;generalize M[id]=bx at h0 hf;cases bx with
 |cells=>cases hf
 |map=>cases hf
 |nR=>cases hf
 |vO=>cases hf
 |tick sz n =>
  obtain⟨n',h1,h2,h3⟩:=hx.tick _ _ _ h0;refine⟨fun bx hb=>?_,fun sz v' xs h=>?_⟩
  ·rw[h2] at hb; cases hb; rfl
  grind
 |arr sz v xs =>
  rcases hx.arr _ _ _ _ h0 with ⟨n',h2⟩|⟨v1,xs1,h2,h3,h4⟩
  ·refine⟨fun bx hb=>?_,fun sz v' xs h=>?_⟩
   ·rw[h2] at hb; cases hb; rfl
   grind
  ·refine⟨fun bx hb=>?_,fun sz' v' xs' h=>?_⟩
   ·rw[h2] at hb; cases hb; rfl
   grind
theorem gu.mono(hx:Ext j M w j' M' w'){x:ag}{v:Value}(hr:gu j M w x v):gu j' M' w' x v:=by
 induction hr with
 |plain h=>exact .plain (h.mono hx.iA)
 |c0 A=>exact .c0 A
 |own hk hn h ht =>
  obtain⟨n',h1,h2,h3⟩:=hx.tick _ _ _ hk;refine .own h2 aH (h.mono hx.iA) (fun he=>?_)
  have:n'=_:=Nat.le_antisymm aH h1;obtain⟨h4,h5⟩:=h3 this;subst this;exact(ht he).mono h4 h5
 |agg hl _ ih=>exact .agg hl ih
 |tuple hl _ ih=>exact .tuple hl ih
 |ptr hid hc hj =>
  obtain⟨cs,hc⟩:=hc;obtain⟨h1,bx,h2,h3⟩:=hx.fix _ _ hc rfl;obtain⟨cs',rfl⟩:=Gv h3;exact .ptr (bz hid hx.len) ⟨_,h2⟩ (h1.trans hj)
 | @jB cs b off vs h =>
  refine .jB (vs:=vs) fun k c hk=>?_
  obtain⟨h1,h2,h3⟩:=h k c hk;obtain⟨h4,h5⟩:=hx.iA _ _ h2;exact⟨h5.trans h1,h4,h3.mono hx.iA⟩
 |func hl _ ih=>exact .func hl ih
 |iz hc hj =>
  obtain⟨ks,vs,hc⟩:=hc;obtain⟨h1,bx,h2,h3⟩:=hx.fix _ _ hc rfl;obtain⟨ks',vs',rfl⟩:=abe h3;exact .iz ⟨_,_,h2⟩ (h1.trans hj)
 |j4 hc hj =>
  obtain⟨ks,vs,hc⟩:=hc;obtain⟨h1,bx,h2,h3⟩:=hx.fix _ _ hc rfl;obtain⟨ks',vs',rfl⟩:=Qa h3;exact .j4 ⟨_,_,h2⟩ (h1.trans hj)
 |kf hb hf hxx hw hk hv hks hvs =>
  obtain⟨h1,h2⟩:=hx.uh _ hb hf;exact .kf (bz hb hx.size) h2 (by rw[hx.X]; omega) (h1.trans hw) hk hv (fun i k e h1 h2=>(hks i k e h1 h2).mono hx.iA) (fun i k e h1 h2=>(hvs i k e h1 h2).mono hx.iA)
 |cB hs hid hM hv =>
  obtain⟨g1,g2⟩:=hx.loose hid hM;refine .cB hs (bz hid hx.len) g1 fun sz v' xs h=>?_
  obtain⟨v0,xs0,h0,h1,h2⟩:=g2 sz v' xs h;obtain⟨h3,h4⟩:=hv sz v0 xs0 h0;refine⟨aH,fun he=>?_⟩
  obtain⟨h5,h6,h7⟩:=h2 aH;obtain⟨l0,l1,l2,⟨rfl,l3,l4⟩|⟨b,cap,vs,t,l3,l4,l5,l6,l7⟩⟩:=h4 aH
  ·exact⟨l0,l1,aH,.inl ⟨dD aH,h5.trans l3,l4⟩⟩
  obtain⟨vs',l8,l9⟩:=h7 b vs t l3 l6;exact⟨l0,l1,aH,.inr ⟨b,cap,vs',t,h5.trans l3,l4,l5,l8,aH⟩⟩
 |jt hs hid hM hv =>
  obtain⟨g1,g2⟩:=hx.loose hid hM;refine .jt hs (bz hid hx.len) g1 fun sz v' xs h=>?_
  grind
 |qV hl h=>exact .qV hl fun i c v hc hv=>(h i c v hc hv).mono hx.iA
 |kj hc hj =>
  obtain⟨cs,hc⟩:=hc;obtain⟨h1,bx,h2,h3⟩:=hx.fix _ _ hc rfl;obtain⟨cs',rfl⟩:=Gv h3;exact .kj ⟨_,h2⟩ (h1.trans hj)
 |any v=>exact .any v
def Holds.mono{b:Nat}{bx:cL}(hx:Ext j M w j' M' w')(hb:w'.heap[b]?=w.heap[b]?)(h:Holds j M w b bx):Holds j' M' w' b bx:=by
 cases bx with
 |cells cs =>
  obtain⟨vs,t,h1,h2,h3⟩:=h;exact⟨vs,t,hb.trans h1,h2,fun i c v hc hv=>(h3 i c v hc hv).mono hx⟩
 |tick=>trivial
 |map ks vs =>
  obtain⟨es,clock,h1,h2,h3,h4,h5⟩:=h;exact⟨es,clock,hb.trans h1,h2,h3,fun i k e hk he=>(h4 i k e hk he).mono hx.iA,fun i k e hk he=>(h5 i k e hk he).mono hx⟩
 |nR s pos=>exact hb.trans h
 |arr=>trivial
 |vO=>trivial
theorem Holds.lt{b:Nat}{bx:cL}(h:Holds j M w b bx)(hf:bx.fixed=true):∃o,w.heap[b]?=some o:=by
 cases bx with
 |cells cs=>obtain⟨vs,t,h1,_⟩:=h; grind
 |tick=>cases hf
 |map ks vs=>obtain⟨es,clock,h1,_⟩:=h; grind
 |nR s pos=>exact⟨_,h⟩
 |arr=>cases hf
 |vO=>cases hf
def Ext.refl(j:J)(M:aC)(w:World):Ext j M w j M w where
 len:=au _
 size:=au _
 os:=rfl
 tape:=rfl
 output:=rfl
 X:=rfl
 fix:=fun i bx h _=>⟨rfl,bx,h,rfl⟩
 tick:=fun i sz n h=>⟨n,au _,h,fun _=>⟨rfl,fun b vs t _ h=>⟨vs,h,rfl⟩⟩⟩
 arr:=fun i sz v xs h => .inr ⟨v,xs,h,au _,fun _=>⟨rfl,rfl,fun b vs t _ h=>⟨vs,h,rfl⟩⟩⟩
 tags:=fun b vs t fr h=>⟨vs,fr,h,rfl⟩
 iA:=fun b off h=>⟨h,rfl⟩
 uh:=fun b hb h=>⟨rfl,h⟩
theorem Ext.trans(h:Ext j M w j' M' w')(k:Ext j' M' w' j'' M'' w''):Ext j M w j'' M'' w'' where
 len:=aY h.len k.len
 size:=aY h.size k.size
 os:=k.os.trans h.os
 tape:=k.tape.trans h.tape
 output:=k.output.trans h.output
 X:=k.X.trans h.X
 fix:=fun i bx hi hf=>by
  obtain⟨h1,bx',h2,h3⟩:=h.fix i bx hi hf;have hf':bx'.fixed=true:=Bw h3 hf;obtain⟨h4,bx'',h5,h6⟩:=k.fix i bx' h2 hf'
  grind
 tick:=fun i sz n hi=>by
  obtain⟨n1,a1,a2,a3⟩:=h.tick i sz n hi;obtain⟨n2,b1,b2,b3⟩:=k.tick i sz n1 a2
  grind
 arr:=fun i sz v xs hi=>by
  rcases h.arr i sz v xs hi with ⟨n1,a1⟩|⟨v1,xs1,a1,a2,a3⟩
  ·obtain⟨n2,_,b2,_⟩:=k.tick i sz n1 a1
   grind
  ·rcases k.arr i sz v1 xs1 a1 with ⟨n2,b1⟩|⟨v2,xs2,b1,b2,b3⟩
   ·grind
   grind
 tags:=fun b vs t fr hb=>by
  obtain⟨vs1,fr1,h1,h2⟩:=h.tags b vs t fr hb;obtain⟨vs2,fr2,h3,h4⟩:=k.tags b vs1 t fr1 h1
  grind
 iA:=fun b off hs=>by
  obtain⟨h1,h2⟩:=h.iA b off hs;obtain⟨h3,h4⟩:=k.iA b off h1
  grind
 uh:=fun b hb hn=>by
  obtain⟨h1,h2⟩:=h.uh b hb hn;obtain⟨h3,h4⟩:=k.uh b (bz hb h.size) h2
  grind
theorem Ext.grow(hsz:w.heap.size<=w'.heap.size)(hos:w'.os=w.os)(ht:w'.tape=w.tape)(ho:w'.output=w.output)
  (hb:∀b,b<w.heap.size->w'.heap[b]?=w.heap[b]?):Ext j M w j M w' where
 len:=au _
 size:=hsz
 os:=hos
 tape:=ht
 output:=ho
 X:=rfl
 fix:=fun i bx h _=>⟨rfl,bx,h,rfl⟩
 tick:=fun i sz n h=>⟨n,au _,h,fun _=>⟨rfl,fun b vs t _ hv=>by
  grind⟩⟩
 arr:=fun i sz v xs h => .inr ⟨v,xs,h,au _,fun _=>⟨rfl,rfl,fun b vs t _ hv=>by
  grind⟩⟩
 tags:=fun b vs t fr h=>by
  grind
 iA:=fun b off h=>⟨⟨bz h.1 hsz,h.2,h.3⟩,World.cell?_of_block (hb b h.1)⟩
 uh:=fun b cJ h=>⟨hb b cJ,h⟩
theorem Rel.grow(hr:Rel j M w)(hsz:w.heap.size<=w'.heap.size)(hos:w'.os=w.os)(ht:w'.tape=w.tape)(ho:w'.output=w.output)
  (hb:∀b,b<w.heap.size->w'.heap[b]?=w.heap[b]?):Rel j M w' where
 inj:=hr.inj
 lt:=fun i b hi h=>bz (hr.lt i b hi h) hsz
 fix:=fun i bx h hf=>by
  obtain⟨b,h1,h2⟩:=hr.fix i _ h hf;have hi  := (aj.1 h).1;exact⟨b,h1,h2.mono (Ext.grow hsz hos ht ho hb) (hb b (hr.lt i b hi h1))⟩
 tick:=fun i sz n b h hj=>by
  obtain⟨vs,t,h1⟩:=hr.tick i _ n b h hj
  grind
 arr:=fun i sz v xs h=>by
  rcases hr.arr i _ v _ h with he|⟨b,vs,t,h1,h2,h3,h4,h5⟩
  ·exact .inl he
  have hi  := (aj.1 h).1;refine .inr ⟨b,vs,t,h1,(hb b (hr.lt i b hi h1)).trans h2,h3,h4,fun q x k c hx hk=>?_⟩
  obtain⟨u,h6,h7⟩:=h5 q x k c hx hk;exact⟨u,h6,h7.mono (Ext.grow hsz hos ht ho hb).iA⟩
 vd:=hr.vd
 Aq:=fun b off h=>bz (hr.Aq b _ h) hsz
end
class kx where
 g:Nat->Option (List Value)
 q:Nat->Option (Value->Prop):=fun _=>none
 u8:Nat:=0
structure sO[kx](j:J)(M:aC)(w:World):Prop where
 g:∀b vs k v,kx.g b=some vs->vs[k]?=some v->om j M w b k/\w.cell? ⟨b,k,none⟩=some v
 n:∀b vs,kx.g b=some vs->∃us t fr,w.heap[b]?=some (.cells us t fr)/\us.size=vs.length
 q:∀b p,kx.q b=some p->∃v,p v/\om j M w b 0/\w.cell? ⟨b,0,none⟩=some v
theorem sO.iA[kx]{j j':J}{M M':aC}{w:World}(h:sO j M w)(hx:∀b off,om j M w b off->om j' M' w b off):sO j' M' w where
 g:=fun b vs k v hb hk=>⟨hx _ _ (h.g b _ k v hb hk).1,(h.g b _ k v hb hk).2⟩
 n:=h.n
 q:=fun b p hb=>by
  obtain⟨v,h0,h1,h2⟩:=h.q b p hb
  grind
theorem sO.mono[kx]{j j':J}{M M':aC}{w w':World}(h:sO j M w)(hx:Ext j M w j' M' w'):sO j' M' w' where
 g:=fun b vs k v hb hk=>by
  obtain⟨h1,h2⟩:=h.g b _ k v hb hk;obtain⟨h3,h4⟩:=hx.iA _ _ h1
  grind
 n:=fun b vs hb=>by
  obtain⟨us,t,fr,h1,h2⟩:=h.n b _ hb;obtain⟨us',fr',h3,h4⟩:=hx.tags b _ t _ h1
  grind
 q:=fun b p hb=>by
  obtain⟨v,h0,h1,h2⟩:=h.q b p hb;obtain⟨h3,h4⟩:=hx.iA _ _ h1
  grind
variable [kx]
structure cn(j:J)(M:aC)(w:World)(bq:Env)(a:Act):Prop where
 at':∀t,gu j M w (ia bq t) (a.tmps.getD t undef)
 gl:sO j M w
def cn.mono{j j':J}{M M':aC}{w w':World}{bq:Env}{a:Act}(h:cn j M w bq a)(hx:Ext j M w j' M' w'):cn j' M' w' bq a :=
 ⟨fun t=>(h.at' t).mono hx,h.gl.mono hx⟩
def cn.put{j:J}{M:aC}{w:World}{bq:Env}{a:Act}{n:Nat}(h:cn j M w bq a)(hs:a.tmps.size=n){dst:Option Nat}(hd:∀d,dst=some d->d<n)
  {x:ag} {v:Value} (hv:gu j M w x v):cn j M w (rE bq dst x) (a.put dst v):=by
 refine⟨fun t=>?_,h.gl⟩
 cases dst with
 |none=>exact h.at' t
 |some d =>
  simp[rE,ia,Act.put]
  by_cases he:d=t
  ·simp_all
  ·have:=h.at' t;simp_all
theorem yV(bq:Env)(live:List Nat)(t:Nat):ia (jn bq live) t=if t∈live then ia bq t else .any:=by
 induction live<;>grind [jn,ia]
def cn.pO{j:J}{M:aC}{w:World}{bq:Env}{a:Act}(h:cn j M w bq a)(live:List Nat):cn j M w (jn bq live) a:=by
 refine⟨fun t=>?_,h.gl⟩
 rw[yV];split
 ·exact h.at' t
 ·exact .any _
end
section
open Go
def Kq:Value->Option ag
 | .bool b=>some (.bool b)
 | .int k n=>some (.int k n)
 | .string s=>some (.str s.data.toList)
 | .slice none 0 0=>some (.slice .c0 [])
 | .pointer none=>some (.raw (.pointer none))
 | .nilFunc=>some (.raw .nilFunc)
 | .nilIface=>some (.raw .nilIface)
 | .map none=>some (.raw (.map none))
 |_=>none
def tf:List Value->Option (List ag)
 | []=>some []
 |v::r=>(Kq v).bind fun x=>(tf r).bind fun l=>some (x::l)
def QR:Value->Option ag
 | .agg vs=>(tf vs.toList).bind fun l=>some (.agg l)
 |v=>Kq v
def abw:Value->Option ag
 | .bool b=>some (.bool b)
 | .int k n=>some (.int k n)
 | .string s=>some (.str s.data.toList)
 | .pointer none=>some (.raw (.pointer none))
 | .nilIface=>some (.raw .nilIface)
 |_=>none
def QQ:List Value->Option (List ag)
 | []=>some []
 |v::r=>(abw v).bind fun x=>(QQ r).bind fun l=>some (x::l)
variable [kx]
def ahN:Operand->Operand->Bool
 | .tmp x,.tmp y=>x==y
 | .const (.int k x),.const (.int l y)=>decide (k=l)&&decide (x=y)
 |_,_=>false
def abf:∀ {x y:Operand},ahN x y=true->x=y:=by
 intro x y h;unfold ahN at h;split at h<;>simp_all
def eW:Operand->Option fZ
 | .tmp t=>some (.tmp t)
 | .const v=>(QR v).bind fun x=>some (.sY x)
 | .func f=>some (.sY (.func f []))
 | .global g=>(kx.g g).bind fun vs=>(QQ vs).bind fun l=>some (.sY (.jB l))
def Q3:Operand->Option fZ
 | .func f=>some (.sY (.raw (.func (.func f) ⟨[]⟩ ⟨[]⟩)))
 |x=>eW x
def xP(n:Nat):List (Nat×Operand)->Option (List (Nat×Nat×fZ))
 | []=>some []
 |(i,x)::r=>(eW x).bind fun y=>(xP n r).bind fun l=>some ((i*n,n,y)::l)
def vn:List Operand->Option (List fZ)
 | []=>some []
 |x::r=>(eW x).bind fun y=>(vn r).bind fun l=>some (y::l)
def yN:Option Operand->Option (Option fZ)
 |none=>some none
 |some x=>(eW x).bind fun y=>some (some y)
def qA(P:Program)(t:TypeId):Option Nat:=(P.info? t).bind fun i=>some i.size
def Cs(P:Program)(t:TypeId):Option Bool:=(P.underlying t).bind fun d=>some (match d with | .struct _ | .array _ _=>true|_=>false)
def AD(P:Program)(fs:Array Field):List (Nat×Operand)->Option (List (Nat×Nat×fZ))
 | []=>some []
 |(i,x)::r=>(fs[i]?).bind fun f=>(qA P f.type).bind fun n=>(eW x).bind fun y=>(AD P fs r).bind fun l=>some ((f.offset,n,y)::l)
def GN:Nat->List (Nat×Operand)->Option (List fZ)
 |_,[]=>some []
 |k,(i,x)::r=>if i=k then (eW x).bind fun y=>(GN (k+1) r).bind fun l=>some (y::l) else none
def RM (P:Program) (f:Field):Option FK:=if f.name = "_" then none else match P.underlying f.type with
 |some .bool=>some .b
 |some (.int _)=>some .i
 |some .string=>some .s
 |_=>none
def BV(P:Program):Nat->List Field->Option (List FK)
 |_,[]=>some []
 |k,f::r=>if f.offset=k then (RM P f).bind fun x=>(BV P (k+1) r).bind fun l=>some (x::l) else none
def DU(P:Program)(t:TypeId):Option FK:=match P.underlying t with
 |some .bool=>some .b
 |some (.int _)=>some .i
 |some .string=>some .s
 |_=>none
def Oy:BinOp->Option N1
 | .and=>some .and | .or=>some .or | .andNot=>some .bic
 | .add=>some .add | .sub=>some .sub | .mul=>some .mul | .quo=>some .quo | .rem=>some .rem
 | .eql=>some .eql | .neq=>some .neq | .lss=>some .lss | .leq=>some .leq | .gtr=>some .gtr | .geq=>some .geq
 | .shl=>some .shl | .shr=>some .shr
 |_=>none
def lB (P:Program) (f:Nat):Bool:=match P.funcs[f]? with|some fn=>fn.name != "runtime.NumGoroutine" && fn.body.isSome|none=>false
def Q2(P:Program)(own:List Nat)(dst:Option Nat)(type:TypeId)(c:Call):Option ku :=
 match c.callee with
 | .value (.func f)=>if lB P f then (vn c.args.toList).bind fun l=>some (if own.contains (1000000+f) then .BJ f l else if own.contains (2000000+f) then .kZ f l else if own.contains (8000000+f) then .wx f l else .call f l) else none
 | .value (.tmp t)=>(vn c.args.toList).bind fun l=>some (if own.contains (12000000+t) then .BK (.tmp t) l else .sv (.tmp t) l)
 | .builtin .len=>match c.args.toList,(c.argTypes[0]?).bind P.underlying with
  | [x],some .string=>(eW x).bind fun y=>some (.Vm y)
  | [x],some (.slice _)=>(eW x).bind fun y=>some (.zP y)
  | [x],some (.map _ _)=>(eW x).bind fun y=>some (.Pp y)
  |_,_=>none
 | .builtin .copy=>match c.args.toList,c.argTypes.toList with
  | [x,y],[t,t']=>match P.underlying t,P.underlying t' with
   |some (.slice e),some (.slice _)=>(qA P e).bind fun n=>(eW x).bind fun x=>(eW y).bind fun y=>if 0<n then some (.Ft n x y) else none
   |_,_=>none
  |_,_=>none
 | .builtin .append=>match c.args.toList,c.argTypes.toList with
  | [x,y],[t,t']=>match P.underlying t,P.underlying t' with
   |some (.slice e),some (.int _)=>(P.info? e).bind fun i=>i.zero.bind fun z=>(tf z.cells.toList).bind fun l=>(eW x).bind fun x=>(eW y).bind fun y =>
    if l.length=i.size/\0<i.size/\0<i.bytes/\i.bytes<=2 ^ 20 then some (.xK i.size i.bytes (l.map ag.shut) x y) else none
   |some (.slice e),some (.slice _)=>(P.info? e).bind fun i=>(eW x).bind fun x=>(eW y).bind fun y =>
    if decide ((i.zero.map fun z=>z.cells.size)=some i.size)&&decide (0<i.size)&&decide (0<i.bytes)&&decide (i.bytes<=2 ^ 20) then some (match dst with|some d=>if own.contains (7000000+d) then .vQ i.size i.bytes x y else .append i.size i.bytes x y|none => .append i.size i.bytes x y) else none
   |_,_=>none
  |_,_=>none
 | .builtin .clear=>match c.args.toList,c.argTypes.toList with
  | [x],[t]=>match P.underlying t with
   |some (.slice e)=>(P.info? e).bind fun i=>i.zero.bind fun z=>(tf z.cells.toList).bind fun l=>(eW x).bind fun x =>
    if l.length=i.size/\0<i.size then some (.w5 i.size (l.map ag.shut) x) else none
   |_=>none
  |_,_=>none
 | .builtin .max=>match c.args.toList with|[x,y]=>(eW x).bind fun x=>(eW y).bind fun y=>some (.Bb true x y)|_=>none
 | .builtin .min=>match c.args.toList with|[x,y]=>(eW x).bind fun x=>(eW y).bind fun y=>some (.Bb false x y)|_=>none
 |_=>none
def Q4(own:List Nat)(dst:Option Nat)(n:Nat)(x:fZ)(lo hi mx:Option fZ):ku :=
 match dst,hi with
 |some d,some h=>if own.contains (15000000+d)&&lo.isNone&&mx.isNone then .ON n x h else .uo n x lo hi mx
 |_,_ => .uo n x lo hi mx
def Oz(P:Program)(own:List Nat)(o:Oper):Option ku :=
 match o.op with
 | .move x=>(eW x).bind fun x=>some (.mv x)
 | .assign x=>(eW x).bind fun x =>
  match o.dst with
  |some d=>if own.contains d then match P.underlying o.type with
    |some (.slice e)=>(qA P e).bind fun n=>match x with
     | .sY (.slice .c0 [])=>some (.own n x)
     |_=>some (.mv x)
    |_=>none
   else if own.contains (13000000+d) then match P.underlying o.type with
    |some (.slice e)=>(qA P e).bind fun n=>some (.own (500+n) x)
    |_=>none
   else some (.mv x)
  |none=>some (.mv x)
 | .pick c a b=>(eW c).bind fun c=>(eW a).bind fun a=>(eW b).bind fun b=>some (.pick c a b)
 | .alloc t=>(P.info? t).bind fun i=>i.zero.bind fun z=>(tf z.cells.toList).bind fun l =>
  match o.dst with
  |some d=>if own.contains (6000000+d) then (match P.underlying t,l with
    |some (.slice e),[.slice .c0 []]=>(qA P e).bind fun n=>some (.Ow n)
    |_,_=>none) else some (.yL l)
  |none=>some (.yL l)
 | .box t x=>(eW x).bind fun x=>some (.box x)
 | .build t parts=>match P.underlying t with
  |some (.struct fs)=>(P.info? t).bind fun i=>i.zero.bind fun z=>(tf z.cells.toList).bind fun l=>(AD P fs parts.toList).bind fun ps =>
   if fs.all (fun f=>(P.info? f.type).isSome) then some (.build l ps) else none
  |some (.array _ e)=>(P.info? t).bind fun i=>i.zero.bind fun z=>(tf z.cells.toList).bind fun l=>(qA P e).bind fun n=>(xP n parts.toList).bind fun ps=>some (.build l ps)
  |_=>none
 | .buildSlice t len parts=>match P.underlying t with
  |some (.slice e)=>(P.info? e).bind fun i=>(GN 0 parts.toList).bind fun l =>
   if l.length=len/\len*i.size<=2 ^ 24/\(i.zero.map fun z=>z.cells.size)=some i.size/\0<i.size then some (match o.dst with|some d=>if own.contains d then .F3 i.size l else if own.contains (13000000+d)&&l.isEmpty then .own (500+i.size) (.sY (.slice .c0 [])) else .lits i.size l|none => .lits i.size l) else none
  |_=>none
 | .load t x=>(Cs P t).bind fun g=>(qA P t).bind fun n=>(eW x).bind fun x=>some (if g then .mL n x else .rz x)
 | .store t a x=>(qA P t).bind fun n=>(eW a).bind fun a=>(eW x).bind fun x=>some (match a with
  | .tmp s=>match own.find? (fun m=>decide (1000000000<=m)&&decide (m<2000000000)&&decide (m % 1000=s)) with
   |some m => .Bu (m / 1000000 % 1000) (m / 1000 % 1000) n a x
   |none => .store n a x
  |_ => .store n a x)
 | .nilCheck x=>(eW x).bind fun x=>some (.chk x)
 | .binOp op t x y _=>(eW x).bind fun x=>(eW y).bind fun y=>match P.underlying t with
  |some (.int _)|some .string=>(Oy op).bind fun b=>some (.bin b x y)
  |some .bool=>match op with
   | .eql=>some (.eqB false x y)
   | .neq=>some (.eqB true x y)
   |_=>none
  |some (.struct fs)=>if P.stoodInHeld t then none else (BV P 0 fs.toList).bind fun ks=>match op with
   | .eql=>some (.Qs ks false x y)
   | .neq=>some (.Qs ks true x y)
   |_=>none
  |some (.array len e)=>match P.underlying e,op with
   |some (.int _),.eql=>if qA P e=some 1 then some (.Qs (List.replicate len .i) false x y) else none
   |_,_=>none
  |_=>none
 | .unOp .not _ x=>(eW x).bind fun x=>some (.not x)
 | .unOp .neg _ x=>(eW x).bind fun x=>some (.neg x)
 | .convert s d x=>(eW x).bind fun x=>match P.underlying s,P.underlying d with
  |some (.int _),some (.int k)=>some (.conv k x)
  |some .string,some .string=>some (.same x)
  |some (.slice e),some .string=>match P.underlying e with|some (.int .u8)=>some (.b2s x)|_=>none
  |_,_=>none
 | .makeFunc (.func f) first caps=>if first.isEmpty then (vn caps.toList).bind fun l=>some (.fn f l) else if caps.isEmpty then (vn first.toList).bind fun l=>some (.Fm f l) else none
 | .slice t x lo hi mx=>(eW x).bind fun x=>(yN lo).bind fun lo=>(yN hi).bind fun hi=>(yN mx).bind fun mx=>match P.underlying t with
  |some .string=>if mx.isNone then some (.Bq x lo hi) else none
  |some (.slice e)=>(qA P e).bind fun n=>if 0<n/\(mx.isNone\/hi.isSome) then some (Q4 own o.dst n x lo hi mx) else none
  |_=>none
 | .fieldAddr s x f=>match P.underlying s with
  |some (.struct fs)=>(fs[f]?).bind fun f=>(qA P f.type).bind fun n=>(eW x).bind fun x=>if 0<n then some (.yu f.offset x) else none
  |_=>none
 | .field s x f=>match P.underlying s with
  |some (.struct fs)=>(fs[f]?).bind fun f=>(Cs P f.type).bind fun g=>(qA P f.type).bind fun n=>(eW x).bind fun x=>some (if g then .Du f.offset n x else .Dt f.offset x)
  |_=>none
 | .indexAddr t x i=>match P.underlying t with
  |some (.slice e)=>(qA P e).bind fun n=>(eW x).bind fun x=>(eW i).bind fun i=>if 0<n then some (.ua n x i) else none
  |some (.array len e)=>(qA P e).bind fun n=>(eW x).bind fun x=>(eW i).bind fun i=>if 0<n then some (.AX len n x i) else none
  |_=>none
 | .index t x i=>match P.underlying t with
  |some .string=>(eW x).bind fun x=>(eW i).bind fun i=>some (.AY x i)
  |_=>none
 | .extract x i=>(eW x).bind fun x=>some (.extract x i)
 | .call c=>Q2 P own o.dst o.type c
 | .makeMap _ none=>some .mkMap
 | .lookup t x i ok=>match P.underlying t with
  |some (.map k e)=>(DU P k).bind fun fk=>(P.info? e).bind fun ie=>ie.zero.bind fun zv=>(QR zv).bind fun z=>(eW x).bind fun x=>(eW i).bind fun i=>some (.look fk z ok x i)
  |_=>none
 | .mapUpdate t m k v=>match P.underlying t with
  |some (.map kt _)=>(DU P kt).bind fun fk=>(eW m).bind fun m=>(eW k).bind fun k=>(eW v).bind fun v=>some (.gF fk m k v)
  |_=>none
 | .range t x=>match P.underlying t with
  |some .string=>(eW x).bind fun x=>some (.P3 x)
  |_=>none
 | .next it true=>(eW it).bind fun it=>some (.F8 it)
 | .makeInterface t x=>(eW x).bind fun x=>match P.underlying t with
  |some (.interface _)=>none
  |some _=>some (.iface t x)
  |none=>none
 | .panic x=>(eW x).bind fun x=>some (.raise x)
 | .insert t m k v=>match P.underlying t with
  |some (.map kt _)=>(DU P kt).bind fun fk=>(eW m).bind fun m=>(eW k).bind fun k=>(Q3 v).bind fun v=>some (.gF fk m k v)
  |_=>none
 | .makeSlice t x y=>match P.underlying t with
  |some (.slice e)=>(P.info? e).bind fun i=>i.zero.bind fun z=>(tf z.cells.toList).bind fun l=>(eW x).bind fun x' =>
   if ahN x y=true/\l.length=i.size/\0<i.size/\i.bytes<=32*i.size then some (match o.dst with|some d=>if own.contains (5000000+d) then .PC (l.map ag.shut) x' else .mkS (l.map ag.shut) x'|none => .mkS (l.map ag.shut) x') else none
  |_=>none
 |_=>none
structure Co where
 n:Nat
 own:List Nat:=[]
 lv:List (Nat×List Nat)
 lp:List (Nat×List Nat):=[]
def find(l:List (Nat×List Nat))(k:Nat):List Nat:=match l with
 | []=>[]
 |(i,x)::r=>if i=k then x else find r k
def abH(n:Nat):Option Nat->Bool
 |some d=>decide (d<n)
 |none=>true
def Ms(P:Program)(A:Co)(ops:Array Oper)(grow:Bool)(o:Oper):Option da :=
 (Oz P A.own o).bind fun op =>
  if abH A.n o.dst then
   match o.guard with
   |none=>some { dst:=o.dst,op,guard:=none,grow }
   |some (k,want)=>((ops[k]?).bind (·.dst)).bind fun t=>if t<A.n then some { dst:=o.dst,op,guard:=some (t,want),grow } else none
  else none
def tP(P:Program)(A:Co)(ops:Array Oper)(grow:List Bool):List Oper->Option (List da)
 | []=>some []
 |o::r=>(Ms P A ops (grow.headD false) o).bind fun x=>(tP P A ops grow.tail r).bind fun l=>some (x::l)
def lg:Code->Nat
 | .region id _ _=>id
 | .seq a _=>lg a
 | .block _ c=>lg c
 | .loop c=>lg c
 | .cond _ a _=>lg a
 |_=>0
def fZ.lZ:fZ->List Nat
 | .tmp t=>[t]
 | .sY _=>[]
def Bh:Option fZ->List Nat
 |some x=>x.lZ
 |none=>[]
def ku.lZ:ku->List Nat
 | .mv x | .own _ x | .box x | .mL _ x | .rz x | .chk x | .not x | .neg x | .conv _ x | .same x | .yu _ x | .Du _ _ x | .Dt _ x | .extract x _ | .Vm x | .zP x | .b2s x | .Pp x | .P3 x | .F8 x | .w5 _ _ x | .iface _ x | .raise x | .mkS _ x | .PC _ x=>x.lZ
 | .pick c a b=>c.lZ++(a.lZ++b.lZ)
 | .yL _ | .mkMap | .Ow _=>[]
 | .build _ ps=>ps.flatMap fun p=>p.2.2.lZ
 | .lits _ ps | .F3 _ ps=>ps.flatMap fZ.lZ
 | .store _ a x | .Bu _ _ _ a x=>a.lZ++x.lZ
 | .gF _ m k v=>m.lZ++(k.lZ++v.lZ)
 | .bin _ x y | .look _ _ _ x y | .Qs _ _ x y | .eqB _ x y | .ua _ x y | .AX _ _ x y | .AY x y | .ON _ x y | .append _ _ x y | .vQ _ _ x y | .Bb _ x y | .xK _ _ _ x y | .Ft _ x y=>x.lZ++y.lZ
 | .fn _ l | .Fm _ l=>l.flatMap fZ.lZ
 | .Bq x l h=>x.lZ++(Bh l++Bh h)
 | .uo _ x l h m=>x.lZ++(Bh l++(Bh h++Bh m))
 | .call _ l | .BJ _ l | .kZ _ l | .wx _ l=>l.flatMap fZ.lZ
 | .sv f l | .BK f l=>f.lZ++l.flatMap fZ.lZ
def ku.Qt:ku->Bool
 | .own .. | .F3 .. | .PC .. | .xK .. | .Ft .. | .Ow _ | .yL _ | .box _ | .store .. | .Bu .. | .call .. | .sv .. | .BK .. | .BJ .. | .kZ .. | .wx .. | .w5 .. | .append .. | .vQ .. | .mkMap | .gF .. | .Pp _ | .P3 _ | .F8 _=>true
 |_=>false
def ku.Qu:ku->Bool
 | .mL .. | .rz _ | .look .. => true
 |_=>false
def da.reads(o:da):List Nat:=o.op.lZ++(match o.guard with|some (t,_)=>[t]|none=>[])
def xk(acc:List Nat):List Edge->Nat
 | []=>0
 |e::r=>if Region.binds .any e then xk acc r ||| (2 ^ e.on ||| (nth acc e.on).getD 0) else xk acc r
def Da:List Oper->List Nat->List Nat
 | [],acc=>acc
 |o::r,acc=>Da r (acc++[xk acc o.after.toList])
def re(ops:List Oper):List Nat:=Da ops []
def ahead(bs:List Nat)(i k:Nat):Bool:=((nth bs k).getD 0).testBit i
def meet(x y:da):Bool :=
 (match x.dst with|some d=>y.reads.contains d||y.dst==some d|none=>false)||(match y.dst with|some d=>x.reads.contains d|none=>false)
def fenced(bs:List Nat)(l:List da)(k:Nat):Bool:=(List.range l.length).all fun i=>match nth l i with
 |some x => !x.op.Qu||(if i<k then ahead bs i k else i==k||ahead bs k i)
 |none=>true
def ku.xc:ku->Bool
 | .call .. | .sv .. => true
 |_=>false
def ordered(bs:List Nat)(i k:Nat):Bool:=i==k||(if i<k then ahead bs i k else ahead bs k i)
def alone(bs:List Nat)(l:List da)(k:Nat):Bool:=(List.range l.length).any fun i=>match nth l i with
 |some x=>x.op.Qt && !ordered bs i k
 |none=>false
def ku.NN:ku->Option Nat
 | .rz (.tmp z)=>some z
 | .mL _ (.tmp z)=>some z
 | .look _ _ _ (.tmp z) _=>some z
 |_=>none
def ku.arZ:ku->Bool
 | .store .. => true
 | .append .. | .vQ .. => true
 |_=>false
def amJ(l:List da)(i k z:Nat):Bool:=(List.range k).all fun p=>decide (p<i)||match nth l p with|some x=>x.dst != some z|none=>true
def Mb(bs:List Nat)(l:List da)(k:Nat):Bool:=(List.range l.length).all fun i=>i==k||(if i<k then (ahead bs i k||match nth l i with|some x => !x.op.Qt|none=>false) else ahead bs k i)
def NL(bs:List Nat)(l:List da)(k:Nat):List Nat:=(List.range k).filterMap fun i=>match nth l i with
 |some x=>if x.op.Qu && !ahead bs i k then x.op.NN else none
 |none=>none
def CU(bs:List Nat)(l:List da)(k:Nat)(sep:List Nat):Bool:=(List.range l.length).all fun i=>match nth l i with
 |some x => !x.op.Qu||i==k||(if i<k then (ahead bs i k||match x.op.NN with|some z=>sep.contains z&&amJ l i k z|none=>false) else ahead bs k i)
 |none=>true
def qk(bs:List Nat)(l:List da):Nat->List da->List da
 |_,[]=>[]
 |k,x::r=>{ x with grow:=x.op.Qt && !(x.op.xc&&alone bs l k) && !fenced bs l k,xn:=x.op.xc&&alone bs l k,sep:=if x.op.arZ && !fenced bs l k&&CU bs l k (NL bs l k) then NL bs l k else [],stop := !x.op.Q6||Mb bs l k }::qk bs l (k+1) r
def da.uc(x:da):Bool:=x.op.Qt && !x.xn
def LP:ku->Bool
 | .rz (.sY _) | .mL _ (.sY _) | .look _ _ _ (.sY _) _=>false
 |_=>true
def BZ(ops:Array Oper)(l:List da)(k:Nat):Bool:=match ops[k]?,nth l k with
 |some o,some y=>(match y.op with
  | .yL _=>(match o.op with | .alloc _=>true|_=>false)
  | .box _=>(match o.op with | .box _ _=>true|_=>false)
  | .wx .. => (match o.op with | .call c=>(match c.callee with | .value (.func _)=>true|_=>false)|_=>false)
  |_=>false)&&y.guard.isNone
 |_,_=>false
def Hk(ops:Array Oper)(bs:List Nat)(l:List da):Bool:=(List.range l.length).all fun k=>match nth l k,ops[k]? with
 |some y,some o=>o.after.toList.all (fun e => !Region.binds .any e||decide (e.on<k))&&((!y.xn||y.op.xc)&&LP y.op)&&((!(y.uc && !y.grow)||fenced bs l k)&&(y.sep.isEmpty||CU bs l k y.sep)) &&
  ((!y.lets||Mb bs l k)&&(List.range k).all fun i=>match nth l i with
   |some x=>(!meet x y||ahead bs i k)&&(!(x.uc&&y.uc)||(ahead bs i k||(BZ ops l i&&BZ ops l k)))
   |none=>false)
 |_,_=>false
def Bf(ops:Array Oper)(l:List da):Option (List da) :=
 if Hk ops (re ops.toList) (qk (re ops.toList) l 0 l) then some (qk (re ops.toList) l 0 l) else none
def YO(A:Co)(y:Code)(c:cD):cD:=match A.own.find? (fun m=>decide (m / 1000=14000000+lg y)) with
 |some m => .rM (m % 1000) c
 |none=>c
def Nl(A:Co)(c:Code)(l:List Nat)(x:cD):cD:=if A.own.contains (11000000+lg c) then .nB l x else .loop l x
def comp(P:Program)(A:Co):Code->Option cD
 | .skip=>some .skip
 | .region id ops draw=>if draw then
   (tP P { A with own:=A.own.filter (1000000 <= ·) } ops [] ops.toList).bind fun l0=>(Bf ops l0).bind fun l=>some (.region l true (find A.lv id))
  else (tP P A ops [] ops.toList).bind fun l=>some (.region l false (find A.lv id))
 | .seq a b=>(comp P A a).bind fun x=>(comp P A b).bind fun y=>some (.seq x (YO A b y))
 | .cond c a b=>(eW c).bind fun c=>(comp P A a).bind fun x=>(comp P A b).bind fun y=>some (.cond c x y)
 | .block id c=>(comp P A c).bind fun x=>some (.block id x)
 | .loop c=>(comp P A c).bind fun x=>some (Nl A c (find A.lp (lg c)) x)
 | .exit id=>some (.exit id)
 | .ret=>some .ret
 |_=>none
def H6(P:Program):List ResultVar->Option (List sN)
 | []=>some []
 | .tmp t::r=>(H6 P r).bind fun l=>some (.tmp t::l)
 | .cell a t::r=>(Cs P t).bind fun g=>(qA P t).bind fun n=>(H6 P r).bind fun l=>some ((if g then .dG a n else .abA a)::l)
def o8(P:Program)(A:Co)(fn:Func):Option eG :=
 match fn.body with
 |none=>none
 |some c=>if fn.name != "runtime.NumGoroutine" /\ A.n=fn.ntmps/\fn.params.size+fn.nfree<=fn.ntmps then
   (comp P A c).bind fun b=>(H6 P fn.results.toList).bind fun r=>some { nparams:=fn.params.size+fn.nfree,results:=r,body:=b }
  else none
end
section
open Go
def anK(x:Operand)(s:Nat):Nat:=match x with
 | .tmp t=>s ||| (1 <<< t)
 |_=>s
def opB(ops:Array Oper)(o:Oper)(s:Nat):Nat :=
 let s:=match o.dst,o.guard with
  |some d,none=>if s.testBit d then s-(1 <<< d) else s
  |_,_=>s
 let s:=o.op.operands.toList.foldl (fun s x=>anK x s) s
 match o.guard with
 |some (k,_)=>match (ops[k]?).bind (·.dst) with
  |some t=>s ||| (1 <<< t)
  |none=>s
 |none=>s
def atL(ops:Array Oper)(out:Nat):Nat :=
 let l:=ops.toList.foldr (opB ops) out
 let g:=ops.toList.foldl (fun g o=>match o.dst,o.guard with
  |some d,some _=>g ||| (1 <<< d)
  |_,_=>g) 0
 let d:=g ^^^ (g &&& out)
 l ^^^ (l &&& d)
def Ni:List (Nat×Nat)->Nat->Nat
 | [],_=>0
 |(i,x)::r,k=>if i=k then x else Ni r k
def zR(ret:Nat):Code->List (Nat×Nat)->Nat->Nat×List (Nat×Nat)×List (Nat×Nat)
 | .skip,_,out=>(out,[],[])
 | .region id ops _,_,out=>(atL ops out,[(id,out)],[])
 | .seq a b,ex,out =>
  let y:=zR ret b ex out
  let x:=zR ret a ex y.1
  (x.1,x.2.1++y.2.1,x.2.2++y.2.2)
 | .cond c a b,ex,out =>
  let x:=zR ret a ex out
  let y:=zR ret b ex out
  (anK c (x.1 ||| y.1),x.2.1++y.2.1,x.2.2++y.2.2)
 | .block id c,ex,out=>zR ret c ((id,out)::ex) out
 | .loop c,ex,_ =>
  let h1:=(zR ret c ex 0).1
  let h2:=h1 ||| (zR ret c ex h1).1
  let z:=zR ret c ex h2
  let h3:=h2 ||| z.1
  (h3,z.2.1,(lg c,h3)::z.2.2)
 | .exit id,ex,_=>(Ni ex id,[],[])
 | .ret,_,_=>(ret,[],[])
 |_,_,out=>(out,[],[])
def akm(n s:Nat):List Nat:=(List.range n).filter s.testBit
def Fg(own:List Nat)(fn:Func):Co:=match fn.body with
 |none=>{ n:=0,lv:=[] }
 |some c =>
  let r:=fn.results.toList.foldl (fun s x=>match x with
   | .tmp t=>s ||| (1 <<< t)
   | .cell t _=>s ||| (1 <<< t)) 0
  let z:=zR r c [] r
  let f:=fun(p:Nat×Nat)=>(p.1,akm fn.ntmps p.2)
  { n:=fn.ntmps,own:=own,lv:=z.2.1.map f,lp:=z.2.2.map f }
def cD.size:cD->Nat
 | .seq a b=>a.size+b.size+1
 | .cond _ a b=>a.size+b.size+1
 | .block _ a=>a.size+1
 | .loop _ a=>a.size+1
 | .nB _ a=>a.size+1
 | .rM _ a=>a.size+1
 | .region .. => 1
 | .skip=>1
 | .exit _=>1
 | .ret=>1
def cD.sL:cD->List cD
 | .seq a b => .seq a b::(a.sL++b.sL)
 | .cond c a b => .cond c a b::(a.sL++b.sL)
 | .block i a => .block i a::a.sL
 | .loop l a => .loop l a::a.sL
 | .nB l a => .nB l a::a.sL
 | .rM l a => .rM l a::a.sL
 |c=>[c]
def sub(c:cD)(i:Nat):cD:=(c.sL[i]?).getD .skip
def ref(r:cD)(i:Nat):cD->cD
 | .skip => .skip
 | .exit n => .exit n
 | .ret => .ret
 | .region .. => sub r i
 | .seq .. => sub r i
 | .cond .. => sub r i
 | .block .. => sub r i
 | .loop .. => sub r i
 | .nB .. => sub r i
 | .rM .. => sub r i
def Ag(r:cD)(i:Nat):cD->cD
 | .region a b c => .region a b c
 | .skip => .skip
 | .exit n => .exit n
 | .ret => .ret
 | .seq .. => sub r i
 | .cond .. => sub r i
 | .block .. => sub r i
 | .loop .. => sub r i
 | .nB .. => sub r i
 | .rM .. => sub r i
abbrev Hd(q b:cD):Prop:=∀(C:eR)(fn:List sN)(bS:Nat)(k:List K)(bq:Env)(M:aC),eX C fn bS k q bq M=eX C fn bS k b bq M
def Cw(e:Prop):cD->Prop
 | .region .. => True
 | .skip | .exit _ | .ret=>True
 | .seq .. => e
 | .cond .. => e
 | .block .. => e
 | .loop .. => e
 | .nB .. => e
 | .rM .. => e
def eqs(r:cD):Nat->cD->Prop
 |i,.seq a b=>Hd (sub r i) (.seq (Ag r (i+1) a) (ref r (i+1+a.size) b))/\(Cw (eqs r (i+1) a) a/\eqs r (i+1+a.size) b)
 |i,.cond c a b=>Hd (sub r i) (.cond c (ref r (i+1) a) (ref r (i+1+a.size) b))/\(eqs r (i+1) a/\eqs r (i+1+a.size) b)
 |i,.block n a=>Hd (sub r i) (.block n (ref r (i+1) a))/\eqs r (i+1) a
 |i,.loop n a=>Hd (sub r i) (.loop n (ref r (i+1) a))/\eqs r (i+1) a
 |i,.nB n a=>Hd (sub r i) (.nB n (ref r (i+1) a))/\eqs r (i+1) a
 |i,.rM n a=>Hd (sub r i) (.rM n (ref r (i+1) a))/\eqs r (i+1) a
 |i,.region a b c=>Hd (sub r i) (.region a b c)
 |_,.skip=>True
 |_,.exit _=>True
 |_,.ret=>True
def pV:∀c:cD,c.sL.length=c.size
 | .seq a b=>by simp[cD.sL,cD.size,pV a,pV b]
 | .cond _ a b=>by simp[cD.sL,cD.size,pV a,pV b]
 | .block _ a=>by simp[cD.sL,cD.size,pV a]
 | .loop _ a=>by simp[cD.sL,cD.size,pV a]
 | .nB _ a=>by simp[cD.sL,cD.size,pV a]
 | .rM _ a=>by simp[cD.sL,cD.size,pV a]
 | .region .. | .skip | .exit _ | .ret=>by simp[cD.sL,cD.size]
def ahH(c:cD):c.sL[0]?=some c:=by cases c<;>simp[cD.sL]
def At(r:cD)(i:Nat)(c:cD):Prop:=∀j,j<c.size->r.sL[i+j]?=c.sL[j]?
def size_pos(c:cD):0<c.size:=by cases c<;>simp[cD.size]
def At.sub{r c:cD}{i:Nat}(h:At r i c):sub r i=c:=by
 have:=h 0 (size_pos c);rw[df,ahH] at this;simp[Abs.sub,this]
def At.ref{r c:cD}{i:Nat}(h:At r i c):ref r i c=c:=by
 cases c<;>first|rfl|exact h.sub
def At.Ag{r c:cD}{i:Nat}(h:At r i c):Ag r i c=c:=by
 cases c<;>first|rfl|exact h.sub
def Yy{e:Prop}{c:cD}(h:e):Cw e c:=by
 cases c<;>first|trivial|exact h
def At.two{r a b x:cD}{i:Nat}(h:At r i x)(hx:x.sL=x::(a.sL++b.sL))(hs:x.size=a.size+b.size+1):At r (i+1) a/\At r (i+1+a.size) b:=by
 refine⟨fun j hj=>?_,fun j hj=>?_⟩
 ·have:=h (j+1) aH;rw[hx,cX,aQ (by rw[pV]; exact hj)] at this
  rw[<-this]; congr 1; omega
 ·have:=h (a.size+j+1) aH;rw[hx,cX,bt (by rw[pV]; omega),pV] at this
  rw[show a.size+j-a.size=j by omega] at this
  rw[<-this]; congr 1; omega
def At.one{r a x:cD}{i:Nat}(h:At r i x)(hx:x.sL=x::a.sL)(hs:x.size=a.size+1):At r (i+1) a:=by
 intro j hj;have:=h (j+1) aH;rw[hx,cX] at this;rw[<-this]; congr 1; omega
def DI{q b:cD}(h:q=b):Hd q b:=ni h
def vX(r:cD):∀(c:cD)(i:Nat),At r i c->eqs r i c
 | .seq a b,i,h=>by
  obtain⟨h1,h2⟩:=h.two (a:=a) (b:=b) rfl rfl;exact⟨DI (by rw[h.sub,h1.Ag,h2.ref]),Yy (vX r a _ h1),vX r b _ h2⟩
 | .cond c a b,i,h=>by
  obtain⟨h1,h2⟩:=h.two (a:=a) (b:=b) rfl rfl;exact⟨DI (by rw[h.sub,h1.ref,h2.ref]),vX r a _ h1,vX r b _ h2⟩
 | .block n a,i,h=>by
  have h1:=h.one (a:=a) rfl rfl;exact⟨DI (by rw[h.sub,h1.ref]),vX r a _ h1⟩
 | .loop n a,i,h=>by
  have h1:=h.one (a:=a) rfl rfl;exact⟨DI (by rw[h.sub,h1.ref]),vX r a _ h1⟩
 | .nB n a,i,h=>by
  have h1:=h.one (a:=a) rfl rfl;exact⟨DI (by rw[h.sub,h1.ref]),vX r a _ h1⟩
 | .rM n a,i,h=>by
  have h1:=h.one (a:=a) rfl rfl;exact⟨DI (by rw[h.sub,h1.ref]),vX r a _ h1⟩
 | .region ..,_,h=>DI h.sub
 | .skip,_,_=>trivial
 | .exit _,_,_=>trivial
 | .ret,_,_=>trivial
def aiw(r:cD):At r 0 r:=fun j _=>by rw[aJ]
def Di[kx](P:Program)(A:Co):Code->Option cD
 | .skip=>some .skip
 | .region id ops draw=>if draw then
   (tP P { A with own:=A.own.filter (1000000 <= ·) } ops [] ops.toList).bind fun l=>some (.region (qk (re ops.toList) l 0 l) true (find A.lv id))
  else (tP P A ops [] ops.toList).bind fun l=>some (.region l false (find A.lv id))
 | .seq a b=>(Di P A a).bind fun x=>(Di P A b).bind fun y=>some (.seq x (YO A b y))
 | .cond c a b=>(eW c).bind fun c=>(Di P A a).bind fun x=>(Di P A b).bind fun y=>some (.cond c x y)
 | .block id c=>(Di P A c).bind fun x=>some (.block id x)
 | .loop c=>(Di P A c).bind fun x=>some (Nl A c (find A.lp (lg c)) x)
 | .exit id=>some (.exit id)
 | .ret=>some .ret
 |_=>none
def akM[kx](P:Program)(A:Co)(fn:Func):Option cD:=match fn.body with
 |some c=>Di P A c
 |none=>none
abbrev Cv[kx](P:Program)(A:Co)(f:Func):={ g:cD // akM P A f=some g }
def okc{o:Option eG}{n:Nat}{r:List sN}{c:cD}(h:o=some (eG.mk n r c)):o=some (eG.mk n r (sub c 0)):=by
 rw[h,(aiw c).sub]
set_option linter.defProp false in
def ym:=bR @eqs.eq_1 (bR @eqs.eq_2 (bR @eqs.eq_3 (bR @eqs.eq_4 (bR @eqs.eq_5 (bR @eqs.eq_6 (bR @eqs.eq_7 (bR @eqs.eq_8 (bR @eqs.eq_9 (bR @eqs.eq_10 (bR @ref.eq_1 (bR @ref.eq_2 (bR @ref.eq_3 (bR @ref.eq_4 (bR @ref.eq_5 (bR @ref.eq_6 (bR @ref.eq_7 (bR @ref.eq_8 (bR @ref.eq_9 (bR @ref.eq_10 (bR @Ag.eq_1 (bR @Ag.eq_2 (bR @Ag.eq_3 (bR @Ag.eq_4 (bR @Ag.eq_5 (bR @Ag.eq_6 (bR @Ag.eq_7 (bR @Ag.eq_8 (bR @Ag.eq_9 (bR @Ag.eq_10 (bR @Cw.eq_1 (bR @Cw.eq_2 (bR @Cw.eq_3 (bR @Cw.eq_4 (bR @Cw.eq_5 (bR @Cw.eq_6 (bR @Cw.eq_7 (bR @Cw.eq_8 (bR @Cw.eq_9 (bR @Cw.eq_10 (bR @cD.size.eq_1 (bR @cD.size.eq_2 (bR @cD.size.eq_3 (bR @cD.size.eq_4 (bR @cD.size.eq_5 (bR @cD.size.eq_6 (bR @cD.size.eq_7 (bR @cD.size.eq_8 (bR @cD.size.eq_9 (bR @cD.size.eq_10 (bR @and_true (@true_and)))))))))))))))))))))))))))))))))))))))))))))))))))
end
end Go.Abs
namespace Go.Proofs.YteoamaffclmdbaaGreatDoor
open Go Go.Abs
def Iw:Value := .iface 215 (.agg #[.pointer (some ⟨2,99,none⟩)])
instance:kx where
 g:=fun b=>match b with
  |0=>some [Iw]
  |_=>none
 u8:=5
def alF:Func:={ name := "",origin := "",params := #[],resultTypes := #[],nfree:=0,ntmps:=0,results := #[],body:=some .skip,norace:=false,tmpNames := #[] }
noncomputable def anq:Program:={ toTables:={ goVersion := "",platform := "",initOrder := "",godebug := "",types:=Tryz.types,rt:=Tryz.progTables.rt,cutTypes := #[],globals := #[],inits := #[],main:=0 },funcs:=⟨List.replicate 900 alF⟩ }
abbrev Ko(own:List Nat)(f:Func):=Cv anq (Fg own f) f
def eM{A:List Nat}{f:Func}(h:Ko A f:=by apply Subtype.mk; cbv):=h
abbrev sM(own:List Nat)(f:Func)(c:eG):Prop:=o8 Tryz.prog (Fg own f) f=some c
section
open Go.ChangeShapes Go.WideShapes Go.RowKit
def atF:ownKnob Tryz.prog.godebug=none:=fA
abbrev Vk:List (String×DataW Unit):=[("errors.errorType",Rows.laid_errors_errorType)]
def jX0:J:=⟨fun _=>none,fun _ _=>False⟩
def atM(W:World):Rel jX0 [] W where
 inj:=fun _ _ _ h=>by cases h
 lt:=fun _ _ h=>by cases h
 fix:=fun _ _ h=>by cases h
 tick:=fun _ _ _ _ h=>by cases h
 arr:=fun _ _ _ _ h=>by cases h
 vd:=fun _ _ h=>by cases h
 Aq:=fun _ _ h=>h.elim
def Mu{w:World}{b off:Nat}{v:Value}(h:w.cell? ⟨b,off,none⟩=some v):b<w.heap.size:=by
 rcases bE b w.heap.size with hb|hb
 ·exact hb
 ·simp[World.cell?,ir hb] at h
def ahb:((List.range Tryz.prog.types.size).filter fun t=>Tryz.prog.rowNamed t [101,114,114,111,114])=[99]:=fA
theorem rtK{a:Option Nat}{u n:Nat}(e:a=some u)(h:a=some n):n=u:=Option.some.inj (h.symm.trans e)
def alP{W:World}(hL:laidMetH Tryz.prog Vk W)(hsh:W.ShapedOpen Tryz.prog):sO jX0 [] W:=by
 have h':laidMet Tryz.prog [] W/\handlesMet Tryz.prog Vk W:=hL;obtain⟨name,u,ty,e1,e2,e3,e4,e5⟩:=h'.2 _ (bQ.2 rfl);have en:name=[101,114,114,111,114]:=(oI e1).symm;subst en;obtain rfl:=rtK e2 (n:=215) (by kernel_rfl)
 have hm:ty∈(List.range Tryz.prog.types.size).filter fun t=>Tryz.prog.rowNamed t [101,114,114,111,114]:=eo.2 ⟨gj.2 e3,e4⟩
 rw[ahb] at hm;obtain rfl:=bQ.1 hm;rw[show typeHandle Tryz.prog 99 = .pointer (some ⟨2,99,none⟩) by kernel_rfl] at e5
 have hc:W.cell? ⟨0,0,none⟩=some Iw:=by simpa[Iw] using World.var?_cell (show Tryz.prog.globalNamed "errors.errorType" = some 0 by kernel_rfl) e5 0
 obtain⟨⟨zero,t'⟩,hz,he⟩:=aV.1 (show(((begin Tryz.prog (fun _ _=>0) default).world.heap[0]?).bind Obj.row?).map (fun x=>x.1.size)=some 1 by kernel_rfl)
 obtain⟨cs,h1,h2,_⟩:=hsh.1 0 zero t' (jT fA) hz;refine⟨fun b vs k v hb hk=>?_,fun b vs hb=>?_,fun b p hb=>by cases hb⟩
 ·match b,hb with
  |0,hb =>
   cases hb
   match k,hk with
   |0,hk=>cases hk; exact⟨⟨Mu hc,fun id hid=>by simp at hid,fun h=>h⟩,hc⟩
 ·match b,hb with
  |0,hb=>cases hb; exact⟨cs,_,_,h1,h2.trans he⟩
noncomputable def xY(os:Os):World :=
 let w0:=World.holding Tryz.prog os ⟨#[],#[],[]⟩
 { w0 with heap:=w0.heap.modify 0 fun
   | .cells _ t frozen => .cells #[Iw] t frozen
   |o=>o }
def Vl(os:Os)(args:Array Value):laidMetH Tryz.prog Vk ((xY os).forCall (fun _ _=>0) ⟨#[],args,[]⟩).memory :=
 laidMetH_of_parts (laidMet_nil _ _) fA
end
end Go.Proofs.YteoamaffclmdbaaGreatDoor
