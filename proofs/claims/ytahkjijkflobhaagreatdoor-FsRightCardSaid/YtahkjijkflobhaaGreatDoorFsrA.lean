import Derived.Calls
import Derived.Laws.Sem
import Derived.Below
import Derived.Test.YtahkjijkflobhaaGreatDoorProg
import Derived.Test.YtahkjijkflobhaaGreatDoorCards
import Derived.ChangeSame
import Derived.ChangeVars
import Derived.JoinedOf
import Derived.RowKit
import Derived.RowKitTokens
import Derived.LaidLaws
import Derived.LaidHandle
import Derived.Stop.Joined
import Derived.Lib.LaidU8
import Derived.Deep.DeepHandedRow
import Derived.Deep.DeepWitnessRowRef
import Derived.ProofKit
import Derived.SizedLaws
import Derived.Carry
import Derived.OpenShut
import Derived.Deep.Slices
import Derived.Deep.Fields
import Derived.ChangeOld
import Derived.Shelf.Vars
import Derived.Lib.LaidIn
set_option linter.unusedSimpArgs false
set_option linter.unusedVariables false
set_option linter.unusedSectionVars false
set_option linter.defProp false
namespace Go
def bM{a b:Prop}(x:a)(y:b):=And.intro x y
def dh:=@Array.getD_eq_getD_getElem?
def cj:=@Array.getElem?_append_left
def a8:=@Array.getElem?_eq_getElem
def gX:=@Array.getElem?_eq_none
def fj:=@Array.getElem?_eq_some_iff
def iq:=@Array.getElem?_map
def gr:=@Array.getElem?_modify
def fI:=@Array.getElem?_push
def fh:=@Array.getElem?_setIfInBounds_ne
def gG:=@Array.getElem?_setIfInBounds_self
def kH:=@Array.mapM_eq_mapM_toList
def js:=@Array.replicate_succ
def jt:=@Array.replicate_zero
def fP:=@Array.size_append
def bm:=@Bool.and_eq_true
def dP:=@Bool.and_false
def j7:=@Bool.and_self
def gJ:=@Bool.and_true
def eJ:=@Bool.eq_iff_iff
def dy:=@Bool.false_and
def af:=@Bool.false_eq_true
def cY:=@Bool.false_or
def jY:=@Bool.not_eq_false'
def gV:=@Bool.not_eq_true'
def ft:=@Bool.not_false
def di:=@Bool.not_true
def kB:=@Bool.or_eq_false_iff
def dj:=@Bool.or_eq_true
def fu:=@Bool.or_false
def eR:=@Bool.or_self
def ei:=@Bool.or_true
def dD:=@Bool.true_and
def dH:=@Bool.true_or
def ik:=@Eq.trans
def cZ:=@Int.le_refl
def bp:=@Int.lt_irrefl
def ju:=@Int.toNat_natCast
def nr:=@Int.toNat_of_nonneg
def jv:=@List.Pairwise.filter
def kX:=@List.all_cons
def bH:=@List.all_eq_true
def kY:=@List.any_cons
def fZ:=@List.any_eq_true
def fm:=@List.append_assoc
def cW:=@List.append_nil
def jG:=@List.append_toArray
def aU:=@List.cons_append
def kK:=@List.countP_cons
def mh:=@List.countP_le_length
def df:=@List.drop_eq_getElem_cons
def iQ:=@List.drop_eq_nil_of_le
def dG:=@List.eq_nil_of_length_eq_zero
def kS:=@List.eq_of_mem_replicate
def dV:=@List.exists_cons_of_ne_nil
def dL:=@List.ext_getElem?
def lH:=@List.filter_append
def eu:=@List.filter_cons
def iJ:=@List.filter_eq_self
def ll:=@List.filter_nil
def dQ:=@List.find?_eq_none
def nt:=@List.find?_some
def lq:=@List.flatMap_eq_nil_iff
def cK:=@List.foldl_cons
def jH:=@List.foldl_nil
def ko:=@List.getD_eq_getElem?_getD
def mF:=@List.getElem?_append
def bA:=@List.getElem?_append_left
def bz:=@List.getElem?_append_right
def eb:=@List.getElem?_cons_succ
def eL:=@List.getElem?_cons_zero
def cH:=@List.getElem?_drop
def ai:=@List.getElem?_eq_getElem
def ec:=@List.getElem?_eq_none
def ak:=@List.getElem?_eq_some_iff
def bd:=@List.getElem?_map
def bJ:=@List.getElem?_of_mem
def jI:=@List.getElem?_range
def jJ:=@List.getElem?_replicate
def gL:=@List.getElem?_set_ne
def gh:=@List.getElem?_set_self
def gD:=@List.getElem?_take
def bE:=@List.getElem?_take_of_lt
def iV:=@List.getElem_mem
def jK:=@List.getElem_of_mem
def aD:=@List.length_append
def au:=@List.length_cons
def iW:=@List.length_drop
def ck:=@List.length_eq_zero_iff
def bZ:=@List.length_filter_le
def fT:=@List.length_map
def av:=@List.length_nil
def gk:=@List.length_pos_iff
def kh:=@List.length_replicate
def fi:=@List.length_set
def il:=@List.length_take
def bu:=@List.map_append
def dx:=@List.map_congr_left
def aP:=@List.map_cons
def jw:=@List.map_drop
def nu:=@List.map_eq_nil_iff
def jj:=@List.map_map
def bc:=@List.map_nil
def gF:=@List.map_replicate
def kI:=@List.map_set
def eO:=@List.map_take
def bB:=@List.mem_append
def ew:=@List.mem_append_left
def gu:=@List.mem_append_right
def bC:=@List.mem_cons
def aX:=@List.mem_cons_of_mem
def bj:=@List.mem_cons_self
def cr:=@List.mem_filter
def iX:=@List.mem_flatMap
def cE:=@List.mem_map
def gi:=@List.mem_of_find?_eq_some
def aO:=@List.mem_of_getElem?
def dk:=@List.mem_of_mem_drop
def dI:=@List.mem_of_mem_take
def jb:=@List.mem_range
def bP:=@List.mem_singleton
def aW:=@List.nil_append
def lr:=@List.nodup_cons
def oc:=@List.nodup_nil
def dn:=@List.pairwise_append
def cd:=@List.pairwise_cons
def bV:=@List.pairwise_iff_getElem
def iy:=@List.pairwise_map
def jR:=@List.prefix_refl
def ku:=@List.push_toArray
def mG:=@List.range_eq_range'
def iK:=@List.replicate_succ
def mH:=@List.replicate_succ'
def cR:=@List.size_toArray
def mJ:=@List.sum_cons
def gZ:=@List.takeWhile_cons
def cB:=@List.take_add_one
def cC:=@List.take_append_drop
def fx:=@List.take_append_of_le_length
def cg:=@List.take_length
def bS:=@List.take_of_length_le
def bL:=@Nat.add_mul
def db:=@Nat.add_sub_cancel'
def iz:=@Nat.add_sub_cancel_left
def dg:=@Nat.add_zero
def ki:=@Nat.div_lt_iff_lt_mul
def fA:=@Nat.eq_zero_or_pos
def fp:=@Nat.le_mul_of_pos_right
def aC:=@Nat.le_refl
def iA:=@Nat.le_succ_of_le
def aV:=@Nat.le_trans
def ij:=@Nat.lt_irrefl
def bw:=@Nat.lt_of_lt_of_le
def bF:=@Nat.lt_or_ge
def gW:=@Nat.lt_trichotomy
def bf:=@Nat.mul_le_mul_right
def gI:=@Nat.ne_of_lt
def nV:=@Nat.not_lt
def j8:=@Nat.not_lt_zero
def fG:=@Nat.one_mul
def lu:=@Nat.sub_mul
def bN:=@Nat.sub_zero
def lN:=@Nat.succ_mul
def aK:=@Nat.zero_add
def cS:=@Nat.zero_le
def jS:=@Nat.zero_mul
def eY:=@Ne.symm
def dp:=@Option.bind_eq_some_iff
def iY:=@Option.getD_none
def bn:=@Option.getD_some
def ct:=@Option.isSome_iff_exists
def eA:=@Option.isSome_none
def bW:=@Option.isSome_some
def aR:=@Option.map_eq_some_iff
def nv:=@Option.map_none
def eM:=@Option.map_some
def nw:=@Option.some.inj
def eS:=@Option.some.injEq
def lI:=@Option.toList_some
def kj:=@UInt8.lt_iff_toNat_lt
def ny:=@UInt8.lt_irrefl
def lx:=@UInt8.toNat_inj
def jT:=@and_self
def jL:=@beq_eq_false_iff_ne
def eG:=@beq_iff_eq
def kL:=@beq_self_eq_true
def mj:=@bne_iff_ne
def an:=@bne_self_eq_false
def bG:=@decide_eq_false
def dq:=@decide_eq_false_iff_not
def gR:=@decide_eq_true
def ba:=@decide_eq_true_eq
def eH:=@eq_iff_iff
def o4:=@ge_iff_le
def lO:=@getElem!_pos
def az:=@if_false
def aQ:=@if_neg
def bh:=@if_pos
def aG:=@if_true
def o5:=@iff_false
def im:=@iff_true
def lV:=@not_false_eq_true
def mL:=@not_or
def iB:=@of_decide_eq_true
end Go
namespace Go.Abs
section
open Go
inductive Tk where
 |sh|c0|own (k:Nat)
 deriving DecidableEq,Repr
inductive ag where
 |bool (b:Bool)
 |int (k:IntKind) (n:Int)
 |str (s:List UInt8)
 |slice (tk:Tk) (xs:List ag)
 |agg (cs:List ag)
 |tuple (vs:List ag)
 |ptr (id off:Nat)
 |iP (cs:List ag)
 |func (f:Nat) (caps:List ag)
 |gP (id:Nat)
 |jq (id:Nat)
 |iL (ks vs:List ag)
 |cN (id ver sz lo hi:Nat)
 |iH (id ver i off:Nat)
 |pC (f:Nat) (fs:List ag)
 |jE (t id off:Nat)
 |raw (v:Value)
 |mw (v:Value)
 |any
 deriving Inhabited
def ag.jx:ag->Bool
 | .mw _=>true
 | .bool _ | .int .. | .str _ | .slice .. | .agg _ | .tuple _ | .ptr .. | .iP _ | .func .. | .gP _ | .jq _ | .iL .. | .cN .. | .iH .. | .pC .. | .jE .. | .raw _ | .any=>false
abbrev aE(n:Int):ag:=.int .i64 n
abbrev gH(l:List ag):ag:=.slice .sh l
abbrev bX(n:Nat):ag:=.ptr n 0
inductive dv where
 |cells (cs:List ag)
 |tick (sz n:Nat)
 |map (ks vs:List ag)
 |mc (s:List UInt8) (pos:Nat)
 |arr (sz ver:Nat) (xs:List ag)
 |u6
def dv.tag:dv->Nat
 | .cells _=>0
 | .tick sz _=>sz+3
 | .map _ _=>1
 | .mc _ _=>2
 | .arr sz _ _=>sz+3
 | .u6=>3
def dv.fixed:dv->Bool
 | .tick _ _ | .arr _ _ _ | .u6=>false
 |_=>true
def dv.loose:dv->Bool
 | .tick _ _ | .arr _ _ _=>true
 |_=>false
abbrev bO(l:List ag):dv:=.cells l
abbrev aH:=List dv
abbrev Env:=List (Nat×ag)
def bI{α β:Type}(x:Option α)(f:α->Option β):Option β:=match x with
 |some a=>f a
 |none=>none
@[congr] theorem abp {α β:Type} {x x':Option α} {f:α->Option β} (h:x=x'):bI x f=bI x' f:=by rw[h]
@[simp] theorem bT {α β:Type} (a:α) (f:α->Option β):bI (some a) f=f a:=rfl
@[simp] theorem aff {α β:Type} (f:α->Option β):bI none f=none:=rfl
def xy{α:Type}(b:Bool)(x y:Option α):Option α:=match b with
 |true=>x
 |false=>y
@[congr] theorem agu {α:Type} {b b':Bool} {x y:Option α} (h:b=b'):xy b x y=xy b' x y:=by rw[h]
@[simp] theorem wD {α:Type} (x y:Option α):xy true x y=x:=rfl
@[simp] theorem nZ {α:Type} (x y:Option α):xy false x y=y:=rfl
@[simp] theorem Nh {α β:Type} (b:Bool) (x y:Option α) (f:α->Option β):bI (xy b x y) f=xy b (bI x f) (bI y f):=by cases b<;>rfl
open Classical in
noncomputable def cq{α:Type}(p:Prop)(x:Option α):Option α:=if p then x else none
@[congr] theorem abt {α:Type} {p p':Prop} {x:Option α} (h:p=p'):cq p x=cq p' x:=by rw[h]
theorem dS{α:Type}{p:Prop}{x:Option α}(h:p):cq p x=x:=bh h
@[simp] theorem J0 {α:Type} (x:Option α):cq True x=x:=if_pos trivial
@[simp] theorem A3 {α:Type} (x:Option α):cq False x=none:=if_neg not_false
@[simp] theorem abq {α β:Type} (p:Prop) (x:Option α) (f:α->Option β):bI (cq p x) f=cq p (bI x f):=by
 unfold cq; split<;>rfl
def iv:Env->Nat->ag
 | [],_ => .any
 |(k,v)::e,t=>if k=t then v else iv e t
def ag.cells:ag->List ag
 | .agg cs=>cs
 |x=>[x]
def ag.iM:ag->Bool
 | .agg _ | .tuple _ | .any | .mw _=>false
 | .raw v=>match v with | .agg _ | .tuple _=>false|_=>true
 |_=>true
def ag.cells?:ag->Option (List ag)
 | .agg cs=>some cs
 | .tuple _ | .any | .mw _=>none
 | .raw (.agg _)=>none
 |x=>some [x]
def ag.shut:ag->ag
 | .slice _ xs => .slice .sh xs
 |x=>x
def ag.fS:ag->ag
 | .slice _ xs => .slice .sh xs
 | .agg cs => .agg (cs.map ag.shut)
 |x=>x
def ag.plainCell:ag->Bool
 | .bool _ | .int .. | .str _=>true
 | .slice .sh _=>true
 | .raw v=>match v with | .pointer none | .nilFunc | .nilIface | .map none | .func _ ⟨[]⟩ ⟨[]⟩=>true|_=>false
 |_=>false
def ag.plain:ag->Bool
 | .agg cs=>cs.all ag.plainCell
 |x=>x.plainCell
def ag.jA(bQ:Nat)(M:aH):ag->ag
 | .slice (.own k) xs=>if k<bQ then .slice (.own k) xs else .slice .sh xs
 | .ptr id off=>if id<bQ then .ptr id off else .any
 | .gP id=>if id<bQ then .gP id else .any
 | .jq id=>if id<bQ then .jq id else .any
 | .cN id ver sz lo hi=>if id<bQ then .cN id ver sz lo hi else match M[id]? with
  |some (.arr _ v xs)=>if v=ver then .slice .sh ((xs.take hi).drop lo) else .any
  |_ => .any
 | .iH id ver i off=>if id<bQ then .iH id ver i off else .any
 | .jE t id off=>if id<bQ then .jE t id off else .any
 | .func _ _ | .agg _ | .tuple _ => .any
 |x=>x
def ag.kC(bQ:Nat)(M:aH):ag->ag
 | .func f caps => .func f (caps.map (ag.jA bQ M))
 |x=>x.jA bQ M
def ag.kg(bQ:Nat)(M:aH):ag->ag
 | .agg cs => .agg (cs.map (ag.kC bQ M))
 |x=>x.kC bQ M
def ag.nK(bQ:Nat)(M:aH):ag->ag
 | .tuple vs => .tuple (vs.map (ag.kg bQ M))
 |x=>x.kg bQ M
def dv.back(bQ:Nat)(M:aH):dv->dv
 | .cells cs => .cells (cs.map (ag.kC bQ M))
 | .tick sz n => .tick sz n
 | .map ks vs => .map ks (vs.map (ag.kg bQ M))
 | .mc s p => .mc s p
 | .arr sz v xs => .arr sz v xs
 | .u6 => .u6
def lA(bQ:Nat)(M:aH):aH:=(M.take bQ).map (dv.back bQ M)
def yF(bQ:Nat)(M:aH)(br:Env):Env:=br.map fun x=>(x.1,x.2.nK bQ M)
def ag.jV(bQ:Nat)(M:aH):ag->ag
 | .slice _ xs => .slice .sh xs
 | .gP id=>if id<bQ then .gP id else match M[id]? with
  |some (.map ks vs)=>if vs.all ag.plain&&ks.all ag.plainCell then .iL ks vs else .any
  |_ => .any
 |x=>x.kC bQ M
def ag.j9(bQ:Nat)(M:aH):ag->ag
 | .agg cs => .agg (cs.map (ag.jV bQ M))
 |x=>x.jV bQ M
def ag.lY(bQ:Nat)(M:aH):ag->ag
 | .tuple vs => .tuple (vs.map (ag.j9 bQ M))
 |x=>x.j9 bQ M
def ag.ib:ag->List Nat
 | .ptr id _ | .gP id | .jq id | .cN id _ _ _ _ | .iH id _ _ _=>[id]
 | .slice (.own k) _=>[k]
 | .jE _ id _=>[id]
 |_=>[]
def ag.ml:ag->List Nat
 | .func _ caps=>caps.flatMap ag.ib
 |x=>x.ib
def ag.ids:ag->List Nat
 | .agg cs=>cs.flatMap ag.ml
 |x=>x.ml
def ag.DM:ag->Bool
 | .func _ _ | .agg _ | .tuple _=>false
 |_=>true
def ag.uG:ag->Bool
 | .func _ caps=>caps.all ag.DM
 | .agg _ | .tuple _=>false
 |_=>true
def ag.flat:ag->Bool
 | .agg cs=>cs.all ag.uG
 |x=>x.uG
def dv.flat:dv->Bool
 | .u6=>false
 | .cells cs=>cs.all ag.uG
 | .map _ vs=>vs.all ag.flat
 |_=>true
def ag.sx(ρ:Nat->Nat):ag->ag
 | .ptr id off => .ptr (ρ id) off
 | .gP id => .gP (ρ id)
 | .jq id => .jq (ρ id)
 | .cN id v sz lo hi => .cN (ρ id) v sz lo hi
 | .iH id v i off => .iH (ρ id) v i off
 | .slice (.own k) xs => .slice (.own (ρ k)) xs
 | .jE t id off => .jE t (ρ id) off
 |x=>x
def ag.rN(ρ:Nat->Nat):ag->ag
 | .func f caps => .func f (caps.map (ag.sx ρ))
 |x=>x.sx ρ
def ag.pv(ρ:Nat->Nat):ag->ag
 | .agg cs => .agg (cs.map (ag.rN ρ))
 |x=>x.rN ρ
def ag.Ao(ρ:Nat->Nat):ag->ag
 | .tuple vs => .tuple (vs.map (ag.pv ρ))
 |x=>x.pv ρ
def ag.vA:ag->Bool
 | .tuple vs=>vs.all ag.flat
 |x=>x.flat
def dv.pv(ρ:Nat->Nat):dv->dv
 | .cells cs => .cells (cs.map (ag.rN ρ))
 | .map ks vs => .map ks (vs.map (ag.pv ρ))
 |b=>b
def dv.ids:dv->List Nat
 | .cells cs=>cs.flatMap ag.ml
 | .map _ vs=>vs.flatMap ag.ids
 |_=>[]
def nth{α:Type}:List α->Nat->Option α
 | [],_=>none
 |a::_,0=>some a
 |_::l,n+1=>nth l n
def jk{α:Type}:List α->Nat->α->List α
 | [],_,_=>[]
 |_::l,0,x=>x::l
 |a::l,n+1,x=>a::jk l n x
def j6:List Nat->List Nat->List Nat
 |a,[]=>a
 |a,x::r=>j6 (if a.contains x then a else a++[x]) r
def pG(M:aH):List Nat->List Nat
 | []=>[]
 |i::r=>(match nth M i with|some b=>b.ids|none=>[])++pG M r
def ky(M:aH)(acc:List Nat):List Nat:=j6 acc (pG M acc)
def reach(M:aH)(l:List Nat):List Nat:=ky M (ky M (ky M (j6 [] l)))
def hZ:List Nat->Nat->Nat
 | [],_=>0
 |a::l,x=>if a=x then 0 else hZ l x+1
def vN(ids:List Nat)(i:Nat):Nat:=(nth ids i).getD 0
def iU(M:aH)(ρ:Nat->Nat):List Nat->Option aH
 | []=>some []
 |i::r=>match nth M i with
  |some b=>if b.flat then bI (iU M ρ r) fun l=>some (b.pv ρ::l) else none
  |none=>none
def kR(ids:List Nat)(M:aH):List Nat->aH->aH
 |i::r,b::l=>kR ids (jk M i (b.pv (vN ids))) r l
 |_,_=>M
def ag.oo(M:aH):ag->ag
 | .cN id ver sz lo hi=>match nth M id with
  |some (.arr _ v xs)=>if v=ver then .slice .sh ((xs.take hi).drop lo) else .any
  |_ => .any
 |x=>x
def ag.vI(M:aH):ag->ag
 | .agg cs => .agg (cs.map (ag.oo M))
 |x=>x.oo M
def sm(M:aH):List Nat->aH
 | []=>M
 |i::r=>match nth M i with
  |some (.arr sz _ xs)=>sm (jk M i (.tick sz xs.length)) r
  |_=>sm M r
inductive gQ where
 |tmp (t:Nat)
 |kb (v:ag)
def gQ.ev(br:Env):gQ->ag
 | .tmp t=>iv br t
 | .kb v=>v
inductive LS where
 |add|sub|mul|quo|rem|eql|neq|lss|leq|gtr|geq|shl|shr|and|or|xor
 deriving DecidableEq,Repr
inductive FK where
 |i|s|b
 deriving DecidableEq
inductive ke where
 |mv (x:gQ)
 |own (sz:Nat) (x:gQ)
 |pick (c a b:gQ)
 |pq (cs:List ag)
 |box (x:gQ)
 |build (zero:List ag) (parts:List (Nat×Nat×gQ))
 |lits (sz:Nat) (parts:List gQ)
 |CD (sz:Nat) (parts:List gQ)
 |kN (n:Nat) (x:gQ)
 |ic (x:gQ)
 |store (n:Nat) (a x:gQ)
 |Av (sz p n:Nat) (a x:gQ)
 |V1 (x:gQ)
 |bin (op:LS) (x y:gQ)
 |Wc (ks:List FK) (neg:Bool) (x y:gQ)
 |eqB (neg:Bool) (x y:gQ)
 |not (x:gQ)
 |neg (x:gQ)
 |conv (k:IntKind) (x:gQ)
 |same (x:gQ)
 |fn (f:Nat) (caps:List gQ)
 |BW (f:Nat) (firsts:List gQ)
 |wK (x:gQ) (lo hi:Option gQ)
 |yt (sz:Nat) (x:gQ) (lo hi mx:Option gQ)
 |iR (off:Nat) (x:gQ)
 |zX (off n:Nat) (x:gQ)
 |zW (off:Nat) (x:gQ)
 |uJ (sz:Nat) (x i:gQ)
 |wj (n sz:Nat) (x i:gQ)
 |wk (x i:gQ)
 |extract (x:gQ) (i:Nat)
 |call (f:Nat) (args:List gQ)
 |vx (f:gQ) (args:List gQ)
 |AI (f:Nat) (args:List gQ)
 |jc (f:Nat) (args:List gQ)
 |vw (f:Nat) (args:List gQ)
 |zN (sz:Nat) (zero:List ag) (x:gQ)
 |M4 (x:gQ)
 |CC (x:gQ)
 |append (sz bytes:Nat) (x y:gQ)
 |yk (mx:Bool) (x y:gQ)
 |b2s (x:gQ)
 |mkMap
 |look (fk:FK) (zero:ag) (ok:Bool) (m k:gQ)
 |gy (fk:FK) (m k v:gQ)
 |M1 (m:gQ)
 |NH (x:gQ)
 |Ei (it:gQ)
 |iface (t:Nat) (x:gQ)
 |raise (x:gQ)
 |mkS (zero:List ag) (n:gQ)
 |Nd (zero:List ag) (n:gQ)
 |wU (sz bytes:Nat) (zero:List ag) (x n:gQ)
 |ve (sz bytes:Nat) (x y:gQ)
 |DH (sz:Nat) (x y:gQ)
 |Md (sz:Nat)
structure cQ where
 dst:Option Nat
 op:ke
 guard:Option (Nat×Bool)
 grow:Bool:=false
 vD:Bool:=false
 sep:List Nat:=[]
 stop:Bool:=true
def ob(d:Nat)(o:ke):cQ:=⟨some d,o,none,false,false,[],true⟩
def og(d g:Nat)(b:Bool)(o:ke):cQ:=⟨some d,o,some (g,b),false,false,[],true⟩
def ox(o:ke):cQ:=⟨none,o,none,false,false,[],true⟩
def ke.OV:ke->Bool
 | .call .. | .vx .. | .AI .. | .jc .. | .raise _=>true
 |_=>false
inductive cA where
 |skip
 |region (ops:List cQ) (draw:Bool) (live:List Nat)
 |seq (a b:cA)
 |cond (c:gQ) (x y:cA)
 |block (id:Nat) (c:cA)
 |loop (live:List Nat) (c:cA)
 |exit (id:Nat)
 |ret
inductive Zi where
 |normal|exit (id:Nat)|ret|mw (v:Value)
abbrev eB:=Nat->List ag->aH->Option (ag×aH)
def strLt:List UInt8->List UInt8->Bool
 |_,[]=>false
 | [],_::_=>true
 |a::x,b::y=>a<b||(a==b&&strLt x y)
def aqa(k:IntKind)(a b:Int):Int:=k.wrap (BitVec.ofInt k.bits a &&& BitVec.ofInt k.bits b).toNat
def ior(k:IntKind)(a b:Int):Int:=k.wrap (BitVec.ofInt k.bits a ||| BitVec.ofInt k.bits b).toNat
def aqf(k:IntKind)(a b:Int):Int:=k.wrap (BitVec.ofInt k.bits a ^^^ BitVec.ofInt k.bits b).toNat
def pE(b:UInt8):ag := .int .u8 b.toNat
def pw(op:LS):ag->ag->Option ag
 | .int k a,.int k' b =>
  match op with
  | .shl=>if 0<=b then some (.int k (k.wrap (a*2 ^ (min b.toNat k.bits)))) else none
  | .shr=>if 0<=b then some (.int k (a.fdiv (2 ^ (min b.toNat k.bits)))) else none
  |op=>if k≠k' then none else
   match op with
   | .add=>some (.int k (k.wrap (a+b)))
   | .sub=>some (.int k (k.wrap (a-b)))
   | .mul=>some (.int k (k.wrap (a*b)))
   | .quo=>if b=0 then none else some (.int k (k.wrap (a.tdiv b)))
   | .rem=>if b=0 then none else some (.int k (a.tmod b))
   | .eql=>some (.bool (a==b))
   | .neq=>some (.bool (a != b))
   | .lss=>some (.bool (a<b))
   | .leq=>some (.bool (a<=b))
   | .gtr=>some (.bool (a>b))
   | .geq=>some (.bool (a>=b))
   | .and=>some (.int k (aqa k a b))
   | .or=>some (.int k (ior k a b))
   | .xor=>some (.int k (aqf k a b))
   |_=>none
 | .str a,.str b =>
  match op with
  | .add=>if ((a.length+b.length:Nat):Int)>IntKind.i64.max then none else some (.str (a++b))
  | .eql=>some (.bool (a==b))
  | .neq=>some (.bool (a != b))
  | .lss=>some (.bool (strLt a b))
  | .leq=>some (.bool (strLt a b||a==b))
  | .gtr=>some (.bool (!(strLt a b||a==b)))
  | .geq=>some (.bool (!(strLt a b)))
  |_=>none
 |_,_=>none
def jW:FK->ag->ag->Option Bool
 | .i,.int k a,.int k' b=>if k=k' then some (a==b) else none
 | .s,.str a,.str b=>some (a==b)
 | .b,.bool a,.bool b=>some (a==b)
 |_,_,_=>none
def kl:List FK->List ag->List ag->Option Bool
 | [],[],[]=>some true
 |k::ks,a::x,b::y=>bI (jW k a b) fun e=>bI (kl ks x y) fun f=>some (e&&f)
 |_,_,_=>none
def ag.norm:ag->ag
 | .agg [c]=>c
 |x=>x
def valOf:ag->Option Value
 | .int k n=>some (.int k n)
 | .agg [.int k n]=>some (.agg #[.int k n])
 |_=>none
def bytesOf:List ag->Option (List UInt8)
 | []=>some []
 | .int .u8 n::r=>bI (bytesOf r) fun l=>some (UInt8.ofNat n.toNat::l)
 |_=>none
def wz(fk:FK)(k:ag):List ag->List ag->Option (Option ag)
 | [],[]=>some none
 |k'::ks,v::vs=>bI (jW fk k k') fun b=>xy b (some (some v)) (wz fk k ks vs)
 |_,_=>none
def wA(fk:FK)(k v:ag):List ag->List ag->Option (List ag×List ag)
 | [],[]=>bI (jW fk k k) fun _=>some ([k],[v])
 |k'::ks,v'::vs=>bI (jW fk k k') fun b=>xy b (some (k::ks,v::vs)) (bI (wA fk k v ks vs) fun x=>some (k'::x.1,v'::x.2))
 |_,_=>none
def o9(zero:ag)(ok:Bool)(r:Option ag):ag:=match ok with
 |true => .tuple [r.getD zero,.bool r.isSome]
 |false=>r.getD zero
def mapOf(M:aH):ag->Option (List ag×List ag)
 | .gP id=>match nth M id with|some (.map ks vs)=>some (ks,vs)|_=>none
 | .iL ks vs=>some (ks,vs)
 |_=>none
def mg(cs:List ag)(off:Nat)(new:List ag):List ag:=cs.take off++(new++cs.drop (off+new.length))
def putCells(e:ag)(off:Nat)(new:List ag):ag:=match e,new with
 | .agg cs,new => .agg (mg cs off new)
 |_,[c]=>c
 |e,_=>e
def kZ(br:Env):List ag->List (Nat×Nat×gQ)->Option (List ag)
 |cs,[]=>some cs
 |cs,(off,n,x)::r =>
  bI (x.ev br).cells? fun new=>if new.length=n/\off+n<=cs.length then kZ br (mg cs off new) r else none
def rV(br:Env)(sz:Nat):List gQ->Option (List ag)
 | []=>some []
 |x::r=>if (x.ev br).fS.plain=true/\(x.ev br).fS.cells.length=sz then bI (rV br sz r) fun l=>some ((x.ev br).fS::l) else none
def fy(br:Env)(n:Nat):Option gQ->Option Int
 |none=>some n
 |some x=>match x.ev br with | .int _ i=>some i|_=>none
def wid(xs:List ag)(sz:Nat):Prop:=∀x,x∈xs->x.cells.length=sz
def cu(n bytes:Nat):Prop:=n*bytes<=2 ^ 44
noncomputable def aM(call:eB)(f:Nat)(vs:List ag)(M:aH):Option (ag×aH) :=
 if vs.all ag.flat then
  bI (iU M (hZ (reach M (vs.flatMap ag.ids))) (reach M (vs.flatMap ag.ids))) fun B =>
   if ky M (reach M (vs.flatMap ag.ids))=reach M (vs.flatMap ag.ids) then
    bI (call f (vs.map (ag.pv (hZ (reach M (vs.flatMap ag.ids))))) B) fun x =>
     if x.2.length=B.length/\x.1.vA=true/\x.2.all dv.flat=true then some (x.1.Ao (vN (reach M (vs.flatMap ag.ids))),kR (reach M (vs.flatMap ag.ids)) M (reach M (vs.flatMap ag.ids)) x.2) else none
   else none
 else none
noncomputable def Am(call:eB)(f:Nat)(vs:List ag)(M:aH):Option (ag×aH) :=
 if vs.all ag.flat=true/\vs.flatMap ag.ids=[] then
  bI (call f vs []) fun x=>match x.1,x.2 with
   | .slice (.own 0) xs,[.tick sz n]=>some (.slice (.own M.length) xs,M++[.tick sz n])
   |_,_=>none
 else none
noncomputable def dX(call:eB)(br:Env)(M:aH):ke->Option (ag×aH)
 | .mv x=>some (x.ev br,M)
 | .own sz x =>
  match x.ev br with
  | .slice .c0 []=>some (.slice (.own M.length) [],M++[.tick sz 0])
  |_=>none
 | .pick c a b=>match c.ev br with
  | .bool t=>xy t (some (a.ev br,M)) (some (b.ev br,M))
  |_=>none
 | .pq cs=>some (.ptr M.length 0,M++[.cells cs])
 | .box x=>bI (x.ev br).cells? fun cs=>some (.ptr M.length 0,M++[.cells cs])
 | .build zero parts=>bI (kZ br zero parts) fun cs=>some (.agg cs,M)
 | .lits sz parts=>bI (rV br sz parts) fun l=>some (match l with|[] => .slice .c0 []|_ => .slice .sh l,M)
 | .CD sz parts=>bI (rV br sz parts) fun l=>some (.slice (.own M.length) l,M++[.tick sz l.length])
 | .kN n x =>
  match x.ev br with
  | .ptr id off=>match nth M id with
   |some (.cells cs)=>if off+n<=cs.length then some (.agg ((cs.drop off).take n),M) else none
   |_=>none
  | .iP cs=>if n<=cs.length then some (.agg (cs.take n),M) else none
  | .iH id ver i off=>match nth M id with
   |some (.arr _ v xs)=>if v=ver then bI (xs[i]?) fun e=>if off+n<=e.cells.length then some (.agg ((e.cells.drop off).take n),M) else none else none
   |_=>none
  |_=>none
 | .ic x =>
  match x.ev br with
  | .ptr id off=>match nth M id with
   |some (.cells cs)=>bI (nth cs off) fun c=>some (c,M)
   |_=>none
  | .iP cs=>bI (nth cs 0) fun c=>some (c,M)
  | .iH id ver i off=>match nth M id with
   |some (.arr _ v xs)=>if v=ver then bI (xs[i]?) fun e=>bI (nth e.cells off) fun c=>some (c,M) else none
   |_=>none
  |_=>none
 | .store n a x =>
  match a.ev br with
  | .ptr id off=>match nth M id with
   |some (.cells cs)=>bI (x.ev br).cells? fun new =>
    if new.length=n/\off+n<=cs.length/\new.all ag.iM=true then some (.any,jk M id (.cells (mg cs off new))) else none
   |_=>none
  | .iH id ver i off=>match nth M id with
   |some (.arr sz v xs)=>bI (x.ev br).cells? fun new=>bI (xs[i]?) fun e =>
    if v=ver/\new.length=n/\off+n<=e.cells.length/\(new.map ag.shut).all ag.plainCell=true then some (.any,jk M id (.arr sz ver (jk xs i (putCells e off (new.map ag.shut))))) else none
   |_=>none
  |_=>none
 | .Av sz p n a x =>
  match a.ev br with
  | .ptr id off=>match nth M id with
   |some (.cells cs)=>bI (x.ev br).cells? fun new =>
    match nth new p with
    |some (.slice .c0 [])=>if new.length=n/\off+n<=cs.length/\new.all ag.iM=true then some (.any,jk M id (.cells (mg cs off (jk new p (.slice (.own M.length) []))))++[.tick sz 0]) else none
    |_=>none
   |_=>none
  |_=>none
 | .V1 x=>match x.ev br with
  | .ptr id off=>some (.ptr id off,M)
  | .iP cs=>some (.iP cs,M)
  | .func f caps=>some (.func f caps,M)
  | .iH id v i off=>some (.iH id v i off,M)
  |_=>none
 | .bin op x y=>bI (pw op (x.ev br) (y.ev br)) fun v=>some (v,M)
 | .Wc ks neg x y =>
  match x.ev br,y.ev br with
  | .agg a,.agg b=>bI (kl ks a b) fun e=>some (.bool (match neg with|true => !e|false=>e),M)
  |_,_=>none
 | .eqB neg x y=>match x.ev br,y.ev br with
  | .bool a,.bool b=>some (.bool (match neg with|true => !(a==b)|false=>a==b),M)
  |_,_=>none
 | .not x=>match x.ev br with | .bool b=>some (.bool (!b),M)|_=>none
 | .neg x=>match x.ev br with | .int k n=>some (.int k (k.wrap (0-n)),M)|_=>none
 | .conv k x=>match x.ev br with | .int _ n=>some (.int k (k.wrap n),M)|_=>none
 | .same x=>match x.ev br with | .str s=>some (.str s,M)|_=>none
 | .fn f caps=>some (.func f (caps.map (gQ.ev br)),M)
 | .BW f firsts=>if (firsts.map fun x=>(x.ev br).fS).all ag.plain then some (.pC f (firsts.map fun x=>(x.ev br).fS),M) else none
 | .wK x lo hi =>
  match x.ev br with
  | .str s=>bI (fy br s.length hi) fun h=>bI (fy br 0 lo) fun l =>
   cq (0<=h/\h<=s.length/\0<=l/\l<=h) (some (.str ((s.take h.toNat).drop l.toNat),M))
  |_=>none
 | .yt sz x lo hi mx =>
  match x.ev br with
  | .slice _ xs=>cq (wid xs sz) <| bI (fy br xs.length hi) fun h=>bI (fy br 0 lo) fun l =>
   match mx with
   |none=>cq (0<=h/\h<=xs.length/\0<=l/\l<=h) (some (.slice .sh ((xs.take h.toNat).drop l.toNat),M))
   |some m=>match m.ev br with
    | .int _ m=>cq (0<=m/\m<=xs.length/\0<=h/\h<=m/\0<=l/\l<=h)
      (xy (m==0) (some (.slice .c0 [],M)) (some (.slice .sh ((xs.take h.toNat).drop l.toNat),M)))
    |_=>none
  | .cN id v sz' al ah=>cq (sz'=sz) <| bI (fy br (ah-al) hi) fun h=>bI (fy br 0 lo) fun l =>
   match mx with
   |none=>cq (0<=h/\h<=(ah-al:Nat)/\0<=l/\l<=h) (xy (l==h) (some (.slice .sh [],M)) (some (.cN id v sz (al+l.toNat) (al+h.toNat),M)))
   |some m=>match m.ev br with
    | .int _ m=>cq (0<=m/\m<=(ah-al:Nat)/\0<=h/\h<=m/\0<=l/\l<=h)
      (xy (m==0) (some (.slice .c0 [],M)) (xy (l==h) (some (.slice .sh [],M)) (some (.cN id v sz (al+l.toNat) (al+h.toNat),M))))
    |_=>none
  |_=>none
 | .iR off x=>match x.ev br with
  | .ptr id o=>some (.ptr id (o+off),M)
  | .iP cs=>some (.iP (cs.drop off),M)
  | .iH id v i o=>some (.iH id v i (o+off),M)
  |_=>none
 | .zX off n x=>match x.ev br with
  | .agg cs=>if off+n<=cs.length then some (.agg ((cs.drop off).take n),M) else none
  |_=>none
 | .zW off x=>match x.ev br with
  | .agg cs=>bI (nth cs off) fun c=>some (c,M)
  |_=>none
 | .uJ sz x i =>
  match x.ev br,i.ev br with
  | .slice _ xs,.int _ n=>cq (0<=n) (bI (xs[n.toNat]?) fun e=>if e.cells.length=sz then some (.iP e.cells,M) else none)
  | .cN id v sz' lo hi,.int _ n=>cq (0<=n/\n<(hi-lo:Nat)/\sz'=sz) (some (.iH id v (lo+n.toNat) 0,M))
  |_,_=>none
 | .wj n sz x i =>
  match x.ev br,i.ev br with
  | .iP cs,.int _ m=>cq (0<=m/\m<n/\n*sz<=cs.length) (some (.iP (cs.drop (m.toNat*sz)),M))
  | .ptr id off,.int _ m=>cq (0<=m/\m<n) (some (.ptr id (off+m.toNat*sz),M))
  |_,_=>none
 | .wk x i =>
  match x.ev br,i.ev br with
  | .str s,.int _ n=>cq (0<=n) (bI (s[n.toNat]?) fun b=>some (.int .u8 b.toNat,M))
  |_,_=>none
 | .extract x i=>match x.ev br with | .tuple vs=>bI (nth vs i) fun v=>some (v,M)|_=>none
 | .call f args=>aM call f (args.map fun x=>(x.ev br).fS) M
 | .AI f args=>call f (args.map (gQ.ev br)) M
 | .jc f args=>aM call f (args.map fun x=>((x.ev br).vI M).fS) (sm M ((args.map (gQ.ev br)).flatMap ag.ids))
 | .vw f args=>Am call f (args.map fun x=>(x.ev br).fS) M
 | .zN sz zero x=>match x.ev br with
  | .slice _ xs=>match xs with|[]=>some (.any,M)|_=>none
  | .cN id ver sz' lo hi=>match nth M id with
   |some (.arr sz0 v xs)=>if v=ver/\sz'=sz/\zero.length=sz/\zero.all ag.plainCell=true then some (.any,jk M id (.arr sz0 ver (xs.take lo++(List.replicate (hi-lo) (.agg zero)++xs.drop hi)))) else none
   |_=>none
  |_=>none
 | .vx f args=>match f.ev br with
  | .func g caps=>aM call g ((args.map fun x=>(x.ev br).fS)++caps) M
  | .pC g fs=>aM call g (fs++args.map fun x=>(x.ev br).fS) M
  | .raw v=>match v with
   | .func (.func g) ⟨[]⟩ ⟨[]⟩=>aM call g (args.map fun x=>(x.ev br).fS) M
   |_=>none
  |_=>none
 | .M4 x=>match x.ev br with | .str s=>some (.int .i64 s.length,M)|_=>none
 | .CC x=>match x.ev br with
  | .slice _ xs=>some (.int .i64 xs.length,M)
  | .cN _ _ _ lo hi=>some (.int .i64 (hi-lo:Nat),M)
  |_=>none
 | .append sz bytes x y =>
  match x.ev br,y.ev br with
  | .slice tk xs,.slice _ ys =>
   cq (cu (xs.length+ys.length) bytes/\wid xs sz/\wid ys sz) (
    match tk with
    | .c0=>match xs with|[]=>some (.slice (.own M.length) ys,M++[.tick sz ys.length])|_=>none
    | .own k=>match nth M k with
     |some (.tick sz' n)=>cq (sz'=sz/\n=xs.length) (some (.slice (.own k) (xs++ys),jk M k (.tick sz (xs.length+ys.length))))
     |_=>none
    | .sh=>none)
  | .cN id ver sz' lo hi,.slice _ ys=>match nth M id with
   |some (.arr sz0 v xs)=>cq (v=ver/\sz'=sz/\lo=0/\hi=xs.length/\cu (xs.length+ys.length) bytes/\wid xs sz/\wid ys sz/\0<ys.length)
     (some (.cN id (ver+1) sz 0 (xs.length+ys.length),jk M id (.arr sz0 (ver+1) (xs++ys))))
   |_=>none
  |_,_=>none
 | .yk mx x y=>match x.ev br,y.ev br with
  | .int k a,.int _ b=>some (.int k (match mx with|true=>if b>a then b else a|false=>if b<a then b else a),M)
  |_,_=>none
 | .b2s x=>match x.ev br with | .slice _ xs=>bI (bytesOf xs) fun l=>some (.str l,M)|_=>none
 | .mkMap=>some (.gP M.length,M++[.map [] []])
 | .look fk zero ok m k=>bI (mapOf M (m.ev br)) fun e=>bI (wz fk (k.ev br) e.1 e.2) fun r=>some (o9 zero ok r,M)
 | .gy fk m k v=>match m.ev br with
  | .gP id=>match nth M id with
   |some (.map ks vs)=>bI (wA fk (k.ev br) (v.ev br) ks vs) fun e=>some (.any,jk M id (.map e.1 e.2))
   |_=>none
  |_=>none
 | .M1 m=>bI (mapOf M (m.ev br)) fun e=>some (.int .i64 e.1.length,M)
 | .NH x=>match x.ev br with | .str s=>some (.jq M.length,M++[.mc s 0])|_=>none
 | .Ei it=>match it.ev br with
  | .jq id=>match nth M id with
   |some (.mc s pos)=>xy (decide (pos<s.length))
     (some (.tuple [.bool true,.int .i64 pos,.int .i32 (Utf8.decode ⟨s.toArray⟩ pos).1],jk M id (.mc s (pos+(Utf8.decode ⟨s.toArray⟩ pos).2))))
     (some (.tuple [.bool false],M))
   |_=>none
  |_=>none
 | .mkS zero n=>match n.ev br with
  | .int _ k=>cq (0<=k/\cu k.toNat (8*zero.length)/\zero.all ag.plainCell=true) (some (.slice .sh (List.replicate k.toNat (ag.agg zero).norm),M))
  |_=>none
 | .Nd zero n=>match n.ev br with
  | .int _ k=>cq (0<=k/\cu k.toNat (8*zero.length)/\zero.all ag.plainCell=true) (some (.cN M.length 0 zero.length 0 k.toNat,M++[.arr zero.length 0 (List.replicate k.toNat (ag.agg zero).norm)]))
  |_=>none
 | .wU sz bytes zero x n =>
  match x.ev br,n.ev br with
  | .slice .c0 [],.int _ k=>cq (0<=k/\cu k.toNat bytes/\zero.length=sz/\zero.all ag.plainCell=true)
    (xy (k==0) (some (.slice .c0 [],M)) (some (.cN M.length 0 sz 0 k.toNat,M++[.arr sz 0 (List.replicate k.toNat (ag.agg zero).norm)])))
  | .cN id ver sz' lo hi,.int _ k=>match nth M id with
   |some (.arr sz0 v xs)=>cq (v=ver/\sz'=sz/\lo=0/\hi=xs.length/\0<=k/\cu (xs.length+k.toNat) bytes/\zero.length=sz/\zero.all ag.plainCell=true/\0<xs.length)
     (xy (k==0) (some (.cN id ver sz' lo hi,M)) (some (.cN id (ver+1) sz 0 (xs.length+k.toNat),jk M id (.arr sz0 (ver+1) (xs++List.replicate k.toNat (ag.agg zero).norm)))))
   |_=>none
  |_,_=>none
 | .ve sz bytes x y =>
  match x.ev br,y.ev br with
  | .slice .c0 [],.slice _ ys=>cq (cu ys.length bytes/\wid ys sz) (some (.cN M.length 0 sz 0 ys.length,M++[.arr sz 0 ys]))
  |_,_=>none
 | .DH sz x y =>
  match x.ev br,y.ev br with
  | .slice .sh [],.slice _ ys=>cq (wid ys sz) (some (.int .i64 0,M))
  | .cN id ver sz' lo hi,.slice _ ys=>match nth M id with
   |some (.arr sz0 v xs)=>cq (v=ver/\sz'=sz/\wid ys sz/\0<xs.length)
     (some (.int .i64 (min ys.length (hi-lo):Nat),jk M id (.arr sz0 ver (xs.take lo++(ys.take (min ys.length (hi-lo))++xs.drop (lo+min ys.length (hi-lo)))))))
   |_=>none
  |_,_=>none
 | .Md sz=>some (.ptr (M.length+1) 0,M++[.arr sz 0 [],.cells [.cN M.length 0 sz 0 0]])
 | .iface t x=>match x.ev br with
  | .ptr id off=>some (.jE t id off,M)
  |y=>bI (valOf y) fun v=>some (.raw (.iface t v),M)
 | .raise x=>match x.ev br with
  | .raw v=>match v with
   | .iface t u=>some (.mw (.iface t u),M)
   |_=>none
  |_=>none
def ph(br:Env)(dst:Option Nat)(v:ag):Env :=
 match dst with
 |some d=>(d,v)::br
 |none=>br
def ke.dU(br:Env):ke->List Nat
 | .call _ args=>(args.map fun x=>(x.ev br).fS).flatMap ag.ids
 | .vx f args=>match f.ev br with
  | .func _ caps=>((args.map fun x=>(x.ev br).fS)++caps).flatMap ag.ids
  | .pC _ fs=>(fs++args.map fun x=>(x.ev br).fS).flatMap ag.ids
  | .raw v=>match v with
   | .func (.func _) ⟨[]⟩ ⟨[]⟩=>(args.map fun x=>(x.ev br).fS).flatMap ag.ids
   |_=>[]
  |_=>[]
 |_=>[]
def wI(br:Env)(M M':aH):List Nat->Prop
 | []=>True
 |z::r=>(match iv br z with
  | .ptr id _=>nth M' id=nth M id
  |_=>False)/\wI br M M' r
noncomputable def oe(call:eB)(o:cQ)(br:Env)(M:aH):Option (ag×aH) :=
 match o.vD with
 |true=>cq (o.op.dU br=[]) (dX call br M o.op)
 |false=>match o.grow with
  |false=>dX call br M o.op
  |true=>bI (dX call br M o.op) fun x=>cq (M <+: x.2\/(o.sep≠[]/\wI br M x.2 o.sep)) (some x)
structure Out where
 e:Zi
 br:Env
 mem:aH
def A7(c:Bool)(x:ag×aH)(k:Option Out):Option Out:=match x.1 with
 | .mw v=>match c with
  |true=>some ⟨.mw v,[],x.2⟩
  |false=>none
 |_=>k
def cQ.lets(o:cQ):Bool:=o.op.OV&&o.stop
noncomputable def fK(call:eB):List cQ->Env->aH->Option Out
 | [],br,M=>some ⟨.normal,br,M⟩
 |o::r,br,M =>
  match o.guard with
  |none=>bI (oe call o br M) fun x=>A7 o.lets x (fK call r (ph br o.dst x.1) x.2)
  |some (t,want)=>match iv br t with
   | .bool b=>xy (b==want) (bI (oe call o br M) fun x=>A7 o.lets x (fK call r (ph br o.dst x.1) x.2))
    (fK call r (ph br o.dst (.tuple [])) M)
   | .tuple []=>fK call r (ph br o.dst (.tuple [])) M
   |_=>none
def lF(br:Env)(live:List Nat):Env:=live.map fun t=>(t,iv br t)
def Out.oq(live:List Nat)(o:Out):Out:=match o.e with
 | .normal=>⟨.normal,lF o.br live,o.mem⟩
 |_=>o
open Classical in
noncomputable def lim{α:Type}(F:Nat->Option α):Option α:=if h:∃n,(F n).isSome=true then F (Classical.choose h) else none
def uh(o:Out)(k:Env->aH->Option Out):Option Out:=match o.e with
 | .normal=>k o.br o.mem
 |_=>some o
def vE(id:Nat)(o:Out):Out:=match o.e with
 | .exit i=>if i=id then ⟨.normal,o.br,o.mem⟩ else o
 |_=>o
def iter(f:Env->aH->Option Out)(live:List Nat):Nat->Env->aH->Option Out
 |0,_,_=>none
 |n+1,br,M=>bI (f (lF br live) M) fun o=>uh o fun e m=>iter f live n (yF M.length m (lF e live)) (lA M.length m)
noncomputable def eP(call:eB):cA->Env->aH->Option Out
 | .skip,br,M=>some ⟨.normal,br,M⟩
 | .region ops _ live,br,M=>bI (fK call ops br M) fun o=>some (o.oq live)
 | .seq a b,br,M=>bI (eP call a br M) fun o=>uh o (eP call b)
 | .cond c x y,br,M=>match c.ev br with
  | .bool t=>xy t (eP call x br M) (eP call y br M)
  |_=>none
 | .block id c,br,M=>bI (eP call c br M) fun o=>some (vE id o)
 | .loop live c,br,M=>lim fun n=>iter (eP call c) live n br M
 | .exit id,br,M=>some ⟨.exit id,br,M⟩
 | .ret,br,M=>some ⟨.ret,br,M⟩
inductive sb where
 |tmp (t:Nat)
 |dB (t n:Nat)
 |Zy (t:Nat)
structure dY where
 nparams:Nat
 results:List sb
 body:cA
def CX(br:Env)(M:aH):sb->Option ag
 | .tmp t=>some (iv br t)
 | .dB t n=>match iv br t with
  | .ptr id off=>match nth M id with
   |some (.cells cs)=>if off+n<=cs.length then some (.agg ((cs.drop off).take n)) else none
   |_=>none
  |_=>none
 | .Zy t=>match iv br t with
  | .ptr id off=>match nth M id with
   |some (.cells cs)=>nth cs off
   |_=>none
  |_=>none
def rY(br:Env)(M:aH):List sb->Option (List ag)
 | []=>some []
 |r::rs=>bI (CX br M r) fun v=>bI (rY br M rs) fun l=>some (v::l)
def one:List ag->ag
 | [v]=>v
 |l => .tuple l
def fq:Nat->List ag->Env
 |_,[]=>[]
 |i,v::r=>(i,v)::fq (i+1) r
def finish(res:List sb)(bQ:Nat)(o:Out):Option (ag×aH) :=
 match o.e with
 | .exit _=>none
 | .mw v=>some (.mw v,lA bQ o.mem)
 |_=>bI (rY o.br o.mem res) fun l=>some ((one l).lY bQ o.mem,lA bQ o.mem)
structure yz where
 code:Nat->Option dY
 mQ:Nat->Option (List ag->aH->Option (ag×aH))
noncomputable def jy(T:yz):Nat->eB
 |0,f,args,M=>match T.mQ f with
  |some g=>g args M
  |none=>none
 |n+1,f,args,M=>match T.mQ f with
  |some g=>g args M
  |none=>match T.code f with
   |none=>none
   |some fn=>if args.length=fn.nparams then bI (eP (jy T n) fn.body (fq 0 args) M) (finish fn.results M.length) else none
noncomputable def ar(T:yz):eB:=fun f args M=>lim fun n=>jy T n f args M
theorem oV{α:Type}{F:Nat->Option α}(hm:∀n x,F n=some x->F (n+1)=some x){n:Nat}{x:α}(h:F n=some x):lim F=some x:=by
 have up:∀k n x,F n=some x->F (n+k)=some x:=by
  intro k;induction k<;>grind
 unfold lim;have hex:∃n,(F n).isSome=true:=⟨n,by grind⟩
 rw[dif_pos hex];have hc:=Classical.choose_spec hex;generalize Classical.choose _=m at *;obtain⟨y,hy⟩:=ct.1 hc;rcases Nat.le_total n m with hle|hle
 ·have:=up (m-n) n x h;rw[show n+(m-n)=m by omega] at this
  omega
 ·have:=up (n-m) m y hy;rw[show m+(n-m)=n by omega,h] at this
  rw[hy,this]
theorem vn{α:Type}{F:Nat->Option α}{x:α}(h:lim F=some x):∃n,F n=some x:=by
 unfold lim at h;split at h
 ·grind
 grind
def va(C C':eB):Prop:=∀f a M x,C f a M=some x->C' f a M=some x
def bg{α β:Type}{x:Option α}{f:α->Option β}{y:β}(h:bI x f=some y):∃a,x=some a/\f a=some y:=by
 cases x<;>simp_all
def jO{α:Type}{b:Bool}{x y:Option α}{z:α}(h:xy b x y=some z):(b=true/\x=some z)\/(b=false/\y=some z):=by
 cases b
 ·simp_all
 simp_all
theorem da{α:Type}{p:Prop}{x:Option α}{z:α}(h:cq p x=some z):p/\x=some z:=by
 grind [cq]
theorem qW{C:eB}{f:Nat}{vs:List ag}{M:aH}{x:ag×aH}(h:aM C f vs M=some x) :
  ∃a B y,C f a B=some y/\∀C':eB,C' f a B=some y->aM C' f vs M=some x:=by
 unfold aM at h;split at h
 ·obtain⟨B,hB,h⟩:=bg h;split at h
  ·obtain⟨y,hy,h⟩:=bg h;refine⟨_,B,y,hy,fun C' hC'=>?_⟩
   simp_all [aM]
  grind
 grind
theorem Kj{C:eB}{br:Env}{M:aH}{o:ke}{x:ag×aH}(h:dX C br M o=some x) :
  (∀C':eB,dX C' br M o=some x)\/∃f a B y,C f a B=some y/\∀C':eB,C' f a B=some y->dX C' br M o=some x:=by
 cases o
 case call f args =>
  simp only[dX] at h ⊢;obtain⟨a,B,y,h1,h2⟩:=qW h;exact .inr ⟨f,a,B,y,h1,h2⟩
 case vw f args =>
  simp only[dX] at h ⊢;unfold Am at h;split at h
  ·rename_i hc;obtain⟨y,hy,h⟩:=bg h;refine .inr ⟨f,_,[],y,hy,fun C' hC'=>?_⟩
   unfold Am;rw[bh hc,hC'];exact h
  ·cases h
 case AI f args=>exact .inr ⟨f,_,_,_,h,fun _ h'=>h'⟩
 case jc f args =>
  simp only[dX] at h ⊢;obtain⟨a,B,y,h1,h2⟩:=qW h;exact .inr ⟨f,a,B,y,h1,h2⟩
 case vx f args =>
  simp only[dX] at h ⊢;split at h<;>grind [qW]
 all_goals exact .inl fun _=>h
theorem OI{C C':eB}(hC:va C C'){br:Env}{M:aH}{o:ke}{x:ag×aH}(h:dX C br M o=some x):dX C' br M o=some x:=by
 rcases Kj h with h|⟨f,a,B,y,h1,h2⟩
 ·grind
 ·exact h2 _ (hC _ _ _ _ h1)
theorem qV{C:eB}{o:cQ}{br:Env}{M:aH}{x:ag×aH}(h:oe C o br M=some x) :
  (o.vD=true/\o.op.dU br=[]/\dX C br M o.op=some x)\/(o.vD=false/\o.grow=false/\dX C br M o.op=some x)\/(o.vD=false/\o.grow=true/\(M <+: x.2\/(o.sep≠[]/\wI br M x.2 o.sep))/\dX C br M o.op=some x):=by
 unfold oe at h;split at h
 ·grind [da]
 ·split at h
  ·exact .inr (.inl ⟨by assumption,by assumption,h⟩)
  ·obtain⟨y,hy,h⟩:=bg h
   grind [da]
theorem BP{C C':eB}(hC:va C C'){br:Env}{M:aH}{o:cQ}{x:ag×aH}(h:oe C o br M=some x):oe C' o br M=some x:=by
 grind [qV,oe,OI]
theorem Fz{c:Bool}{x:ag×aH}{k:Option Out}{o:Out}(h:A7 c x k=some o):(x.1.jx=false/\k=some o)\/∃v,c=true/\x.1 = .mw v/\o=⟨.mw v,[],x.2⟩:=by
 obtain⟨x,M⟩:=x
 cases x<;>first
  |exact .inl ⟨rfl,h⟩
  |(cases c
    ·cases h
    ·injection h with h; grind)
def FA{c:Bool}{x:ag×aH}{k:Option Out}(h:x.1.jx=false):A7 c x k=k:=by
 obtain⟨x,M⟩:=x;cases x<;>first|rfl|cases h
theorem FC{c:Bool}{x:ag×aH}{k:Option Out}{v:Value}(hc:c=true)(h:x.1 = .mw v):A7 c x k=some ⟨.mw v,[],x.2⟩:=by
 grind [A7]
theorem o6{C:eB}{o:cQ}{r:List cQ}{br:Env}{M:aH}{x:Out}(h:fK C (o::r) br M=some x) :
  (∃y,(∀t want,o.guard=some (t,want)->iv br t = .bool want)/\oe C o br M=some y/\((y.1.jx=false/\fK C r (ph br o.dst y.1) y.2=some x)\/∃v,o.lets=true/\y.1 = .mw v/\x=⟨.mw v,[],y.2⟩)) \/
  (∃t want,o.guard=some (t,want)/\(iv br t = .bool (!want)\/iv br t = .tuple [])/\fK C r (ph br o.dst (.tuple [])) M=some x):=by
 unfold fK at h;split at h
 ·rename_i hg;obtain⟨y,hy,h⟩:=bg h
  grind [Fz]
 ·rename_i t want hg;split at h
  ·rename_i b hb;rcases jO h with ⟨h1,h2⟩|⟨h1,h2⟩
   ·obtain⟨y,hy,h2⟩:=bg h2
    grind [Fz]
   ·refine .inr ⟨t,want,hg,.inl ?_,h2⟩;cases b<;>cases want<;>simp_all
  ·grind
  grind
def qU{C:eB}{o:cQ}{r:List cQ}{br:Env}{M:aH}{y:ag×aH}(hg:∀t want,o.guard=some (t,want)->iv br t = .bool want)
  (hy:oe C o br M=some y):fK C (o::r) br M=A7 o.lets y (fK C r (ph br o.dst y.1) y.2):=by
 rw[fK];split
 ·rw[hy]; rfl
 simp_all
theorem vv{C:eB}{o:cQ}{r:List cQ}{br:Env}{M:aH}{t:Nat}{want:Bool}(hg:o.guard=some (t,want))
  (hb:iv br t = .bool (!want)\/iv br t = .tuple []):fK C (o::r) br M=fK C r (ph br o.dst (.tuple [])) M:=by
 rw[fK];simp[hg];rcases hb with hb|hb
 ·rw[hb]; cases want<;>simp
 grind
theorem sg{C C':eB}(hC:va C C'):∀ {ops:List cQ} {br:Env} {M:aH} {x:Out},fK C ops br M=some x->fK C' ops br M=some x
 | [],_,_,_,h=>h
 |o::r,br,M,x,h=>by
  rcases o6 h with ⟨y,h1,h2,h3⟩|⟨t,want,h1,h2,h3⟩
  ·rw[qU h1 (BP hC h2)];rcases h3 with ⟨h3,h4⟩|⟨v,h0,h3,rfl⟩
   ·rw[FA h3]; exact sg hC h4
   grind [FC]
  ·rw[vv h1 h2]; exact sg hC h3
theorem te{o:Out}{k:Env->aH->Option Out}{x:Out}(h:uh o k=some x):(o.e = .normal/\k o.br o.mem=some x)\/(o.e ≠ .normal/\x=o):=by
 grind [uh]
theorem tP{o:Out}{k:Env->aH->Option Out}(h:o.e = .normal):uh o k=k o.br o.mem:=by grind [uh]
theorem yQ{o:Out}{k:Env->aH->Option Out}(h:o.e ≠ .normal):uh o k=some o:=by
 simp[uh]
theorem uI{o:Out}{k k':Env->aH->Option Out}{x:Out}(hk:∀br M x,k br M=some x->k' br M=some x)(h:uh o k=some x):uh o k'=some x:=by
 grind [te,tP,yQ]
def xb{f g:Env->aH->Option Out}(hfg:∀br M x,f br M=some x->g br M=some x)(live:List Nat):∀n {br M x},iter f live n br M=some x->iter g live n br M=some x
 |0,_,_,_,h=>h
 |n+1,br,M,x,h=>by
  rw[iter] at *;obtain⟨a,ha,h⟩:=bg h;rw[hfg _ _ _ ha];exact uI (fun br M x h=>xb hfg _ n h) h
def vm{f:Env->aH->Option Out}(live:List Nat):∀n {br M x},iter f live n br M=some x->iter f live (n+1) br M=some x
 |0,_,_,_,h=>by cases h
 |n+1,br,M,x,h=>by
  rw[iter] at h ⊢;obtain⟨a,ha,h⟩:=bg h;rw[ha];exact uI (fun br M x h=>vm _ n h) h
theorem jF{C C':eB}(hC:va C C'):∀(c:cA){br:Env}{M:aH}{x:Out},eP C c br M=some x->eP C' c br M=some x
 | .skip,_,_,_,h=>h
 | .exit _,_,_,_,h=>h
 | .ret,_,_,_,h=>h
 | .region _ d _,br,M,x,h=>by
  simp[eP] at *;obtain⟨a,ha,h⟩:=bg h;rw[sg hC ha]; grind
 | .seq a b,br,M,x,h=>by
  simp[eP] at *;obtain⟨o,ho,h⟩:=bg h;rw[jF hC a ho];exact uI (fun br M x=>jF hC b) h
 | .cond c a b,br,M,x,h=>by
  simp[eP] at *;split
  ·rename_i t ht;simp[ht] at h;rcases jO h with ⟨rfl,h⟩|⟨rfl,h⟩
   ·exact jF hC a h
   ·exact jF hC b h
  grind
 | .block id c,br,M,x,h=>by
  simp[eP] at *;obtain⟨o,ho,h⟩:=bg h;rw[jF hC c ho]; grind
 | .loop _ c,br,M,x,h=>by
  obtain⟨n,hn⟩:=vn h;exact oV (fun n x=>vm _ n) (xb (fun br M x=>jF hC c) _ n hn)
theorem qQ(T:yz):∀n,va (jy T n) (jy T (n+1))
 |0,f,a,M,x,h=>by
  grind [jy]
 |n+1,f,a,M,x,h=>by
  rw[jy] at h ⊢;split
  ·grind
  ·rename_i hg;simp[hg] at h;split
   ·grind
   ·rename_i fn hf;simp only[hf] at h;split
    ·rename_i hl;rw[bh hl] at h;obtain⟨o,ho,h⟩:=bg h;rw[jF (qQ T n) _ ho]
     grind
    grind
def sH(T:yz){n m:Nat}(h:n<=m):va (jy T n) (jy T m):=by
 obtain⟨k,rfl⟩:=Nat.exists_eq_add_of_le h;induction k with
 |zero=>exact fun _ _ _ _ h=>h
 |succ k ih=>exact fun f a M x hx=>qQ T _ f a M x (ih (by simp) f a M x hx)
theorem IL(T:yz){br:Env}{M:aH}{o:cQ}{x:ag×aH}(h:oe (ar T) o br M=some x):∃n,oe (jy T n) o br M=some x:=by
 have key:∀y,dX (ar T) br M o.op=some y->∃n,dX (jy T n) br M o.op=some y:=by
  intro y hy;rcases Kj hy with h|⟨f,a,B,z,h1,h2⟩
  ·simp_all
  ·obtain⟨n,hn⟩:=vn h1
   grind
 rcases qV h with ⟨hn,hi,h1⟩|⟨hn,hg,h1⟩|⟨hn,hg,hp,h1⟩<;>obtain⟨n,h2⟩:=key _ h1
 ·grind [oe]
 ·grind [oe]
 grind [oe]
def vf(T:yz):∀ {ops:List cQ} {br:Env} {M:aH} {x:Out},fK (ar T) ops br M=some x->∃n,fK (jy T n) ops br M=some x
 | [],_,_,_,h=>⟨0,h⟩
 |o::r,br,M,x,h=>by
  rcases o6 h with ⟨y,h1,h2,h3⟩|⟨t,want,h1,h2,h3⟩
  ·obtain⟨n,hn⟩:=IL T h2;rcases h3 with ⟨h3,h4⟩|⟨v,h0,h3,rfl⟩
   ·obtain⟨m,hm⟩:=vf T h4;refine⟨max n m,?_⟩;rw[qU h1 (BP (sH T (Nat.le_max_left n m)) hn),FA h3];exact sg (sH T (Nat.le_max_right n m)) hm
   ·exact⟨n,by rw[qU h1 hn]; exact FC h0 h3⟩
  ·obtain⟨m,hm⟩:=vf T h3;exact⟨m,by rw[vv h1 h2]; exact hm⟩
def px(T:yz):∀(c:cA){br:Env}{M:aH}{x:Out},eP (ar T) c br M=some x->∃n,eP (jy T n) c br M=some x
 | .skip,_,_,_,h=>⟨0,h⟩
 | .exit _,_,_,_,h=>⟨0,h⟩
 | .ret,_,_,_,h=>⟨0,h⟩
 | .region ops d live,br,M,x,h=>by
  simp only[eP] at *;obtain⟨a,ha,h⟩:=bg h;obtain⟨n,hn⟩:=vf T ha;exact⟨n,by rw[hn]; exact h⟩
 | .seq a b,br,M,x,h=>by
  simp only[eP] at *;obtain⟨o,ho,h⟩:=bg h;obtain⟨n,hn⟩:=px T a ho;rcases te h with ⟨h1,h2⟩|⟨h1,h2⟩
  ·obtain⟨m,hm⟩:=px T b h2;refine⟨max n m,?_⟩;rw[jF (sH T (Nat.le_max_left n m)) a hn,bT,tP h1];exact jF (sH T (Nat.le_max_right n m)) b hm
  ·exact⟨n,by rw[hn,bT,yQ h1,h2]⟩
 | .cond c a b,br,M,x,h=>by
  simp only[eP] at *;split at h
  ·rename_i t ht;rcases jO h with ⟨rfl,h⟩|⟨rfl,h⟩
   ·obtain⟨n,hn⟩:=px T a h; exact⟨n,hn⟩
   ·obtain⟨n,hn⟩:=px T b h; exact⟨n,hn⟩
  ·cases h
 | .block id c,br,M,x,h=>by
  simp only[eP] at *;obtain⟨o,ho,h⟩:=bg h;obtain⟨n,hn⟩:=px T c ho;exact⟨n,by rw[hn]; exact h⟩
 | .loop live c,br,M,x,h=>by
  simp only[eP] at *;obtain⟨k,hk⟩:=vn h
  have:∀k br M,iter (eP (ar T) c) live k br M=some x->∃n,iter (eP (jy T n) c) live k br M=some x:=by
   intro k;induction k with
   |zero=>intro br M h; cases h
   |succ k ih =>
    intro br M h;rw[iter] at h;obtain⟨a,ha,h⟩:=bg h;obtain⟨n,hn⟩:=px T c ha;rcases te h with ⟨h1,h2⟩|⟨h1,h2⟩
    ·obtain⟨m,hm⟩:=ih _ _ h2;refine⟨max n m,?_⟩;rw[iter,jF (sH T (Nat.le_max_left n m)) c hn,bT,tP h1];exact xb (fun br M x=>jF (sH T (Nat.le_max_right n m)) c) live k hm
    ·exact⟨n,by rw[iter,hn,bT,yQ h1,h2]⟩
  obtain⟨n,hn⟩:=this k br M hk;exact⟨n,oV (fun n x=>vm live n) hn⟩
def IH(C:eB)(live:List Nat)(c:cA)(br:Env)(M:aH) :
  eP C (.loop live c) br M=bI (eP C c (lF br live) M) fun o=>uh o fun e m=>eP C (.loop live c) (yF M.length m (lF e live)) (lA M.length m):=by
 apply Option.ext;intro x;constructor
 ·intro h;obtain⟨n,hn⟩:=vn (show lim (fun n=>iter (eP C c) live n br M)=some x from h)
  cases n with
  |zero=>cases hn
  |succ n =>
   rw[iter] at hn;obtain⟨o,ho,hn⟩:=bg hn;rw[ho,bT];exact uI (fun br M x hx=>oV (fun n x=>vm live n) hx) hn
 ·intro h;obtain⟨o,ho,h⟩:=bg h;rcases te h with ⟨h1,h2⟩|⟨h1,h2⟩
  ·obtain⟨n,hn⟩:=vn (show lim (fun n=>iter (eP C c) live n (yF M.length o.mem (lF o.br live)) (lA M.length o.mem))=some x from h2)
   refine oV (F:=fun n=>iter (eP C c) live n br M) (n:=n+1) (fun n x=>vm live n) ?_
   show iter (eP C c) live (n+1) br M=some x
   rw[iter,ho,bT,tP h1];exact hn
  ·refine oV (F:=fun n=>iter (eP C c) live n br M) (n:=1) (fun n x=>vm live n) ?_
   show iter (eP C c) live 1 br M=some x
   rw[iter,ho,bT,yQ h1,h2]
def IE{T:yz}{f:Nat}{fn:dY}{args:List ag}{M:aH}{x:ag×aH}(hp:T.mQ f=none)(hc:T.code f=some fn)(hl:args.length=fn.nparams)
  (h:bI (eP (ar T) fn.body (fq 0 args) M) (finish fn.results M.length)=some x):ar T f args M=some x:=by
 obtain⟨o,hb,hf⟩:=bg h;obtain⟨n,hn⟩:=px T fn.body hb;refine oV (n:=n+1) (fun n x h=>qQ T n f args M x h) ?_
 rw[jy];simp only[hp,hc,bh hl,hn,bT];exact hf
def eX{T:yz}{f:Nat}{g:List ag->aH->Option (ag×aH)}{args:List ag}{M:aH}{x:ag×aH}(hp:T.mQ f=some g)(hg:g args M=some x):ar T f args M=some x:=by
 refine oV (n:=0) (fun n x h=>qQ T n f args M x h) ?_
 rw[jy];simp only[hp,hg]
inductive K where
 |seq (c:cA)
 |block (id:Nat)
 |loop (live:List Nat) (n:Nat) (c:cA)
noncomputable def kr(C:eB)(fn:List sb)(bQ:Nat):List K->Out->Option (ag×aH)
 | [],o=>finish fn bQ o
 | .seq c::k,o=>bI (uh o (eP C c)) (kr C fn bQ k)
 | .block id::k,o=>kr C fn bQ k (vE id o)
 | .loop live n c::k,o=>bI (uh o fun e m=>eP C (.loop live c) (yF n m (lF e live)) (lA n m)) (kr C fn bQ k)
noncomputable def eW(C:eB)(fn:List sb)(bQ:Nat)(k:List K)(c:cA)(br:Env)(M:aH):Option (ag×aH):=bI (eP C c br M) (kr C fn bQ k)
noncomputable def fQ(C:eB)(fn:List sb)(bQ:Nat)(k:List K)(live:List Nat)(ops:List cQ)(br:Env)(M:aH):Option (ag×aH) :=
 bI (fK C ops br M) fun o=>kr C fn bQ k (o.oq live)
noncomputable def lh(C:eB)(fn:List sb)(bQ:Nat)(k:List K)(live:List Nat)(c:Bool)(dst:Option Nat)(r:List cQ)(br:Env)(y:Option (ag×aH)):Option (ag×aH) :=
 bI y fun x=>bI (A7 c x (fK C r (ph br dst x.1) x.2)) fun o=>kr C fn bQ k (o.oq live)
noncomputable def gK(C:eB)(fn:List sb)(bQ:Nat)(k:List K)(live:List Nat)(g:ag)(want:Bool)(o:cQ)(r:List cQ)(br:Env)(M:aH):Option (ag×aH) :=
 match g with
 | .bool b=>xy (b==want) (lh C fn bQ k live o.lets o.dst r br (oe C o br M)) (fQ C fn bQ k live r (ph br o.dst (.tuple [])) M)
 | .tuple []=>fQ C fn bQ k live r (ph br o.dst (.tuple [])) M
 |_=>none
noncomputable def dW(C:eB)(fn:List sb)(bQ:Nat)(k:List K)(v:ag)(x y:cA)(br:Env)(M:aH):Option (ag×aH) :=
 match v with
 | .bool t=>xy t (eW C fn bQ k x br M) (eW C fn bQ k y br M)
 |_=>none
def pH{α β γ:Type}(x:Option α)(f:α->Option β)(g:β->Option γ):bI (bI x f) g=bI x fun a=>bI (f a) g:=by cases x<;>rfl
section
variable (C:eB) (fn:List sb) (bQ:Nat) (k:List K) (br:Env) (M:aH)
def Pg:eW C fn bQ k .skip br M=kr C fn bQ k ⟨.normal,br,M⟩:=rfl
def Pf(id:Nat):eW C fn bQ k (.exit id) br M=kr C fn bQ k ⟨.exit id,br,M⟩:=rfl
def Wm:eW C fn bQ k .ret br M=kr C fn bQ k ⟨.ret,br,M⟩:=rfl
def Wn(a b:cA):eW C fn bQ k (.seq a b) br M=eW C fn bQ (.seq b::k) a br M:=by
 unfold eW;rw[eP,pH];rfl
def MD(id:Nat)(c:cA):eW C fn bQ k (.block id c) br M=eW C fn bQ (.block id::k) c br M:=by
 unfold eW;rw[eP,pH];rfl
def Pe(c:gQ)(x y:cA):eW C fn bQ k (.cond c x y) br M=dW C fn bQ k (c.ev br) x y br M:=by
 unfold eW dW;rw[eP];cases c.ev br<;>simp[eW]
def Jp(ops:List cQ)(d:Bool)(live:List Nat):eW C fn bQ k (.region ops d live) br M=fQ C fn bQ k live ops br M:=by
 unfold eW fQ;rw[eP,pH];rfl
def bt(live:List Nat)(c:cA):eW C fn bQ k (.loop live c) br M=eW C fn bQ (.loop live M.length c::k) c (lF br live) M:=by
 unfold eW;rw[IH,pH];rfl
def T5(live:List Nat):fQ C fn bQ k live [] br M=kr C fn bQ k ⟨.normal,lF br live,M⟩:=rfl
def Nv(live:List Nat)(d:Option Nat)(op:ke)(g m:Bool)(s:List Nat)(st:Bool)(r:List cQ) :
  fQ C fn bQ k live (⟨d,op,none,g,m,s,st⟩::r) br M=lh C fn bQ k live (cQ.lets ⟨d,op,none,g,m,s,st⟩) d r br (oe C ⟨d,op,none,g,m,s,st⟩ br M):=by
 unfold fQ lh;rw[fK,pH]
def Nw(live:List Nat)(d:Option Nat)(op:ke)(t:Nat)(w g m:Bool)(s:List Nat)(st:Bool)(r:List cQ) :
  fQ C fn bQ k live (⟨d,op,some (t,w),g,m,s,st⟩::r) br M=gK C fn bQ k live (iv br t) w ⟨d,op,some (t,w),g,m,s,st⟩ r br M:=by
 unfold fQ gK;rw[fK];simp only;generalize iv br t=v;split
 ·rw[Nh,pH]; rfl
 ·rfl
 ·rename_i h1 h2
  first
   |rfl
   |(split
     ·rename_i b; exact absurd rfl (h1 b)
     ·exact absurd rfl h2
     ·rfl)
def TH(live:List Nat)(c:Bool)(d:Option Nat)(r:List cQ)(v:ag)(M':aH)(hv:v.jx=false):lh C fn bQ k live c d r br (some (v,M'))=fQ C fn bQ k live r (ph br d v) M':=by
 unfold lh;rw[bT,FA hv]; rfl
def YD(live:List Nat)(d:Option Nat)(r:List cQ)(v:Value)(M':aH):lh C fn bQ k live true d r br (some (.mw v,M'))=kr C fn bQ k ⟨.mw v,[],M'⟩:=rfl
def M7(d g f:_)(a m s1 s:_):cQ.lets ⟨d,.call f a,g,m,s1,s,true⟩=true:=rfl
def JN(d g f:_)(a m s1 s:_):cQ.lets ⟨d,.vx f a,g,m,s1,s,true⟩=true:=rfl
def JL(d g f:_)(a m s1 s:_):cQ.lets ⟨d,.AI f a,g,m,s1,s,true⟩=true:=rfl
def JM(d g f:_)(a m s1 s:_):cQ.lets ⟨d,.jc f a,g,m,s1,s,true⟩=true:=rfl
def JO(d g f:_)(m s1 s:_):cQ.lets ⟨d,.raise f,g,m,s1,s,true⟩=true:=rfl
def akp(live:List Nat)(o:cQ)(r:List cQ):gK C fn bQ k live (.bool true) true o r br M=lh C fn bQ k live o.lets o.dst r br (oe C o br M):=rfl
def akm(live:List Nat)(o:cQ)(r:List cQ):gK C fn bQ k live (.bool false) false o r br M=lh C fn bQ k live o.lets o.dst r br (oe C o br M):=rfl
def ako(live:List Nat)(o:cQ)(r:List cQ):gK C fn bQ k live (.bool true) false o r br M=fQ C fn bQ k live r (ph br o.dst (.tuple [])) M:=rfl
def akn(live:List Nat)(o:cQ)(r:List cQ):gK C fn bQ k live (.bool false) true o r br M=fQ C fn bQ k live r (ph br o.dst (.tuple [])) M:=rfl
def akq(live:List Nat)(w:Bool)(o:cQ)(r:List cQ):gK C fn bQ k live (.tuple []) w o r br M=fQ C fn bQ k live r (ph br o.dst (.tuple [])) M:=rfl
def Wx(x y:cA):dW C fn bQ k (.bool true) x y br M=eW C fn bQ k x br M:=rfl
def Ww(x y:cA):dW C fn bQ k (.bool false) x y br M=eW C fn bQ k y br M:=rfl
def aeI(c:cA):kr C fn bQ (.seq c::k) ⟨.normal,br,M⟩=eW C fn bQ k c br M:=rfl
def Hm(c:cA)(i:Nat):kr C fn bQ (.seq c::k) ⟨.exit i,br,M⟩=kr C fn bQ k ⟨.exit i,br,M⟩:=rfl
def JF(c:cA):kr C fn bQ (.seq c::k) ⟨.ret,br,M⟩=kr C fn bQ k ⟨.ret,br,M⟩:=rfl
def JE(c:cA)(v:Value):kr C fn bQ (.seq c::k) ⟨.mw v,br,M⟩=kr C fn bQ k ⟨.mw v,br,M⟩:=rfl
def Fl(id:Nat)(v:Value):kr C fn bQ (.block id::k) ⟨.mw v,br,M⟩=kr C fn bQ k ⟨.mw v,br,M⟩:=rfl
def Hk(live:List Nat)(n:Nat)(c:cA)(v:Value):kr C fn bQ (.loop live n c::k) ⟨.mw v,br,M⟩=kr C fn bQ k ⟨.mw v,br,M⟩:=rfl
def S0(id:Nat):kr C fn bQ (.block id::k) ⟨.normal,br,M⟩=kr C fn bQ k ⟨.normal,br,M⟩:=rfl
def Dw(id i:Nat):kr C fn bQ (.block id::k) ⟨.exit i,br,M⟩=if i=id then kr C fn bQ k ⟨.normal,br,M⟩ else kr C fn bQ k ⟨.exit i,br,M⟩:=by
 rw[kr]; simp only[vE]; split<;>rfl
def Fm(id:Nat):kr C fn bQ (.block id::k) ⟨.ret,br,M⟩=kr C fn bQ k ⟨.ret,br,M⟩:=rfl
def WQ(live:List Nat)(n:Nat)(c:cA):kr C fn bQ (.loop live n c::k) ⟨.normal,br,M⟩=eW C fn bQ k (.loop live c) (yF n M (lF br live)) (lA n M):=rfl
def Fo(live:List Nat)(n:Nat)(c:cA)(i:Nat):kr C fn bQ (.loop live n c::k) ⟨.exit i,br,M⟩=kr C fn bQ k ⟨.exit i,br,M⟩:=rfl
def Hl(live:List Nat)(n:Nat)(c:cA):kr C fn bQ (.loop live n c::k) ⟨.ret,br,M⟩=kr C fn bQ k ⟨.ret,br,M⟩:=rfl
def aeH(o:Out):kr C fn bQ [] o=finish fn bQ o:=rfl
end
def gn{q body:cA}(h:q=body)(C:eB)(fn:List sb)(bQ:Nat)(k:List K)(br:Env)(M:aH):eW C fn bQ k q br M=eW C fn bQ k body br M:=by rw[h]
def aw{T:yz}{f:Nat}{fn:dY}{args:List ag}{M:aH}{x:ag×aH}(h:eW (ar T) fn.results M.length [] fn.body (fq 0 args) M=some x)
  (hp:T.mQ f=none:=by exact rfl) (hc:T.code f=some fn:=by exact rfl) (hl:args.length=fn.nparams:=by exact rfl):ar T f args M=some x :=
 IE hp hc hl (by
  unfold eW at h;obtain⟨o,h1,h2⟩:=bg h;rw[h1]; exact h2)
end
section
open Go Go.RowKit
def bs(s:List UInt8):ByteArray:=⟨s.toArray⟩
structure J where
 f:Nat->Option Nat
 X:Nat->Nat->Prop
instance:CoeFun J (fun _=>Nat->Option Nat):=⟨J.f⟩
structure ng(j:J)(M:aH)(w:World)(b off:Nat):Prop where
 lt:b<w.heap.size
 ids:∀id,id<M.length->j id=some b->∃sz n,M[id]?=some (.tick sz n)/\off<n*sz
 nx:¬j.X b off
inductive fF(w:World)(ia:Nat->Nat->Prop):ag->Value->Prop where
 |bool (b:Bool):fF w ia (.bool b) (.bool b)
 |int (k:IntKind) (n:Int):fF w ia (.int k n) (.int k n)
 |str (s:List UInt8):fF w ia (.str s) (.string (bs s))
 |raw (v:Value) (h1:v.oneCell'=true):fF w ia (.raw v) v
 |slice (xs:List ag) (A:Option Addr) (len cap b off sz:Nat) (vs:Nat->Value) (hl:len=xs.length) (hc:len<=cap)
   (ha:xs≠[]->A=some ⟨b,off,none⟩) (hz:∀x,x∈xs->x.cells.length=sz)
   (hs:∀(i:Nat)(x:ag)(k:Nat)(c:ag),xs[i]?=some x->x.cells[k]?=some c->w.cell? ⟨b,off+(i*sz+k),none⟩=some (vs (i*sz+k))/\ia b (off+(i*sz+k)))
   (hr:∀(i:Nat)(x:ag)(k:Nat)(c:ag),xs[i]?=some x->x.cells[k]?=some c->fF w ia c (vs (i*sz+k))):fF w ia (.slice .sh xs) (.slice A len cap)
def Oz(j:J)(w:World)(k n t:Nat)(x:Bool)(v:Value):Prop :=
 (j k=none/\n=0/\∃A,v = .slice A 0 0/\(x=true->A=none)) \/
 ∃b cap vs,0<n/\j k=some b/\v = .slice (some ⟨b,0,none⟩) n cap/\w.heap[b]?=some (.cells vs t (0,0))/\cap<=vs.size/\n<=cap
def F5(j:J)(w:World)(k sz n:Nat)(v:Value):Prop :=
 (j k=none/\n=0/\∃A,v = .slice A 0 0) \/
 ∃b cap vs t,j k=some b/\v = .slice (some ⟨b,0,none⟩) n cap/\w.heap[b]?=some (.cells vs t (0,0))/\cap*sz<=vs.size/\n<=cap
def Bj(w:World)(ia:Nat->Nat->Prop)(x:ag)(v:Value):Prop :=
 match x with
 | .agg cs=>∃us:Array Value,v = .agg us/\cs.length=us.size/\∀(i:Nat)(c:ag)(u:Value),cs[i]?=some c->us[i]?=some u->fF w ia c u
 |x=>fF w ia x v
inductive fY(j:J)(M:aH)(w:World):ag->Value->Prop where
 |plain {x:ag} {v:Value} (h:fF w (ng j M w) x v):fY j M w x v
 |c0 (A:Option Addr):fY j M w (.slice .c0 []) (.slice A 0 0)
 |own {k:Nat} {xs:List ag} {v:Value} {sz n:Nat} (hk:M[k]?=some (.tick sz n)) (hn:xs.length<=n) (h:fF w (ng j M w) (.slice .sh xs) v)
   (ht:xs.length=n->F5 j w k sz n v):fY j M w (.slice (.own k) xs) v
 |agg {cs:List ag} {vs:Array Value} (hl:cs.length=vs.size) (h:∀(i:Nat)(c:ag)(v:Value),cs[i]?=some c->vs[i]?=some v->fY j M w c v):fY j M w (.agg cs) (.agg vs)
 |tuple {cs:List ag} {vs:Array Value} (hl:cs.length=vs.size) (h:∀(i:Nat)(c:ag)(v:Value),cs[i]?=some c->vs[i]?=some v->fY j M w c v):fY j M w (.tuple cs) (.tuple vs)
 |ptr {id off b:Nat} (hid:id<M.length) (hc:∃cs,M[id]?=some (.cells cs)) (hj:j id=some b):fY j M w (.ptr id off) (.pointer (some ⟨b,off,none⟩))
 |iP {cs:List ag} {b off:Nat} {vs:Nat->Value} (h:∀(k:Nat)(c:ag),cs[k]?=some c->w.cell? ⟨b,off+k,none⟩=some (vs k)/\ng j M w b (off+k)/\fF w (ng j M w) c (vs k)) :
   fY j M w (.iP cs) (.pointer (some ⟨b,off,none⟩))
 |func {f:Nat} {caps:List ag} {vs:Array Value} (hl:caps.length=vs.size) (h:∀(i:Nat)(c:ag)(v:Value),caps[i]?=some c->vs[i]?=some v->fY j M w c v) :
   fY j M w (.func f caps) (.func (.func f) #[] vs)
 |gP {id b:Nat} (hc:∃ks vs,M[id]?=some (.map ks vs)) (hj:j id=some b):fY j M w (.gP id) (.map (some b))
 |jq {id b:Nat} (hc:∃s p,M[id]?=some (.mc s p)) (hj:j id=some b):fY j M w (.jq id) (.pointer (some ⟨b,0,none⟩))
 |iL {ks vs:List ag} {b:Nat} {es:Array MapEntry} {clock:Nat} (hb:b<w.heap.size) (hf:∀i,i<M.length->j i≠some b) (hx:∀off,¬j.X b off) (hw:w.heap[b]?=some (.map es clock)) (hk:ks.length=es.size) (hv:vs.length=es.size)
   (hks:∀(i:Nat)(k:ag)(e:MapEntry),ks[i]?=some k->es[i]?=some e->fF w (ng j M w) k e.key) (hvs:∀(i:Nat)(v:ag)(e:MapEntry),vs[i]?=some v->es[i]?=some e->Bj w (ng j M w) v e.val) :
   fY j M w (.iL ks vs) (.map (some b))
 |cN {id ver sz lo hi:Nat} {v:Value} (h0:(∃b off c,v = .slice (some ⟨b,off,none⟩) (hi-lo) c/\hi-lo<=c)\/hi-lo=0/\∃A,v = .slice A 0 0) (hid:id<M.length) (hM:∀bx,M[id]?=some bx->bx.loose=true)
   (hv:∀sz' v' xs,M[id]?=some (.arr sz' v' xs)->ver<=v'/\(v'=ver->sz'=sz/\lo<=hi/\hi<=xs.length/\((xs=[]/\j id=none/\∃A,v = .slice A 0 0)\/∃b cap vs t,j id=some b/\v = .slice (some ⟨b,lo*sz,none⟩) (hi-lo) cap/\hi-lo<=cap/\w.heap[b]?=some (.cells vs t (0,0))/\(lo+cap)*sz<=vs.size))) :
   fY j M w (.cN id ver sz lo hi) v
 |iH {id ver i off:Nat} {v:Value} (h0:∃b o,v = .pointer (some ⟨b,o,none⟩)) (hid:id<M.length) (hM:∀bx,M[id]?=some bx->bx.loose=true)
   (hv:∀sz v' xs,M[id]?=some (.arr sz v' xs)->ver<=v'/\(v'=ver->i<xs.length/\∃b,j id=some b/\v = .pointer (some ⟨b,i*sz+off,none⟩))) :
   fY j M w (.iH id ver i off) v
 |pC {f:Nat} {fs:List ag} {vs:Array Value} (hl:fs.length=vs.size) (h:∀(i:Nat)(c:ag)(v:Value),fs[i]?=some c->vs[i]?=some v->Bj w (ng j M w) c v):fY j M w (.pC f fs) (.func (.func f) vs #[])
 |jE {t id off b:Nat} (hc:∃cs,M[id]?=some (.cells cs)) (hj:j id=some b):fY j M w (.jE t id off) (.iface t (.pointer (some ⟨b,off,none⟩)))
 |any (v:Value):fY j M w .any v
def RC(j:J)(M:aH)(w:World)(cs:List ag)(vs:Array Value):Prop :=
 cs.length=vs.size/\∀(i:Nat)(c:ag)(v:Value),cs[i]?=some c->vs[i]?=some v->fY j M w c v
def Holds(j:J)(M:aH)(w:World)(b:Nat):dv->Prop
 | .cells cs=>∃vs t,w.heap[b]?=some (.cells vs t (0,0))/\RC j M w cs vs
 | .tick _ _=>True
 | .map ks vs=>∃es clock,w.heap[b]?=some (.map es clock)/\ks.length=es.size/\vs.length=es.size/\(∀(i:Nat)(k:ag)(e:MapEntry),ks[i]?=some k->es[i]?=some e->fF w (ng j M w) k e.key) /\
   ∀(i:Nat)(v:ag)(e:MapEntry),vs[i]?=some v->es[i]?=some e->fY j M w v e.val
 | .mc s pos=>w.heap[b]?=some (.stringIter (bs s) pos)
 | .arr _ _ _=>True
 | .u6=>True
structure Rel(j:J)(M:aH)(w:World):Prop where
 inj:∀i i' b,i<M.length->i'<M.length->j i=some b->j i'=some b->i=i'
 lt:∀i b,i<M.length->j i=some b->b<w.heap.size
 fix:∀i bx,M[i]?=some bx->bx.fixed=true->∃b,j i=some b/\Holds j M w b bx
 tick:∀i sz n b,M[i]?=some (.tick sz n)->j i=some b->∃vs t,w.heap[b]?=some (.cells vs t (0,0))
 arr:∀i sz ver xs,M[i]?=some (.arr sz ver xs)->(xs=[]/\j i=none)\/∃b vs t,j i=some b/\w.heap[b]?=some (.cells vs t (0,0))/\xs.length*sz<=vs.size/\(∀x,x∈xs->x.cells.length=sz) /\
  ∀(q:Nat)(x:ag)(k:Nat)(c:ag),xs[q]?=some x->x.cells[k]?=some c->∃v,vs[q*sz+k]?=some v/\fF w (ng j M w) c v
 um:∀i b,i<M.length->j i=some b->∀off,¬j.X b off
 zC:∀b off,j.X b off->b<w.heap.size
def Rel.box{j:J}{M:aH}{w:World}(h:Rel j M w)(i:Nat)(cs:List ag)(hi:M[i]?=some (.cells cs)):∃b vs t,j i=some b/\w.heap[b]?=some (.cells vs t (0,0))/\cs.length=vs.size /\
  ∀(q:Nat)(c:ag)(v:Value),cs[q]?=some c->vs[q]?=some v->fY j M w c v:=by
 obtain⟨b,h1,vs,t,h2,h3⟩:=h.fix i _ hi rfl;exact⟨b,vs,t,h1,h2,h3.1,h3.2⟩
structure Ext(j:J)(M:aH)(w:World)(j':J)(M':aH)(w':World):Prop where
 len:M.length<=M'.length
 size:w.heap.size<=w'.heap.size
 os:w'.os=w.os
 tape:w'.tape=w.tape
 output:w'.output=w.output
 X:j'.X=j.X
 fix:∀i bx,M[i]?=some bx->bx.fixed=true->j' i=j i/\∃bx',M'[i]?=some bx'/\bx'.tag=bx.tag
 tick:∀i sz n,M[i]?=some (.tick sz n)->∃n',n<=n'/\M'[i]?=some (.tick sz n') /\
  (n'=n->j' i=j i/\∀b vs t,j i=some b->w.heap[b]?=some (.cells vs t (0,0))->∃vs',w'.heap[b]?=some (.cells vs' t (0,0))/\vs'.size=vs.size)
 arr:∀i sz ver xs,M[i]?=some (.arr sz ver xs)->(∃n',M'[i]?=some (.tick sz n'))\/∃ver' xs',M'[i]?=some (.arr sz ver' xs')/\ver<=ver' /\
  (ver'=ver->j' i=j i/\xs'.length=xs.length/\∀b vs t,j i=some b->w.heap[b]?=some (.cells vs t (0,0))->∃vs',w'.heap[b]?=some (.cells vs' t (0,0))/\vs'.size=vs.size)
 tags:∀(b:Nat)(vs:Array Value)(t:TypeId)(fr:Nat×Nat),w.heap[b]?=some (.cells vs t fr)->∃vs' fr',w'.heap[b]?=some (.cells vs' t fr')/\vs'.size=vs.size
 ia:∀b off,ng j M w b off->ng j' M' w' b off/\w'.cell? ⟨b,off,none⟩=w.cell? ⟨b,off,none⟩
 uo:∀b,b<w.heap.size->(∀i,i<M.length->j i≠some b)->w'.heap[b]?=w.heap[b]?/\∀i,i<M'.length->j' i≠some b
def Ax{a b:dv}(h:b.tag=a.tag)(ha:a.fixed=true):b.fixed=true:=by
 cases a<;>cases b<;>simp[dv.tag,dv.fixed] at * <;> omega
def EB{b:dv}(h:b.tag=0):∃cs,b = .cells cs:=by cases b<;>simp[dv.tag] at h; simp
def Y9{b:dv}(h:b.tag=1):∃ks vs,b = .map ks vs:=by cases b<;>simp[dv.tag] at h; simp
def NN{b:dv}(h:b.tag=2):∃s p,b = .mc s p:=by cases b<;>simp[dv.tag] at h; simp
theorem fF.mono{w w':World}{ia saf':Nat->Nat->Prop}(h:∀b off,ia b off->saf' b off/\w'.cell? ⟨b,off,none⟩=w.cell? ⟨b,off,none⟩)
  {x:ag} {v:Value} (hr:fF w ia x v):fF w' saf' x v:=by
 induction hr with
 |bool b=>simp[bool]
 |int k n=>exact .int k n
 |str s=>exact .str s
 |raw v h1=>exact .raw v h1
 |slice xs A len cap b off sz vs hl hc ha hz hs _ ih =>
  refine .slice _ A _ _ b _ _ _ hl hc ha hz (fun i x k c hx hk=>?_) ih
  grind
def Bj.mono{w w':World}{ia saf':Nat->Nat->Prop}(h:∀b off,ia b off->saf' b off/\w'.cell? ⟨b,off,none⟩=w.cell? ⟨b,off,none⟩)
  {x:ag} {v:Value} (hr:Bj w ia x v):Bj w' saf' x v:=by
 by_cases hag:∃cs,x = .agg cs
 ·obtain⟨cs,rfl⟩:=hag;obtain⟨us,h1,h2,h3⟩:=hr;exact⟨us,h1,h2,fun i c u hc hu=>(h3 i c u hc hu).mono h⟩
 ·cases x<;>first|exact absurd ⟨_,rfl⟩ hag|exact fF.mono h hr
section
variable {j j' j'':J} {M M' M'':aH} {w w' w'':World}
def Oz.mono{k n t:Nat}{x:Bool}{v:Value}(h:Oz j w k n t x v)(hj:j' k=j k)
  (hb:∀b vs t,j k=some b->w.heap[b]?=some (.cells vs t (0,0))->∃vs',w'.heap[b]?=some (.cells vs' t (0,0))/\vs'.size=vs.size):Oz j' w' k n t x v:=by
 rcases h with ⟨h1,h2,h3⟩|⟨b,cap,vs,h0,h1,h2,h3,h4,h5⟩
 ·exact .inl ⟨hj.trans h1,h2,h3⟩
 ·obtain⟨vs',h6,h7⟩:=hb b _ t h1 h3;exact .inr ⟨b,cap,vs',h0,hj.trans h1,h2,h6,by omega,h5⟩
def F5.mono{k sz n:Nat}{v:Value}(h:F5 j w k sz n v)(hj:j' k=j k)
  (hb:∀b vs t,j k=some b->w.heap[b]?=some (.cells vs t (0,0))->∃vs',w'.heap[b]?=some (.cells vs' t (0,0))/\vs'.size=vs.size):F5 j' w' k sz n v:=by
 rcases h with ⟨h1,h2,h3⟩|⟨b,cap,vs,t,h1,h2,h3,h4,h5⟩
 ·exact .inl ⟨hj.trans h1,h2,h3⟩
 ·obtain⟨vs',h6,h7⟩:=hb b _ t h1 h3;exact .inr ⟨b,cap,vs',t,hj.trans h1,h2,h6,by omega,h5⟩
theorem Ext.loose(hx:Ext j M w j' M' w'){id:Nat}(hid:id<M.length)(hM:∀bx,M[id]?=some bx->bx.loose=true):(∀bx,M'[id]?=some bx->bx.loose=true) /\
  ∀sz v' xs,M'[id]?=some (.arr sz v' xs)->∃v0 xs0,M[id]?=some (.arr sz v0 xs0)/\v0<=v' /\
   (v'=v0->j' id=j id/\xs.length=xs0.length/\∀b vs t,j id=some b->w.heap[b]?=some (.cells vs t (0,0))->∃vs',w'.heap[b]?=some (.cells vs' t (0,0))/\vs'.size=vs.size):=by
 have h0:=ai hid;have hf:=hM _ h0;generalize M[id]=bx at h0 hf;cases bx with
 |cells=>cases hf
 |map=>cases hf
 |mc=>cases hf
 |u6=>cases hf
 |tick sz n =>
  obtain⟨n',h1,h2,h3⟩:=hx.tick _ _ _ h0;refine⟨fun bx hb=>?_,fun sz v' xs h=>?_⟩
  ·rw[h2] at hb; cases hb; rfl
  grind
 |arr sz v xs =>
  rcases hx.arr _ _ _ _ h0 with ⟨n',h2⟩|⟨v1,xs1,h2,h3,h4⟩
  ·refine⟨fun bx hb=>?_,fun sz v' xs h=>?_⟩
   ·rw[h2] at hb; cases hb; rfl
   grind
  ·refine⟨fun bx hb=>?_,fun sz' v' xs' h=>?_⟩
   ·rw[h2] at hb; cases hb; rfl
   grind
theorem fY.mono(hx:Ext j M w j' M' w'){x:ag}{v:Value}(hr:fY j M w x v):fY j' M' w' x v:=by
 induction hr with
 |plain h=>exact .plain (h.mono hx.ia)
 |c0 A=>exact .c0 A
 |own hk hn h ht =>
  obtain⟨n',h1,h2,h3⟩:=hx.tick _ _ _ hk;refine .own h2 (by omega) (h.mono hx.ia) (fun he=>?_)
  have:n'=_:=Nat.le_antisymm (by omega) h1
  obtain⟨h4,h5⟩:=h3 this;subst this;exact(ht he).mono h4 h5
 |agg hl _ ih=>exact .agg hl ih
 |tuple hl _ ih=>exact .tuple hl ih
 |ptr hid hc hj =>
  obtain⟨cs,hc⟩:=hc;obtain⟨h1,bx,h2,h3⟩:=hx.fix _ _ hc rfl;obtain⟨cs',rfl⟩:=EB h3;exact .ptr (bw hid hx.len) ⟨_,h2⟩ (h1.trans hj)
 | @iP cs b off vs h =>
  refine .iP (vs:=vs) fun k c hk=>?_
  obtain⟨h1,h2,h3⟩:=h k c hk;obtain⟨h4,h5⟩:=hx.ia _ _ h2;exact⟨h5.trans h1,h4,h3.mono hx.ia⟩
 |func hl _ ih=>exact .func hl ih
 |gP hc hj =>
  obtain⟨ks,vs,hc⟩:=hc;obtain⟨h1,bx,h2,h3⟩:=hx.fix _ _ hc rfl;obtain⟨ks',vs',rfl⟩:=Y9 h3;exact .gP ⟨_,_,h2⟩ (h1.trans hj)
 |jq hc hj =>
  obtain⟨ks,vs,hc⟩:=hc;obtain⟨h1,bx,h2,h3⟩:=hx.fix _ _ hc rfl;obtain⟨ks',vs',rfl⟩:=NN h3;exact .jq ⟨_,_,h2⟩ (h1.trans hj)
 |iL hb hf hxx hw hk hv hks hvs =>
  obtain⟨h1,h2⟩:=hx.uo _ hb hf;exact .iL (bw hb hx.size) h2 (by rw[hx.X]; omega) (h1.trans hw) hk hv (fun i k e h1 h2=>(hks i k e h1 h2).mono hx.ia) (fun i k e h1 h2=>(hvs i k e h1 h2).mono hx.ia)
 |cN hs hid hM hv =>
  obtain⟨g1,g2⟩:=hx.loose hid hM;refine .cN hs (bw hid hx.len) g1 fun sz v' xs h=>?_
  obtain⟨v0,xs0,h0,h1,h2⟩:=g2 sz v' xs h;obtain⟨h3,h4⟩:=hv sz v0 xs0 h0;refine⟨by omega,fun he=>?_⟩
  obtain⟨h5,h6,h7⟩:=h2 (by omega)
  obtain⟨l0,l1,l2,⟨rfl,l3,l4⟩|⟨b,cap,vs,t,l3,l4,l5,l6,l7⟩⟩:=h4 (by omega)
  ·exact⟨l0,l1,by omega,.inl ⟨dG (by omega),h5.trans l3,l4⟩⟩
  obtain⟨vs',l8,l9⟩:=h7 b vs t l3 l6;exact⟨l0,l1,by omega,.inr ⟨b,cap,vs',t,h5.trans l3,l4,l5,l8,by omega⟩⟩
 |iH hs hid hM hv =>
  obtain⟨g1,g2⟩:=hx.loose hid hM;refine .iH hs (bw hid hx.len) g1 fun sz v' xs h=>?_
  grind
 |pC hl h=>exact .pC hl fun i c v hc hv=>(h i c v hc hv).mono hx.ia
 |jE hc hj =>
  obtain⟨cs,hc⟩:=hc;obtain⟨h1,bx,h2,h3⟩:=hx.fix _ _ hc rfl;obtain⟨cs',rfl⟩:=EB h3;exact .jE ⟨_,h2⟩ (h1.trans hj)
 |any v=>exact .any v
def Holds.mono{b:Nat}{bx:dv}(hx:Ext j M w j' M' w')(hb:w'.heap[b]?=w.heap[b]?)(h:Holds j M w b bx):Holds j' M' w' b bx:=by
 cases bx with
 |cells cs =>
  obtain⟨vs,t,h1,h2,h3⟩:=h;exact⟨vs,t,hb.trans h1,h2,fun i c v hc hv=>(h3 i c v hc hv).mono hx⟩
 |tick=>trivial
 |map ks vs =>
  obtain⟨es,clock,h1,h2,h3,h4,h5⟩:=h;exact⟨es,clock,hb.trans h1,h2,h3,fun i k e hk he=>(h4 i k e hk he).mono hx.ia,fun i k e hk he=>(h5 i k e hk he).mono hx⟩
 |mc s pos=>exact hb.trans h
 |arr=>trivial
 |u6=>trivial
theorem Holds.lt{b:Nat}{bx:dv}(h:Holds j M w b bx)(hf:bx.fixed=true):∃o,w.heap[b]?=some o:=by
 cases bx with
 |cells cs=>obtain⟨vs,t,h1,_⟩:=h; grind
 |tick=>cases hf
 |map ks vs=>obtain⟨es,clock,h1,_⟩:=h; grind
 |mc s pos=>exact⟨_,h⟩
 |arr=>cases hf
 |u6=>cases hf
theorem Ext.refl(j:J)(M:aH)(w:World):Ext j M w j M w where
 len:=aC _
 size:=aC _
 os:=rfl
 tape:=rfl
 output:=rfl
 X:=rfl
 fix:=fun i bx h _=>⟨rfl,bx,h,rfl⟩
 tick:=fun i sz n h=>⟨n,aC _,h,fun _=>⟨rfl,fun b vs t _ h=>⟨vs,h,rfl⟩⟩⟩
 arr:=fun i sz v xs h => .inr ⟨v,xs,h,aC _,fun _=>⟨rfl,rfl,fun b vs t _ h=>⟨vs,h,rfl⟩⟩⟩
 tags:=fun b vs t fr h=>⟨vs,fr,h,rfl⟩
 ia:=fun b off h=>⟨h,rfl⟩
 uo:=fun b hb h=>⟨rfl,h⟩
theorem Ext.trans(h:Ext j M w j' M' w')(k:Ext j' M' w' j'' M'' w''):Ext j M w j'' M'' w'' where
 len:=aV h.len k.len
 size:=aV h.size k.size
 os:=k.os.trans h.os
 tape:=k.tape.trans h.tape
 output:=k.output.trans h.output
 X:=k.X.trans h.X
 fix:=fun i bx hi hf=>by
  obtain⟨h1,bx',h2,h3⟩:=h.fix i bx hi hf;have hf':bx'.fixed=true:=Ax h3 hf;obtain⟨h4,bx'',h5,h6⟩:=k.fix i bx' h2 hf'
  grind
 tick:=fun i sz n hi=>by
  obtain⟨n1,a1,a2,a3⟩:=h.tick i sz n hi;obtain⟨n2,b1,b2,b3⟩:=k.tick i sz n1 a2
  grind
 arr:=fun i sz v xs hi=>by
  rcases h.arr i sz v xs hi with ⟨n1,a1⟩|⟨v1,xs1,a1,a2,a3⟩
  ·obtain⟨n2,_,b2,_⟩:=k.tick i sz n1 a1
   grind
  ·rcases k.arr i sz v1 xs1 a1 with ⟨n2,b1⟩|⟨v2,xs2,b1,b2,b3⟩
   ·grind
   grind
 tags:=fun b vs t fr hb=>by
  obtain⟨vs1,fr1,h1,h2⟩:=h.tags b vs t fr hb;obtain⟨vs2,fr2,h3,h4⟩:=k.tags b vs1 t fr1 h1
  grind
 ia:=fun b off hs=>by
  obtain⟨h1,h2⟩:=h.ia b off hs;obtain⟨h3,h4⟩:=k.ia b off h1
  grind
 uo:=fun b hb hn=>by
  obtain⟨h1,h2⟩:=h.uo b hb hn;obtain⟨h3,h4⟩:=k.uo b (bw hb h.size) h2
  grind
theorem Ext.grow(hsz:w.heap.size<=w'.heap.size)(hos:w'.os=w.os)(ht:w'.tape=w.tape)(ho:w'.output=w.output)
  (hb:∀b,b<w.heap.size->w'.heap[b]?=w.heap[b]?):Ext j M w j M w' where
 len:=aC _
 size:=hsz
 os:=hos
 tape:=ht
 output:=ho
 X:=rfl
 fix:=fun i bx h _=>⟨rfl,bx,h,rfl⟩
 tick:=fun i sz n h=>⟨n,aC _,h,fun _=>⟨rfl,fun b vs t _ hv=>by
  grind⟩⟩
 arr:=fun i sz v xs h => .inr ⟨v,xs,h,aC _,fun _=>⟨rfl,rfl,fun b vs t _ hv=>by
  grind⟩⟩
 tags:=fun b vs t fr h=>by
  grind
 ia:=fun b off h=>⟨⟨bw h.1 hsz,h.2,h.3⟩,World.cell?_of_block (hb b h.1)⟩
 uo:=fun b cn h=>⟨hb b cn,h⟩
theorem Rel.grow(hr:Rel j M w)(hsz:w.heap.size<=w'.heap.size)(hos:w'.os=w.os)(ht:w'.tape=w.tape)(ho:w'.output=w.output)
  (hb:∀b,b<w.heap.size->w'.heap[b]?=w.heap[b]?):Rel j M w' where
 inj:=hr.inj
 lt:=fun i b hi h=>bw (hr.lt i b hi h) hsz
 fix:=fun i bx h hf=>by
  obtain⟨b,h1,h2⟩:=hr.fix i _ h hf;have hi  := (ak.1 h).1;exact⟨b,h1,h2.mono (Ext.grow hsz hos ht ho hb) (hb b (hr.lt i b hi h1))⟩
 tick:=fun i sz n b h hj=>by
  obtain⟨vs,t,h1⟩:=hr.tick i _ n b h hj
  grind
 arr:=fun i sz v xs h=>by
  rcases hr.arr i _ v _ h with he|⟨b,vs,t,h1,h2,h3,h4,h5⟩
  ·exact .inl he
  have hi  := (ak.1 h).1;refine .inr ⟨b,vs,t,h1,(hb b (hr.lt i b hi h1)).trans h2,h3,h4,fun q x k c hx hk=>?_⟩
  obtain⟨u,h6,h7⟩:=h5 q x k c hx hk;exact⟨u,h6,h7.mono (Ext.grow hsz hos ht ho hb).ia⟩
 um:=hr.um
 zC:=fun b off h=>bw (hr.zC b _ h) hsz
end
class kf where
 g:Nat->Option (List Value)
 q:Nat->Option (Value->Prop):=fun _=>none
 u8:Nat:=0
structure rT[kf](j:J)(M:aH)(w:World):Prop where
 g:∀b vs k v,kf.g b=some vs->vs[k]?=some v->ng j M w b k/\w.cell? ⟨b,k,none⟩=some v
 n:∀b vs,kf.g b=some vs->∃us t fr,w.heap[b]?=some (.cells us t fr)/\us.size=vs.length
 q:∀b p,kf.q b=some p->∃v,p v/\ng j M w b 0/\w.cell? ⟨b,0,none⟩=some v
theorem rT.ia[kf]{j j':J}{M M':aH}{w:World}(h:rT j M w)(hx:∀b off,ng j M w b off->ng j' M' w b off):rT j' M' w where
 g:=fun b vs k v hb hk=>⟨hx _ _ (h.g b _ k v hb hk).1,(h.g b _ k v hb hk).2⟩
 n:=h.n
 q:=fun b p hb=>by
  obtain⟨v,h0,h1,h2⟩:=h.q b p hb
  grind
theorem rT.mono[kf]{j j':J}{M M':aH}{w w':World}(h:rT j M w)(hx:Ext j M w j' M' w'):rT j' M' w' where
 g:=fun b vs k v hb hk=>by
  obtain⟨h1,h2⟩:=h.g b _ k v hb hk;obtain⟨h3,h4⟩:=hx.ia _ _ h1
  grind
 n:=fun b vs hb=>by
  obtain⟨us,t,fr,h1,h2⟩:=h.n b _ hb;obtain⟨us',fr',h3,h4⟩:=hx.tags b _ t _ h1
  grind
 q:=fun b p hb=>by
  obtain⟨v,h0,h1,h2⟩:=h.q b p hb;obtain⟨h3,h4⟩:=hx.ia _ _ h1
  grind
variable [kf]
structure cm(j:J)(M:aH)(w:World)(br:Env)(a:Act):Prop where
 at':∀t,fY j M w (iv br t) (a.tmps.getD t undef)
 gl:rT j M w
def cm.mono{j j':J}{M M':aH}{w w':World}{br:Env}{a:Act}(h:cm j M w br a)(hx:Ext j M w j' M' w'):cm j' M' w' br a :=
 ⟨fun t=>(h.at' t).mono hx,h.gl.mono hx⟩
def cm.put{j:J}{M:aH}{w:World}{br:Env}{a:Act}{n:Nat}(h:cm j M w br a)(hs:a.tmps.size=n){dst:Option Nat}(hd:∀d,dst=some d->d<n)
  {x:ag} {v:Value} (hv:fY j M w x v):cm j M w (ph br dst x) (a.put dst v):=by
 refine⟨fun t=>?_,h.gl⟩
 cases dst with
 |none=>exact h.at' t
 |some d =>
  simp[ph,iv,Act.put]
  by_cases he:d=t
  ·simp_all
  ·have:=h.at' t;simp_all
theorem yb(br:Env)(live:List Nat)(t:Nat):iv (lF br live) t=if t∈live then iv br t else .any:=by
 induction live<;>grind [lF,iv]
def cm.oq{j:J}{M:aH}{w:World}{br:Env}{a:Act}(h:cm j M w br a)(live:List Nat):cm j M w (lF br live) a:=by
 refine⟨fun t=>?_,h.gl⟩
 rw[yb];split
 ·exact h.at' t
 ·exact .any _
end
section
open Go
def IC:Value->Option ag
 | .bool b=>some (.bool b)
 | .int k n=>some (.int k n)
 | .string s=>some (.str s.data.toList)
 | .slice none 0 0=>some (.slice .c0 [])
 | .pointer none=>some (.raw (.pointer none))
 | .nilFunc=>some (.raw .nilFunc)
 | .nilIface=>some (.raw .nilIface)
 | .map none=>some (.raw (.map none))
 |_=>none
def sf:List Value->Option (List ag)
 | []=>some []
 |v::r=>(IC v).bind fun x=>(sf r).bind fun l=>some (x::l)
def OB:Value->Option ag
 | .agg vs=>(sf vs.toList).bind fun l=>some (.agg l)
 |v=>IC v
def Zv:Value->Option ag
 | .bool b=>some (.bool b)
 | .int k n=>some (.int k n)
 | .string s=>some (.str s.data.toList)
 | .pointer none=>some (.raw (.pointer none))
 | .nilIface=>some (.raw .nilIface)
 |_=>none
def OA:List Value->Option (List ag)
 | []=>some []
 |v::r=>(Zv v).bind fun x=>(OA r).bind fun l=>some (x::l)
variable [kf]
def er:Operand->Option gQ
 | .tmp t=>some (.tmp t)
 | .const v=>(OB v).bind fun x=>some (.kb x)
 | .func f=>some (.kb (.func f []))
 | .global g=>(kf.g g).bind fun vs=>(OA vs).bind fun l=>some (.kb (.iP l))
def OU:Operand->Option gQ
 | .func f=>some (.kb (.raw (.func (.func f) ⟨[]⟩ ⟨[]⟩)))
 |x=>er x
def wY(n:Nat):List (Nat×Operand)->Option (List (Nat×Nat×gQ))
 | []=>some []
 |(i,x)::r=>(er x).bind fun y=>(wY n r).bind fun l=>some ((i*n,n,y)::l)
def uz:List Operand->Option (List gQ)
 | []=>some []
 |x::r=>(er x).bind fun y=>(uz r).bind fun l=>some (y::l)
def Bm:Option Operand->Option (Option gQ)
 |none=>some none
 |some x=>(er x).bind fun y=>some (some y)
def pD(P:Program)(t:TypeId):Option Nat:=(P.info? t).bind fun i=>some i.size
def Bk(P:Program)(t:TypeId):Option Bool:=(P.underlying t).bind fun d=>some (match d with | .struct _ | .array _ _=>true|_=>false)
def zM(P:Program)(fs:Array Field):List (Nat×Operand)->Option (List (Nat×Nat×gQ))
 | []=>some []
 |(i,x)::r=>(fs[i]?).bind fun f=>(pD P f.type).bind fun n=>(er x).bind fun y=>(zM P fs r).bind fun l=>some ((f.offset,n,y)::l)
def Gl:Nat->List (Nat×Operand)->Option (List gQ)
 |_,[]=>some []
 |k,(i,x)::r=>if i=k then (er x).bind fun y=>(Gl (k+1) r).bind fun l=>some (y::l) else none
def Pq (P:Program) (f:Field):Option FK:=if f.name = "_" then none else match P.underlying f.type with
 |some .bool=>some .b
 |some (.int _)=>some .i
 |some .string=>some .s
 |_=>none
def AQ(P:Program):Nat->List Field->Option (List FK)
 |_,[]=>some []
 |k,f::r=>if f.offset=k then (Pq P f).bind fun x=>(AQ P (k+1) r).bind fun l=>some (x::l) else none
def CA(P:Program)(t:TypeId):Option FK:=match P.underlying t with
 |some .bool=>some .b
 |some (.int _)=>some .i
 |some .string=>some .s
 |_=>none
def Mg:BinOp->Option LS
 | .and=>some .and | .or=>some .or | .xor=>some .xor
 | .add=>some .add | .sub=>some .sub | .mul=>some .mul | .quo=>some .quo | .rem=>some .rem
 | .eql=>some .eql | .neq=>some .neq | .lss=>some .lss | .leq=>some .leq | .gtr=>some .gtr | .geq=>some .geq
 | .shl=>some .shl | .shr=>some .shr
 |_=>none
def lQ (P:Program) (f:Nat):Bool:=match P.funcs[f]? with|some fn=>fn.name != "runtime.NumGoroutine" && fn.body.isSome|none=>false
def OT(P:Program)(own:List Nat)(dst:Option Nat)(type:TypeId)(c:Call):Option ke :=
 match c.callee with
 | .value (.func f)=>if lQ P f then (uz c.args.toList).bind fun l=>some (if own.contains (1000000+f) then .AI f l else if own.contains (2000000+f) then .jc f l else if own.contains (8000000+f) then .vw f l else .call f l) else none
 | .value (.tmp t)=>(uz c.args.toList).bind fun l=>some (.vx (.tmp t) l)
 | .builtin .len=>match c.args.toList,(c.argTypes[0]?).bind P.underlying with
  | [x],some .string=>(er x).bind fun y=>some (.M4 y)
  | [x],some (.slice _)=>(er x).bind fun y=>some (.CC y)
  | [x],some (.map _ _)=>(er x).bind fun y=>some (.M1 y)
  |_,_=>none
 | .builtin .copy=>match c.args.toList,c.argTypes.toList with
  | [x,y],[t,t']=>match P.underlying t,P.underlying t' with
   |some (.slice e),some (.slice _)=>(pD P e).bind fun n=>(er x).bind fun x=>(er y).bind fun y=>if 0<n then some (.DH n x y) else none
   |_,_=>none
  |_,_=>none
 | .builtin .append=>match c.args.toList,c.argTypes.toList with
  | [x,y],[t,t']=>match P.underlying t,P.underlying t' with
   |some (.slice e),some (.int _)=>(P.info? e).bind fun i=>i.zero.bind fun z=>(sf z.cells.toList).bind fun l=>(er x).bind fun x=>(er y).bind fun y =>
    if l.length=i.size/\0<i.size/\0<i.bytes/\i.bytes<=2 ^ 20 then some (.wU i.size i.bytes (l.map ag.shut) x y) else none
   |some (.slice e),some (.slice _)=>(P.info? e).bind fun i=>(er x).bind fun x=>(er y).bind fun y =>
    if decide ((i.zero.map fun z=>z.cells.size)=some i.size)&&decide (0<i.size)&&decide (0<i.bytes)&&decide (i.bytes<=2 ^ 20) then some (match dst with|some d=>if own.contains (7000000+d) then .ve i.size i.bytes x y else .append i.size i.bytes x y|none => .append i.size i.bytes x y) else none
   |_,_=>none
  |_,_=>none
 | .builtin .clear=>match c.args.toList,c.argTypes.toList with
  | [x],[t]=>match P.underlying t with
   |some (.slice e)=>(P.info? e).bind fun i=>i.zero.bind fun z=>(sf z.cells.toList).bind fun l=>(er x).bind fun x =>
    if l.length=i.size/\0<i.size then some (.zN i.size (l.map ag.shut) x) else none
   |_=>none
  |_,_=>none
 | .builtin .max=>match c.args.toList with|[x,y]=>(er x).bind fun x=>(er y).bind fun y=>some (.yk true x y)|_=>none
 | .builtin .min=>match c.args.toList with|[x,y]=>(er x).bind fun x=>(er y).bind fun y=>some (.yk false x y)|_=>none
 |_=>none
def N5(P:Program)(own:List Nat)(o:Oper):Option ke :=
 match o.op with
 | .move x=>(er x).bind fun x=>some (.mv x)
 | .assign x=>(er x).bind fun x =>
  match o.dst with
  |some d=>if own.contains d then match P.underlying o.type with
    |some (.slice e)=>(pD P e).bind fun n=>match x with
     | .kb (.slice .c0 [])=>some (.own n x)
     |_=>some (.mv x)
    |_=>none
   else some (.mv x)
  |none=>some (.mv x)
 | .pick c a b=>(er c).bind fun c=>(er a).bind fun a=>(er b).bind fun b=>some (.pick c a b)
 | .alloc t=>(P.info? t).bind fun i=>i.zero.bind fun z=>(sf z.cells.toList).bind fun l =>
  match o.dst with
  |some d=>if own.contains (6000000+d) then (match P.underlying t,l with
    |some (.slice e),[.slice .c0 []]=>(pD P e).bind fun n=>some (.Md n)
    |_,_=>none) else some (.pq l)
  |none=>some (.pq l)
 | .box t x=>(er x).bind fun x=>some (.box x)
 | .build t parts=>match P.underlying t with
  |some (.struct fs)=>(P.info? t).bind fun i=>i.zero.bind fun z=>(sf z.cells.toList).bind fun l=>(zM P fs parts.toList).bind fun ps =>
   if fs.all (fun f=>(P.info? f.type).isSome) then some (.build l ps) else none
  |some (.array _ e)=>(P.info? t).bind fun i=>i.zero.bind fun z=>(sf z.cells.toList).bind fun l=>(pD P e).bind fun n=>(wY n parts.toList).bind fun ps=>some (.build l ps)
  |_=>none
 | .buildSlice t len parts=>match P.underlying t with
  |some (.slice e)=>(P.info? e).bind fun i=>(Gl 0 parts.toList).bind fun l =>
   if l.length=len/\len*i.size<=2 ^ 24/\(i.zero.map fun z=>z.cells.size)=some i.size/\0<i.size then some (match o.dst with|some d=>if own.contains d then .CD i.size l else .lits i.size l|none => .lits i.size l) else none
  |_=>none
 | .load t x=>(Bk P t).bind fun g=>(pD P t).bind fun n=>(er x).bind fun x=>some (if g then .kN n x else .ic x)
 | .store t a x=>(pD P t).bind fun n=>(er a).bind fun a=>(er x).bind fun x=>some (match a with
  | .tmp s=>match own.find? (fun m=>decide (1000000000<=m)&&decide (m % 1000=s)) with
   |some m => .Av (m / 1000000 % 1000) (m / 1000 % 1000) n a x
   |none => .store n a x
  |_ => .store n a x)
 | .nilCheck x=>(er x).bind fun x=>some (.V1 x)
 | .binOp op t x y _=>(er x).bind fun x=>(er y).bind fun y=>match P.underlying t with
  |some (.int _)|some .string=>(Mg op).bind fun b=>some (.bin b x y)
  |some .bool=>match op with
   | .eql=>some (.eqB false x y)
   | .neq=>some (.eqB true x y)
   |_=>none
  |some (.struct fs)=>if P.stoodInHeld t then none else (AQ P 0 fs.toList).bind fun ks=>match op with
   | .eql=>some (.Wc ks false x y)
   | .neq=>some (.Wc ks true x y)
   |_=>none
  |some (.array len e)=>match P.underlying e,op with
   |some (.int _),.eql=>if pD P e=some 1 then some (.Wc (List.replicate len .i) false x y) else none
   |_,_=>none
  |_=>none
 | .unOp .not _ x=>(er x).bind fun x=>some (.not x)
 | .unOp .neg _ x=>(er x).bind fun x=>some (.neg x)
 | .convert s d x=>(er x).bind fun x=>match P.underlying s,P.underlying d with
  |some (.int _),some (.int k)=>some (.conv k x)
  |some .string,some .string=>some (.same x)
  |some (.slice e),some .string=>match P.underlying e with|some (.int .u8)=>some (.b2s x)|_=>none
  |_,_=>none
 | .makeFunc (.func f) first caps=>if first.isEmpty then (uz caps.toList).bind fun l=>some (.fn f l) else if caps.isEmpty then (uz first.toList).bind fun l=>some (.BW f l) else none
 | .slice t x lo hi mx=>(er x).bind fun x=>(Bm lo).bind fun lo=>(Bm hi).bind fun hi=>(Bm mx).bind fun mx=>match P.underlying t with
  |some .string=>if mx.isNone then some (.wK x lo hi) else none
  |some (.slice e)=>(pD P e).bind fun n=>if 0<n/\(mx.isNone\/hi.isSome) then some (.yt n x lo hi mx) else none
  |_=>none
 | .fieldAddr s x f=>match P.underlying s with
  |some (.struct fs)=>(fs[f]?).bind fun f=>(pD P f.type).bind fun n=>(er x).bind fun x=>if 0<n then some (.iR f.offset x) else none
  |_=>none
 | .field s x f=>match P.underlying s with
  |some (.struct fs)=>(fs[f]?).bind fun f=>(Bk P f.type).bind fun g=>(pD P f.type).bind fun n=>(er x).bind fun x=>some (if g then .zX f.offset n x else .zW f.offset x)
  |_=>none
 | .indexAddr t x i=>match P.underlying t with
  |some (.slice e)=>(pD P e).bind fun n=>(er x).bind fun x=>(er i).bind fun i=>if 0<n then some (.uJ n x i) else none
  |some (.array len e)=>(pD P e).bind fun n=>(er x).bind fun x=>(er i).bind fun i=>if 0<n then some (.wj len n x i) else none
  |_=>none
 | .index t x i=>match P.underlying t with
  |some .string=>(er x).bind fun x=>(er i).bind fun i=>some (.wk x i)
  |_=>none
 | .extract x i=>(er x).bind fun x=>some (.extract x i)
 | .call c=>OT P own o.dst o.type c
 | .makeMap _ none=>some .mkMap
 | .lookup t x i ok=>match P.underlying t with
  |some (.map k e)=>(CA P k).bind fun fk=>(P.info? e).bind fun ie=>ie.zero.bind fun zv=>(OB zv).bind fun z=>(er x).bind fun x=>(er i).bind fun i=>some (.look fk z ok x i)
  |_=>none
 | .mapUpdate t m k v=>match P.underlying t with
  |some (.map kt _)=>(CA P kt).bind fun fk=>(er m).bind fun m=>(er k).bind fun k=>(er v).bind fun v=>some (.gy fk m k v)
  |_=>none
 | .range t x=>match P.underlying t with
  |some .string=>(er x).bind fun x=>some (.NH x)
  |_=>none
 | .next it true=>(er it).bind fun it=>some (.Ei it)
 | .makeInterface t x=>(er x).bind fun x=>match P.underlying t with
  |some (.interface _)=>none
  |some _=>some (.iface t x)
  |none=>none
 | .panic x=>(er x).bind fun x=>some (.raise x)
 | .insert t m k v=>match P.underlying t with
  |some (.map kt _)=>(CA P kt).bind fun fk=>(er m).bind fun m=>(er k).bind fun k=>(OU v).bind fun v=>some (.gy fk m k v)
  |_=>none
 | .makeSlice t (.tmp x) (.tmp y)=>match P.underlying t with
  |some (.slice e)=>(P.info? e).bind fun i=>i.zero.bind fun z=>(sf z.cells.toList).bind fun l=>(er (.tmp x)).bind fun x' =>
   if x=y/\l.length=i.size/\0<i.size/\i.bytes<=8*i.size then some (match o.dst with|some d=>if own.contains (5000000+d) then .Nd (l.map ag.shut) x' else .mkS (l.map ag.shut) x'|none => .mkS (l.map ag.shut) x') else none
  |_=>none
 |_=>none
structure De where
 n:Nat
 own:List Nat:=[]
 lv:List (Nat×List Nat)
 lp:List (Nat×List Nat):=[]
def find(l:List (Nat×List Nat))(k:Nat):List Nat:=match l with
 | []=>[]
 |(i,x)::r=>if i=k then x else find r k
def ZF(n:Nat):Option Nat->Bool
 |some d=>decide (d<n)
 |none=>true
def Ks(P:Program)(A:De)(ops:Array Oper)(grow:Bool)(o:Oper):Option cQ :=
 (N5 P A.own o).bind fun op =>
  if ZF A.n o.dst then
   match o.guard with
   |none=>some { dst:=o.dst,op,guard:=none,grow }
   |some (k,want)=>((ops[k]?).bind (·.dst)).bind fun t=>if t<A.n then some { dst:=o.dst,op,guard:=some (t,want),grow } else none
  else none
def sX(P:Program)(A:De)(ops:Array Oper)(grow:List Bool):List Oper->Option (List cQ)
 | []=>some []
 |o::r=>(Ks P A ops (grow.headD false) o).bind fun x=>(sX P A ops grow.tail r).bind fun l=>some (x::l)
def nh:Code->Nat
 | .region id _ _=>id
 | .seq a _=>nh a
 | .block _ c=>nh c
 | .loop c=>nh c
 | .cond _ a _=>nh a
 |_=>0
def gQ.kQ:gQ->List Nat
 | .tmp t=>[t]
 | .kb _=>[]
def Aj:Option gQ->List Nat
 |some x=>x.kQ
 |none=>[]
def ke.kQ:ke->List Nat
 | .mv x | .own _ x | .box x | .kN _ x | .ic x | .V1 x | .not x | .neg x | .conv _ x | .same x | .iR _ x | .zX _ _ x | .zW _ x | .extract x _ | .M4 x | .CC x | .b2s x | .M1 x | .NH x | .Ei x | .zN _ _ x | .iface _ x | .raise x | .mkS _ x | .Nd _ x=>x.kQ
 | .pick c a b=>c.kQ++(a.kQ++b.kQ)
 | .pq _ | .mkMap | .Md _=>[]
 | .build _ ps=>ps.flatMap fun p=>p.2.2.kQ
 | .lits _ ps | .CD _ ps=>ps.flatMap gQ.kQ
 | .store _ a x | .Av _ _ _ a x=>a.kQ++x.kQ
 | .gy _ m k v=>m.kQ++(k.kQ++v.kQ)
 | .bin _ x y | .look _ _ _ x y | .Wc _ _ x y | .eqB _ x y | .uJ _ x y | .wj _ _ x y | .wk x y | .append _ _ x y | .ve _ _ x y | .yk _ x y | .wU _ _ _ x y | .DH _ x y=>x.kQ++y.kQ
 | .fn _ l | .BW _ l=>l.flatMap gQ.kQ
 | .wK x l h=>x.kQ++(Aj l++Aj h)
 | .yt _ x l h m=>x.kQ++(Aj l++(Aj h++Aj m))
 | .call _ l | .AI _ l | .jc _ l | .vw _ l=>l.flatMap gQ.kQ
 | .vx f l=>f.kQ++l.flatMap gQ.kQ
def ke.Qd:ke->Bool
 | .own .. | .CD .. | .Nd .. | .wU .. | .DH .. | .Md _ | .pq _ | .box _ | .store .. | .Av .. | .call .. | .vx .. | .AI .. | .jc .. | .vw .. | .zN .. | .append .. | .ve .. | .mkMap | .gy .. | .M1 _ | .NH _ | .Ei _=>true
 |_=>false
def ke.N8:ke->Bool
 | .kN .. | .ic _ | .look .. => true
 |_=>false
def cQ.reads(o:cQ):List Nat:=o.op.kQ++(match o.guard with|some (t,_)=>[t]|none=>[])
def wB(acc:List Nat):List Edge->Nat
 | []=>0
 |e::r=>if Region.binds .any e then wB acc r ||| (2 ^ e.on ||| (nth acc e.on).getD 0) else wB acc r
def BT:List Oper->List Nat->List Nat
 | [],acc=>acc
 |o::r,acc=>BT r (acc++[wB acc o.after.toList])
def pK(ops:List Oper):List Nat:=BT ops []
def ahead(bs:List Nat)(i k:Nat):Bool:=((nth bs k).getD 0).testBit i
def meet(x y:cQ):Bool :=
 (match x.dst with|some d=>y.reads.contains d||y.dst==some d|none=>false)||(match y.dst with|some d=>x.reads.contains d|none=>false)
def fenced(bs:List Nat)(l:List cQ)(k:Nat):Bool:=(List.range l.length).all fun i=>match nth l i with
 |some x => !x.op.N8||(if i<k then ahead bs i k else i==k||ahead bs k i)
 |none=>true
def ke.wm:ke->Bool
 | .call .. | .vx .. => true
 |_=>false
def ordered(bs:List Nat)(i k:Nat):Bool:=i==k||(if i<k then ahead bs i k else ahead bs k i)
def alone(bs:List Nat)(l:List cQ)(k:Nat):Bool:=(List.range l.length).any fun i=>match nth l i with
 |some x=>x.op.Qd && !ordered bs i k
 |none=>false
def ke.LJ:ke->Option Nat
 | .ic (.tmp z)=>some z
 | .kN _ (.tmp z)=>some z
 | .look _ _ _ (.tmp z) _=>some z
 |_=>none
def ke.aqe:ke->Bool
 | .store .. => true
 | .append .. | .ve .. => true
 |_=>false
def alj(l:List cQ)(i k z:Nat):Bool:=(List.range k).all fun p=>decide (p<i)||match nth l p with|some x=>x.dst != some z|none=>true
def Kb(bs:List Nat)(l:List cQ)(k:Nat):Bool:=(List.range l.length).all fun i=>i==k||(if i<k then (ahead bs i k||match nth l i with|some x => !x.op.Qd|none=>false) else ahead bs k i)
def LH(bs:List Nat)(l:List cQ)(k:Nat):List Nat:=(List.range k).filterMap fun i=>match nth l i with
 |some x=>if x.op.N8 && !ahead bs i k then x.op.LJ else none
 |none=>none
def BF(bs:List Nat)(l:List cQ)(k:Nat)(sep:List Nat):Bool:=(List.range l.length).all fun i=>match nth l i with
 |some x => !x.op.N8||i==k||(if i<k then (ahead bs i k||match x.op.LJ with|some z=>sep.contains z&&alj l i k z|none=>false) else ahead bs k i)
 |none=>true
def pc(bs:List Nat)(l:List cQ):Nat->List cQ->List cQ
 |_,[]=>[]
 |k,x::r=>{ x with grow:=x.op.Qd && !(x.op.wm&&alone bs l k) && !fenced bs l k,vD:=x.op.wm&&alone bs l k,sep:=if x.op.aqe && !fenced bs l k&&BF bs l k (LH bs l k) then LH bs l k else [],stop := !x.op.OV||Kb bs l k }::pc bs l (k+1) r
def cQ.tG(x:cQ):Bool:=x.op.Qd && !x.vD
def JU:ke->Bool
 | .ic (.kb _) | .kN _ (.kb _) | .look _ _ _ (.kb _) _=>false
 |_=>true
def AV(ops:Array Oper)(l:List cQ)(k:Nat):Bool:=match ops[k]?,nth l k with
 |some o,some y=>(match y.op with
  | .pq _=>(match o.op with | .alloc _=>true|_=>false)
  | .vw .. => (match o.op with | .call c=>(match c.callee with | .value (.func _)=>true|_=>false)|_=>false)
  |_=>false)&&y.guard.isNone
 |_,_=>false
def Fx(ops:Array Oper)(bs:List Nat)(l:List cQ):Bool:=(List.range l.length).all fun k=>match nth l k,ops[k]? with
 |some y,some o=>o.after.toList.all (fun e => !Region.binds .any e||decide (e.on<k))&&((!y.vD||y.op.wm)&&JU y.op)&&((!(y.tG && !y.grow)||fenced bs l k)&&(y.sep.isEmpty||BF bs l k y.sep)) &&
  ((!y.lets||Kb bs l k)&&(List.range k).all fun i=>match nth l i with
   |some x=>(!meet x y||ahead bs i k)&&(!(x.tG&&y.tG)||(ahead bs i k||(AV ops l i&&AV ops l k)))
   |none=>false)
 |_,_=>false
def Ai(ops:Array Oper)(l:List cQ):Option (List cQ) :=
 if Fx ops (pK ops.toList) (pc (pK ops.toList) l 0 l) then some (pc (pK ops.toList) l 0 l) else none
def comp(P:Program)(A:De):Code->Option cA
 | .skip=>some .skip
 | .region id ops draw=>if draw then
   (sX P { A with own:=A.own.filter (1000000 <= ·) } ops [] ops.toList).bind fun l0=>(Ai ops l0).bind fun l=>some (.region l true (find A.lv id))
  else (sX P A ops [] ops.toList).bind fun l=>some (.region l false (find A.lv id))
 | .seq a b=>(comp P A a).bind fun x=>(comp P A b).bind fun y=>some (.seq x y)
 | .cond c a b=>(er c).bind fun c=>(comp P A a).bind fun x=>(comp P A b).bind fun y=>some (.cond c x y)
 | .block id c=>(comp P A c).bind fun x=>some (.block id x)
 | .loop c=>(comp P A c).bind fun x=>some (.loop (find A.lp (nh c)) x)
 | .exit id=>some (.exit id)
 | .ret=>some .ret
 |_=>none
def Gk(P:Program):List ResultVar->Option (List sb)
 | []=>some []
 | .tmp t::r=>(Gk P r).bind fun l=>some (.tmp t::l)
 | .cell a t::r=>(Bk P t).bind fun g=>(pD P t).bind fun n=>(Gk P r).bind fun l=>some ((if g then .dB a n else .Zy a)::l)
def oS(P:Program)(A:De)(fn:Func):Option dY :=
 match fn.body with
 |none=>none
 |some c=>if fn.name != "runtime.NumGoroutine" /\ A.n=fn.ntmps/\fn.params.size+fn.nfree<=fn.ntmps then
   (comp P A c).bind fun b=>(Gk P fn.results.toList).bind fun r=>some { nparams:=fn.params.size+fn.nfree,results:=r,body:=b }
  else none
end
section
open Go
def amq(x:Operand)(s:Nat):Nat:=match x with
 | .tmp t=>s ||| (1 <<< t)
 |_=>s
def opB(ops:Array Oper)(o:Oper)(s:Nat):Nat :=
 let s:=match o.dst,o.guard with
  |some d,none=>if s.testBit d then s-(1 <<< d) else s
  |_,_=>s
 let s:=o.op.operands.toList.foldl (fun s x=>amq x s) s
 match o.guard with
 |some (k,_)=>match (ops[k]?).bind (·.dst) with
  |some t=>s ||| (1 <<< t)
  |none=>s
 |none=>s
def arJ(ops:Array Oper)(out:Nat):Nat :=
 let l:=ops.toList.foldr (opB ops) out
 let g:=ops.toList.foldl (fun g o=>match o.dst,o.guard with
  |some d,some _=>g ||| (1 <<< d)
  |_,_=>g) 0
 let d:=g ^^^ (g &&& out)
 l ^^^ (l &&& d)
def Lj:List (Nat×Nat)->Nat->Nat
 | [],_=>0
 |(i,x)::r,k=>if i=k then x else Lj r k
def y8(ret:Nat):Code->List (Nat×Nat)->Nat->Nat×List (Nat×Nat)×List (Nat×Nat)
 | .skip,_,out=>(out,[],[])
 | .region id ops _,_,out=>(arJ ops out,[(id,out)],[])
 | .seq a b,ex,out =>
  let y:=y8 ret b ex out
  let x:=y8 ret a ex y.1
  (x.1,x.2.1++y.2.1,x.2.2++y.2.2)
 | .cond c a b,ex,out =>
  let x:=y8 ret a ex out
  let y:=y8 ret b ex out
  (amq c (x.1 ||| y.1),x.2.1++y.2.1,x.2.2++y.2.2)
 | .block id c,ex,out=>y8 ret c ((id,out)::ex) out
 | .loop c,ex,_ =>
  let h1:=(y8 ret c ex 0).1
  let h2:=h1 ||| (y8 ret c ex h1).1
  let z:=y8 ret c ex h2
  let h3:=h2 ||| z.1
  (h3,z.2.1,(nh c,h3)::z.2.2)
 | .exit id,ex,_=>(Lj ex id,[],[])
 | .ret,_,_=>(ret,[],[])
 |_,_,out=>(out,[],[])
def aiK(n s:Nat):List Nat:=(List.range n).filter s.testBit
def DA(own:List Nat)(fn:Func):De:=match fn.body with
 |none=>{ n:=0,lv:=[] }
 |some c =>
  let r:=fn.results.toList.foldl (fun s x=>match x with
   | .tmp t=>s ||| (1 <<< t)
   | .cell t _=>s ||| (1 <<< t)) 0
  let z:=y8 r c [] r
  let f:=fun(p:Nat×Nat)=>(p.1,aiK fn.ntmps p.2)
  { n:=fn.ntmps,own:=own,lv:=z.2.1.map f,lp:=z.2.2.map f }
def cA.size:cA->Nat
 | .seq a b=>a.size+b.size+1
 | .cond _ a b=>a.size+b.size+1
 | .block _ a=>a.size+1
 | .loop _ a=>a.size+1
 | .region .. => 1
 | .skip=>1
 | .exit _=>1
 | .ret=>1
def cA.tI:cA->List cA
 | .seq a b => .seq a b::(a.tI++b.tI)
 | .cond c a b => .cond c a b::(a.tI++b.tI)
 | .block i a => .block i a::a.tI
 | .loop l a => .loop l a::a.tI
 |c=>[c]
def sub(c:cA)(i:Nat):cA:=(c.tI[i]?).getD .skip
def ref(r:cA)(i:Nat):cA->cA
 | .skip => .skip
 | .exit n => .exit n
 | .ret => .ret
 | .region .. => sub r i
 | .seq .. => sub r i
 | .cond .. => sub r i
 | .block .. => sub r i
 | .loop .. => sub r i
def Bs(r:cA)(i:Nat):cA->cA
 | .region a b c => .region a b c
 | .skip => .skip
 | .exit n => .exit n
 | .ret => .ret
 | .seq .. => sub r i
 | .cond .. => sub r i
 | .block .. => sub r i
 | .loop .. => sub r i
abbrev Hd(q b:cA):Prop:=∀(C:eB)(fn:List sb)(bQ:Nat)(k:List K)(br:Env)(M:aH),eW C fn bQ k q br M=eW C fn bQ k b br M
def Dn(e:Prop):cA->Prop
 | .region .. => True
 | .skip | .exit _ | .ret=>True
 | .seq .. => e
 | .cond .. => e
 | .block .. => e
 | .loop .. => e
def eqs(r:cA):Nat->cA->Prop
 |i,.seq a b=>Hd (sub r i) (.seq (Bs r (i+1) a) (ref r (i+1+a.size) b))/\(Dn (eqs r (i+1) a) a/\eqs r (i+1+a.size) b)
 |i,.cond c a b=>Hd (sub r i) (.cond c (ref r (i+1) a) (ref r (i+1+a.size) b))/\(eqs r (i+1) a/\eqs r (i+1+a.size) b)
 |i,.block n a=>Hd (sub r i) (.block n (ref r (i+1) a))/\eqs r (i+1) a
 |i,.loop n a=>Hd (sub r i) (.loop n (ref r (i+1) a))/\eqs r (i+1) a
 |i,.region a b c=>Hd (sub r i) (.region a b c)
 |_,.skip=>True
 |_,.exit _=>True
 |_,.ret=>True
def p6:∀c:cA,c.tI.length=c.size
 | .seq a b=>by simp[cA.tI,cA.size,p6 a,p6 b]
 | .cond _ a b=>by simp[cA.tI,cA.size,p6 a,p6 b]
 | .block _ a=>by simp[cA.tI,cA.size,p6 a]
 | .loop _ a=>by simp[cA.tI,cA.size,p6 a]
 | .region .. | .skip | .exit _ | .ret=>by simp[cA.tI,cA.size]
def af6(c:cA):c.tI[0]?=some c:=by cases c<;>simp[cA.tI]
def At(r:cA)(i:Nat)(c:cA):Prop:=∀j,j<c.size->r.tI[i+j]?=c.tI[j]?
def size_pos(c:cA):0<c.size:=by cases c<;>simp[cA.size]
def At.sub{r c:cA}{i:Nat}(h:At r i c):sub r i=c:=by
 have:=h 0 (size_pos c);rw[dg,af6] at this;simp[Abs.sub,this]
def At.ref{r c:cA}{i:Nat}(h:At r i c):ref r i c=c:=by
 cases c<;>first|rfl|exact h.sub
def At.Bs{r c:cA}{i:Nat}(h:At r i c):Bs r i c=c:=by
 cases c<;>first|rfl|exact h.sub
def Wg{e:Prop}{c:cA}(h:e):Dn e c:=by
 cases c<;>first|trivial|exact h
def At.two{r a b x:cA}{i:Nat}(h:At r i x)(hx:x.tI=x::(a.tI++b.tI))(hs:x.size=a.size+b.size+1):At r (i+1) a/\At r (i+1+a.size) b:=by
 refine⟨fun j hj=>?_,fun j hj=>?_⟩
 ·have:=h (j+1) (by omega)
  rw[hx,eb,bA (by rw[p6]; exact hj)] at this
  rw[<-this]; congr 1; omega
 ·have:=h (a.size+j+1) (by omega)
  rw[hx,eb,bz (by rw[p6]; omega),p6] at this
  rw[show a.size+j-a.size=j by omega] at this
  rw[<-this]; congr 1; omega
def At.one{r a x:cA}{i:Nat}(h:At r i x)(hx:x.tI=x::a.tI)(hs:x.size=a.size+1):At r (i+1) a:=by
 intro j hj;have:=h (j+1) (by omega)
 rw[hx,eb] at this;rw[<-this]; congr 1; omega
def G4{q b:cA}(h:q=b):Hd q b:=gn h
def ya(r:cA):∀(c:cA)(i:Nat),At r i c->eqs r i c
 | .seq a b,i,h=>by
  obtain⟨h1,h2⟩:=h.two (a:=a) (b:=b) rfl rfl;exact⟨G4 (by rw[h.sub,h1.Bs,h2.ref]),Wg (ya r a _ h1),ya r b _ h2⟩
 | .cond c a b,i,h=>by
  obtain⟨h1,h2⟩:=h.two (a:=a) (b:=b) rfl rfl;exact⟨G4 (by rw[h.sub,h1.ref,h2.ref]),ya r a _ h1,ya r b _ h2⟩
 | .block n a,i,h=>by
  have h1:=h.one (a:=a) rfl rfl;exact⟨G4 (by rw[h.sub,h1.ref]),ya r a _ h1⟩
 | .loop n a,i,h=>by
  have h1:=h.one (a:=a) rfl rfl;exact⟨G4 (by rw[h.sub,h1.ref]),ya r a _ h1⟩
 | .region ..,_,h=>G4 h.sub
 | .skip,_,_=>trivial
 | .exit _,_,_=>trivial
 | .ret,_,_=>trivial
def agY(r:cA):At r 0 r:=fun j _=>by rw[aK]
def B4[kf](P:Program)(A:De):Code->Option cA
 | .skip=>some .skip
 | .region id ops draw=>if draw then
   (sX P { A with own:=A.own.filter (1000000 <= ·) } ops [] ops.toList).bind fun l=>some (.region (pc (pK ops.toList) l 0 l) true (find A.lv id))
  else (sX P A ops [] ops.toList).bind fun l=>some (.region l false (find A.lv id))
 | .seq a b=>(B4 P A a).bind fun x=>(B4 P A b).bind fun y=>some (.seq x y)
 | .cond c a b=>(er c).bind fun c=>(B4 P A a).bind fun x=>(B4 P A b).bind fun y=>some (.cond c x y)
 | .block id c=>(B4 P A c).bind fun x=>some (.block id x)
 | .loop c=>(B4 P A c).bind fun x=>some (.loop (find A.lp (nh c)) x)
 | .exit id=>some (.exit id)
 | .ret=>some .ret
 |_=>none
def ajj[kf](P:Program)(A:De)(fn:Func):Option cA:=match fn.body with
 |some c=>B4 P A c
 |none=>none
abbrev Cv[kf](P:Program)(A:De)(f:Func):={ g:cA // ajj P A f=some g }
def okc{o:Option dY}{n:Nat}{r:List sb}{c:cA}(h:o=some (dY.mk n r c)):o=some (dY.mk n r (sub c 0)):=by
 rw[h,(agY c).sub]
set_option linter.defProp false in
def xR:=bM @eqs.eq_1 (bM @eqs.eq_2 (bM @eqs.eq_3 (bM @eqs.eq_4 (bM @eqs.eq_5 (bM @eqs.eq_6 (bM @eqs.eq_7 (bM @eqs.eq_8 (bM @ref.eq_1 (bM @ref.eq_2 (bM @ref.eq_3 (bM @ref.eq_4 (bM @ref.eq_5 (bM @ref.eq_6 (bM @ref.eq_7 (bM @ref.eq_8 (bM @Bs.eq_1 (bM @Bs.eq_2 (bM @Bs.eq_3 (bM @Bs.eq_4 (bM @Bs.eq_5 (bM @Bs.eq_6 (bM @Bs.eq_7 (bM @Bs.eq_8 (bM @Dn.eq_1 (bM @Dn.eq_2 (bM @Dn.eq_3 (bM @Dn.eq_4 (bM @Dn.eq_5 (bM @Dn.eq_6 (bM @Dn.eq_7 (bM @Dn.eq_8 (bM @cA.size.eq_1 (bM @cA.size.eq_2 (bM @cA.size.eq_3 (bM @cA.size.eq_4 (bM @cA.size.eq_5 (bM @cA.size.eq_6 (bM @cA.size.eq_7 (bM @cA.size.eq_8 (bM @and_true (@true_and)))))))))))))))))))))))))))))))))))))))))
end
end Go.Abs
namespace Go.Proofs.YtahkjijkflobhaaGreatDoor
open Go Go.Abs
def GD:Value := .iface 177 (.agg #[.pointer (some ⟨2,70,none⟩)])
instance:kf where
 g:=fun b=>match b with
  |0=>some [GD]
  |_=>none
 u8:=5
def akl:Func:={ name := "",origin := "",params := #[],resultTypes := #[],nfree:=0,ntmps:=0,results := #[],body:=some .skip,norace:=false,tmpNames := #[] }
noncomputable def al7:Program:={ toTables:={ goVersion := "",platform := "",initOrder := "",godebug := "",types:=Tryz.types,rt:=Tryz.progTables.rt,cutTypes := #[],globals := #[],inits := #[],main:=0 },funcs:=⟨List.replicate 900 akl⟩ }
abbrev Ko(own:List Nat)(f:Func):=Cv al7 (DA own f) f
abbrev ub(own:List Nat)(f:Func)(c:dY):Prop:=oS Tryz.prog (DA own f) f=some c
section
open Go.ChangeShapes Go.WideShapes Go.RowKit
def arF:ownKnob Tryz.prog.godebug=none:=by kernel_rfl
abbrev S1:List (String×DataW Unit):=[("errors.errorType",Rows.laid_errors_errorType)]
def WC:J:=⟨fun _=>none,fun _ _=>False⟩
def arK(W:World):Rel WC [] W where
 inj:=fun _ _ _ h=>by cases h
 lt:=fun _ _ h=>by cases h
 fix:=fun _ _ h=>by cases h
 tick:=fun _ _ _ _ h=>by cases h
 arr:=fun _ _ _ _ h=>by cases h
 um:=fun _ _ h=>by cases h
 zC:=fun _ _ h=>h.elim
def Ku{w:World}{b off:Nat}{v:Value}(h:w.cell? ⟨b,off,none⟩=some v):b<w.heap.size:=by
 rcases bF b w.heap.size with hb|hb
 ·exact hb
 ·simp[World.cell?,gX hb] at h
def afl:((List.range Tryz.prog.types.size).filter fun t=>Tryz.prog.rowNamed t [101,114,114,111,114])=[70]:=by kernel_rfl
theorem rtK{a:Option Nat}{u n:Nat}(e:a=some u)(h:a=some n):n=u:=Option.some.inj (h.symm.trans e)
def akt{W:World}(hL:laidMetH Tryz.prog S1 W)(hsh:W.ShapedOpen Tryz.prog):rT WC [] W:=by
 have h':laidMet Tryz.prog [] W/\handlesMet Tryz.prog S1 W:=hL;obtain⟨name,u,ty,e1,e2,e3,e4,e5⟩:=h'.2 _ (bP.2 rfl);have en:name=[101,114,114,111,114]:=(nw e1).symm;subst en;obtain rfl:=rtK e2 (n:=177) (by kernel_rfl)
 have hm:ty∈(List.range Tryz.prog.types.size).filter fun t=>Tryz.prog.rowNamed t [101,114,114,111,114]:=cr.2 ⟨jb.2 e3,e4⟩
 rw[afl] at hm;obtain rfl:=bP.1 hm;rw[show typeHandle Tryz.prog 70 = .pointer (some ⟨2,70,none⟩) by kernel_rfl] at e5
 have hc:W.cell? ⟨0,0,none⟩=some GD:=by simpa[GD] using World.var?_cell (show Tryz.prog.globalNamed "errors.errorType" = some 0 by kernel_rfl) e5 0
 obtain⟨⟨zero,t'⟩,hz,he⟩:=aR.1 (show(((begin Tryz.prog (fun _ _=>0) default).world.heap[0]?).bind Obj.row?).map (fun x=>x.1.size)=some 1 by kernel_rfl)
 obtain⟨cs,h1,h2,_⟩:=hsh.1 0 zero t' (iB (by kernel_rfl)) hz
 refine⟨fun b vs k v hb hk=>?_,fun b vs hb=>?_,fun b p hb=>by cases hb⟩
 ·match b,hb with
  |0,hb =>
   cases hb
   match k,hk with
   |0,hk=>cases hk; exact⟨⟨Ku hc,fun id hid=>by simp at hid,fun h=>h⟩,hc⟩
 ·match b,hb with
  |0,hb=>cases hb; exact⟨cs,_,_,h1,h2.trans he⟩
noncomputable def xc(os:Os):World :=
 let w0:=World.holding Tryz.prog os ⟨#[],#[],[]⟩
 { w0 with heap:=w0.heap.modify 0 fun
   | .cells _ t frozen => .cells #[GD] t frozen
   |o=>o }
def S2(os:Os)(args:Array Value):laidMetH Tryz.prog S1 ((xc os).forCall (fun _ _=>0) ⟨#[],args,[]⟩).memory :=
 laidMetH_of_parts (laidMet_nil _ _) (by kernel_rfl)
end
end Go.Proofs.YtahkjijkflobhaaGreatDoor
