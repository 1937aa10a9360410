import Derived.Calls
import Derived.Laws.Sem
import Derived.Below
import Derived.Test.YtcbopkblmebjiaaGreatDoorProg
import Derived.Test.YtcbopkblmebjiaaGreatDoorCards
import Derived.ChangeSame
import Derived.ChangeVars
import Derived.JoinedOf
import Derived.RowKit
import Derived.RowKitTokens
import Derived.LaidLaws
import Derived.LaidHandle
import Derived.Stop.Joined
import Derived.Lib.LaidU8
import Derived.Deep.DeepHandedRow
import Derived.Deep.DeepWitnessRowRef
import Derived.ProofKit
import Derived.SizedLaws
import Derived.Carry
import Derived.OpenShut
import Derived.Deep.Slices
import Derived.Deep.Fields
import Derived.ChangeOld
import Derived.Shelf.Vars
import Derived.Lib.LaidIn
set_option linter.unusedSimpArgs false
set_option linter.unusedVariables false
set_option linter.unusedSectionVars false
set_option linter.defProp false
namespace Go
def bR{a b:Prop}(x:a)(y:b):=And.intro x y
def cW:=@Array.getD_eq_getD_getElem?
def cr:=@Array.getElem?_append_left
def bb:=@Array.getElem?_eq_getElem
def gX:=@Array.getElem?_eq_none
def fq:=@Array.getElem?_eq_some_iff
def ik:=@Array.getElem?_map
def fb:=@Array.getElem?_modify
def fL:=@Array.getElem?_push
def eW:=@Array.getElem?_setIfInBounds_ne
def gJ:=@Array.getElem?_setIfInBounds_self
def kV:=@Array.mapM_eq_mapM_toList
def jk:=@Array.replicate_succ
def jl:=@Array.replicate_zero
def fT:=@Array.size_append
def bn:=@Bool.and_eq_true
def dL:=@Bool.and_false
def pE:=@Bool.and_self
def eX:=@Bool.and_true
def mf:=@Bool.eq_false_iff
def eh:=@Bool.eq_iff_iff
def cf:=@Bool.false_and
def af:=@Bool.false_eq_true
def dg:=@Bool.false_or
def kx:=@Bool.not_eq_false
def gW:=@Bool.not_eq_true'
def fV:=@Bool.not_false
def cX:=@Bool.not_true
def jm:=@Bool.or_eq_false_iff
def cN:=@Bool.or_eq_true
def gq:=@Bool.or_false
def dI:=@Bool.or_self
def dJ:=@Bool.or_true
def bQ:=@Bool.true_and
def dK:=@Bool.true_or
def mg:=@Decidable.not_not
def cZ:=@Eq.trans
def fJ:=@Int.le_refl
def bg:=@Int.lt_irrefl
def lY:=@Int.lt_or_le
def fD:=@Int.natCast_nonneg
def gh:=@Int.natCast_zero
def mO:=@Int.not_lt
def bh:=@Int.toNat_natCast
def oc:=@Int.toNat_of_nonneg
def nv:=@List.Pairwise.filter
def j9:=@List.all_cons
def bw:=@List.all_eq_true
def da:=@List.append_assoc
def iy:=@List.append_cancel_left
def bW:=@List.append_nil
def jF:=@List.append_toArray
def fe:=@List.concat_eq_append
def aX:=@List.cons_append
def ki:=@List.countP_le_length
def oe:=@List.countP_pos_iff
def lg:=@List.dropWhile_cons
def cC:=@List.drop_eq_getElem_cons
def iQ:=@List.drop_eq_nil_of_le
def gM:=@List.drop_length
def oh:=@List.drop_succ_cons
def cp:=@List.eq_nil_of_length_eq_zero
def eI:=@List.eq_nil_or_concat
def lh:=@List.eq_of_mem_replicate
def ft:=@List.exists_cons_of_ne_nil
def cS:=@List.ext_getElem?
def kj:=@List.filterMap_append
def lj:=@List.filterMap_cons
def jY:=@List.filterMap_nil
def ib:=@List.filter_cons
def gv:=@List.filter_eq_self
def oj:=@List.filter_sublist
def eG:=@List.find?_eq_none
def jG:=@List.flatMap_append
def jH:=@List.flatMap_eq_nil_iff
def jo:=@List.foldl_append
def bB:=@List.foldl_cons
def gS:=@List.foldl_nil
def fu:=@List.getD_eq_getElem?_getD
def nw:=@List.getElem?_append
def bl:=@List.getElem?_append_left
def br:=@List.getElem?_append_right
def dB:=@List.getElem?_cons_succ
def dX:=@List.getElem?_cons_zero
def cI:=@List.getElem?_drop
def aj:=@List.getElem?_eq_getElem
def eJ:=@List.getElem?_eq_none
def aC:=@List.getElem?_eq_some_iff
def aZ:=@List.getElem?_map
def bO:=@List.getElem?_of_mem
def fM:=@List.getElem?_range
def jI:=@List.getElem?_replicate
def fz:=@List.getElem?_set_ne
def eA:=@List.getElem?_set_self
def gI:=@List.getElem?_take
def bF:=@List.getElem?_take_of_lt
def jL:=@List.getElem_mem
def jJ:=@List.getElem_of_mem
def iX:=@List.isPrefixOf_iff_prefix
def aK:=@List.length_append
def av:=@List.length_cons
def iU:=@List.length_drop
def ct:=@List.length_eq_zero_iff
def fN:=@List.length_filterMap_le
def fg:=@List.length_filter_le
def aI:=@List.length_map
def aH:=@List.length_nil
def iL:=@List.length_pos_iff
def ky:=@List.length_range
def ei:=@List.length_set
def gi:=@List.length_take
def bC:=@List.map_append
def bX:=@List.map_congr_left
def aW:=@List.map_cons
def fW:=@List.map_map
def bp:=@List.map_nil
def kW:=@List.map_set
def ka:=@List.map_take
def bT:=@List.mem_append
def eR:=@List.mem_append_left
def hZ:=@List.mem_append_right
def bc:=@List.mem_cons
def aP:=@List.mem_cons_of_mem
def aD:=@List.mem_cons_self
def eo:=@List.mem_filter
def jZ:=@List.mem_filterMap
def ic:=@List.mem_flatMap
def bS:=@List.mem_map
def aR:=@List.mem_of_getElem?
def dy:=@List.mem_of_mem_drop
def dn:=@List.mem_of_mem_take
def kX:=@List.mem_or_eq_of_mem_set
def fA:=@List.mem_range
def eS:=@List.mem_singleton
def aY:=@List.nil_append
def kB:=@List.nodup_append
def gZ:=@List.nodup_cons
def kK:=@List.nodup_nil
def dz:=@List.pairwise_append
def bG:=@List.pairwise_cons
def bU:=@List.pairwise_iff_getElem
def jr:=@List.pairwise_map
def j4:=@List.prefix_append
def ig:=@List.prefix_refl
def kC:=@List.push_toArray
def ny:=@List.range_eq_range'
def om:=@List.range_succ
def iM:=@List.replicate_succ
def nz:=@List.replicate_succ'
def cJ:=@List.size_toArray
def fh:=@List.takeWhile_cons
def dC:=@List.take_add_one
def cF:=@List.take_append_drop
def gw:=@List.take_append_of_le_length
def cT:=@List.take_length
def ck:=@List.take_of_length_le
def oo:=@List.take_succ_cons
def bP:=@Nat.add_mul
def cU:=@Nat.add_sub_cancel'
def iz:=@Nat.add_sub_cancel_left
def cV:=@Nat.add_zero
def kl:=@Nat.div_lt_iff_lt_mul
def fE:=@Nat.eq_zero_or_pos
def fx:=@Nat.le_mul_of_pos_right
def ar:=@Nat.le_refl
def iA:=@Nat.le_succ_of_le
def bj:=@Nat.le_trans
def iP:=@Nat.lt_irrefl
def bq:=@Nat.lt_of_lt_of_le
def bH:=@Nat.lt_or_ge
def iB:=@Nat.lt_trichotomy
def iI:=@Nat.mod_lt
def bf:=@Nat.mul_le_mul_right
def gr:=@Nat.ne_of_lt
def kb:=@Nat.not_lt_zero
def fK:=@Nat.one_mul
def lD:=@Nat.sub_mul
def bV:=@Nat.sub_zero
def lZ:=@Nat.succ_mul
def aQ:=@Nat.zero_add
def cA:=@Nat.zero_le
def je:=@Nat.zero_mul
def dD:=@Ne.symm
def cY:=@Option.bind_eq_some_iff
def nh:=@Option.getD_none
def bA:=@Option.getD_some
def lk:=@Option.isSome_iff_exists
def iZ:=@Option.isSome_none
def df:=@Option.isSome_some
def aO:=@Option.map_eq_some_iff
def lH:=@Option.map_none
def cB:=@Option.map_some
def dS:=@Option.some.inj
def iC:=@Option.some.injEq
def fF:=@Prod.ext
def km:=@UInt8.lt_iff_toNat_lt
def oq:=@UInt8.lt_irrefl
def iE:=@UInt8.toNat_inj
def kD:=@and_self
def bM:=@beq_eq_false_iff_ne
def dR:=@beq_iff_eq
def eu:=@beq_self_eq_true
def gj:=@bne_iff_ne
def an:=@bne_self_eq_false
def eL:=@decide_eq_false
def dq:=@decide_eq_false_iff_not
def oQ:=@decide_eq_true
def bu:=@decide_eq_true_eq
def nA:=@decide_true
def fi:=@eq_iff_iff
def ma:=@getElem!_pos
def aw:=@if_false
def ak:=@if_neg
def az:=@if_pos
def aE:=@if_true
def mh:=@iff_false
def jQ:=@iff_true
def mj:=@not_false_eq_true
def kL:=@not_or
def db:=@of_decide_eq_true
end Go
namespace Go.Abs
section
open Go
inductive Tk where
 |sh|c0|own (k:Nat)
 deriving DecidableEq,Repr
inductive ag where
 |bool (b:Bool)
 |int (k:IntKind) (n:Int)
 |str (s:List UInt8)
 |slice (tk:Tk) (xs:List ag)
 |agg (cs:List ag)
 |tuple (vs:List ag)
 |ptr (id off:Nat)
 |jg (cs:List ag)
 |func (f:Nat) (caps:List ag)
 |gH (id:Nat)
 |jA (id:Nat)
 |iG (ks vs:List ag)
 |dk (id ver sz lo hi:Nat)
 |iu (id ver i off:Nat)
 |sb (f:Nat) (fs:List ag)
 |jO (t id off:Nat)
 |raw (v:Value)
 |oC (v:Value)
 |any
 deriving Inhabited
def ag.jU:ag->Bool
 | .oC _=>true
 | .bool _ | .int .. | .str _ | .slice .. | .agg _ | .tuple _ | .ptr .. | .jg _ | .func .. | .gH _ | .jA _ | .iG .. | .dk .. | .iu .. | .sb .. | .jO .. | .raw _ | .any=>false
abbrev aG(n:Int):ag:=.int .i64 n
abbrev kJ(l:List ag):ag:=.slice .sh l
abbrev cL(n:Nat):ag:=.ptr n 0
inductive cD where
 |cells (cs:List ag)
 |tick (sz n:Nat)
 |map (ks vs:List ag)
 |nG (s:List UInt8) (pos:Nat)
 |arr (sz ver:Nat) (xs:List ag)
 |vq
def cD.tag:cD->Nat
 | .cells _=>0
 | .tick sz _=>sz+3
 | .map _ _=>1
 | .nG _ _=>2
 | .arr sz _ _=>sz+3
 | .vq=>3
def cD.fixed:cD->Bool
 | .tick _ _ | .arr _ _ _ | .vq=>false
 |_=>true
def cD.loose:cD->Bool
 | .tick _ _ | .arr _ _ _=>true
 |_=>false
abbrev cm(l:List ag):cD:=.cells l
abbrev aL:=List cD
abbrev Env:=List (Nat×ag)
def bJ{α β:Type}(x:Option α)(f:α->Option β):Option β:=match x with
 |some a=>f a
 |none=>none
@[congr] theorem Zf {α β:Type} {x x':Option α} {f:α->Option β} (h:x=x'):bJ x f=bJ x' f:=by rw[h]
@[simp] theorem cd {α β:Type} (a:α) (f:α->Option β):bJ (some a) f=f a:=rfl
@[simp] theorem acY {α β:Type} (f:α->Option β):bJ none f=none:=rfl
def zo{α:Type}(b:Bool)(x y:Option α):Option α:=match b with
 |true=>x
 |false=>y
@[congr] theorem adT {α:Type} {b b':Bool} {x y:Option α} (h:b=b'):zo b x y=zo b' x y:=by rw[h]
@[simp] theorem va {α:Type} (x y:Option α):zo true x y=x:=rfl
@[simp] theorem nF {α:Type} (x y:Option α):zo false x y=y:=rfl
@[simp] theorem N9 {α β:Type} (b:Bool) (x y:Option α) (f:α->Option β):bJ (zo b x y) f=zo b (bJ x f) (bJ y f):=by cases b<;>rfl
open Classical in
noncomputable def cv{α:Type}(p:Prop)(x:Option α):Option α:=if p then x else none
@[congr] theorem Zh {α:Type} {p p':Prop} {x:Option α} (h:p=p'):cv p x=cv p' x:=by rw[h]
theorem gb{α:Type}{p:Prop}{x:Option α}(h:p):cv p x=x:=az h
@[simp] theorem KN {α:Type} (x:Option α):cv True x=x:=if_pos trivial
@[simp] theorem Zi {α:Type} (x:Option α):cv False x=none:=if_neg not_false
@[simp] theorem Zg {α β:Type} (p:Prop) (x:Option α) (f:α->Option β):bJ (cv p x) f=cv p (bJ x f):=by
 unfold cv; split<;>rfl
def ir:Env->Nat->ag
 | [],_ => .any
 |(k,v)::e,t=>if k=t then v else ir e t
def ag.cells:ag->List ag
 | .agg cs=>cs
 |x=>[x]
def ag.k6:ag->Bool
 | .agg _ | .tuple _ | .any | .oC _=>false
 | .raw v=>match v with | .agg _ | .tuple _=>false|_=>true
 |_=>true
def ag.cells?:ag->Option (List ag)
 | .agg cs=>some cs
 | .tuple _ | .any | .oC _=>none
 | .raw (.agg _)=>none
 |x=>some [x]
def ag.shut:ag->ag
 | .slice _ xs => .slice .sh xs
 |x=>x
def ag.gd:ag->ag
 | .slice _ xs => .slice .sh xs
 | .agg cs => .agg (cs.map ag.shut)
 |x=>x
def ag.plainCell:ag->Bool
 | .bool _ | .int .. | .str _=>true
 | .slice .sh _=>true
 | .raw v=>match v with | .pointer none | .nilFunc | .nilIface | .map none | .func _ ⟨[]⟩ ⟨[]⟩=>true|_=>false
 |_=>false
def ag.plain:ag->Bool
 | .agg cs=>cs.all ag.plainCell
 |x=>x.plainCell
def ag.js(bN:Nat)(M:aL):ag->ag
 | .slice (.own k) xs=>if k<bN then .slice (.own k) xs else .slice .sh xs
 | .ptr id off=>if id<bN then .ptr id off else .any
 | .gH id=>if id<bN then .gH id else .any
 | .jA id=>if id<bN then .jA id else .any
 | .dk id ver sz lo hi=>if id<bN then .dk id ver sz lo hi else match M[id]? with
  |some (.arr _ v xs)=>if v=ver then .slice .sh ((xs.take hi).drop lo) else .any
  |_ => .any
 | .iu id ver i off=>if id<bN then .iu id ver i off else .any
 | .jO t id off=>if id<bN then .jO t id off else .any
 | .func _ _ | .agg _ | .tuple _ => .any
 |x=>x
def ag.jC(bN:Nat)(M:aL):ag->ag
 | .func f caps => .func f (caps.map (ag.js bN M))
 |x=>x.js bN M
def ag.jR(bN:Nat)(M:aL):ag->ag
 | .agg cs => .agg (cs.map (ag.jC bN M))
 |x=>x.jC bN M
def ag.nW(bN:Nat)(M:aL):ag->ag
 | .tuple vs => .tuple (vs.map (ag.jR bN M))
 |x=>x.jR bN M
def cD.back(bN:Nat)(M:aL):cD->cD
 | .cells cs => .cells (cs.map (ag.jC bN M))
 | .tick sz n => .tick sz n
 | .map ks vs => .map ks (vs.map (ag.jR bN M))
 | .nG s p => .nG s p
 | .arr sz v xs => .arr sz v xs
 | .vq => .vq
def jS(bN:Nat)(M:aL):aL:=(M.take bN).map (cD.back bN M)
def vP(bN:Nat)(M:aL)(bt:Env):Env:=bt.map fun x=>(x.1,x.2.nW bN M)
def ag.jW(bN:Nat)(M:aL):ag->ag
 | .slice _ xs => .slice .sh xs
 | .gH id=>if id<bN then .gH id else match M[id]? with
  |some (.map ks vs)=>if vs.all ag.plain&&ks.all ag.plainCell then .iG ks vs else .any
  |_ => .any
 |x=>x.jC bN M
def ag.kc(bN:Nat)(M:aL):ag->ag
 | .agg cs => .agg (cs.map (ag.jW bN M))
 |x=>x.jW bN M
def ag.ml(bN:Nat)(M:aL):ag->ag
 | .tuple vs => .tuple (vs.map (ag.kc bN M))
 |x=>x.kc bN M
def ag.ia:ag->List Nat
 | .ptr id _ | .gH id | .jA id | .dk id _ _ _ _ | .iu id _ _ _=>[id]
 | .slice (.own k) _=>[k]
 | .jO _ id _=>[id]
 |_=>[]
def ag.mQ:ag->List Nat
 | .func _ caps=>caps.flatMap ag.ia
 |x=>x.ia
def ag.ids:ag->List Nat
 | .agg cs=>cs.flatMap ag.mQ
 |x=>x.mQ
def ag.Ed:ag->Bool
 | .func _ _ | .agg _ | .tuple _=>false
 |_=>true
def ag.vT:ag->Bool
 | .func _ caps=>caps.all ag.Ed
 | .agg _ | .tuple _=>false
 |_=>true
def ag.flat:ag->Bool
 | .agg cs=>cs.all ag.vT
 |x=>x.vT
def cD.flat:cD->Bool
 | .vq=>false
 | .cells cs=>cs.all ag.vT
 | .map _ vs=>vs.all ag.flat
 |_=>true
def ag.tZ(ρ:Nat->Nat):ag->ag
 | .ptr id off => .ptr (ρ id) off
 | .gH id => .gH (ρ id)
 | .jA id => .jA (ρ id)
 | .dk id v sz lo hi => .dk (ρ id) v sz lo hi
 | .iu id v i off => .iu (ρ id) v i off
 | .slice (.own k) xs => .slice (.own (ρ k)) xs
 | .jO t id off => .jO t (ρ id) off
 |x=>x
def ag.td(ρ:Nat->Nat):ag->ag
 | .func f caps => .func f (caps.map (ag.tZ ρ))
 |x=>x.tZ ρ
def ag.ry(ρ:Nat->Nat):ag->ag
 | .agg cs => .agg (cs.map (ag.td ρ))
 |x=>x.td ρ
def ag.BI(ρ:Nat->Nat):ag->ag
 | .tuple vs => .tuple (vs.map (ag.ry ρ))
 |x=>x.ry ρ
def ag.wJ:ag->Bool
 | .tuple vs=>vs.all ag.flat
 |x=>x.flat
def cD.ry(ρ:Nat->Nat):cD->cD
 | .cells cs => .cells (cs.map (ag.td ρ))
 | .map ks vs => .map ks (vs.map (ag.ry ρ))
 |b=>b
def cD.ids:cD->List Nat
 | .cells cs=>cs.flatMap ag.mQ
 | .map _ vs=>vs.flatMap ag.ids
 |_=>[]
def nth{α:Type}:List α->Nat->Option α
 | [],_=>none
 |a::_,0=>some a
 |_::l,n+1=>nth l n
def j6{α:Type}:List α->Nat->α->List α
 | [],_,_=>[]
 |_::l,0,x=>x::l
 |a::l,n+1,x=>a::j6 l n x
def lV:List Nat->List Nat->List Nat
 |a,[]=>a
 |a,x::r=>lV (if a.contains x then a else a++[x]) r
def sQ(M:aL):List Nat->List Nat
 | []=>[]
 |i::r=>(match nth M i with|some b=>b.ids|none=>[])++sQ M r
def lX(M:aL)(acc:List Nat):List Nat:=lV acc (sQ M acc)
def reach(M:aL)(l:List Nat):List Nat:=lX M (lX M (lX M (lV [] l)))
def iH:List Nat->Nat->Nat
 | [],_=>0
 |a::l,x=>if a=x then 0 else iH l x+1
def xk(ids:List Nat)(i:Nat):Nat:=(nth ids i).getD 0
def kh(M:aL)(ρ:Nat->Nat):List Nat->Option aL
 | []=>some []
 |i::r=>match nth M i with
  |some b=>if b.flat then bJ (kh M ρ r) fun l=>some (b.ry ρ::l) else none
  |none=>none
def mF(ids:List Nat)(M:aL):List Nat->aL->aL
 |i::r,b::l=>mF ids (j6 M i (b.ry (xk ids))) r l
 |_,_=>M
def ag.pt(M:aL):ag->ag
 | .dk id ver sz lo hi=>match nth M id with
  |some (.arr _ v xs)=>if v=ver then .slice .sh ((xs.take hi).drop lo) else .any
  |_ => .any
 |x=>x
def ag.yw(M:aL):ag->ag
 | .agg cs => .agg (cs.map (ag.pt M))
 |x=>x.pt M
def Af(M:aL):List Nat->aL
 | []=>M
 |i::r=>match nth M i with
  |some (.arr sz _ xs)=>Af (j6 M i (.tick sz xs.length)) r
  |_=>Af M r
inductive gQ where
 |tmp (t:Nat)
 |ll (v:ag)
def gQ.ev(bt:Env):gQ->ag
 | .tmp t=>ir bt t
 | .ll v=>v
inductive ML where
 |add|sub|mul|quo|rem|eql|neq|lss|leq|gtr|geq|shl|shr|and|or|xor
 deriving DecidableEq,Repr
inductive FK where
 |i|s|b
 deriving DecidableEq
inductive kI where
 |mv (x:gQ)
 |own (sz:Nat) (x:gQ)
 |pick (c a b:gQ)
 |sU (cs:List ag)
 |box (x:gQ)
 |build (zero:List ag) (parts:List (Nat×Nat×gQ))
 |lits (sz:Nat) (parts:List gQ)
 |EB (sz:Nat) (parts:List gQ)
 |nD (n:Nat) (x:gQ)
 |jv (x:gQ)
 |store (n:Nat) (a x:gQ)
 |AU (sz p n:Nat) (a x:gQ)
 |chk (x:gQ)
 |bin (op:ML) (x y:gQ)
 |XO (ks:List FK) (neg:Bool) (x y:gQ)
 |eqB (neg:Bool) (x y:gQ)
 |not (x:gQ)
 |neg (x:gQ)
 |conv (k:IntKind) (x:gQ)
 |same (x:gQ)
 |fn (f:Nat) (caps:List gQ)
 |DZ (f:Nat) (firsts:List gQ)
 |AO (x:gQ) (lo hi:Option gQ)
 |AP (sz:Nat) (x:gQ) (lo hi mx:Option gQ)
 |kG (off:Nat) (x:gQ)
 |CE (off n:Nat) (x:gQ)
 |CD (off:Nat) (x:gQ)
 |vU (sz:Nat) (x i:gQ)
 |Aj (n sz:Nat) (x i:gQ)
 |Al (x i:gQ)
 |extract (x:gQ) (i:Nat)
 |call (f:Nat) (args:List gQ)
 |vR (f:gQ) (args:List gQ)
 |A9 (f:Nat) (args:List gQ)
 |lP (f:Nat) (args:List gQ)
 |vQ (f:Nat) (args:List gQ)
 |z6 (sz:Nat) (zero:List ag) (x:gQ)
 |SH (x:gQ)
 |Ap (x:gQ)
 |append (sz bytes:Nat) (x y:gQ)
 |Ay (mx:Bool) (x y:gQ)
 |b2s (x:gQ)
 |mkMap
 |look (fk:FK) (zero:ag) (ok:Bool) (m k:gQ)
 |gy (fk:FK) (m k v:gQ)
 |N0 (m:gQ)
 |Ox (x:gQ)
 |ES (it:gQ)
 |iface (t:Nat) (x:gQ)
 |raise (x:gQ)
 |mkS (zero:List ag) (n:gQ)
 |N6 (zero:List ag) (n:gQ)
 |xg (sz bytes:Nat) (zero:List ag) (x n:gQ)
 |vt (sz bytes:Nat) (x y:gQ)
 |D5 (sz:Nat) (x y:gQ)
 |MZ (sz:Nat)
structure cQ where
 dst:Option Nat
 op:kI
 guard:Option (Nat×Bool)
 grow:Bool:=false
 wW:Bool:=false
 sep:List Nat:=[]
 stop:Bool:=true
def ob(d:Nat)(o:kI):cQ:=⟨some d,o,none,false,false,[],true⟩
def og(d g:Nat)(b:Bool)(o:kI):cQ:=⟨some d,o,some (g,b),false,false,[],true⟩
def ox(o:kI):cQ:=⟨none,o,none,false,false,[],true⟩
def kI.Pw:kI->Bool
 | .call .. | .vR .. | .A9 .. | .lP .. | .raise _=>true
 |_=>false
inductive cz where
 |skip
 |region (ops:List cQ) (draw:Bool) (live:List Nat)
 |seq (a b:cz)
 |cond (c:gQ) (x y:cz)
 |block (id:Nat) (c:cz)
 |loop (live:List Nat) (c:cz)
 |lU (live:List Nat) (c:cz)
 |exit (id:Nat)
 |ret
inductive Xy where
 |normal|exit (id:Nat)|ret|oC (v:Value)
abbrev eO:=Nat->List ag->aL->Option (ag×aL)
def strLt:List UInt8->List UInt8->Bool
 |_,[]=>false
 | [],_::_=>true
 |a::x,b::y=>a<b||(a==b&&strLt x y)
def akV(k:IntKind)(a b:Int):Int:=k.wrap (BitVec.ofInt k.bits a &&& BitVec.ofInt k.bits b).toNat
def ior(k:IntKind)(a b:Int):Int:=k.wrap (BitVec.ofInt k.bits a ||| BitVec.ofInt k.bits b).toNat
def akZ(k:IntKind)(a b:Int):Int:=k.wrap (BitVec.ofInt k.bits a ^^^ BitVec.ofInt k.bits b).toNat
def mL(b:UInt8):ag := .int .u8 b.toNat
def qk(op:ML):ag->ag->Option ag
 | .int k a,.int k' b =>
  match op with
  | .shl=>if 0<=b then some (.int k (k.wrap (a*2 ^ (min b.toNat k.bits)))) else none
  | .shr=>if 0<=b then some (.int k (a.fdiv (2 ^ (min b.toNat k.bits)))) else none
  |op=>if k≠k' then none else
   match op with
   | .add=>some (.int k (k.wrap (a+b)))
   | .sub=>some (.int k (k.wrap (a-b)))
   | .mul=>some (.int k (k.wrap (a*b)))
   | .quo=>if b=0 then none else some (.int k (k.wrap (a.tdiv b)))
   | .rem=>if b=0 then none else some (.int k (a.tmod b))
   | .eql=>some (.bool (a==b))
   | .neq=>some (.bool (a != b))
   | .lss=>some (.bool (a<b))
   | .leq=>some (.bool (a<=b))
   | .gtr=>some (.bool (a>b))
   | .geq=>some (.bool (a>=b))
   | .and=>some (.int k (akV k a b))
   | .or=>some (.int k (ior k a b))
   | .xor=>some (.int k (akZ k a b))
   |_=>none
 | .str a,.str b =>
  match op with
  | .add=>if ((a.length+b.length:Nat):Int)>IntKind.i64.max then none else some (.str (a++b))
  | .eql=>some (.bool (a==b))
  | .neq=>some (.bool (a != b))
  | .lss=>some (.bool (strLt a b))
  | .leq=>some (.bool (strLt a b||a==b))
  | .gtr=>some (.bool (!(strLt a b||a==b)))
  | .geq=>some (.bool (!(strLt a b)))
  |_=>none
 |_,_=>none
def il:FK->ag->ag->Option Bool
 | .i,.int k a,.int k' b=>if k=k' then some (a==b) else none
 | .s,.str a,.str b=>some (a==b)
 | .b,.bool a,.bool b=>some (a==b)
 |_,_,_=>none
def kO:List FK->List ag->List ag->Option Bool
 | [],[],[]=>some true
 |k::ks,a::x,b::y=>bJ (il k a b) fun e=>bJ (kO ks x y) fun f=>some (e&&f)
 |_,_,_=>none
def ag.norm:ag->ag
 | .agg [c]=>c
 |x=>x
def valOf:ag->Option Value
 | .int k n=>some (.int k n)
 | .agg [.int k n]=>some (.agg #[.int k n])
 |_=>none
def bytesOf:List ag->Option (List UInt8)
 | []=>some []
 | .int .u8 n::r=>bJ (bytesOf r) fun l=>some (UInt8.ofNat n.toNat::l)
 |_=>none
def uD(fk:FK)(k:ag):List ag->List ag->Option (Option ag)
 | [],[]=>some none
 |k'::ks,v::vs=>bJ (il fk k k') fun b=>zo b (some (some v)) (uD fk k ks vs)
 |_,_=>none
def sM(fk:FK)(k v:ag):List ag->List ag->Option (List ag×List ag)
 | [],[]=>bJ (il fk k k) fun _=>some ([k],[v])
 |k'::ks,v'::vs=>bJ (il fk k k') fun b=>zo b (some (k::ks,v::vs)) (bJ (sM fk k v ks vs) fun x=>some (k'::x.1,v'::x.2))
 |_,_=>none
def mC(zero:ag)(ok:Bool)(r:Option ag):ag:=match ok with
 |true => .tuple [r.getD zero,.bool r.isSome]
 |false=>r.getD zero
def mapOf(M:aL):ag->Option (List ag×List ag)
 | .gH id=>match nth M id with|some (.map ks vs)=>some (ks,vs)|_=>none
 | .iG ks vs=>some (ks,vs)
 |_=>none
def mH(cs:List ag)(off:Nat)(new:List ag):List ag:=cs.take off++(new++cs.drop (off+new.length))
def putCells(e:ag)(off:Nat)(new:List ag):ag:=match e,new with
 | .agg cs,new => .agg (mH cs off new)
 |_,[c]=>c
 |e,_=>e
def lu(bt:Env):List ag->List (Nat×Nat×gQ)->Option (List ag)
 |cs,[]=>some cs
 |cs,(off,n,x)::r =>
  bJ (x.ev bt).cells? fun new=>if new.length=n/\off+n<=cs.length then lu bt (mH cs off new) r else none
def sL(bt:Env)(sz:Nat):List gQ->Option (List ag)
 | []=>some []
 |x::r=>if (x.ev bt).gd.plain=true/\(x.ev bt).gd.cells.length=sz then bJ (sL bt sz r) fun l=>some ((x.ev bt).gd::l) else none
def jf(bt:Env)(n:Nat):Option gQ->Option Int
 |none=>some n
 |some x=>match x.ev bt with | .int _ i=>some i|_=>none
def wid(xs:List ag)(sz:Nat):Prop:=∀x,x∈xs->x.cells.length=sz
def dQ(n bytes:Nat):Prop:=n*bytes<=2 ^ 44
noncomputable def aM(call:eO)(f:Nat)(vs:List ag)(M:aL):Option (ag×aL) :=
 if vs.all ag.flat then
  bJ (kh M (iH (reach M (vs.flatMap ag.ids))) (reach M (vs.flatMap ag.ids))) fun B =>
   if lX M (reach M (vs.flatMap ag.ids))=reach M (vs.flatMap ag.ids) then
    bJ (call f (vs.map (ag.ry (iH (reach M (vs.flatMap ag.ids))))) B) fun x =>
     if x.2.length=B.length/\x.1.wJ=true/\x.2.all cD.flat=true then some (x.1.BI (xk (reach M (vs.flatMap ag.ids))),mF (reach M (vs.flatMap ag.ids)) M (reach M (vs.flatMap ag.ids)) x.2) else none
   else none
 else none
noncomputable def AH(call:eO)(f:Nat)(vs:List ag)(M:aL):Option (ag×aL) :=
 if vs.all ag.flat=true/\vs.flatMap ag.ids=[] then
  bJ (call f vs []) fun x=>match x.1,x.2 with
   | .slice (.own 0) xs,[.tick sz n]=>some (.slice (.own M.length) xs,M++[.tick sz n])
   |_,_=>none
 else none
def zt(sz L:Nat):ag:=if 500<=sz then .dk L 0 (sz-500) 0 0 else .slice (.own L) []
def AD(sz:Nat):cD:=if 500<=sz then .arr (sz-500) 0 [] else .tick sz 0
noncomputable def dZ(call:eO)(bt:Env)(M:aL):kI->Option (ag×aL)
 | .mv x=>some (x.ev bt,M)
 | .own sz x =>
  match x.ev bt with
  | .slice .c0 []=>some (.slice (.own M.length) [],M++[.tick sz 0])
  |_=>none
 | .pick c a b=>match c.ev bt with
  | .bool t=>zo t (some (a.ev bt,M)) (some (b.ev bt,M))
  |_=>none
 | .sU cs=>some (.ptr M.length 0,M++[.cells cs])
 | .box x=>bJ (x.ev bt).cells? fun cs=>some (.ptr M.length 0,M++[.cells cs])
 | .build zero parts=>bJ (lu bt zero parts) fun cs=>some (.agg cs,M)
 | .lits sz parts=>bJ (sL bt sz parts) fun l=>some (match l with|[] => .slice .c0 []|_ => .slice .sh l,M)
 | .EB sz parts=>bJ (sL bt sz parts) fun l=>some (.slice (.own M.length) l,M++[.tick sz l.length])
 | .nD n x =>
  match x.ev bt with
  | .ptr id off=>match nth M id with
   |some (.cells cs)=>if off+n<=cs.length then some (.agg ((cs.drop off).take n),M) else none
   |_=>none
  | .jg cs=>if n<=cs.length then some (.agg (cs.take n),M) else none
  | .iu id ver i off=>match nth M id with
   |some (.arr _ v xs)=>if v=ver then bJ (xs[i]?) fun e=>if off+n<=e.cells.length then some (.agg ((e.cells.drop off).take n),M) else none else none
   |_=>none
  |_=>none
 | .jv x =>
  match x.ev bt with
  | .ptr id off=>match nth M id with
   |some (.cells cs)=>bJ (nth cs off) fun c=>some (c,M)
   |_=>none
  | .jg cs=>bJ (nth cs 0) fun c=>some (c,M)
  | .iu id ver i off=>match nth M id with
   |some (.arr _ v xs)=>if v=ver then bJ (xs[i]?) fun e=>bJ (nth e.cells off) fun c=>some (c,M) else none
   |_=>none
  |_=>none
 | .store n a x =>
  match a.ev bt with
  | .ptr id off=>match nth M id with
   |some (.cells cs)=>bJ (x.ev bt).cells? fun new =>
    if new.length=n/\off+n<=cs.length/\new.all ag.k6=true then some (.any,j6 M id (.cells (mH cs off new))) else none
   |_=>none
  | .iu id ver i off=>match nth M id with
   |some (.arr sz v xs)=>bJ (x.ev bt).cells? fun new=>bJ (xs[i]?) fun e =>
    if v=ver/\new.length=n/\off+n<=e.cells.length/\(new.map ag.shut).all ag.plainCell=true then some (.any,j6 M id (.arr sz ver (j6 xs i (putCells e off (new.map ag.shut))))) else none
   |_=>none
  |_=>none
 | .AU sz p n a x =>
  match a.ev bt with
  | .ptr id off=>match nth M id with
   |some (.cells cs)=>bJ (x.ev bt).cells? fun new =>
    match nth new p with
    |some (.slice .c0 [])=>if new.length=n/\off+n<=cs.length/\new.all ag.k6=true then some (.any,j6 M id (.cells (mH cs off (j6 new p (zt sz M.length))))++[AD sz]) else none
    |_=>none
   |_=>none
  |_=>none
 | .chk x=>match x.ev bt with
  | .ptr id off=>some (.ptr id off,M)
  | .jg cs=>some (.jg cs,M)
  | .func f caps=>some (.func f caps,M)
  | .iu id v i off=>some (.iu id v i off,M)
  |_=>none
 | .bin op x y=>bJ (qk op (x.ev bt) (y.ev bt)) fun v=>some (v,M)
 | .XO ks neg x y =>
  match x.ev bt,y.ev bt with
  | .agg a,.agg b=>bJ (kO ks a b) fun e=>some (.bool (match neg with|true => !e|false=>e),M)
  |_,_=>none
 | .eqB neg x y=>match x.ev bt,y.ev bt with
  | .bool a,.bool b=>some (.bool (match neg with|true => !(a==b)|false=>a==b),M)
  |_,_=>none
 | .not x=>match x.ev bt with | .bool b=>some (.bool (!b),M)|_=>none
 | .neg x=>match x.ev bt with | .int k n=>some (.int k (k.wrap (0-n)),M)|_=>none
 | .conv k x=>match x.ev bt with | .int _ n=>some (.int k (k.wrap n),M)|_=>none
 | .same x=>match x.ev bt with | .str s=>some (.str s,M)|_=>none
 | .fn f caps=>some (.func f (caps.map (gQ.ev bt)),M)
 | .DZ f firsts=>if (firsts.map fun x=>(x.ev bt).gd).all ag.plain then some (.sb f (firsts.map fun x=>(x.ev bt).gd),M) else none
 | .AO x lo hi =>
  match x.ev bt with
  | .str s=>bJ (jf bt s.length hi) fun h=>bJ (jf bt 0 lo) fun l =>
   cv (0<=h/\h<=s.length/\0<=l/\l<=h) (some (.str ((s.take h.toNat).drop l.toNat),M))
  |_=>none
 | .AP sz x lo hi mx =>
  match x.ev bt with
  | .slice _ xs=>cv (wid xs sz) <| bJ (jf bt xs.length hi) fun h=>bJ (jf bt 0 lo) fun l =>
   match mx with
   |none=>cv (0<=h/\h<=xs.length/\0<=l/\l<=h) (some (.slice .sh ((xs.take h.toNat).drop l.toNat),M))
   |some m=>match m.ev bt with
    | .int _ m=>cv (0<=m/\m<=xs.length/\0<=h/\h<=m/\0<=l/\l<=h)
      (zo (m==0) (some (.slice .c0 [],M)) (some (.slice .sh ((xs.take h.toNat).drop l.toNat),M)))
    |_=>none
  | .dk id v sz' al ah=>cv (sz'=sz) <| bJ (jf bt (ah-al) hi) fun h=>bJ (jf bt 0 lo) fun l =>
   match mx with
   |none=>cv (0<=h/\h<=(ah-al:Nat)/\0<=l/\l<=h) (zo (l==h) (some (.slice .sh [],M)) (some (.dk id v sz (al+l.toNat) (al+h.toNat),M)))
   |some m=>match m.ev bt with
    | .int _ m=>cv (0<=m/\m<=(ah-al:Nat)/\0<=h/\h<=m/\0<=l/\l<=h)
      (zo (m==0) (some (.slice .c0 [],M)) (zo (l==h) (some (.slice .sh [],M)) (some (.dk id v sz (al+l.toNat) (al+h.toNat),M))))
    |_=>none
  |_=>none
 | .kG off x=>match x.ev bt with
  | .ptr id o=>some (.ptr id (o+off),M)
  | .jg cs=>some (.jg (cs.drop off),M)
  | .iu id v i o=>some (.iu id v i (o+off),M)
  |_=>none
 | .CE off n x=>match x.ev bt with
  | .agg cs=>if off+n<=cs.length then some (.agg ((cs.drop off).take n),M) else none
  |_=>none
 | .CD off x=>match x.ev bt with
  | .agg cs=>bJ (nth cs off) fun c=>some (c,M)
  |_=>none
 | .vU sz x i =>
  match x.ev bt,i.ev bt with
  | .slice _ xs,.int _ n=>cv (0<=n) (bJ (xs[n.toNat]?) fun e=>if e.cells.length=sz then some (.jg e.cells,M) else none)
  | .dk id v sz' lo hi,.int _ n=>cv (0<=n/\n<(hi-lo:Nat)/\sz'=sz) (some (.iu id v (lo+n.toNat) 0,M))
  |_,_=>none
 | .Aj n sz x i =>
  match x.ev bt,i.ev bt with
  | .jg cs,.int _ m=>cv (0<=m/\m<n/\n*sz<=cs.length) (some (.jg (cs.drop (m.toNat*sz)),M))
  | .ptr id off,.int _ m=>cv (0<=m/\m<n) (some (.ptr id (off+m.toNat*sz),M))
  |_,_=>none
 | .Al x i =>
  match x.ev bt,i.ev bt with
  | .str s,.int _ n=>cv (0<=n) (bJ (s[n.toNat]?) fun b=>some (.int .u8 b.toNat,M))
  |_,_=>none
 | .extract x i=>match x.ev bt with | .tuple vs=>bJ (nth vs i) fun v=>some (v,M)|_=>none
 | .call f args=>aM call f (args.map fun x=>(x.ev bt).gd) M
 | .A9 f args=>call f (args.map (gQ.ev bt)) M
 | .lP f args=>aM call f (args.map fun x=>((x.ev bt).yw M).gd) (Af M ((args.map (gQ.ev bt)).flatMap ag.ids))
 | .vQ f args=>AH call f (args.map fun x=>(x.ev bt).gd) M
 | .z6 sz zero x=>match x.ev bt with
  | .slice _ xs=>match xs with|[]=>some (.any,M)|_=>none
  | .dk id ver sz' lo hi=>match nth M id with
   |some (.arr sz0 v xs)=>if v=ver/\sz'=sz/\zero.length=sz/\zero.all ag.plainCell=true then some (.any,j6 M id (.arr sz0 ver (xs.take lo++(List.replicate (hi-lo) (.agg zero)++xs.drop hi)))) else none
   |_=>none
  |_=>none
 | .vR f args=>match f.ev bt with
  | .func g caps=>aM call g ((args.map fun x=>(x.ev bt).gd)++caps) M
  | .sb g fs=>aM call g (fs++args.map fun x=>(x.ev bt).gd) M
  | .raw v=>match v with
   | .func (.func g) ⟨[]⟩ ⟨[]⟩=>aM call g (args.map fun x=>(x.ev bt).gd) M
   |_=>none
  |_=>none
 | .SH x=>match x.ev bt with | .str s=>some (.int .i64 s.length,M)|_=>none
 | .Ap x=>match x.ev bt with
  | .slice _ xs=>some (.int .i64 xs.length,M)
  | .dk _ _ _ lo hi=>some (.int .i64 (hi-lo:Nat),M)
  |_=>none
 | .append sz bytes x y =>
  match x.ev bt,y.ev bt with
  | .slice tk xs,.slice _ ys =>
   cv (dQ (xs.length+ys.length) bytes/\wid xs sz/\wid ys sz) (
    match tk with
    | .c0=>match xs with|[]=>some (.slice (.own M.length) ys,M++[.tick sz ys.length])|_=>none
    | .own k=>match nth M k with
     |some (.tick sz' n)=>cv (sz'=sz/\n=xs.length) (some (.slice (.own k) (xs++ys),j6 M k (.tick sz (xs.length+ys.length))))
     |_=>none
    | .sh=>none)
  | .dk id ver sz' lo hi,.slice _ ys=>match nth M id with
   |some (.arr sz0 v xs)=>cv (v=ver/\sz'=sz/\lo=0/\hi=xs.length/\dQ (xs.length+ys.length) bytes/\wid xs sz/\wid ys sz)
     (zo (ys.length==0) (some (.dk id ver sz lo hi,M)) (some (.dk id (ver+1) sz 0 (xs.length+ys.length),j6 M id (.arr sz0 (ver+1) (xs++ys)))))
   |_=>none
  |_,_=>none
 | .Ay mx x y=>match x.ev bt,y.ev bt with
  | .int k a,.int _ b=>some (.int k (match mx with|true=>if b>a then b else a|false=>if b<a then b else a),M)
  |_,_=>none
 | .b2s x=>match x.ev bt with | .slice _ xs=>bJ (bytesOf xs) fun l=>some (.str l,M)|_=>none
 | .mkMap=>some (.gH M.length,M++[.map [] []])
 | .look fk zero ok m k=>bJ (mapOf M (m.ev bt)) fun e=>bJ (uD fk (k.ev bt) e.1 e.2) fun r=>some (mC zero ok r,M)
 | .gy fk m k v=>match m.ev bt with
  | .gH id=>match nth M id with
   |some (.map ks vs)=>bJ (sM fk (k.ev bt) (v.ev bt) ks vs) fun e=>some (.any,j6 M id (.map e.1 e.2))
   |_=>none
  |_=>none
 | .N0 m=>bJ (mapOf M (m.ev bt)) fun e=>some (.int .i64 e.1.length,M)
 | .Ox x=>match x.ev bt with | .str s=>some (.jA M.length,M++[.nG s 0])|_=>none
 | .ES it=>match it.ev bt with
  | .jA id=>match nth M id with
   |some (.nG s pos)=>zo (decide (pos<s.length))
     (some (.tuple [.bool true,.int .i64 pos,.int .i32 (Utf8.decode ⟨s.toArray⟩ pos).1],j6 M id (.nG s (pos+(Utf8.decode ⟨s.toArray⟩ pos).2))))
     (some (.tuple [.bool false],M))
   |_=>none
  |_=>none
 | .mkS zero n=>match n.ev bt with
  | .int _ k=>cv (0<=k/\dQ k.toNat (8*zero.length)/\zero.all ag.plainCell=true) (some (.slice .sh (List.replicate k.toNat (ag.agg zero).norm),M))
  |_=>none
 | .N6 zero n=>match n.ev bt with
  | .int _ k=>cv (0<=k/\dQ k.toNat (8*zero.length)/\zero.all ag.plainCell=true) (some (.dk M.length 0 zero.length 0 k.toNat,M++[.arr zero.length 0 (List.replicate k.toNat (ag.agg zero).norm)]))
  |_=>none
 | .xg sz bytes zero x n =>
  match x.ev bt,n.ev bt with
  | .slice .c0 [],.int _ k=>cv (0<=k/\dQ k.toNat bytes/\zero.length=sz/\zero.all ag.plainCell=true)
    (zo (k==0) (some (.slice .c0 [],M)) (some (.dk M.length 0 sz 0 k.toNat,M++[.arr sz 0 (List.replicate k.toNat (ag.agg zero).norm)])))
  | .dk id ver sz' lo hi,.int _ k=>match nth M id with
   |some (.arr sz0 v xs)=>cv (v=ver/\sz'=sz/\lo=0/\hi=xs.length/\0<=k/\dQ (xs.length+k.toNat) bytes/\zero.length=sz/\zero.all ag.plainCell=true/\0<xs.length)
     (zo (k==0) (some (.dk id ver sz' lo hi,M)) (some (.dk id (ver+1) sz 0 (xs.length+k.toNat),j6 M id (.arr sz0 (ver+1) (xs++List.replicate k.toNat (ag.agg zero).norm)))))
   |_=>none
  |_,_=>none
 | .vt sz bytes x y =>
  match x.ev bt,y.ev bt with
  | .slice .c0 [],.slice _ ys=>cv (dQ ys.length bytes/\wid ys sz) (some (.dk M.length 0 sz 0 ys.length,M++[.arr sz 0 ys]))
  |_,_=>none
 | .D5 sz x y =>
  match x.ev bt,y.ev bt with
  | .slice .sh [],.slice _ ys=>cv (wid ys sz) (some (.int .i64 0,M))
  | .dk id ver sz' lo hi,.slice _ ys=>match nth M id with
   |some (.arr sz0 v xs)=>cv (v=ver/\sz'=sz/\wid ys sz/\0<xs.length)
     (some (.int .i64 (min ys.length (hi-lo):Nat),j6 M id (.arr sz0 ver (xs.take lo++(ys.take (min ys.length (hi-lo))++xs.drop (lo+min ys.length (hi-lo)))))))
   |_=>none
  |_,_=>none
 | .MZ sz=>some (.ptr (M.length+1) 0,M++[.arr sz 0 [],.cells [.dk M.length 0 sz 0 0]])
 | .iface t x=>match x.ev bt with
  | .ptr id off=>some (.jO t id off,M)
  |y=>bJ (valOf y) fun v=>some (.raw (.iface t v),M)
 | .raise x=>match x.ev bt with
  | .raw v=>match v with
   | .iface t u=>some (.oC (.iface t u),M)
   |_=>none
  |_=>none
def rp(bt:Env)(dst:Option Nat)(v:ag):Env :=
 match dst with
 |some d=>(d,v)::bt
 |none=>bt
def kI.dW(bt:Env):kI->List Nat
 | .call _ args=>(args.map fun x=>(x.ev bt).gd).flatMap ag.ids
 | .vR f args=>match f.ev bt with
  | .func _ caps=>((args.map fun x=>(x.ev bt).gd)++caps).flatMap ag.ids
  | .sb _ fs=>(fs++args.map fun x=>(x.ev bt).gd).flatMap ag.ids
  | .raw v=>match v with
   | .func (.func _) ⟨[]⟩ ⟨[]⟩=>(args.map fun x=>(x.ev bt).gd).flatMap ag.ids
   |_=>[]
  |_=>[]
 |_=>[]
def yH(bt:Env)(M M':aL):List Nat->Prop
 | []=>True
 |z::r=>(match ir bt z with
  | .ptr id _=>nth M' id=nth M id
  |_=>False)/\yH bt M M' r
noncomputable def pP(call:eO)(o:cQ)(bt:Env)(M:aL):Option (ag×aL) :=
 match o.wW with
 |true=>cv (o.op.dW bt=[]) (dZ call bt M o.op)
 |false=>match o.grow with
  |false=>dZ call bt M o.op
  |true=>bJ (dZ call bt M o.op) fun x=>cv (M <+: x.2\/(o.sep≠[]/\yH bt M x.2 o.sep)) (some x)
structure Out where
 e:Xy
 bt:Env
 mem:aL
def Ot(c:Bool)(x:ag×aL)(k:Option Out):Option Out:=match x.1 with
 | .oC v=>match c with
  |true=>some ⟨.oC v,[],x.2⟩
  |false=>none
 |_=>k
def cQ.lets(o:cQ):Bool:=o.op.Pw&&o.stop
noncomputable def gU(call:eO):List cQ->Env->aL->Option Out
 | [],bt,M=>some ⟨.normal,bt,M⟩
 |o::r,bt,M =>
  match o.guard with
  |none=>bJ (pP call o bt M) fun x=>Ot o.lets x (gU call r (rp bt o.dst x.1) x.2)
  |some (t,want)=>match ir bt t with
   | .bool b=>zo (b==want) (bJ (pP call o bt M) fun x=>Ot o.lets x (gU call r (rp bt o.dst x.1) x.2))
    (gU call r (rp bt o.dst (.tuple [])) M)
   | .tuple []=>gU call r (rp bt o.dst (.tuple [])) M
   |_=>none
def ju(bt:Env)(live:List Nat):Env:=live.map fun t=>(t,ir bt t)
def Out.ri(live:List Nat)(o:Out):Out:=match o.e with
 | .normal=>⟨.normal,ju o.bt live,o.mem⟩
 |_=>o
open Classical in
noncomputable def lim{α:Type}(F:Nat->Option α):Option α:=if h:∃n,(F n).isSome=true then F (Classical.choose h) else none
def uz(o:Out)(k:Env->aL->Option Out):Option Out:=match o.e with
 | .normal=>k o.bt o.mem
 |_=>some o
def zq(id:Nat)(o:Out):Out:=match o.e with
 | .exit i=>if i=id then ⟨.normal,o.bt,o.mem⟩ else o
 |_=>o
def iter(g:Nat->Nat->Nat)(f:Env->aL->Option Out)(live:List Nat):Nat->Env->aL->Option Out
 |0,_,_=>none
 |n+1,bt,M=>bJ (f (ju bt live) M) fun o=>uz o fun e m=>iter g f live n (vP (g M.length m.length) m (ju e live)) (jS (g M.length m.length) m)
abbrev gL(a _b:Nat):Nat:=a
abbrev gR(_a b:Nat):Nat:=b
noncomputable def fm(call:eO):cz->Env->aL->Option Out
 | .skip,bt,M=>some ⟨.normal,bt,M⟩
 | .region ops _ live,bt,M=>bJ (gU call ops bt M) fun o=>some (o.ri live)
 | .seq a b,bt,M=>bJ (fm call a bt M) fun o=>uz o (fm call b)
 | .cond c x y,bt,M=>match c.ev bt with
  | .bool t=>zo t (fm call x bt M) (fm call y bt M)
  |_=>none
 | .block id c,bt,M=>bJ (fm call c bt M) fun o=>some (zq id o)
 | .loop live c,bt,M=>lim fun n=>iter gL (fm call c) live n bt M
 | .lU live c,bt,M=>lim fun n=>iter gR (fm call c) live n bt M
 | .exit id,bt,M=>some ⟨.exit id,bt,M⟩
 | .ret,bt,M=>some ⟨.ret,bt,M⟩
inductive sy where
 |tmp (t:Nat)
 |fG (t n:Nat)
 |Px (t:Nat)
structure eU where
 nparams:Nat
 results:List sy
 body:cz
def zx(bt:Env)(M:aL):sy->Option ag
 | .tmp t=>some (ir bt t)
 | .fG t n=>match ir bt t with
  | .ptr id off=>match nth M id with
   |some (.cells cs)=>if off+n<=cs.length then some (.agg ((cs.drop off).take n)) else none
   |_=>none
  |_=>none
 | .Px t=>match ir bt t with
  | .ptr id off=>match nth M id with
   |some (.cells cs)=>nth cs off
   |_=>none
  |_=>none
def pS(bt:Env)(M:aL):List sy->Option (List ag)
 | []=>some []
 |r::rs=>bJ (zx bt M r) fun v=>bJ (pS bt M rs) fun l=>some (v::l)
def one:List ag->ag
 | [v]=>v
 |l => .tuple l
def j5:Nat->List ag->Env
 |_,[]=>[]
 |i,v::r=>(i,v)::j5 (i+1) r
def finish(res:List sy)(bN:Nat)(o:Out):Option (ag×aL) :=
 match o.e with
 | .exit _=>none
 | .oC v=>some (.oC v,jS bN o.mem)
 |_=>bJ (pS o.bt o.mem res) fun l=>some ((one l).ml bN o.mem,jS bN o.mem)
structure BD where
 code:Nat->Option eU
 sO:Nat->Option (List ag->aL->Option (ag×aL))
noncomputable def kU(T:BD):Nat->eO
 |0,f,args,M=>match T.sO f with
  |some g=>g args M
  |none=>none
 |n+1,f,args,M=>match T.sO f with
  |some g=>g args M
  |none=>match T.code f with
   |none=>none
   |some fn=>if args.length=fn.nparams then bJ (fm (kU T n) fn.body (j5 0 args) M) (finish fn.results M.length) else none
noncomputable def aq(T:BD):eO:=fun f args M=>lim fun n=>kU T n f args M
theorem p8{α:Type}{F:Nat->Option α}(hm:∀n x,F n=some x->F (n+1)=some x){n:Nat}{x:α}(h:F n=some x):lim F=some x:=by
 have up:∀k n x,F n=some x->F (n+k)=some x:=by
  intro k;induction k<;>grind
 unfold lim;have hex:∃n,(F n).isSome=true:=⟨n,by grind⟩
 rw[dif_pos hex];have hc:=Classical.choose_spec hex;generalize Classical.choose _=m at *;obtain⟨y,hy⟩:=lk.1 hc;rcases Nat.le_total n m with hle|hle
 ·have:=up (m-n) n x h;rw[show n+(m-n)=m by omega] at this
  omega
 ·have:=up (n-m) m y hy;rw[show m+(n-m)=n by omega,h] at this
  rw[hy,this]
theorem uC{α:Type}{F:Nat->Option α}{x:α}(h:lim F=some x):∃n,F n=some x:=by
 unfold lim at h;split at h
 ·grind
 grind
def x9(C C':eO):Prop:=∀f a M x,C f a M=some x->C' f a M=some x
def bo{α β:Type}{x:Option α}{f:α->Option β}{y:β}(h:bJ x f=some y):∃a,x=some a/\f a=some y:=by
 cases x<;>simp_all
def kQ{α:Type}{b:Bool}{x y:Option α}{z:α}(h:zo b x y=some z):(b=true/\x=some z)\/(b=false/\y=some z):=by
 cases b
 ·simp_all
 simp_all
theorem di{α:Type}{p:Prop}{x:Option α}{z:α}(h:cv p x=some z):p/\x=some z:=by
 grind [cv]
theorem tG{C:eO}{f:Nat}{vs:List ag}{M:aL}{x:ag×aL}(h:aM C f vs M=some x) :
  ∃a B y,C f a B=some y/\∀C':eO,C' f a B=some y->aM C' f vs M=some x:=by
 unfold aM at h;split at h
 ·obtain⟨B,hB,h⟩:=bo h;split at h
  ·obtain⟨y,hy,h⟩:=bo h;refine⟨_,B,y,hy,fun C' hC'=>?_⟩
   simp_all [aM]
  grind
 grind
theorem Li{C:eO}{bt:Env}{M:aL}{o:kI}{x:ag×aL}(h:dZ C bt M o=some x) :
  (∀C':eO,dZ C' bt M o=some x)\/∃f a B y,C f a B=some y/\∀C':eO,C' f a B=some y->dZ C' bt M o=some x:=by
 cases o
 case call f args =>
  simp only[dZ] at h ⊢;obtain⟨a,B,y,h1,h2⟩:=tG h;exact .inr ⟨f,a,B,y,h1,h2⟩
 case vQ f args =>
  simp only[dZ] at h ⊢;unfold AH at h;split at h
  ·rename_i hc;obtain⟨y,hy,h⟩:=bo h;refine .inr ⟨f,_,[],y,hy,fun C' hC'=>?_⟩
   unfold AH;rw[az hc,hC'];exact h
  ·cases h
 case A9 f args=>exact .inr ⟨f,_,_,_,h,fun _ h'=>h'⟩
 case lP f args =>
  simp only[dZ] at h ⊢;obtain⟨a,B,y,h1,h2⟩:=tG h;exact .inr ⟨f,a,B,y,h1,h2⟩
 case vR f args =>
  simp only[dZ] at h ⊢;split at h<;>grind [tG]
 all_goals exact .inl fun _=>h
theorem Pn{C C':eO}(hC:x9 C C'){bt:Env}{M:aL}{o:kI}{x:ag×aL}(h:dZ C bt M o=some x):dZ C' bt M o=some x:=by
 rcases Li h with h|⟨f,a,B,y,h1,h2⟩
 ·grind
 ·exact h2 _ (hC _ _ _ _ h1)
theorem rF{C:eO}{o:cQ}{bt:Env}{M:aL}{x:ag×aL}(h:pP C o bt M=some x) :
  (o.wW=true/\o.op.dW bt=[]/\dZ C bt M o.op=some x)\/(o.wW=false/\o.grow=false/\dZ C bt M o.op=some x)\/(o.wW=false/\o.grow=true/\(M <+: x.2\/(o.sep≠[]/\yH bt M x.2 o.sep))/\dZ C bt M o.op=some x):=by
 unfold pP at h;split at h
 ·grind [di]
 ·split at h
  ·exact .inr (.inl ⟨by assumption,by assumption,h⟩)
  ·obtain⟨y,hy,h⟩:=bo h
   grind [di]
theorem Cg{C C':eO}(hC:x9 C C'){bt:Env}{M:aL}{o:cQ}{x:ag×aL}(h:pP C o bt M=some x):pP C' o bt M=some x:=by
 grind [rF,pP,Pn]
theorem Mq{c:Bool}{x:ag×aL}{k:Option Out}{o:Out}(h:Ot c x k=some o):(x.1.jU=false/\k=some o)\/∃v,c=true/\x.1 = .oC v/\o=⟨.oC v,[],x.2⟩:=by
 obtain⟨x,M⟩:=x
 cases x<;>first
  |exact .inl ⟨rfl,h⟩
  |(cases c
    ·cases h
    ·injection h with h; grind)
def KT{c:Bool}{x:ag×aL}{k:Option Out}(h:x.1.jU=false):Ot c x k=k:=by
 obtain⟨x,M⟩:=x;cases x<;>first|rfl|cases h
theorem Mr{c:Bool}{x:ag×aL}{k:Option Out}{v:Value}(hc:c=true)(h:x.1 = .oC v):Ot c x k=some ⟨.oC v,[],x.2⟩:=by
 grind [Ot]
theorem pF{C:eO}{o:cQ}{r:List cQ}{bt:Env}{M:aL}{x:Out}(h:gU C (o::r) bt M=some x) :
  (∃y,(∀t want,o.guard=some (t,want)->ir bt t = .bool want)/\pP C o bt M=some y/\((y.1.jU=false/\gU C r (rp bt o.dst y.1) y.2=some x)\/∃v,o.lets=true/\y.1 = .oC v/\x=⟨.oC v,[],y.2⟩)) \/
  (∃t want,o.guard=some (t,want)/\(ir bt t = .bool (!want)\/ir bt t = .tuple [])/\gU C r (rp bt o.dst (.tuple [])) M=some x):=by
 unfold gU at h;split at h
 ·rename_i hg;obtain⟨y,hy,h⟩:=bo h
  grind [Mq]
 ·rename_i t want hg;split at h
  ·rename_i b hb;rcases kQ h with ⟨h1,h2⟩|⟨h1,h2⟩
   ·obtain⟨y,hy,h2⟩:=bo h2
    grind [Mq]
   ·refine .inr ⟨t,want,hg,.inl ?_,h2⟩;cases b<;>cases want<;>simp_all
  ·grind
  grind
def rE{C:eO}{o:cQ}{r:List cQ}{bt:Env}{M:aL}{y:ag×aL}(hg:∀t want,o.guard=some (t,want)->ir bt t = .bool want)
  (hy:pP C o bt M=some y):gU C (o::r) bt M=Ot o.lets y (gU C r (rp bt o.dst y.1) y.2):=by
 rw[gU];split
 ·rw[hy]; rfl
 simp_all
theorem vO{C:eO}{o:cQ}{r:List cQ}{bt:Env}{M:aL}{t:Nat}{want:Bool}(hg:o.guard=some (t,want))
  (hb:ir bt t = .bool (!want)\/ir bt t = .tuple []):gU C (o::r) bt M=gU C r (rp bt o.dst (.tuple [])) M:=by
 rw[gU];simp[hg];rcases hb with hb|hb
 ·rw[hb]; cases want<;>simp
 grind
theorem sS{C C':eO}(hC:x9 C C'):∀ {ops:List cQ} {bt:Env} {M:aL} {x:Out},gU C ops bt M=some x->gU C' ops bt M=some x
 | [],_,_,_,h=>h
 |o::r,bt,M,x,h=>by
  rcases pF h with ⟨y,h1,h2,h3⟩|⟨t,want,h1,h2,h3⟩
  ·rw[rE h1 (Cg hC h2)];rcases h3 with ⟨h3,h4⟩|⟨v,h0,h3,rfl⟩
   ·rw[KT h3]; exact sS hC h4
   grind [Mr]
  ·rw[vO h1 h2]; exact sS hC h3
theorem tJ{o:Out}{k:Env->aL->Option Out}{x:Out}(h:uz o k=some x):(o.e = .normal/\k o.bt o.mem=some x)\/(o.e ≠ .normal/\x=o):=by
 grind [uz]
theorem ui{o:Out}{k:Env->aL->Option Out}(h:o.e = .normal):uz o k=k o.bt o.mem:=by grind [uz]
theorem zi{o:Out}{k:Env->aL->Option Out}(h:o.e ≠ .normal):uz o k=some o:=by
 simp[uz]
theorem xt{o:Out}{k k':Env->aL->Option Out}{x:Out}(hk:∀bt M x,k bt M=some x->k' bt M=some x)(h:uz o k=some x):uz o k'=some x:=by
 grind [tJ,ui,zi]
def xv{g0:Nat->Nat->Nat}{f g:Env->aL->Option Out}(hfg:∀bt M x,f bt M=some x->g bt M=some x)(live:List Nat):∀n {bt M x},iter g0 f live n bt M=some x->iter g0 g live n bt M=some x
 |0,_,_,_,h=>h
 |n+1,bt,M,x,h=>by
  rw[iter] at *;obtain⟨a,ha,h⟩:=bo h;rw[hfg _ _ _ ha];exact xt (fun bt M x h=>xv hfg _ n h) h
def um{g0:Nat->Nat->Nat}{f:Env->aL->Option Out}(live:List Nat):∀n {bt M x},iter g0 f live n bt M=some x->iter g0 f live (n+1) bt M=some x
 |0,_,_,_,h=>by cases h
 |n+1,bt,M,x,h=>by
  rw[iter] at h ⊢;obtain⟨a,ha,h⟩:=bo h;rw[ha];exact xt (fun bt M x h=>um _ n h) h
theorem j8{C C':eO}(hC:x9 C C'):∀(c:cz){bt:Env}{M:aL}{x:Out},fm C c bt M=some x->fm C' c bt M=some x
 | .skip,_,_,_,h=>h
 | .exit _,_,_,_,h=>h
 | .ret,_,_,_,h=>h
 | .region _ d _,bt,M,x,h=>by
  simp[fm] at *;obtain⟨a,ha,h⟩:=bo h;rw[sS hC ha]; grind
 | .seq a b,bt,M,x,h=>by
  simp[fm] at *;obtain⟨o,ho,h⟩:=bo h;rw[j8 hC a ho];exact xt (fun bt M x=>j8 hC b) h
 | .cond c a b,bt,M,x,h=>by
  simp[fm] at *;split
  ·rename_i t ht;simp[ht] at h;rcases kQ h with ⟨rfl,h⟩|⟨rfl,h⟩
   ·exact j8 hC a h
   ·exact j8 hC b h
  grind
 | .block id c,bt,M,x,h=>by
  simp[fm] at *;obtain⟨o,ho,h⟩:=bo h;rw[j8 hC c ho]; grind
 | .loop _ c,bt,M,x,h=>by
  obtain⟨n,hn⟩:=uC h;exact p8 (fun n x=>um _ n) (xv (fun bt M x=>j8 hC c) _ n hn)
 | .lU _ c,bt,M,x,h=>by
  obtain⟨n,hn⟩:=uC h;exact p8 (fun n x=>um _ n) (xv (fun bt M x=>j8 hC c) _ n hn)
theorem uI(T:BD):∀n,x9 (kU T n) (kU T (n+1))
 |0,f,a,M,x,h=>by
  grind [kU]
 |n+1,f,a,M,x,h=>by
  rw[kU] at h ⊢;split
  ·grind
  ·rename_i hg;simp[hg] at h;split
   ·grind
   ·rename_i fn hf;simp only[hf] at h;split
    ·rename_i hl;rw[az hl] at h;obtain⟨o,ho,h⟩:=bo h;rw[j8 (uI T n) _ ho]
     grind
    grind
def tj(T:BD){n m:Nat}(h:n<=m):x9 (kU T n) (kU T m):=by
 obtain⟨k,rfl⟩:=Nat.exists_eq_add_of_le h;induction k with
 |zero=>exact fun _ _ _ _ h=>h
 |succ k ih=>exact fun f a M x hx=>uI T _ f a M x (ih (by simp) f a M x hx)
theorem JD(T:BD){bt:Env}{M:aL}{o:cQ}{x:ag×aL}(h:pP (aq T) o bt M=some x):∃n,pP (kU T n) o bt M=some x:=by
 have key:∀y,dZ (aq T) bt M o.op=some y->∃n,dZ (kU T n) bt M o.op=some y:=by
  intro y hy;rcases Li hy with h|⟨f,a,B,z,h1,h2⟩
  ·simp_all
  ·obtain⟨n,hn⟩:=uC h1
   grind
 rcases rF h with ⟨hn,hi,h1⟩|⟨hn,hg,h1⟩|⟨hn,hg,hp,h1⟩<;>obtain⟨n,h2⟩:=key _ h1
 ·grind [pP]
 ·grind [pP]
 grind [pP]
def vu(T:BD):∀ {ops:List cQ} {bt:Env} {M:aL} {x:Out},gU (aq T) ops bt M=some x->∃n,gU (kU T n) ops bt M=some x
 | [],_,_,_,h=>⟨0,h⟩
 |o::r,bt,M,x,h=>by
  rcases pF h with ⟨y,h1,h2,h3⟩|⟨t,want,h1,h2,h3⟩
  ·obtain⟨n,hn⟩:=JD T h2;rcases h3 with ⟨h3,h4⟩|⟨v,h0,h3,rfl⟩
   ·obtain⟨m,hm⟩:=vu T h4;refine⟨max n m,?_⟩;rw[rE h1 (Cg (tj T (Nat.le_max_left n m)) hn),KT h3];exact sS (tj T (Nat.le_max_right n m)) hm
   ·exact⟨n,by rw[rE h1 hn]; exact Mr h0 h3⟩
  ·obtain⟨m,hm⟩:=vu T h3;exact⟨m,by rw[vO h1 h2]; exact hm⟩
def Ao(T:BD){g:Nat->Nat->Nat}{live:List Nat}{c:cz}(hc:∀ {bt:Env} {M:aL} {x:Out},fm (aq T) c bt M=some x->∃n,fm (kU T n) c bt M=some x){x:Out} :
  ∀k bt M,iter g (fm (aq T) c) live k bt M=some x->∃n,iter g (fm (kU T n) c) live k bt M=some x
 |0,bt,M,h=>by cases h
 |k+1,bt,M,h=>by
  rw[iter] at h;obtain⟨a,ha,h⟩:=bo h;obtain⟨n,hn⟩:=hc ha;rcases tJ h with ⟨h1,h2⟩|⟨h1,h2⟩
  ·obtain⟨m,hm⟩:=Ao T hc k _ _ h2;refine⟨max n m,?_⟩;rw[iter,j8 (tj T (Nat.le_max_left n m)) c hn,cd,ui h1];exact xv (fun bt M x=>j8 (tj T (Nat.le_max_right n m)) c) live k hm
  ·exact⟨n,by rw[iter,hn,cd,zi h1,h2]⟩
def pk(T:BD):∀(c:cz){bt:Env}{M:aL}{x:Out},fm (aq T) c bt M=some x->∃n,fm (kU T n) c bt M=some x
 | .skip,_,_,_,h=>⟨0,h⟩
 | .exit _,_,_,_,h=>⟨0,h⟩
 | .ret,_,_,_,h=>⟨0,h⟩
 | .region ops d live,bt,M,x,h=>by
  simp only[fm] at *;obtain⟨a,ha,h⟩:=bo h;obtain⟨n,hn⟩:=vu T ha;exact⟨n,by rw[hn]; exact h⟩
 | .seq a b,bt,M,x,h=>by
  simp only[fm] at *;obtain⟨o,ho,h⟩:=bo h;obtain⟨n,hn⟩:=pk T a ho;rcases tJ h with ⟨h1,h2⟩|⟨h1,h2⟩
  ·obtain⟨m,hm⟩:=pk T b h2;refine⟨max n m,?_⟩;rw[j8 (tj T (Nat.le_max_left n m)) a hn,cd,ui h1];exact j8 (tj T (Nat.le_max_right n m)) b hm
  ·exact⟨n,by rw[hn,cd,zi h1,h2]⟩
 | .cond c a b,bt,M,x,h=>by
  simp only[fm] at *;split at h
  ·rename_i t ht;rcases kQ h with ⟨rfl,h⟩|⟨rfl,h⟩
   ·obtain⟨n,hn⟩:=pk T a h; exact⟨n,hn⟩
   ·obtain⟨n,hn⟩:=pk T b h; exact⟨n,hn⟩
  ·cases h
 | .block id c,bt,M,x,h=>by
  simp only[fm] at *;obtain⟨o,ho,h⟩:=bo h;obtain⟨n,hn⟩:=pk T c ho;exact⟨n,by rw[hn]; exact h⟩
 | .loop live c,bt,M,x,h=>by
  simp only[fm] at *;obtain⟨k,hk⟩:=uC h;obtain⟨n,hn⟩:=Ao T (pk T c) k bt M hk;exact⟨n,p8 (fun n x=>um live n) hn⟩
 | .lU live c,bt,M,x,h=>by
  simp only[fm] at *;obtain⟨k,hk⟩:=uC h;obtain⟨n,hn⟩:=Ao T (pk T c) k bt M hk;exact⟨n,p8 (fun n x=>um live n) hn⟩
def Eu(g:Nat->Nat->Nat)(C:eO)(live:List Nat)(c:cz)(bt:Env)(M:aL) :
  lim (fun n=>iter g (fm C c) live n bt M)=bJ (fm C c (ju bt live) M) fun o=>uz o fun e m=>lim fun n=>iter g (fm C c) live n (vP (g M.length m.length) m (ju e live)) (jS (g M.length m.length) m):=by
 apply Option.ext;intro x;constructor
 ·intro h;obtain⟨n,hn⟩:=uC h;cases n with
  |zero=>cases hn
  |succ n =>
   rw[iter] at hn;obtain⟨o,ho,hn⟩:=bo hn;rw[ho,cd];exact xt (fun bt M x hx=>p8 (fun n x=>um live n) hx) hn
 ·intro h;obtain⟨o,ho,h⟩:=bo h;rcases tJ h with ⟨h1,h2⟩|⟨h1,h2⟩
  ·obtain⟨n,hn⟩:=uC h2;refine p8 (F:=fun n=>iter g (fm C c) live n bt M) (n:=n+1) (fun n x=>um live n) ?_
   show iter g (fm C c) live (n+1) bt M=some x
   rw[iter,ho,cd,ui h1];exact hn
  ·refine p8 (F:=fun n=>iter g (fm C c) live n bt M) (n:=1) (fun n x=>um live n) ?_
   show iter g (fm C c) live 1 bt M=some x
   rw[iter,ho,cd,zi h1,h2]
def Jz(C:eO)(live:List Nat)(c:cz)(bt:Env)(M:aL) :
  fm C (.loop live c) bt M=bJ (fm C c (ju bt live) M) fun o=>uz o fun e m=>fm C (.loop live c) (vP M.length m (ju e live)) (jS M.length m):=Eu gL C live c bt M
def G2(C:eO)(live:List Nat)(c:cz)(bt:Env)(M:aL) :
  fm C (.lU live c) bt M=bJ (fm C c (ju bt live) M) fun o=>uz o fun e m=>fm C (.lU live c) (vP m.length m (ju e live)) (jS m.length m):=Eu gR C live c bt M
def Jw{T:BD}{f:Nat}{fn:eU}{args:List ag}{M:aL}{x:ag×aL}(hp:T.sO f=none)(hc:T.code f=some fn)(hl:args.length=fn.nparams)
  (h:bJ (fm (aq T) fn.body (j5 0 args) M) (finish fn.results M.length)=some x):aq T f args M=some x:=by
 obtain⟨o,hb,hf⟩:=bo h;obtain⟨n,hn⟩:=pk T fn.body hb;refine p8 (n:=n+1) (fun n x h=>uI T n f args M x h) ?_
 rw[kU];simp only[hp,hc,az hl,hn,cd];exact hf
def gF{T:BD}{f:Nat}{g:List ag->aL->Option (ag×aL)}{args:List ag}{M:aL}{x:ag×aL}(hp:T.sO f=some g)(hg:g args M=some x):aq T f args M=some x:=by
 refine p8 (n:=0) (fun n x h=>uI T n f args M x h) ?_
 rw[kU];simp only[hp,hg]
inductive K where
 |seq (c:cz)
 |block (id:Nat)
 |loop (live:List Nat) (n:Nat) (c:cz)
 |lU (live:List Nat) (c:cz)
noncomputable def kr(C:eO)(fn:List sy)(bN:Nat):List K->Out->Option (ag×aL)
 | [],o=>finish fn bN o
 | .seq c::k,o=>bJ (uz o (fm C c)) (kr C fn bN k)
 | .block id::k,o=>kr C fn bN k (zq id o)
 | .loop live n c::k,o=>bJ (uz o fun e m=>fm C (.loop live c) (vP n m (ju e live)) (jS n m)) (kr C fn bN k)
 | .lU live c::k,o=>bJ (uz o fun e m=>fm C (.lU live c) (vP m.length m (ju e live)) (jS m.length m)) (kr C fn bN k)
noncomputable def fS(C:eO)(fn:List sy)(bN:Nat)(k:List K)(c:cz)(bt:Env)(M:aL):Option (ag×aL):=bJ (fm C c bt M) (kr C fn bN k)
noncomputable def fp(C:eO)(fn:List sy)(bN:Nat)(k:List K)(live:List Nat)(ops:List cQ)(bt:Env)(M:aL):Option (ag×aL) :=
 bJ (gU C ops bt M) fun o=>kr C fn bN k (o.ri live)
noncomputable def kH(C:eO)(fn:List sy)(bN:Nat)(k:List K)(live:List Nat)(c:Bool)(dst:Option Nat)(r:List cQ)(bt:Env)(y:Option (ag×aL)):Option (ag×aL) :=
 bJ y fun x=>bJ (Ot c x (gU C r (rp bt dst x.1) x.2)) fun o=>kr C fn bN k (o.ri live)
noncomputable def gK(C:eO)(fn:List sy)(bN:Nat)(k:List K)(live:List Nat)(g:ag)(want:Bool)(o:cQ)(r:List cQ)(bt:Env)(M:aL):Option (ag×aL) :=
 match g with
 | .bool b=>zo (b==want) (kH C fn bN k live o.lets o.dst r bt (pP C o bt M)) (fp C fn bN k live r (rp bt o.dst (.tuple [])) M)
 | .tuple []=>fp C fn bN k live r (rp bt o.dst (.tuple [])) M
 |_=>none
noncomputable def dv(C:eO)(fn:List sy)(bN:Nat)(k:List K)(v:ag)(x y:cz)(bt:Env)(M:aL):Option (ag×aL) :=
 match v with
 | .bool t=>zo t (fS C fn bN k x bt M) (fS C fn bN k y bt M)
 |_=>none
def pz{α β γ:Type}(x:Option α)(f:α->Option β)(g:β->Option γ):bJ (bJ x f) g=bJ x fun a=>bJ (f a) g:=by cases x<;>rfl
section
variable (C:eO) (fn:List sy) (bN:Nat) (k:List K) (bt:Env) (M:aL)
def PX:fS C fn bN k .skip bt M=kr C fn bN k ⟨.normal,bt,M⟩:=rfl
def PW(id:Nat):fS C fn bN k (.exit id) bt M=kr C fn bN k ⟨.exit id,bt,M⟩:=rfl
def Vp:fS C fn bN k .ret bt M=kr C fn bN k ⟨.ret,bt,M⟩:=rfl
def Vq(a b:cz):fS C fn bN k (.seq a b) bt M=fS C fn bN (.seq b::k) a bt M:=by
 unfold fS;rw[fm,pz];rfl
def Nu(id:Nat)(c:cz):fS C fn bN k (.block id c) bt M=fS C fn bN (.block id::k) c bt M:=by
 unfold fS;rw[fm,pz];rfl
def PV(c:gQ)(x y:cz):fS C fn bN k (.cond c x y) bt M=dv C fn bN k (c.ev bt) x y bt M:=by
 unfold fS dv;rw[fm];cases c.ev bt<;>simp[fS]
def J6(ops:List cQ)(d:Bool)(live:List Nat):fS C fn bN k (.region ops d live) bt M=fp C fn bN k live ops bt M:=by
 unfold fS fp;rw[fm,pz];rfl
def bZ(live:List Nat)(c:cz):fS C fn bN k (.loop live c) bt M=fS C fn bN (.loop live M.length c::k) c (ju bt live) M:=by
 unfold fS;rw[Jz,pz];rfl
def Ea(live:List Nat)(c:cz):fS C fn bN k (.lU live c) bt M=fS C fn bN (.lU live c::k) c (ju bt live) M:=by
 unfold fS;rw[G2,pz];rfl
def SC(live:List Nat)(c:cz):kr C fn bN (.lU live c::k) ⟨.normal,bt,M⟩=fS C fn bN k (.lU live c) (vP M.length M (ju bt live)) (jS M.length M):=rfl
def DQ(live:List Nat)(c:cz)(i:Nat):kr C fn bN (.lU live c::k) ⟨.exit i,bt,M⟩=kr C fn bN k ⟨.exit i,bt,M⟩:=rfl
def Gg(live:List Nat)(c:cz):kr C fn bN (.lU live c::k) ⟨.ret,bt,M⟩=kr C fn bN k ⟨.ret,bt,M⟩:=rfl
def TE(live:List Nat):fp C fn bN k live [] bt M=kr C fn bN k ⟨.normal,ju bt live,M⟩:=rfl
def Ol(live:List Nat)(d:Option Nat)(op:kI)(g m:Bool)(s:List Nat)(st:Bool)(r:List cQ) :
  fp C fn bN k live (⟨d,op,none,g,m,s,st⟩::r) bt M=kH C fn bN k live (cQ.lets ⟨d,op,none,g,m,s,st⟩) d r bt (pP C ⟨d,op,none,g,m,s,st⟩ bt M):=by
 unfold fp kH;rw[gU,pz]
def Om(live:List Nat)(d:Option Nat)(op:kI)(t:Nat)(w g m:Bool)(s:List Nat)(st:Bool)(r:List cQ) :
  fp C fn bN k live (⟨d,op,some (t,w),g,m,s,st⟩::r) bt M=gK C fn bN k live (ir bt t) w ⟨d,op,some (t,w),g,m,s,st⟩ r bt M:=by
 unfold fp gK;rw[gU];simp only;generalize ir bt t=v;split
 ·rw[N9,pz]; rfl
 ·rfl
 ·rename_i h1 h2
  first
   |rfl
   |(split
     ·rename_i b; exact absurd rfl (h1 b)
     ·exact absurd rfl h2
     ·rfl)
def Tg(live:List Nat)(c:Bool)(d:Option Nat)(r:List cQ)(v:ag)(M':aL)(hv:v.jU=false):kH C fn bN k live c d r bt (some (v,M'))=fp C fn bN k live r (rp bt d v) M':=by
 unfold kH;rw[cd,KT hv]; rfl
def WR(live:List Nat)(d:Option Nat)(r:List cQ)(v:Value)(M':aL):kH C fn bN k live true d r bt (some (.oC v,M'))=kr C fn bN k ⟨.oC v,[],M'⟩:=rfl
def N2(d g f:_)(a m s1 s:_):cQ.lets ⟨d,.call f a,g,m,s1,s,true⟩=true:=rfl
def Kw(d g f:_)(a m s1 s:_):cQ.lets ⟨d,.vR f a,g,m,s1,s,true⟩=true:=rfl
def Ku(d g f:_)(a m s1 s:_):cQ.lets ⟨d,.A9 f a,g,m,s1,s,true⟩=true:=rfl
def Kv(d g f:_)(a m s1 s:_):cQ.lets ⟨d,.lP f a,g,m,s1,s,true⟩=true:=rfl
def Kx(d g f:_)(m s1 s:_):cQ.lets ⟨d,.raise f,g,m,s1,s,true⟩=true:=rfl
def agR(live:List Nat)(o:cQ)(r:List cQ):gK C fn bN k live (.bool true) true o r bt M=kH C fn bN k live o.lets o.dst r bt (pP C o bt M):=rfl
def agO(live:List Nat)(o:cQ)(r:List cQ):gK C fn bN k live (.bool false) false o r bt M=kH C fn bN k live o.lets o.dst r bt (pP C o bt M):=rfl
def agQ(live:List Nat)(o:cQ)(r:List cQ):gK C fn bN k live (.bool true) false o r bt M=fp C fn bN k live r (rp bt o.dst (.tuple [])) M:=rfl
def agP(live:List Nat)(o:cQ)(r:List cQ):gK C fn bN k live (.bool false) true o r bt M=fp C fn bN k live r (rp bt o.dst (.tuple [])) M:=rfl
def agS(live:List Nat)(w:Bool)(o:cQ)(r:List cQ):gK C fn bN k live (.tuple []) w o r bt M=fp C fn bN k live r (rp bt o.dst (.tuple [])) M:=rfl
def Vv(x y:cz):dv C fn bN k (.bool true) x y bt M=fS C fn bN k x bt M:=rfl
def Vu(x y:cz):dv C fn bN k (.bool false) x y bt M=fS C fn bN k y bt M:=rfl
def acA(c:cz):kr C fn bN (.seq c::k) ⟨.normal,bt,M⟩=fS C fn bN k c bt M:=rfl
def HW(c:cz)(i:Nat):kr C fn bN (.seq c::k) ⟨.exit i,bt,M⟩=kr C fn bN k ⟨.exit i,bt,M⟩:=rfl
def Kl(c:cz):kr C fn bN (.seq c::k) ⟨.ret,bt,M⟩=kr C fn bN k ⟨.ret,bt,M⟩:=rfl
def Kk(c:cz)(v:Value):kr C fn bN (.seq c::k) ⟨.oC v,bt,M⟩=kr C fn bN k ⟨.oC v,bt,M⟩:=rfl
def Gd(id:Nat)(v:Value):kr C fn bN (.block id::k) ⟨.oC v,bt,M⟩=kr C fn bN k ⟨.oC v,bt,M⟩:=rfl
def HU(live:List Nat)(n:Nat)(c:cz)(v:Value):kr C fn bN (.loop live n c::k) ⟨.oC v,bt,M⟩=kr C fn bN k ⟨.oC v,bt,M⟩:=rfl
def SB(id:Nat):kr C fn bN (.block id::k) ⟨.normal,bt,M⟩=kr C fn bN k ⟨.normal,bt,M⟩:=rfl
def DP(id i:Nat):kr C fn bN (.block id::k) ⟨.exit i,bt,M⟩=if i=id then kr C fn bN k ⟨.normal,bt,M⟩ else kr C fn bN k ⟨.exit i,bt,M⟩:=by
 rw[kr]; simp only[zq]; split<;>rfl
def Gf(id:Nat):kr C fn bN (.block id::k) ⟨.ret,bt,M⟩=kr C fn bN k ⟨.ret,bt,M⟩:=rfl
def VO(live:List Nat)(n:Nat)(c:cz):kr C fn bN (.loop live n c::k) ⟨.normal,bt,M⟩=fS C fn bN k (.loop live c) (vP n M (ju bt live)) (jS n M):=rfl
def Gh(live:List Nat)(n:Nat)(c:cz)(i:Nat):kr C fn bN (.loop live n c::k) ⟨.exit i,bt,M⟩=kr C fn bN k ⟨.exit i,bt,M⟩:=rfl
def HV(live:List Nat)(n:Nat)(c:cz):kr C fn bN (.loop live n c::k) ⟨.ret,bt,M⟩=kr C fn bN k ⟨.ret,bt,M⟩:=rfl
def acz(o:Out):kr C fn bN [] o=finish fn bN o:=rfl
end
def hV{q body:cz}(h:q=body)(C:eO)(fn:List sy)(bN:Nat)(k:List K)(bt:Env)(M:aL):fS C fn bN k q bt M=fS C fn bN k body bt M:=by rw[h]
def aJ{T:BD}{f:Nat}{fn:eU}{args:List ag}{M:aL}{x:ag×aL}(h:fS (aq T) fn.results M.length [] fn.body (j5 0 args) M=some x)
  (hp:T.sO f=none:=by exact rfl) (hc:T.code f=some fn:=by exact rfl) (hl:args.length=fn.nparams:=by exact rfl):aq T f args M=some x :=
 Jw hp hc hl (by
  unfold fS at h;obtain⟨o,h1,h2⟩:=bo h;rw[h1]; exact h2)
end
section
open Go Go.RowKit
def bs(s:List UInt8):ByteArray:=⟨s.toArray⟩
structure J where
 f:Nat->Option Nat
 X:Nat->Nat->Prop
instance:CoeFun J (fun _=>Nat->Option Nat):=⟨J.f⟩
structure nV(j:J)(M:aL)(w:World)(b off:Nat):Prop where
 lt:b<w.heap.size
 ids:∀id,id<M.length->j id=some b->∃sz n,M[id]?=some (.tick sz n)/\off<n*sz
 nx:¬j.X b off
inductive fI(w:World)(hU:Nat->Nat->Prop):ag->Value->Prop where
 |bool (b:Bool):fI w hU (.bool b) (.bool b)
 |int (k:IntKind) (n:Int):fI w hU (.int k n) (.int k n)
 |str (s:List UInt8):fI w hU (.str s) (.string (bs s))
 |raw (v:Value) (h1:v.oneCell'=true):fI w hU (.raw v) v
 |slice (xs:List ag) (A:Option Addr) (len cap b off sz:Nat) (vs:Nat->Value) (hl:len=xs.length) (hc:len<=cap)
   (ha:xs≠[]->A=some ⟨b,off,none⟩) (hz:∀x,x∈xs->x.cells.length=sz)
   (hs:∀(i:Nat)(x:ag)(k:Nat)(c:ag),xs[i]?=some x->x.cells[k]?=some c->w.cell? ⟨b,off+(i*sz+k),none⟩=some (vs (i*sz+k))/\hU b (off+(i*sz+k)))
   (hr:∀(i:Nat)(x:ag)(k:Nat)(c:ag),xs[i]?=some x->x.cells[k]?=some c->fI w hU c (vs (i*sz+k))):fI w hU (.slice .sh xs) (.slice A len cap)
def Pg(j:J)(w:World)(k n t:Nat)(x:Bool)(v:Value):Prop :=
 (j k=none/\n=0/\∃A,v = .slice A 0 0/\(x=true->A=none)) \/
 ∃b cap vs,0<n/\j k=some b/\v = .slice (some ⟨b,0,none⟩) n cap/\w.heap[b]?=some (.cells vs t (0,0))/\cap<=vs.size/\n<=cap
def GU(j:J)(w:World)(k sz n:Nat)(v:Value):Prop :=
 (j k=none/\n=0/\∃A,v = .slice A 0 0) \/
 ∃b cap vs t,j k=some b/\v = .slice (some ⟨b,0,none⟩) n cap/\w.heap[b]?=some (.cells vs t (0,0))/\cap*sz<=vs.size/\n<=cap
def BC(w:World)(hU:Nat->Nat->Prop)(x:ag)(v:Value):Prop :=
 match x with
 | .agg cs=>∃us:Array Value,v = .agg us/\cs.length=us.size/\∀(i:Nat)(c:ag)(u:Value),cs[i]?=some c->us[i]?=some u->fI w hU c u
 |x=>fI w hU x v
inductive fY(j:J)(M:aL)(w:World):ag->Value->Prop where
 |plain {x:ag} {v:Value} (h:fI w (nV j M w) x v):fY j M w x v
 |c0 (A:Option Addr):fY j M w (.slice .c0 []) (.slice A 0 0)
 |own {k:Nat} {xs:List ag} {v:Value} {sz n:Nat} (hk:M[k]?=some (.tick sz n)) (hn:xs.length<=n) (h:fI w (nV j M w) (.slice .sh xs) v)
   (ht:xs.length=n->GU j w k sz n v):fY j M w (.slice (.own k) xs) v
 |agg {cs:List ag} {vs:Array Value} (hl:cs.length=vs.size) (h:∀(i:Nat)(c:ag)(v:Value),cs[i]?=some c->vs[i]?=some v->fY j M w c v):fY j M w (.agg cs) (.agg vs)
 |tuple {cs:List ag} {vs:Array Value} (hl:cs.length=vs.size) (h:∀(i:Nat)(c:ag)(v:Value),cs[i]?=some c->vs[i]?=some v->fY j M w c v):fY j M w (.tuple cs) (.tuple vs)
 |ptr {id off b:Nat} (hid:id<M.length) (hc:∃cs,M[id]?=some (.cells cs)) (hj:j id=some b):fY j M w (.ptr id off) (.pointer (some ⟨b,off,none⟩))
 |jg {cs:List ag} {b off:Nat} {vs:Nat->Value} (h:∀(k:Nat)(c:ag),cs[k]?=some c->w.cell? ⟨b,off+k,none⟩=some (vs k)/\nV j M w b (off+k)/\fI w (nV j M w) c (vs k)) :
   fY j M w (.jg cs) (.pointer (some ⟨b,off,none⟩))
 |func {f:Nat} {caps:List ag} {vs:Array Value} (hl:caps.length=vs.size) (h:∀(i:Nat)(c:ag)(v:Value),caps[i]?=some c->vs[i]?=some v->fY j M w c v) :
   fY j M w (.func f caps) (.func (.func f) #[] vs)
 |gH {id b:Nat} (hc:∃ks vs,M[id]?=some (.map ks vs)) (hj:j id=some b):fY j M w (.gH id) (.map (some b))
 |jA {id b:Nat} (hc:∃s p,M[id]?=some (.nG s p)) (hj:j id=some b):fY j M w (.jA id) (.pointer (some ⟨b,0,none⟩))
 |iG {ks vs:List ag} {b:Nat} {es:Array MapEntry} {clock:Nat} (hb:b<w.heap.size) (hf:∀i,i<M.length->j i≠some b) (hx:∀off,¬j.X b off) (hw:w.heap[b]?=some (.map es clock)) (hk:ks.length=es.size) (hv:vs.length=es.size)
   (hks:∀(i:Nat)(k:ag)(e:MapEntry),ks[i]?=some k->es[i]?=some e->fI w (nV j M w) k e.key) (hvs:∀(i:Nat)(v:ag)(e:MapEntry),vs[i]?=some v->es[i]?=some e->BC w (nV j M w) v e.val) :
   fY j M w (.iG ks vs) (.map (some b))
 |dk {id ver sz lo hi:Nat} {v:Value} (h0:(∃b off c,v = .slice (some ⟨b,off,none⟩) (hi-lo) c/\hi-lo<=c)\/hi-lo=0/\∃A,v = .slice A 0 0) (hid:id<M.length) (hM:∀bx,M[id]?=some bx->bx.loose=true)
   (hv:∀sz' v' xs,M[id]?=some (.arr sz' v' xs)->ver<=v'/\(v'=ver->sz'=sz/\lo<=hi/\hi<=xs.length/\((xs=[]/\j id=none/\∃A,v = .slice A 0 0)\/∃b cap vs t,j id=some b/\v = .slice (some ⟨b,lo*sz,none⟩) (hi-lo) cap/\hi-lo<=cap/\w.heap[b]?=some (.cells vs t (0,0))/\(lo+cap)*sz<=vs.size))) :
   fY j M w (.dk id ver sz lo hi) v
 |iu {id ver i off:Nat} {v:Value} (h0:∃b o,v = .pointer (some ⟨b,o,none⟩)) (hid:id<M.length) (hM:∀bx,M[id]?=some bx->bx.loose=true)
   (hv:∀sz v' xs,M[id]?=some (.arr sz v' xs)->ver<=v'/\(v'=ver->i<xs.length/\∃b,j id=some b/\v = .pointer (some ⟨b,i*sz+off,none⟩))) :
   fY j M w (.iu id ver i off) v
 |sb {f:Nat} {fs:List ag} {vs:Array Value} (hl:fs.length=vs.size) (h:∀(i:Nat)(c:ag)(v:Value),fs[i]?=some c->vs[i]?=some v->BC w (nV j M w) c v):fY j M w (.sb f fs) (.func (.func f) vs #[])
 |jO {t id off b:Nat} (hc:∃cs,M[id]?=some (.cells cs)) (hj:j id=some b):fY j M w (.jO t id off) (.iface t (.pointer (some ⟨b,off,none⟩)))
 |any (v:Value):fY j M w .any v
def RC(j:J)(M:aL)(w:World)(cs:List ag)(vs:Array Value):Prop :=
 cs.length=vs.size/\∀(i:Nat)(c:ag)(v:Value),cs[i]?=some c->vs[i]?=some v->fY j M w c v
def Holds(j:J)(M:aL)(w:World)(b:Nat):cD->Prop
 | .cells cs=>∃vs t,w.heap[b]?=some (.cells vs t (0,0))/\RC j M w cs vs
 | .tick _ _=>True
 | .map ks vs=>∃es clock,w.heap[b]?=some (.map es clock)/\ks.length=es.size/\vs.length=es.size/\(∀(i:Nat)(k:ag)(e:MapEntry),ks[i]?=some k->es[i]?=some e->fI w (nV j M w) k e.key) /\
   ∀(i:Nat)(v:ag)(e:MapEntry),vs[i]?=some v->es[i]?=some e->fY j M w v e.val
 | .nG s pos=>w.heap[b]?=some (.stringIter (bs s) pos)
 | .arr _ _ _=>True
 | .vq=>True
structure Rel(j:J)(M:aL)(w:World):Prop where
 inj:∀i i' b,i<M.length->i'<M.length->j i=some b->j i'=some b->i=i'
 lt:∀i b,i<M.length->j i=some b->b<w.heap.size
 fix:∀i bx,M[i]?=some bx->bx.fixed=true->∃b,j i=some b/\Holds j M w b bx
 tick:∀i sz n b,M[i]?=some (.tick sz n)->j i=some b->∃vs t,w.heap[b]?=some (.cells vs t (0,0))
 arr:∀i sz ver xs,M[i]?=some (.arr sz ver xs)->(xs=[]/\j i=none)\/∃b vs t,j i=some b/\w.heap[b]?=some (.cells vs t (0,0))/\xs.length*sz<=vs.size/\(∀x,x∈xs->x.cells.length=sz) /\
  ∀(q:Nat)(x:ag)(k:Nat)(c:ag),xs[q]?=some x->x.cells[k]?=some c->∃v,vs[q*sz+k]?=some v/\fI w (nV j M w) c v
 uG:∀i b,i<M.length->j i=some b->∀off,¬j.X b off
 zK:∀b off,j.X b off->b<w.heap.size
def Rel.box{j:J}{M:aL}{w:World}(h:Rel j M w)(i:Nat)(cs:List ag)(hi:M[i]?=some (.cells cs)):∃b vs t,j i=some b/\w.heap[b]?=some (.cells vs t (0,0))/\cs.length=vs.size /\
  ∀(q:Nat)(c:ag)(v:Value),cs[q]?=some c->vs[q]?=some v->fY j M w c v:=by
 obtain⟨b,h1,vs,t,h2,h3⟩:=h.fix i _ hi rfl;exact⟨b,vs,t,h1,h2,h3.1,h3.2⟩
structure Ext(j:J)(M:aL)(w:World)(j':J)(M':aL)(w':World):Prop where
 len:M.length<=M'.length
 size:w.heap.size<=w'.heap.size
 os:w'.os=w.os
 tape:w'.tape=w.tape
 output:w'.output=w.output
 X:j'.X=j.X
 fix:∀i bx,M[i]?=some bx->bx.fixed=true->j' i=j i/\∃bx',M'[i]?=some bx'/\bx'.tag=bx.tag
 tick:∀i sz n,M[i]?=some (.tick sz n)->∃n',n<=n'/\M'[i]?=some (.tick sz n') /\
  (n'=n->j' i=j i/\∀b vs t,j i=some b->w.heap[b]?=some (.cells vs t (0,0))->∃vs',w'.heap[b]?=some (.cells vs' t (0,0))/\vs'.size=vs.size)
 arr:∀i sz ver xs,M[i]?=some (.arr sz ver xs)->(∃n',M'[i]?=some (.tick sz n'))\/∃ver' xs',M'[i]?=some (.arr sz ver' xs')/\ver<=ver' /\
  (ver'=ver->j' i=j i/\xs'.length=xs.length/\∀b vs t,j i=some b->w.heap[b]?=some (.cells vs t (0,0))->∃vs',w'.heap[b]?=some (.cells vs' t (0,0))/\vs'.size=vs.size)
 tags:∀(b:Nat)(vs:Array Value)(t:TypeId)(fr:Nat×Nat),w.heap[b]?=some (.cells vs t fr)->∃vs' fr',w'.heap[b]?=some (.cells vs' t fr')/\vs'.size=vs.size
 hU:∀b off,nV j M w b off->nV j' M' w' b off/\w'.cell? ⟨b,off,none⟩=w.cell? ⟨b,off,none⟩
 ur:∀b,b<w.heap.size->(∀i,i<M.length->j i≠some b)->w'.heap[b]?=w.heap[b]?/\∀i,i<M'.length->j' i≠some b
def AY{a b:cD}(h:b.tag=a.tag)(ha:a.fixed=true):b.fixed=true:=by
 cases a<;>cases b<;>simp[cD.tag,cD.fixed] at * <;> omega
def Fj{b:cD}(h:b.tag=0):∃cs,b = .cells cs:=by cases b<;>simp[cD.tag] at h; simp
def Xo{b:cD}(h:b.tag=1):∃ks vs,b = .map ks vs:=by cases b<;>simp[cD.tag] at h; simp
def OE{b:cD}(h:b.tag=2):∃s p,b = .nG s p:=by cases b<;>simp[cD.tag] at h; simp
theorem fI.mono{w w':World}{hU saf':Nat->Nat->Prop}(h:∀b off,hU b off->saf' b off/\w'.cell? ⟨b,off,none⟩=w.cell? ⟨b,off,none⟩)
  {x:ag} {v:Value} (hr:fI w hU x v):fI w' saf' x v:=by
 induction hr with
 |bool b=>simp[bool]
 |int k n=>exact .int k n
 |str s=>exact .str s
 |raw v h1=>exact .raw v h1
 |slice xs A len cap b off sz vs hl hc ha hz hs _ ih =>
  refine .slice _ A _ _ b _ _ _ hl hc ha hz (fun i x k c hx hk=>?_) ih
  grind
def BC.mono{w w':World}{hU saf':Nat->Nat->Prop}(h:∀b off,hU b off->saf' b off/\w'.cell? ⟨b,off,none⟩=w.cell? ⟨b,off,none⟩)
  {x:ag} {v:Value} (hr:BC w hU x v):BC w' saf' x v:=by
 by_cases hag:∃cs,x = .agg cs
 ·obtain⟨cs,rfl⟩:=hag;obtain⟨us,h1,h2,h3⟩:=hr;exact⟨us,h1,h2,fun i c u hc hu=>(h3 i c u hc hu).mono h⟩
 ·cases x<;>first|exact absurd ⟨_,rfl⟩ hag|exact fI.mono h hr
section
variable {j j' j'':J} {M M' M'':aL} {w w' w'':World}
def Pg.mono{k n t:Nat}{x:Bool}{v:Value}(h:Pg j w k n t x v)(hj:j' k=j k)
  (hb:∀b vs t,j k=some b->w.heap[b]?=some (.cells vs t (0,0))->∃vs',w'.heap[b]?=some (.cells vs' t (0,0))/\vs'.size=vs.size):Pg j' w' k n t x v:=by
 rcases h with ⟨h1,h2,h3⟩|⟨b,cap,vs,h0,h1,h2,h3,h4,h5⟩
 ·exact .inl ⟨hj.trans h1,h2,h3⟩
 ·obtain⟨vs',h6,h7⟩:=hb b _ t h1 h3;exact .inr ⟨b,cap,vs',h0,hj.trans h1,h2,h6,by omega,h5⟩
def GU.mono{k sz n:Nat}{v:Value}(h:GU j w k sz n v)(hj:j' k=j k)
  (hb:∀b vs t,j k=some b->w.heap[b]?=some (.cells vs t (0,0))->∃vs',w'.heap[b]?=some (.cells vs' t (0,0))/\vs'.size=vs.size):GU j' w' k sz n v:=by
 rcases h with ⟨h1,h2,h3⟩|⟨b,cap,vs,t,h1,h2,h3,h4,h5⟩
 ·exact .inl ⟨hj.trans h1,h2,h3⟩
 ·obtain⟨vs',h6,h7⟩:=hb b _ t h1 h3;exact .inr ⟨b,cap,vs',t,hj.trans h1,h2,h6,by omega,h5⟩
theorem Ext.loose(hx:Ext j M w j' M' w'){id:Nat}(hid:id<M.length)(hM:∀bx,M[id]?=some bx->bx.loose=true):(∀bx,M'[id]?=some bx->bx.loose=true) /\
  ∀sz v' xs,M'[id]?=some (.arr sz v' xs)->∃v0 xs0,M[id]?=some (.arr sz v0 xs0)/\v0<=v' /\
   (v'=v0->j' id=j id/\xs.length=xs0.length/\∀b vs t,j id=some b->w.heap[b]?=some (.cells vs t (0,0))->∃vs',w'.heap[b]?=some (.cells vs' t (0,0))/\vs'.size=vs.size):=by
 have h0:=aj hid;have hf:=hM _ h0;generalize M[id]=bx at h0 hf;cases bx with
 |cells=>cases hf
 |map=>cases hf
 |nG=>cases hf
 |vq=>cases hf
 |tick sz n =>
  obtain⟨n',h1,h2,h3⟩:=hx.tick _ _ _ h0;refine⟨fun bx hb=>?_,fun sz v' xs h=>?_⟩
  ·rw[h2] at hb; cases hb; rfl
  grind
 |arr sz v xs =>
  rcases hx.arr _ _ _ _ h0 with ⟨n',h2⟩|⟨v1,xs1,h2,h3,h4⟩
  ·refine⟨fun bx hb=>?_,fun sz v' xs h=>?_⟩
   ·rw[h2] at hb; cases hb; rfl
   grind
  ·refine⟨fun bx hb=>?_,fun sz' v' xs' h=>?_⟩
   ·rw[h2] at hb; cases hb; rfl
   grind
theorem fY.mono(hx:Ext j M w j' M' w'){x:ag}{v:Value}(hr:fY j M w x v):fY j' M' w' x v:=by
 induction hr with
 |plain h=>exact .plain (h.mono hx.hU)
 |c0 A=>exact .c0 A
 |own hk hn h ht =>
  obtain⟨n',h1,h2,h3⟩:=hx.tick _ _ _ hk;refine .own h2 (by omega) (h.mono hx.hU) (fun he=>?_)
  have:n'=_:=Nat.le_antisymm (by omega) h1
  obtain⟨h4,h5⟩:=h3 this;subst this;exact(ht he).mono h4 h5
 |agg hl _ ih=>exact .agg hl ih
 |tuple hl _ ih=>exact .tuple hl ih
 |ptr hid hc hj =>
  obtain⟨cs,hc⟩:=hc;obtain⟨h1,bx,h2,h3⟩:=hx.fix _ _ hc rfl;obtain⟨cs',rfl⟩:=Fj h3;exact .ptr (bq hid hx.len) ⟨_,h2⟩ (h1.trans hj)
 | @jg cs b off vs h =>
  refine .jg (vs:=vs) fun k c hk=>?_
  obtain⟨h1,h2,h3⟩:=h k c hk;obtain⟨h4,h5⟩:=hx.hU _ _ h2;exact⟨h5.trans h1,h4,h3.mono hx.hU⟩
 |func hl _ ih=>exact .func hl ih
 |gH hc hj =>
  obtain⟨ks,vs,hc⟩:=hc;obtain⟨h1,bx,h2,h3⟩:=hx.fix _ _ hc rfl;obtain⟨ks',vs',rfl⟩:=Xo h3;exact .gH ⟨_,_,h2⟩ (h1.trans hj)
 |jA hc hj =>
  obtain⟨ks,vs,hc⟩:=hc;obtain⟨h1,bx,h2,h3⟩:=hx.fix _ _ hc rfl;obtain⟨ks',vs',rfl⟩:=OE h3;exact .jA ⟨_,_,h2⟩ (h1.trans hj)
 |iG hb hf hxx hw hk hv hks hvs =>
  obtain⟨h1,h2⟩:=hx.ur _ hb hf;exact .iG (bq hb hx.size) h2 (by rw[hx.X]; omega) (h1.trans hw) hk hv (fun i k e h1 h2=>(hks i k e h1 h2).mono hx.hU) (fun i k e h1 h2=>(hvs i k e h1 h2).mono hx.hU)
 |dk hs hid hM hv =>
  obtain⟨g1,g2⟩:=hx.loose hid hM;refine .dk hs (bq hid hx.len) g1 fun sz v' xs h=>?_
  obtain⟨v0,xs0,h0,h1,h2⟩:=g2 sz v' xs h;obtain⟨h3,h4⟩:=hv sz v0 xs0 h0;refine⟨by omega,fun he=>?_⟩
  obtain⟨h5,h6,h7⟩:=h2 (by omega)
  obtain⟨l0,l1,l2,⟨rfl,l3,l4⟩|⟨b,cap,vs,t,l3,l4,l5,l6,l7⟩⟩:=h4 (by omega)
  ·exact⟨l0,l1,by omega,.inl ⟨cp (by omega),h5.trans l3,l4⟩⟩
  obtain⟨vs',l8,l9⟩:=h7 b vs t l3 l6;exact⟨l0,l1,by omega,.inr ⟨b,cap,vs',t,h5.trans l3,l4,l5,l8,by omega⟩⟩
 |iu hs hid hM hv =>
  obtain⟨g1,g2⟩:=hx.loose hid hM;refine .iu hs (bq hid hx.len) g1 fun sz v' xs h=>?_
  grind
 |sb hl h=>exact .sb hl fun i c v hc hv=>(h i c v hc hv).mono hx.hU
 |jO hc hj =>
  obtain⟨cs,hc⟩:=hc;obtain⟨h1,bx,h2,h3⟩:=hx.fix _ _ hc rfl;obtain⟨cs',rfl⟩:=Fj h3;exact .jO ⟨_,h2⟩ (h1.trans hj)
 |any v=>exact .any v
def Holds.mono{b:Nat}{bx:cD}(hx:Ext j M w j' M' w')(hb:w'.heap[b]?=w.heap[b]?)(h:Holds j M w b bx):Holds j' M' w' b bx:=by
 cases bx with
 |cells cs =>
  obtain⟨vs,t,h1,h2,h3⟩:=h;exact⟨vs,t,hb.trans h1,h2,fun i c v hc hv=>(h3 i c v hc hv).mono hx⟩
 |tick=>trivial
 |map ks vs =>
  obtain⟨es,clock,h1,h2,h3,h4,h5⟩:=h;exact⟨es,clock,hb.trans h1,h2,h3,fun i k e hk he=>(h4 i k e hk he).mono hx.hU,fun i k e hk he=>(h5 i k e hk he).mono hx⟩
 |nG s pos=>exact hb.trans h
 |arr=>trivial
 |vq=>trivial
theorem Holds.lt{b:Nat}{bx:cD}(h:Holds j M w b bx)(hf:bx.fixed=true):∃o,w.heap[b]?=some o:=by
 cases bx with
 |cells cs=>obtain⟨vs,t,h1,_⟩:=h; grind
 |tick=>cases hf
 |map ks vs=>obtain⟨es,clock,h1,_⟩:=h; grind
 |nG s pos=>exact⟨_,h⟩
 |arr=>cases hf
 |vq=>cases hf
def Ext.refl(j:J)(M:aL)(w:World):Ext j M w j M w where
 len:=ar _
 size:=ar _
 os:=rfl
 tape:=rfl
 output:=rfl
 X:=rfl
 fix:=fun i bx h _=>⟨rfl,bx,h,rfl⟩
 tick:=fun i sz n h=>⟨n,ar _,h,fun _=>⟨rfl,fun b vs t _ h=>⟨vs,h,rfl⟩⟩⟩
 arr:=fun i sz v xs h => .inr ⟨v,xs,h,ar _,fun _=>⟨rfl,rfl,fun b vs t _ h=>⟨vs,h,rfl⟩⟩⟩
 tags:=fun b vs t fr h=>⟨vs,fr,h,rfl⟩
 hU:=fun b off h=>⟨h,rfl⟩
 ur:=fun b hb h=>⟨rfl,h⟩
theorem Ext.trans(h:Ext j M w j' M' w')(k:Ext j' M' w' j'' M'' w''):Ext j M w j'' M'' w'' where
 len:=bj h.len k.len
 size:=bj h.size k.size
 os:=k.os.trans h.os
 tape:=k.tape.trans h.tape
 output:=k.output.trans h.output
 X:=k.X.trans h.X
 fix:=fun i bx hi hf=>by
  obtain⟨h1,bx',h2,h3⟩:=h.fix i bx hi hf;have hf':bx'.fixed=true:=AY h3 hf;obtain⟨h4,bx'',h5,h6⟩:=k.fix i bx' h2 hf'
  grind
 tick:=fun i sz n hi=>by
  obtain⟨n1,a1,a2,a3⟩:=h.tick i sz n hi;obtain⟨n2,b1,b2,b3⟩:=k.tick i sz n1 a2
  grind
 arr:=fun i sz v xs hi=>by
  rcases h.arr i sz v xs hi with ⟨n1,a1⟩|⟨v1,xs1,a1,a2,a3⟩
  ·obtain⟨n2,_,b2,_⟩:=k.tick i sz n1 a1
   grind
  ·rcases k.arr i sz v1 xs1 a1 with ⟨n2,b1⟩|⟨v2,xs2,b1,b2,b3⟩
   ·grind
   grind
 tags:=fun b vs t fr hb=>by
  obtain⟨vs1,fr1,h1,h2⟩:=h.tags b vs t fr hb;obtain⟨vs2,fr2,h3,h4⟩:=k.tags b vs1 t fr1 h1
  grind
 hU:=fun b off hs=>by
  obtain⟨h1,h2⟩:=h.hU b off hs;obtain⟨h3,h4⟩:=k.hU b off h1
  grind
 ur:=fun b hb hn=>by
  obtain⟨h1,h2⟩:=h.ur b hb hn;obtain⟨h3,h4⟩:=k.ur b (bq hb h.size) h2
  grind
theorem Ext.grow(hsz:w.heap.size<=w'.heap.size)(hos:w'.os=w.os)(ht:w'.tape=w.tape)(ho:w'.output=w.output)
  (hb:∀b,b<w.heap.size->w'.heap[b]?=w.heap[b]?):Ext j M w j M w' where
 len:=ar _
 size:=hsz
 os:=hos
 tape:=ht
 output:=ho
 X:=rfl
 fix:=fun i bx h _=>⟨rfl,bx,h,rfl⟩
 tick:=fun i sz n h=>⟨n,ar _,h,fun _=>⟨rfl,fun b vs t _ hv=>by
  grind⟩⟩
 arr:=fun i sz v xs h => .inr ⟨v,xs,h,ar _,fun _=>⟨rfl,rfl,fun b vs t _ hv=>by
  grind⟩⟩
 tags:=fun b vs t fr h=>by
  grind
 hU:=fun b off h=>⟨⟨bq h.1 hsz,h.2,h.3⟩,World.cell?_of_block (hb b h.1)⟩
 ur:=fun b cu h=>⟨hb b cu,h⟩
theorem Rel.grow(hr:Rel j M w)(hsz:w.heap.size<=w'.heap.size)(hos:w'.os=w.os)(ht:w'.tape=w.tape)(ho:w'.output=w.output)
  (hb:∀b,b<w.heap.size->w'.heap[b]?=w.heap[b]?):Rel j M w' where
 inj:=hr.inj
 lt:=fun i b hi h=>bq (hr.lt i b hi h) hsz
 fix:=fun i bx h hf=>by
  obtain⟨b,h1,h2⟩:=hr.fix i _ h hf;have hi  := (aC.1 h).1;exact⟨b,h1,h2.mono (Ext.grow hsz hos ht ho hb) (hb b (hr.lt i b hi h1))⟩
 tick:=fun i sz n b h hj=>by
  obtain⟨vs,t,h1⟩:=hr.tick i _ n b h hj
  grind
 arr:=fun i sz v xs h=>by
  rcases hr.arr i _ v _ h with he|⟨b,vs,t,h1,h2,h3,h4,h5⟩
  ·exact .inl he
  have hi  := (aC.1 h).1;refine .inr ⟨b,vs,t,h1,(hb b (hr.lt i b hi h1)).trans h2,h3,h4,fun q x k c hx hk=>?_⟩
  obtain⟨u,h6,h7⟩:=h5 q x k c hx hk;exact⟨u,h6,h7.mono (Ext.grow hsz hos ht ho hb).hU⟩
 uG:=hr.uG
 zK:=fun b off h=>bq (hr.zK b _ h) hsz
end
class kg where
 g:Nat->Option (List Value)
 q:Nat->Option (Value->Prop):=fun _=>none
 u8:Nat:=0
structure sE[kg](j:J)(M:aL)(w:World):Prop where
 g:∀b vs k v,kg.g b=some vs->vs[k]?=some v->nV j M w b k/\w.cell? ⟨b,k,none⟩=some v
 n:∀b vs,kg.g b=some vs->∃us t fr,w.heap[b]?=some (.cells us t fr)/\us.size=vs.length
 q:∀b p,kg.q b=some p->∃v,p v/\nV j M w b 0/\w.cell? ⟨b,0,none⟩=some v
theorem sE.hU[kg]{j j':J}{M M':aL}{w:World}(h:sE j M w)(hx:∀b off,nV j M w b off->nV j' M' w b off):sE j' M' w where
 g:=fun b vs k v hb hk=>⟨hx _ _ (h.g b _ k v hb hk).1,(h.g b _ k v hb hk).2⟩
 n:=h.n
 q:=fun b p hb=>by
  obtain⟨v,h0,h1,h2⟩:=h.q b p hb
  grind
theorem sE.mono[kg]{j j':J}{M M':aL}{w w':World}(h:sE j M w)(hx:Ext j M w j' M' w'):sE j' M' w' where
 g:=fun b vs k v hb hk=>by
  obtain⟨h1,h2⟩:=h.g b _ k v hb hk;obtain⟨h3,h4⟩:=hx.hU _ _ h1
  grind
 n:=fun b vs hb=>by
  obtain⟨us,t,fr,h1,h2⟩:=h.n b _ hb;obtain⟨us',fr',h3,h4⟩:=hx.tags b _ t _ h1
  grind
 q:=fun b p hb=>by
  obtain⟨v,h0,h1,h2⟩:=h.q b p hb;obtain⟨h3,h4⟩:=hx.hU _ _ h1
  grind
variable [kg]
structure cy(j:J)(M:aL)(w:World)(bt:Env)(a:Act):Prop where
 at':∀t,fY j M w (ir bt t) (a.tmps.getD t undef)
 gl:sE j M w
def cy.mono{j j':J}{M M':aL}{w w':World}{bt:Env}{a:Act}(h:cy j M w bt a)(hx:Ext j M w j' M' w'):cy j' M' w' bt a :=
 ⟨fun t=>(h.at' t).mono hx,h.gl.mono hx⟩
def cy.put{j:J}{M:aL}{w:World}{bt:Env}{a:Act}{n:Nat}(h:cy j M w bt a)(hs:a.tmps.size=n){dst:Option Nat}(hd:∀d,dst=some d->d<n)
  {x:ag} {v:Value} (hv:fY j M w x v):cy j M w (rp bt dst x) (a.put dst v):=by
 refine⟨fun t=>?_,h.gl⟩
 cases dst with
 |none=>exact h.at' t
 |some d =>
  simp[rp,ir,Act.put]
  by_cases he:d=t
  ·simp_all
  ·have:=h.at' t;simp_all
theorem yx(bt:Env)(live:List Nat)(t:Nat):ir (ju bt live) t=if t∈live then ir bt t else .any:=by
 induction live<;>grind [ju,ir]
def cy.ri{j:J}{M:aL}{w:World}{bt:Env}{a:Act}(h:cy j M w bt a)(live:List Nat):cy j M w (ju bt live) a:=by
 refine⟨fun t=>?_,h.gl⟩
 rw[yx];split
 ·exact h.at' t
 ·exact .any _
end
section
open Go
def Jv:Value->Option ag
 | .bool b=>some (.bool b)
 | .int k n=>some (.int k n)
 | .string s=>some (.str s.data.toList)
 | .slice none 0 0=>some (.slice .c0 [])
 | .pointer none=>some (.raw (.pointer none))
 | .nilFunc=>some (.raw .nilFunc)
 | .nilIface=>some (.raw .nilIface)
 | .map none=>some (.raw (.map none))
 |_=>none
def sR:List Value->Option (List ag)
 | []=>some []
 |v::r=>(Jv v).bind fun x=>(sR r).bind fun l=>some (x::l)
def Pj:Value->Option ag
 | .agg vs=>(sR vs.toList).bind fun l=>some (.agg l)
 |v=>Jv v
def XD:Value->Option ag
 | .bool b=>some (.bool b)
 | .int k n=>some (.int k n)
 | .string s=>some (.str s.data.toList)
 | .pointer none=>some (.raw (.pointer none))
 | .nilIface=>some (.raw .nilIface)
 |_=>none
def Ph:List Value->Option (List ag)
 | []=>some []
 |v::r=>(XD v).bind fun x=>(Ph r).bind fun l=>some (x::l)
variable [kg]
def adx:Operand->Operand->Bool
 | .tmp x,.tmp y=>x==y
 | .const (.int k x),.const (.int l y)=>decide (k=l)&&decide (x=y)
 |_,_=>false
def Xq:∀ {x y:Operand},adx x y=true->x=y:=by
 intro x y h;unfold adx at h;split at h<;>simp_all
def ef:Operand->Option gQ
 | .tmp t=>some (.tmp t)
 | .const v=>(Pj v).bind fun x=>some (.ll x)
 | .func f=>some (.ll (.func f []))
 | .global g=>(kg.g g).bind fun vs=>(Ph vs).bind fun l=>some (.ll (.jg l))
def Pu:Operand->Option gQ
 | .func f=>some (.ll (.raw (.func (.func f) ⟨[]⟩ ⟨[]⟩)))
 |x=>ef x
def xm(n:Nat):List (Nat×Operand)->Option (List (Nat×Nat×gQ))
 | []=>some []
 |(i,x)::r=>(ef x).bind fun y=>(xm n r).bind fun l=>some ((i*n,n,y)::l)
def uL:List Operand->Option (List gQ)
 | []=>some []
 |x::r=>(ef x).bind fun y=>(uL r).bind fun l=>some (y::l)
def BF:Option Operand->Option (Option gQ)
 |none=>some none
 |some x=>(ef x).bind fun y=>some (some y)
def qv(P:Program)(t:TypeId):Option Nat:=(P.info? t).bind fun i=>some i.size
def BE(P:Program)(t:TypeId):Option Bool:=(P.underlying t).bind fun d=>some (match d with | .struct _ | .array _ _=>true|_=>false)
def zY(P:Program)(fs:Array Field):List (Nat×Operand)->Option (List (Nat×Nat×gQ))
 | []=>some []
 |(i,x)::r=>(fs[i]?).bind fun f=>(qv P f.type).bind fun n=>(ef x).bind fun y=>(zY P fs r).bind fun l=>some ((f.offset,n,y)::l)
def Hf:Nat->List (Nat×Operand)->Option (List gQ)
 |_,[]=>some []
 |k,(i,x)::r=>if i=k then (ef x).bind fun y=>(Hf (k+1) r).bind fun l=>some (y::l) else none
def P4 (P:Program) (f:Field):Option FK:=if f.name = "_" then none else match P.underlying f.type with
 |some .bool=>some .b
 |some (.int _)=>some .i
 |some .string=>some .s
 |_=>none
def Be(P:Program):Nat->List Field->Option (List FK)
 |_,[]=>some []
 |k,f::r=>if f.offset=k then (P4 P f).bind fun x=>(Be P (k+1) r).bind fun l=>some (x::l) else none
def CY(P:Program)(t:TypeId):Option FK:=match P.underlying t with
 |some .bool=>some .b
 |some (.int _)=>some .i
 |some .string=>some .s
 |_=>none
def M4:BinOp->Option ML
 | .and=>some .and | .or=>some .or | .xor=>some .xor
 | .add=>some .add | .sub=>some .sub | .mul=>some .mul | .quo=>some .quo | .rem=>some .rem
 | .eql=>some .eql | .neq=>some .neq | .lss=>some .lss | .leq=>some .leq | .gtr=>some .gtr | .geq=>some .geq
 | .shl=>some .shl | .shr=>some .shr
 |_=>none
def kN (P:Program) (f:Nat):Bool:=match P.funcs[f]? with|some fn=>fn.name != "runtime.NumGoroutine" && fn.body.isSome|none=>false
def Pt(P:Program)(own:List Nat)(dst:Option Nat)(type:TypeId)(c:Call):Option kI :=
 match c.callee with
 | .value (.func f)=>if kN P f then (uL c.args.toList).bind fun l=>some (if own.contains (1000000+f) then .A9 f l else if own.contains (2000000+f) then .lP f l else if own.contains (8000000+f) then .vQ f l else .call f l) else none
 | .value (.tmp t)=>(uL c.args.toList).bind fun l=>some (.vR (.tmp t) l)
 | .builtin .len=>match c.args.toList,(c.argTypes[0]?).bind P.underlying with
  | [x],some .string=>(ef x).bind fun y=>some (.SH y)
  | [x],some (.slice _)=>(ef x).bind fun y=>some (.Ap y)
  | [x],some (.map _ _)=>(ef x).bind fun y=>some (.N0 y)
  |_,_=>none
 | .builtin .copy=>match c.args.toList,c.argTypes.toList with
  | [x,y],[t,t']=>match P.underlying t,P.underlying t' with
   |some (.slice e),some (.slice _)=>(qv P e).bind fun n=>(ef x).bind fun x=>(ef y).bind fun y=>if 0<n then some (.D5 n x y) else none
   |_,_=>none
  |_,_=>none
 | .builtin .append=>match c.args.toList,c.argTypes.toList with
  | [x,y],[t,t']=>match P.underlying t,P.underlying t' with
   |some (.slice e),some (.int _)=>(P.info? e).bind fun i=>i.zero.bind fun z=>(sR z.cells.toList).bind fun l=>(ef x).bind fun x=>(ef y).bind fun y =>
    if l.length=i.size/\0<i.size/\0<i.bytes/\i.bytes<=2 ^ 20 then some (.xg i.size i.bytes (l.map ag.shut) x y) else none
   |some (.slice e),some (.slice _)=>(P.info? e).bind fun i=>(ef x).bind fun x=>(ef y).bind fun y =>
    if decide ((i.zero.map fun z=>z.cells.size)=some i.size)&&decide (0<i.size)&&decide (0<i.bytes)&&decide (i.bytes<=2 ^ 20) then some (match dst with|some d=>if own.contains (7000000+d) then .vt i.size i.bytes x y else .append i.size i.bytes x y|none => .append i.size i.bytes x y) else none
   |_,_=>none
  |_,_=>none
 | .builtin .clear=>match c.args.toList,c.argTypes.toList with
  | [x],[t]=>match P.underlying t with
   |some (.slice e)=>(P.info? e).bind fun i=>i.zero.bind fun z=>(sR z.cells.toList).bind fun l=>(ef x).bind fun x =>
    if l.length=i.size/\0<i.size then some (.z6 i.size (l.map ag.shut) x) else none
   |_=>none
  |_,_=>none
 | .builtin .max=>match c.args.toList with|[x,y]=>(ef x).bind fun x=>(ef y).bind fun y=>some (.Ay true x y)|_=>none
 | .builtin .min=>match c.args.toList with|[x,y]=>(ef x).bind fun x=>(ef y).bind fun y=>some (.Ay false x y)|_=>none
 |_=>none
def M5(P:Program)(own:List Nat)(o:Oper):Option kI :=
 match o.op with
 | .move x=>(ef x).bind fun x=>some (.mv x)
 | .assign x=>(ef x).bind fun x =>
  match o.dst with
  |some d=>if own.contains d then match P.underlying o.type with
    |some (.slice e)=>(qv P e).bind fun n=>match x with
     | .ll (.slice .c0 [])=>some (.own n x)
     |_=>some (.mv x)
    |_=>none
   else some (.mv x)
  |none=>some (.mv x)
 | .pick c a b=>(ef c).bind fun c=>(ef a).bind fun a=>(ef b).bind fun b=>some (.pick c a b)
 | .alloc t=>(P.info? t).bind fun i=>i.zero.bind fun z=>(sR z.cells.toList).bind fun l =>
  match o.dst with
  |some d=>if own.contains (6000000+d) then (match P.underlying t,l with
    |some (.slice e),[.slice .c0 []]=>(qv P e).bind fun n=>some (.MZ n)
    |_,_=>none) else some (.sU l)
  |none=>some (.sU l)
 | .box t x=>(ef x).bind fun x=>some (.box x)
 | .build t parts=>match P.underlying t with
  |some (.struct fs)=>(P.info? t).bind fun i=>i.zero.bind fun z=>(sR z.cells.toList).bind fun l=>(zY P fs parts.toList).bind fun ps =>
   if fs.all (fun f=>(P.info? f.type).isSome) then some (.build l ps) else none
  |some (.array _ e)=>(P.info? t).bind fun i=>i.zero.bind fun z=>(sR z.cells.toList).bind fun l=>(qv P e).bind fun n=>(xm n parts.toList).bind fun ps=>some (.build l ps)
  |_=>none
 | .buildSlice t len parts=>match P.underlying t with
  |some (.slice e)=>(P.info? e).bind fun i=>(Hf 0 parts.toList).bind fun l =>
   if l.length=len/\len*i.size<=2 ^ 24/\(i.zero.map fun z=>z.cells.size)=some i.size/\0<i.size then some (match o.dst with|some d=>if own.contains d then .EB i.size l else .lits i.size l|none => .lits i.size l) else none
  |_=>none
 | .load t x=>(BE P t).bind fun g=>(qv P t).bind fun n=>(ef x).bind fun x=>some (if g then .nD n x else .jv x)
 | .store t a x=>(qv P t).bind fun n=>(ef a).bind fun a=>(ef x).bind fun x=>some (match a with
  | .tmp s=>match own.find? (fun m=>decide (1000000000<=m)&&decide (m % 1000=s)) with
   |some m => .AU (m / 1000000 % 1000) (m / 1000 % 1000) n a x
   |none => .store n a x
  |_ => .store n a x)
 | .nilCheck x=>(ef x).bind fun x=>some (.chk x)
 | .binOp op t x y _=>(ef x).bind fun x=>(ef y).bind fun y=>match P.underlying t with
  |some (.int _)|some .string=>(M4 op).bind fun b=>some (.bin b x y)
  |some .bool=>match op with
   | .eql=>some (.eqB false x y)
   | .neq=>some (.eqB true x y)
   |_=>none
  |some (.struct fs)=>if P.stoodInHeld t then none else (Be P 0 fs.toList).bind fun ks=>match op with
   | .eql=>some (.XO ks false x y)
   | .neq=>some (.XO ks true x y)
   |_=>none
  |some (.array len e)=>match P.underlying e,op with
   |some (.int _),.eql=>if qv P e=some 1 then some (.XO (List.replicate len .i) false x y) else none
   |_,_=>none
  |_=>none
 | .unOp .not _ x=>(ef x).bind fun x=>some (.not x)
 | .unOp .neg _ x=>(ef x).bind fun x=>some (.neg x)
 | .convert s d x=>(ef x).bind fun x=>match P.underlying s,P.underlying d with
  |some (.int _),some (.int k)=>some (.conv k x)
  |some .string,some .string=>some (.same x)
  |some (.slice e),some .string=>match P.underlying e with|some (.int .u8)=>some (.b2s x)|_=>none
  |_,_=>none
 | .makeFunc (.func f) first caps=>if first.isEmpty then (uL caps.toList).bind fun l=>some (.fn f l) else if caps.isEmpty then (uL first.toList).bind fun l=>some (.DZ f l) else none
 | .slice t x lo hi mx=>(ef x).bind fun x=>(BF lo).bind fun lo=>(BF hi).bind fun hi=>(BF mx).bind fun mx=>match P.underlying t with
  |some .string=>if mx.isNone then some (.AO x lo hi) else none
  |some (.slice e)=>(qv P e).bind fun n=>if 0<n/\(mx.isNone\/hi.isSome) then some (.AP n x lo hi mx) else none
  |_=>none
 | .fieldAddr s x f=>match P.underlying s with
  |some (.struct fs)=>(fs[f]?).bind fun f=>(qv P f.type).bind fun n=>(ef x).bind fun x=>if 0<n then some (.kG f.offset x) else none
  |_=>none
 | .field s x f=>match P.underlying s with
  |some (.struct fs)=>(fs[f]?).bind fun f=>(BE P f.type).bind fun g=>(qv P f.type).bind fun n=>(ef x).bind fun x=>some (if g then .CE f.offset n x else .CD f.offset x)
  |_=>none
 | .indexAddr t x i=>match P.underlying t with
  |some (.slice e)=>(qv P e).bind fun n=>(ef x).bind fun x=>(ef i).bind fun i=>if 0<n then some (.vU n x i) else none
  |some (.array len e)=>(qv P e).bind fun n=>(ef x).bind fun x=>(ef i).bind fun i=>if 0<n then some (.Aj len n x i) else none
  |_=>none
 | .index t x i=>match P.underlying t with
  |some .string=>(ef x).bind fun x=>(ef i).bind fun i=>some (.Al x i)
  |_=>none
 | .extract x i=>(ef x).bind fun x=>some (.extract x i)
 | .call c=>Pt P own o.dst o.type c
 | .makeMap _ none=>some .mkMap
 | .lookup t x i ok=>match P.underlying t with
  |some (.map k e)=>(CY P k).bind fun fk=>(P.info? e).bind fun ie=>ie.zero.bind fun zv=>(Pj zv).bind fun z=>(ef x).bind fun x=>(ef i).bind fun i=>some (.look fk z ok x i)
  |_=>none
 | .mapUpdate t m k v=>match P.underlying t with
  |some (.map kt _)=>(CY P kt).bind fun fk=>(ef m).bind fun m=>(ef k).bind fun k=>(ef v).bind fun v=>some (.gy fk m k v)
  |_=>none
 | .range t x=>match P.underlying t with
  |some .string=>(ef x).bind fun x=>some (.Ox x)
  |_=>none
 | .next it true=>(ef it).bind fun it=>some (.ES it)
 | .makeInterface t x=>(ef x).bind fun x=>match P.underlying t with
  |some (.interface _)=>none
  |some _=>some (.iface t x)
  |none=>none
 | .panic x=>(ef x).bind fun x=>some (.raise x)
 | .insert t m k v=>match P.underlying t with
  |some (.map kt _)=>(CY P kt).bind fun fk=>(ef m).bind fun m=>(ef k).bind fun k=>(Pu v).bind fun v=>some (.gy fk m k v)
  |_=>none
 | .makeSlice t x y=>match P.underlying t with
  |some (.slice e)=>(P.info? e).bind fun i=>i.zero.bind fun z=>(sR z.cells.toList).bind fun l=>(ef x).bind fun x' =>
   if adx x y=true/\l.length=i.size/\0<i.size/\i.bytes<=8*i.size then some (match o.dst with|some d=>if own.contains (5000000+d) then .N6 (l.map ag.shut) x' else .mkS (l.map ag.shut) x'|none => .mkS (l.map ag.shut) x') else none
  |_=>none
 |_=>none
structure B5 where
 n:Nat
 own:List Nat:=[]
 lv:List (Nat×List Nat)
 lp:List (Nat×List Nat):=[]
def find(l:List (Nat×List Nat))(k:Nat):List Nat:=match l with
 | []=>[]
 |(i,x)::r=>if i=k then x else find r k
def XN(n:Nat):Option Nat->Bool
 |some d=>decide (d<n)
 |none=>true
def Lq(P:Program)(A:B5)(ops:Array Oper)(grow:Bool)(o:Oper):Option cQ :=
 (M5 P A.own o).bind fun op =>
  if XN A.n o.dst then
   match o.guard with
   |none=>some { dst:=o.dst,op,guard:=none,grow }
   |some (k,want)=>((ops[k]?).bind (·.dst)).bind fun t=>if t<A.n then some { dst:=o.dst,op,guard:=some (t,want),grow } else none
  else none
def tF(P:Program)(A:B5)(ops:Array Oper)(grow:List Bool):List Oper->Option (List cQ)
 | []=>some []
 |o::r=>(Lq P A ops (grow.headD false) o).bind fun x=>(tF P A ops grow.tail r).bind fun l=>some (x::l)
def lq:Code->Nat
 | .region id _ _=>id
 | .seq a _=>lq a
 | .block _ c=>lq c
 | .loop c=>lq c
 | .cond _ a _=>lq a
 |_=>0
def gQ.k9:gQ->List Nat
 | .tmp t=>[t]
 | .ll _=>[]
def AB:Option gQ->List Nat
 |some x=>x.k9
 |none=>[]
def kI.k9:kI->List Nat
 | .mv x | .own _ x | .box x | .nD _ x | .jv x | .chk x | .not x | .neg x | .conv _ x | .same x | .kG _ x | .CE _ _ x | .CD _ x | .extract x _ | .SH x | .Ap x | .b2s x | .N0 x | .Ox x | .ES x | .z6 _ _ x | .iface _ x | .raise x | .mkS _ x | .N6 _ x=>x.k9
 | .pick c a b=>c.k9++(a.k9++b.k9)
 | .sU _ | .mkMap | .MZ _=>[]
 | .build _ ps=>ps.flatMap fun p=>p.2.2.k9
 | .lits _ ps | .EB _ ps=>ps.flatMap gQ.k9
 | .store _ a x | .AU _ _ _ a x=>a.k9++x.k9
 | .gy _ m k v=>m.k9++(k.k9++v.k9)
 | .bin _ x y | .look _ _ _ x y | .XO _ _ x y | .eqB _ x y | .vU _ x y | .Aj _ _ x y | .Al x y | .append _ _ x y | .vt _ _ x y | .Ay _ x y | .xg _ _ _ x y | .D5 _ x y=>x.k9++y.k9
 | .fn _ l | .DZ _ l=>l.flatMap gQ.k9
 | .AO x l h=>x.k9++(AB l++AB h)
 | .AP _ x l h m=>x.k9++(AB l++(AB h++AB m))
 | .call _ l | .A9 _ l | .lP _ l | .vQ _ l=>l.flatMap gQ.k9
 | .vR f l=>f.k9++l.flatMap gQ.k9
def kI.OX:kI->Bool
 | .own .. | .EB .. | .N6 .. | .xg .. | .D5 .. | .MZ _ | .sU _ | .box _ | .store .. | .AU .. | .call .. | .vR .. | .A9 .. | .lP .. | .vQ .. | .z6 .. | .append .. | .vt .. | .mkMap | .gy .. | .N0 _ | .Ox _ | .ES _=>true
 |_=>false
def kI.OY:kI->Bool
 | .nD .. | .jv _ | .look .. => true
 |_=>false
def cQ.reads(o:cQ):List Nat:=o.op.k9++(match o.guard with|some (t,_)=>[t]|none=>[])
def wR(acc:List Nat):List Edge->Nat
 | []=>0
 |e::r=>if Region.binds .any e then wR acc r ||| (2 ^ e.on ||| (nth acc e.on).getD 0) else wR acc r
def Ck:List Oper->List Nat->List Nat
 | [],acc=>acc
 |o::r,acc=>Ck r (acc++[wR acc o.after.toList])
def qQ(ops:List Oper):List Nat:=Ck ops []
def ahead(bs:List Nat)(i k:Nat):Bool:=((nth bs k).getD 0).testBit i
def meet(x y:cQ):Bool :=
 (match x.dst with|some d=>y.reads.contains d||y.dst==some d|none=>false)||(match y.dst with|some d=>x.reads.contains d|none=>false)
def fenced(bs:List Nat)(l:List cQ)(k:Nat):Bool:=(List.range l.length).all fun i=>match nth l i with
 |some x => !x.op.OY||(if i<k then ahead bs i k else i==k||ahead bs k i)
 |none=>true
def kI.wM:kI->Bool
 | .call .. | .vR .. => true
 |_=>false
def ordered(bs:List Nat)(i k:Nat):Bool:=i==k||(if i<k then ahead bs i k else ahead bs k i)
def alone(bs:List Nat)(l:List cQ)(k:Nat):Bool:=(List.range l.length).any fun i=>match nth l i with
 |some x=>x.op.OX && !ordered bs i k
 |none=>false
def kI.MA:kI->Option Nat
 | .jv (.tmp z)=>some z
 | .nD _ (.tmp z)=>some z
 | .look _ _ _ (.tmp z) _=>some z
 |_=>none
def kI.akY:kI->Bool
 | .store .. => true
 | .append .. | .vt .. => true
 |_=>false
def ahv(l:List cQ)(i k z:Nat):Bool:=(List.range k).all fun p=>decide (p<i)||match nth l p with|some x=>x.dst != some z|none=>true
def K5(bs:List Nat)(l:List cQ)(k:Nat):Bool:=(List.range l.length).all fun i=>i==k||(if i<k then (ahead bs i k||match nth l i with|some x => !x.op.OX|none=>false) else ahead bs k i)
def My(bs:List Nat)(l:List cQ)(k:Nat):List Nat:=(List.range k).filterMap fun i=>match nth l i with
 |some x=>if x.op.OY && !ahead bs i k then x.op.MA else none
 |none=>none
def BX(bs:List Nat)(l:List cQ)(k:Nat)(sep:List Nat):Bool:=(List.range l.length).all fun i=>match nth l i with
 |some x => !x.op.OY||i==k||(if i<k then (ahead bs i k||match x.op.MA with|some z=>sep.contains z&&ahv l i k z|none=>false) else ahead bs k i)
 |none=>true
def pO(bs:List Nat)(l:List cQ):Nat->List cQ->List cQ
 |_,[]=>[]
 |k,x::r=>{ x with grow:=x.op.OX && !(x.op.wM&&alone bs l k) && !fenced bs l k,wW:=x.op.wM&&alone bs l k,sep:=if x.op.akY && !fenced bs l k&&BX bs l k (My bs l k) then My bs l k else [],stop := !x.op.Pw||K5 bs l k }::pO bs l (k+1) r
def cQ.tM(x:cQ):Bool:=x.op.OX && !x.wW
def KG:kI->Bool
 | .jv (.ll _) | .nD _ (.ll _) | .look _ _ _ (.ll _) _=>false
 |_=>true
def Bl(ops:Array Oper)(l:List cQ)(k:Nat):Bool:=match ops[k]?,nth l k with
 |some o,some y=>(match y.op with
  | .sU _=>(match o.op with | .alloc _=>true|_=>false)
  | .box _=>(match o.op with | .box _ _=>true|_=>false)
  | .vQ .. => (match o.op with | .call c=>(match c.callee with | .value (.func _)=>true|_=>false)|_=>false)
  |_=>false)&&y.guard.isNone
 |_,_=>false
def Gs(ops:Array Oper)(bs:List Nat)(l:List cQ):Bool:=(List.range l.length).all fun k=>match nth l k,ops[k]? with
 |some y,some o=>o.after.toList.all (fun e => !Region.binds .any e||decide (e.on<k))&&((!y.wW||y.op.wM)&&KG y.op)&&((!(y.tM && !y.grow)||fenced bs l k)&&(y.sep.isEmpty||BX bs l k y.sep)) &&
  ((!y.lets||K5 bs l k)&&(List.range k).all fun i=>match nth l i with
   |some x=>(!meet x y||ahead bs i k)&&(!(x.tM&&y.tM)||(ahead bs i k||(Bl ops l i&&Bl ops l k)))
   |none=>false)
 |_,_=>false
def AA(ops:Array Oper)(l:List cQ):Option (List cQ) :=
 if Gs ops (qQ ops.toList) (pO (qQ ops.toList) l 0 l) then some (pO (qQ ops.toList) l 0 l) else none
def L9(A:B5)(c:Code)(l:List Nat)(x:cz):cz:=if A.own.contains (11000000+lq c) then .lU l x else .loop l x
def comp(P:Program)(A:B5):Code->Option cz
 | .skip=>some .skip
 | .region id ops draw=>if draw then
   (tF P { A with own:=A.own.filter (1000000 <= ·) } ops [] ops.toList).bind fun l0=>(AA ops l0).bind fun l=>some (.region l true (find A.lv id))
  else (tF P A ops [] ops.toList).bind fun l=>some (.region l false (find A.lv id))
 | .seq a b=>(comp P A a).bind fun x=>(comp P A b).bind fun y=>some (.seq x y)
 | .cond c a b=>(ef c).bind fun c=>(comp P A a).bind fun x=>(comp P A b).bind fun y=>some (.cond c x y)
 | .block id c=>(comp P A c).bind fun x=>some (.block id x)
 | .loop c=>(comp P A c).bind fun x=>some (L9 A c (find A.lp (lq c)) x)
 | .exit id=>some (.exit id)
 | .ret=>some .ret
 |_=>none
def He(P:Program):List ResultVar->Option (List sy)
 | []=>some []
 | .tmp t::r=>(He P r).bind fun l=>some (.tmp t::l)
 | .cell a t::r=>(BE P t).bind fun g=>(qv P t).bind fun n=>(He P r).bind fun l=>some ((if g then .fG a n else .Px a)::l)
def oN(P:Program)(A:B5)(fn:Func):Option eU :=
 match fn.body with
 |none=>none
 |some c=>if fn.name != "runtime.NumGoroutine" /\ A.n=fn.ntmps/\fn.params.size+fn.nfree<=fn.ntmps then
   (comp P A c).bind fun b=>(He P fn.results.toList).bind fun r=>some { nparams:=fn.params.size+fn.nfree,results:=r,body:=b }
  else none
end
section
open Go
def aif(x:Operand)(s:Nat):Nat:=match x with
 | .tmp t=>s ||| (1 <<< t)
 |_=>s
def opB(ops:Array Oper)(o:Oper)(s:Nat):Nat :=
 let s:=match o.dst,o.guard with
  |some d,none=>if s.testBit d then s-(1 <<< d) else s
  |_,_=>s
 let s:=o.op.operands.toList.foldl (fun s x=>aif x s) s
 match o.guard with
 |some (k,_)=>match (ops[k]?).bind (·.dst) with
  |some t=>s ||| (1 <<< t)
  |none=>s
 |none=>s
def amo(ops:Array Oper)(out:Nat):Nat :=
 let l:=ops.toList.foldr (opB ops) out
 let g:=ops.toList.foldl (fun g o=>match o.dst,o.guard with
  |some d,some _=>g ||| (1 <<< d)
  |_,_=>g) 0
 let d:=g ^^^ (g &&& out)
 l ^^^ (l &&& d)
def Ii:List (Nat×Nat)->Nat->Nat
 | [],_=>0
 |(i,x)::r,k=>if i=k then x else Ii r k
def zl(ret:Nat):Code->List (Nat×Nat)->Nat->Nat×List (Nat×Nat)×List (Nat×Nat)
 | .skip,_,out=>(out,[],[])
 | .region id ops _,_,out=>(amo ops out,[(id,out)],[])
 | .seq a b,ex,out =>
  let y:=zl ret b ex out
  let x:=zl ret a ex y.1
  (x.1,x.2.1++y.2.1,x.2.2++y.2.2)
 | .cond c a b,ex,out =>
  let x:=zl ret a ex out
  let y:=zl ret b ex out
  (aif c (x.1 ||| y.1),x.2.1++y.2.1,x.2.2++y.2.2)
 | .block id c,ex,out=>zl ret c ((id,out)::ex) out
 | .loop c,ex,_ =>
  let h1:=(zl ret c ex 0).1
  let h2:=h1 ||| (zl ret c ex h1).1
  let z:=zl ret c ex h2
  let h3:=h2 ||| z.1
  (h3,z.2.1,(lq c,h3)::z.2.2)
 | .exit id,ex,_=>(Ii ex id,[],[])
 | .ret,_,_=>(ret,[],[])
 |_,_,out=>(out,[],[])
def afA(n s:Nat):List Nat:=(List.range n).filter s.testBit
def DT(own:List Nat)(fn:Func):B5:=match fn.body with
 |none=>{ n:=0,lv:=[] }
 |some c =>
  let r:=fn.results.toList.foldl (fun s x=>match x with
   | .tmp t=>s ||| (1 <<< t)
   | .cell t _=>s ||| (1 <<< t)) 0
  let z:=zl r c [] r
  let f:=fun(p:Nat×Nat)=>(p.1,afA fn.ntmps p.2)
  { n:=fn.ntmps,own:=own,lv:=z.2.1.map f,lp:=z.2.2.map f }
def cz.size:cz->Nat
 | .seq a b=>a.size+b.size+1
 | .cond _ a b=>a.size+b.size+1
 | .block _ a=>a.size+1
 | .loop _ a=>a.size+1
 | .lU _ a=>a.size+1
 | .region .. => 1
 | .skip=>1
 | .exit _=>1
 | .ret=>1
def cz.tg:cz->List cz
 | .seq a b => .seq a b::(a.tg++b.tg)
 | .cond c a b => .cond c a b::(a.tg++b.tg)
 | .block i a => .block i a::a.tg
 | .loop l a => .loop l a::a.tg
 | .lU l a => .lU l a::a.tg
 |c=>[c]
def sub(c:cz)(i:Nat):cz:=(c.tg[i]?).getD .skip
def ref(r:cz)(i:Nat):cz->cz
 | .skip => .skip
 | .exit n => .exit n
 | .ret => .ret
 | .region .. => sub r i
 | .seq .. => sub r i
 | .cond .. => sub r i
 | .block .. => sub r i
 | .loop .. => sub r i
 | .lU .. => sub r i
def AJ(r:cz)(i:Nat):cz->cz
 | .region a b c => .region a b c
 | .skip => .skip
 | .exit n => .exit n
 | .ret => .ret
 | .seq .. => sub r i
 | .cond .. => sub r i
 | .block .. => sub r i
 | .loop .. => sub r i
 | .lU .. => sub r i
abbrev Hd(q b:cz):Prop:=∀(C:eO)(fn:List sy)(bN:Nat)(k:List K)(bt:Env)(M:aL),fS C fn bN k q bt M=fS C fn bN k b bt M
def CC(e:Prop):cz->Prop
 | .region .. => True
 | .skip | .exit _ | .ret=>True
 | .seq .. => e
 | .cond .. => e
 | .block .. => e
 | .loop .. => e
 | .lU .. => e
def eqs(r:cz):Nat->cz->Prop
 |i,.seq a b=>Hd (sub r i) (.seq (AJ r (i+1) a) (ref r (i+1+a.size) b))/\(CC (eqs r (i+1) a) a/\eqs r (i+1+a.size) b)
 |i,.cond c a b=>Hd (sub r i) (.cond c (ref r (i+1) a) (ref r (i+1+a.size) b))/\(eqs r (i+1) a/\eqs r (i+1+a.size) b)
 |i,.block n a=>Hd (sub r i) (.block n (ref r (i+1) a))/\eqs r (i+1) a
 |i,.loop n a=>Hd (sub r i) (.loop n (ref r (i+1) a))/\eqs r (i+1) a
 |i,.lU n a=>Hd (sub r i) (.lU n (ref r (i+1) a))/\eqs r (i+1) a
 |i,.region a b c=>Hd (sub r i) (.region a b c)
 |_,.skip=>True
 |_,.exit _=>True
 |_,.ret=>True
def qg:∀c:cz,c.tg.length=c.size
 | .seq a b=>by simp[cz.tg,cz.size,qg a,qg b]
 | .cond _ a b=>by simp[cz.tg,cz.size,qg a,qg b]
 | .block _ a=>by simp[cz.tg,cz.size,qg a]
 | .loop _ a=>by simp[cz.tg,cz.size,qg a]
 | .lU _ a=>by simp[cz.tg,cz.size,qg a]
 | .region .. | .skip | .exit _ | .ret=>by simp[cz.tg,cz.size]
def adr(c:cz):c.tg[0]?=some c:=by cases c<;>simp[cz.tg]
def At(r:cz)(i:Nat)(c:cz):Prop:=∀j,j<c.size->r.tg[i+j]?=c.tg[j]?
def size_pos(c:cz):0<c.size:=by cases c<;>simp[cz.size]
def At.sub{r c:cz}{i:Nat}(h:At r i c):sub r i=c:=by
 have:=h 0 (size_pos c);rw[cV,adr] at this;simp[Abs.sub,this]
def At.ref{r c:cz}{i:Nat}(h:At r i c):ref r i c=c:=by
 cases c<;>first|rfl|exact h.sub
def At.AJ{r c:cz}{i:Nat}(h:At r i c):AJ r i c=c:=by
 cases c<;>first|rfl|exact h.sub
def Vk{e:Prop}{c:cz}(h:e):CC e c:=by
 cases c<;>first|trivial|exact h
def At.two{r a b x:cz}{i:Nat}(h:At r i x)(hx:x.tg=x::(a.tg++b.tg))(hs:x.size=a.size+b.size+1):At r (i+1) a/\At r (i+1+a.size) b:=by
 refine⟨fun j hj=>?_,fun j hj=>?_⟩
 ·have:=h (j+1) (by omega)
  rw[hx,dB,bl (by rw[qg]; exact hj)] at this
  rw[<-this]; congr 1; omega
 ·have:=h (a.size+j+1) (by omega)
  rw[hx,dB,br (by rw[qg]; omega),qg] at this
  rw[show a.size+j-a.size=j by omega] at this
  rw[<-this]; congr 1; omega
def At.one{r a x:cz}{i:Nat}(h:At r i x)(hx:x.tg=x::a.tg)(hs:x.size=a.size+1):At r (i+1) a:=by
 intro j hj;have:=h (j+1) (by omega)
 rw[hx,dB] at this;rw[<-this]; congr 1; omega
def Ei{q b:cz}(h:q=b):Hd q b:=hV h
def wG(r:cz):∀(c:cz)(i:Nat),At r i c->eqs r i c
 | .seq a b,i,h=>by
  obtain⟨h1,h2⟩:=h.two (a:=a) (b:=b) rfl rfl;exact⟨Ei (by rw[h.sub,h1.AJ,h2.ref]),Vk (wG r a _ h1),wG r b _ h2⟩
 | .cond c a b,i,h=>by
  obtain⟨h1,h2⟩:=h.two (a:=a) (b:=b) rfl rfl;exact⟨Ei (by rw[h.sub,h1.ref,h2.ref]),wG r a _ h1,wG r b _ h2⟩
 | .block n a,i,h=>by
  have h1:=h.one (a:=a) rfl rfl;exact⟨Ei (by rw[h.sub,h1.ref]),wG r a _ h1⟩
 | .loop n a,i,h=>by
  have h1:=h.one (a:=a) rfl rfl;exact⟨Ei (by rw[h.sub,h1.ref]),wG r a _ h1⟩
 | .lU n a,i,h=>by
  have h1:=h.one (a:=a) rfl rfl;exact⟨Ei (by rw[h.sub,h1.ref]),wG r a _ h1⟩
 | .region ..,_,h=>Ei h.sub
 | .skip,_,_=>trivial
 | .exit _,_,_=>trivial
 | .ret,_,_=>trivial
def aeg(r:cz):At r 0 r:=fun j _=>by rw[aQ]
def Cr[kg](P:Program)(A:B5):Code->Option cz
 | .skip=>some .skip
 | .region id ops draw=>if draw then
   (tF P { A with own:=A.own.filter (1000000 <= ·) } ops [] ops.toList).bind fun l=>some (.region (pO (qQ ops.toList) l 0 l) true (find A.lv id))
  else (tF P A ops [] ops.toList).bind fun l=>some (.region l false (find A.lv id))
 | .seq a b=>(Cr P A a).bind fun x=>(Cr P A b).bind fun y=>some (.seq x y)
 | .cond c a b=>(ef c).bind fun c=>(Cr P A a).bind fun x=>(Cr P A b).bind fun y=>some (.cond c x y)
 | .block id c=>(Cr P A c).bind fun x=>some (.block id x)
 | .loop c=>(Cr P A c).bind fun x=>some (L9 A c (find A.lp (lq c)) x)
 | .exit id=>some (.exit id)
 | .ret=>some .ret
 |_=>none
def afP[kg](P:Program)(A:B5)(fn:Func):Option cz:=match fn.body with
 |some c=>Cr P A c
 |none=>none
abbrev Cv[kg](P:Program)(A:B5)(f:Func):={ g:cz // afP P A f=some g }
def okc{o:Option eU}{n:Nat}{r:List sy}{c:cz}(h:o=some (eU.mk n r c)):o=some (eU.mk n r (sub c 0)):=by
 rw[h,(aeg c).sub]
set_option linter.defProp false in
def yT:=bR @eqs.eq_1$ bR @eqs.eq_2$ bR @eqs.eq_3$ bR @eqs.eq_4$ bR @eqs.eq_5$ bR @eqs.eq_6$ bR @eqs.eq_7$ bR @eqs.eq_8$ bR @eqs.eq_9$ bR @ref.eq_1$ bR @ref.eq_2$ bR @ref.eq_3$ bR @ref.eq_4$ bR @ref.eq_5$ bR @ref.eq_6$ bR @ref.eq_7$ bR @ref.eq_8$ bR @ref.eq_9$ bR @AJ.eq_1$ bR @AJ.eq_2$ bR @AJ.eq_3$ bR @AJ.eq_4$ bR @AJ.eq_5$ bR @AJ.eq_6$ bR @AJ.eq_7$ bR @AJ.eq_8$ bR @AJ.eq_9$ bR @CC.eq_1$ bR @CC.eq_2$ bR @CC.eq_3$ bR @CC.eq_4$ bR @CC.eq_5$ bR @CC.eq_6$ bR @CC.eq_7$ bR @CC.eq_8$ bR @CC.eq_9$ bR @cz.size.eq_1$ bR @cz.size.eq_2$ bR @cz.size.eq_3$ bR @cz.size.eq_4$ bR @cz.size.eq_5$ bR @cz.size.eq_6$ bR @cz.size.eq_7$ bR @cz.size.eq_8$ bR @cz.size.eq_9$ bR @and_true (@true_and)
end
end Go.Abs
namespace Go.Proofs.YtcbopkblmebjiaaGreatDoor
open Go Go.Abs
def Hs:Value := .iface 248 (.agg #[.pointer (some ⟨2,137,none⟩)])
instance:kg where
 g:=fun b=>match b with
  |0=>some [Hs]
  |_=>none
 u8:=5
def agN:Func:={ name := "",origin := "",params := #[],resultTypes := #[],nfree:=0,ntmps:=0,results := #[],body:=some .skip,norace:=false,tmpNames := #[] }
noncomputable def ah2:Program:={ toTables:={ goVersion := "",platform := "",initOrder := "",godebug := "",types:=Tryz.types,rt:=Tryz.progTables.rt,cutTypes := #[],globals := #[],inits := #[],main:=0 },funcs:=⟨List.replicate 900 agN⟩ }
abbrev Ko(own:List Nat)(f:Func):=Cv ah2 (DT own f) f
abbrev wu(own:List Nat)(f:Func)(c:eU):Prop:=oN Tryz.prog (DT own f) f=some c
section
open Go.ChangeShapes Go.WideShapes Go.RowKit
def KO:ownKnob Tryz.prog.godebug=none:=by kernel_rfl
abbrev SE:List (String×DataW Unit):=[("errors.errorType",Rows.laid_errors_errorType)]
def OZ:J:=⟨fun _=>none,fun _ _=>False⟩
def amp(W:World):Rel OZ [] W where
 inj:=fun _ _ _ h=>by cases h
 lt:=fun _ _ h=>by cases h
 fix:=fun _ _ h=>by cases h
 tick:=fun _ _ _ _ h=>by cases h
 arr:=fun _ _ _ _ h=>by cases h
 uG:=fun _ _ h=>by cases h
 zK:=fun _ _ h=>h.elim
def Lu{w:World}{b off:Nat}{v:Value}(h:w.cell? ⟨b,off,none⟩=some v):b<w.heap.size:=by
 rcases bH b w.heap.size with hb|hb
 ·exact hb
 ·simp[World.cell?,gX hb] at h
def ac3:((List.range Tryz.prog.types.size).filter fun t=>Tryz.prog.rowNamed t [101,114,114,111,114])=[137]:=by kernel_rfl
def CO{W:World}(hL:laidMetH Tryz.prog SE W)(hsh:W.ShapedOpen Tryz.prog):sE OZ [] W:=by
 have h':laidMet Tryz.prog [] W/\handlesMet Tryz.prog SE W:=hL;obtain⟨name,u,ty,e1,e2,e3,e4,e5⟩:=h'.2 _ (eS.2 rfl);have en:name=[101,114,114,111,114]:=(dS e1).symm;subst en;obtain rfl:=dS ((show(Tryz.prog.cutTypes.find? (·.1 == "internal/reflectlite.rtype")).map (·.2)=some 248 by kernel_rfl).symm.trans e2)
 have hm:ty∈(List.range Tryz.prog.types.size).filter fun t=>Tryz.prog.rowNamed t [101,114,114,111,114]:=eo.2 ⟨fA.2 e3,e4⟩
 rw[ac3] at hm;obtain rfl:=eS.1 hm;rw[show typeHandle Tryz.prog 137 = .pointer (some ⟨2,137,none⟩) by kernel_rfl] at e5
 have hc:W.cell? ⟨0,0,none⟩=some Hs:=by simpa[Hs] using World.var?_cell (show Tryz.prog.globalNamed "errors.errorType" = some 0 by kernel_rfl) e5 0
 obtain⟨⟨zero,t'⟩,hz,he⟩:=aO.1 (show(((begin Tryz.prog (fun _ _=>0) default).world.heap[0]?).bind Obj.row?).map (fun x=>x.1.size)=some 1 by kernel_rfl)
 obtain⟨cs,h1,h2,_⟩:=hsh.1 0 zero t' (db (by kernel_rfl)) hz
 refine⟨fun b vs k v hb hk=>?_,fun b vs hb=>?_,fun b p hb=>by cases hb⟩
 ·match b,hb with
  |0,hb =>
   cases hb
   match k,hk with
   |0,hk=>cases hk; exact⟨⟨Lu hc,fun id hid=>by simp at hid,fun h=>h⟩,hc⟩
 ·match b,hb with
  |0,hb=>cases hb; exact⟨cs,_,_,h1,h2.trans he⟩
noncomputable def gY(os:Os):World :=
 let w0:=World.holding Tryz.prog os ⟨#[],#[],[]⟩
 { w0 with heap:=w0.heap.modify 0 fun
   | .cells _ t frozen => .cells #[Hs] t frozen
   |o=>o }
def tP(os:Os)(args:Array Value):laidMetH Tryz.prog SE ((gY os).forCall (fun _ _=>0) ⟨#[],args,[]⟩).memory :=
 laidMetH_of_parts (laidMet_nil _ _) (by kernel_rfl)
end
end Go.Proofs.YtcbopkblmebjiaaGreatDoor
