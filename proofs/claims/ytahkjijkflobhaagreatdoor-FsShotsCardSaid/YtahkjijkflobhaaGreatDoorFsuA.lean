import Derived.Calls
import Derived.Laws.Sem
import Derived.Below
import Derived.Test.YtahkjijkflobhaaGreatDoorProg
import Derived.Test.YtahkjijkflobhaaGreatDoorCards
import Derived.ChangeSame
import Derived.ChangeVars
import Derived.JoinedOf
import Derived.RowKit
import Derived.RowKitTokens
import Derived.LaidLaws
import Derived.LaidHandle
import Derived.Stop.Joined
import Derived.Lib.LaidU8
import Derived.Deep.DeepHandedRow
import Derived.Deep.DeepWitnessRowRef
import Derived.ProofKit
import Derived.SizedLaws
import Derived.Carry
import Derived.OpenShut
import Derived.Deep.Slices
import Derived.Deep.Fields
import Derived.ChangeOld
import Derived.Shelf.Vars
import Derived.Lib.LaidIn
set_option linter.unusedSimpArgs false
set_option linter.unusedVariables false
set_option linter.unusedSectionVars false
set_option linter.defProp false
namespace Go
def bO{a b:Prop}(x:a)(y:b):=And.intro x y
def dn:=@Array.getD_eq_getD_getElem?
def cg:=@Array.getElem?_append_left
def bd:=@Array.getElem?_eq_getElem
def gY:=@Array.getElem?_eq_none
def ft:=@Array.getElem?_eq_some_iff
def iu:=@Array.getElem?_map
def gA:=@Array.getElem?_modify
def fP:=@Array.getElem?_push
def fh:=@Array.getElem?_setIfInBounds_ne
def gM:=@Array.getElem?_setIfInBounds_self
def kM:=@Array.mapM_eq_mapM_toList
def jq:=@Array.replicate_succ
def jr:=@Array.replicate_zero
def fV:=@Array.size_append
def bn:=@Bool.and_eq_true
def dG:=@Bool.and_false
def j9:=@Bool.and_self
def gq:=@Bool.and_true
def eD:=@Bool.eq_iff_iff
def dw:=@Bool.false_and
def af:=@Bool.false_eq_true
def dp:=@Bool.false_or
def lX:=@Bool.not_eq_false'
def gW:=@Bool.not_eq_true'
def fg:=@Bool.not_false
def c8:=@Bool.not_true
def mT:=@Bool.or_eq_false_iff
def cN:=@Bool.or_eq_true
def eT:=@Bool.or_false
def eH:=@Bool.or_self
def dS:=@Bool.or_true
def c9:=@Bool.true_and
def dA:=@Bool.true_or
def iq:=@Eq.trans
def cp:=@Int.le_refl
def bw:=@Int.lt_irrefl
def js:=@Int.toNat_natCast
def nD:=@Int.toNat_of_nonneg
def jt:=@List.Pairwise.filter
def lq:=@List.all_cons
def bI:=@List.all_eq_true
def lr:=@List.any_cons
def gN:=@List.any_eq_true
def fx:=@List.append_assoc
def cZ:=@List.append_nil
def jH:=@List.append_toArray
def aR:=@List.cons_append
def jV:=@List.countP_cons
def mH:=@List.countP_le_length
def di:=@List.drop_eq_getElem_cons
def iR:=@List.drop_eq_nil_of_le
def cG:=@List.eq_nil_of_length_eq_zero
def kZ:=@List.eq_of_mem_replicate
def ec:=@List.exists_cons_of_ne_nil
def dM:=@List.ext_getElem?
def lY:=@List.filter_append
def eF:=@List.filter_cons
def fQ:=@List.filter_eq_self
def lG:=@List.filter_nil
def df:=@List.find?_eq_none
def nF:=@List.find?_some
def lH:=@List.flatMap_eq_nil_iff
def dZ:=@List.foldl_cons
def mo:=@List.foldl_nil
def kx:=@List.getD_eq_getElem?_getD
def mU:=@List.getElem?_append
def bB:=@List.getElem?_append_left
def bA:=@List.getElem?_append_right
def eO:=@List.getElem?_cons_succ
def fy:=@List.getElem?_cons_zero
def cI:=@List.getElem?_drop
def ai:=@List.getElem?_eq_getElem
def er:=@List.getElem?_eq_none
def aq:=@List.getElem?_eq_some_iff
def bf:=@List.getElem?_map
def bE:=@List.getElem?_of_mem
def jI:=@List.getElem?_range
def jJ:=@List.getElem?_replicate
def gQ:=@List.getElem?_set_ne
def gm:=@List.getElem?_set_self
def gI:=@List.getElem?_take
def bF:=@List.getElem?_take_of_lt
def iU:=@List.getElem_mem
def jK:=@List.getElem_of_mem
def aD:=@List.length_append
def au:=@List.length_cons
def ir:=@List.length_drop
def cj:=@List.length_eq_zero_iff
def bU:=@List.length_filter_le
def fH:=@List.length_map
def av:=@List.length_nil
def gw:=@List.length_pos_iff
def kj:=@List.length_replicate
def fi:=@List.length_set
def gi:=@List.length_take
def bu:=@List.map_append
def dH:=@List.map_congr_left
def aP:=@List.map_cons
def ju:=@List.map_drop
def nG:=@List.map_eq_nil_iff
def jX:=@List.map_map
def a8:=@List.map_nil
def gJ:=@List.map_replicate
def kN:=@List.map_set
def fj:=@List.map_take
def bm:=@List.mem_append
def dq:=@List.mem_append_left
def eL:=@List.mem_append_right
def bC:=@List.mem_cons
def aO:=@List.mem_cons_of_mem
def aV:=@List.mem_cons_self
def cm:=@List.mem_filter
def iV:=@List.mem_flatMap
def dj:=@List.mem_map
def fI:=@List.mem_of_find?_eq_some
def aQ:=@List.mem_of_getElem?
def dr:=@List.mem_of_mem_drop
def dI:=@List.mem_of_mem_take
def jb:=@List.mem_range
def bM:=@List.mem_singleton
def aZ:=@List.nil_append
def nH:=@List.nodup_cons
def oo:=@List.nodup_nil
def dJ:=@List.pairwise_append
def cv:=@List.pairwise_cons
def bS:=@List.pairwise_iff_getElem
def iC:=@List.pairwise_map
def jW:=@List.prefix_refl
def ky:=@List.push_toArray
def mV:=@List.range_eq_range'
def iM:=@List.replicate_succ
def mW:=@List.replicate_succ'
def cU:=@List.size_toArray
def mX:=@List.sum_cons
def hV:=@List.takeWhile_cons
def cC:=@List.take_add_one
def cD:=@List.take_append_drop
def fE:=@List.take_append_of_le_length
def bW:=@List.take_length
def bQ:=@List.take_of_length_le
def bJ:=@Nat.add_mul
def dg:=@Nat.add_sub_cancel'
def iE:=@Nat.add_sub_cancel_left
def dk:=@Nat.add_zero
def kl:=@Nat.div_lt_iff_lt_mul
def gL:=@Nat.eq_zero_or_pos
def fz:=@Nat.le_mul_of_pos_right
def aC:=@Nat.le_refl
def iG:=@Nat.le_succ_of_le
def aW:=@Nat.le_trans
def im:=@Nat.lt_irrefl
def bz:=@Nat.lt_of_lt_of_le
def bD:=@Nat.lt_or_ge
def gX:=@Nat.lt_trichotomy
def bj:=@Nat.mul_le_mul_right
def gP:=@Nat.ne_of_lt
def n9:=@Nat.not_lt
def ka:=@Nat.not_lt_zero
def fN:=@Nat.one_mul
def lI:=@Nat.sub_mul
def bK:=@Nat.sub_zero
def mf:=@Nat.succ_mul
def aL:=@Nat.zero_add
def cV:=@Nat.zero_le
def jY:=@Nat.zero_mul
def eZ:=@Ne.symm
def du:=@Option.bind_eq_some_iff
def iW:=@Option.getD_none
def bh:=@Option.getD_some
def ct:=@Option.isSome_iff_exists
def eJ:=@Option.isSome_none
def bZ:=@Option.isSome_some
def aN:=@Option.map_eq_some_iff
def nI:=@Option.map_none
def eP:=@Option.map_some
def iH:=@Option.some.inj
def eX:=@Option.some.injEq
def lZ:=@Option.toList_some
def km:=@UInt8.lt_iff_toNat_lt
def nJ:=@UInt8.lt_irrefl
def kb:=@UInt8.toNat_inj
def jZ:=@and_self
def jL:=@beq_eq_false_iff_ne
def eM:=@beq_iff_eq
def iX:=@beq_self_eq_true
def mJ:=@bne_iff_ne
def ak:=@bne_self_eq_false
def kc:=@decide_eq_false
def dP:=@decide_eq_false_iff_not
def jM:=@decide_eq_true
def bg:=@decide_eq_true_eq
def fq:=@eq_iff_iff
def pk:=@ge_iff_le
def mg:=@getElem!_pos
def aw:=@if_false
def aH:=@if_neg
def bc:=@if_pos
def aE:=@if_true
def pn:=@iff_false
def jc:=@iff_true
def oW:=@not_false_eq_true
def lu:=@not_or
def fA:=@of_decide_eq_true
end Go
namespace Go.Abs
section
open Go
inductive Tk where
 |sh|c0|own (k:Nat)
 deriving DecidableEq,Repr
inductive ag where
 |bool (b:Bool)
 |int (k:IntKind) (n:Int)
 |str (s:List UInt8)
 |slice (tk:Tk) (xs:List ag)
 |agg (cs:List ag)
 |tuple (vs:List ag)
 |ptr (id off:Nat)
 |iQ (cs:List ag)
 |func (f:Nat) (caps:List ag)
 |ia (id:Nat)
 |jn (id:Nat)
 |jA (ks vs:List ag)
 |cS (id ver sz lo hi:Nat)
 |iJ (id ver i off:Nat)
 |pR (f:Nat) (fs:List ag)
 |jF (t id off:Nat)
 |raw (v:Value)
 |mQ (v:Value)
 |any
 deriving Inhabited
def ag.jx:ag->Bool
 | .mQ _=>true
 | .bool _ | .int .. | .str _ | .slice .. | .agg _ | .tuple _ | .ptr .. | .iQ _ | .func .. | .ia _ | .jn _ | .jA .. | .cS .. | .iJ .. | .pR .. | .jF .. | .raw _ | .any=>false
abbrev aF(n:Int):ag:=.int .i64 n
abbrev hZ(l:List ag):ag:=.slice .sh l
abbrev b9(n:Nat):ag:=.ptr n 0
inductive dy where
 |cells (cs:List ag)
 |tick (sz n:Nat)
 |map (ks vs:List ag)
 |mC (s:List UInt8) (pos:Nat)
 |arr (sz ver:Nat) (xs:List ag)
 |vF
def dy.tag:dy->Nat
 | .cells _=>0
 | .tick sz _=>sz+3
 | .map _ _=>1
 | .mC _ _=>2
 | .arr sz _ _=>sz+3
 | .vF=>3
def dy.fixed:dy->Bool
 | .tick _ _ | .arr _ _ _ | .vF=>false
 |_=>true
def dy.loose:dy->Bool
 | .tick _ _ | .arr _ _ _=>true
 |_=>false
abbrev bT(l:List ag):dy:=.cells l
abbrev aG:=List dy
abbrev Env:=List (Nat×ag)
def bH{α β:Type}(x:Option α)(f:α->Option β):Option β:=match x with
 |some a=>f a
 |none=>none
@[congr] theorem aci {α β:Type} {x x':Option α} {f:α->Option β} (h:x=x'):bH x f=bH x' f:=by rw[h]
@[simp] theorem bV {α β:Type} (a:α) (f:α->Option β):bH (some a) f=f a:=rfl
@[simp] theorem afO {α β:Type} (f:α->Option β):bH none f=none:=rfl
def yX{α:Type}(b:Bool)(x y:Option α):Option α:=match b with
 |true=>x
 |false=>y
@[congr] theorem ag7 {α:Type} {b b':Bool} {x y:Option α} (h:b=b'):yX b x y=yX b' x y:=by rw[h]
@[simp] theorem xd {α:Type} (x y:Option α):yX true x y=x:=rfl
@[simp] theorem p6 {α:Type} (x y:Option α):yX false x y=y:=rfl
@[simp] theorem OH {α β:Type} (b:Bool) (x y:Option α) (f:α->Option β):bH (yX b x y) f=yX b (bH x f) (bH y f):=by cases b<;>rfl
open Classical in
noncomputable def cA{α:Type}(p:Prop)(x:Option α):Option α:=if p then x else none
@[congr] theorem acn {α:Type} {p p':Prop} {x:Option α} (h:p=p'):cA p x=cA p' x:=by rw[h]
theorem dV{α:Type}{p:Prop}{x:Option α}(h:p):cA p x=x:=bc h
@[simp] theorem Lg {α:Type} (x:Option α):cA True x=x:=if_pos trivial
@[simp] theorem BP {α:Type} (x:Option α):cA False x=none:=if_neg not_false
@[simp] theorem acj {α β:Type} (p:Prop) (x:Option α) (f:α->Option β):bH (cA p x) f=cA p (bH x f):=by
 unfold cA; split<;>rfl
def iB:Env->Nat->ag
 | [],_ => .any
 |(k,v)::e,t=>if k=t then v else iB e t
def ag.cells:ag->List ag
 | .agg cs=>cs
 |x=>[x]
def ag.iP:ag->Bool
 | .agg _ | .tuple _ | .any | .mQ _=>false
 | .raw v=>match v with | .agg _ | .tuple _=>false|_=>true
 |_=>true
def ag.cells?:ag->Option (List ag)
 | .agg cs=>some cs
 | .tuple _ | .any | .mQ _=>none
 | .raw (.agg _)=>none
 |x=>some [x]
def ag.shut:ag->ag
 | .slice _ xs => .slice .sh xs
 |x=>x
def ag.gb:ag->ag
 | .slice _ xs => .slice .sh xs
 | .agg cs => .agg (cs.map ag.shut)
 |x=>x
def ag.plainCell:ag->Bool
 | .bool _ | .int .. | .str _=>true
 | .slice .sh _=>true
 | .raw v=>match v with | .pointer none | .nilFunc | .nilIface | .map none | .func _ ⟨[]⟩ ⟨[]⟩=>true|_=>false
 |_=>false
def ag.plain:ag->Bool
 | .agg cs=>cs.all ag.plainCell
 |x=>x.plainCell
def ag.jB(bL:Nat)(M:aG):ag->ag
 | .slice (.own k) xs=>if k<bL then .slice (.own k) xs else .slice .sh xs
 | .ptr id off=>if id<bL then .ptr id off else .any
 | .ia id=>if id<bL then .ia id else .any
 | .jn id=>if id<bL then .jn id else .any
 | .cS id ver sz lo hi=>if id<bL then .cS id ver sz lo hi else match M[id]? with
  |some (.arr _ v xs)=>if v=ver then .slice .sh ((xs.take hi).drop lo) else .any
  |_ => .any
 | .iJ id ver i off=>if id<bL then .iJ id ver i off else .any
 | .jF t id off=>if id<bL then .jF t id off else .any
 | .func _ _ | .agg _ | .tuple _ => .any
 |x=>x
def ag.kE(bL:Nat)(M:aG):ag->ag
 | .func f caps => .func f (caps.map (ag.jB bL M))
 |x=>x.jB bL M
def ag.kG(bL:Nat)(M:aG):ag->ag
 | .agg cs => .agg (cs.map (ag.kE bL M))
 |x=>x.kE bL M
def ag.nS(bL:Nat)(M:aG):ag->ag
 | .tuple vs => .tuple (vs.map (ag.kG bL M))
 |x=>x.kG bL M
def dy.back(bL:Nat)(M:aG):dy->dy
 | .cells cs => .cells (cs.map (ag.kE bL M))
 | .tick sz n => .tick sz n
 | .map ks vs => .map ks (vs.map (ag.kG bL M))
 | .mC s p => .mC s p
 | .arr sz v xs => .arr sz v xs
 | .vF => .vF
def lK(bL:Nat)(M:aG):aG:=(M.take bL).map (dy.back bL M)
def zq(bL:Nat)(M:aG)(br:Env):Env:=br.map fun x=>(x.1,x.2.nS bL M)
def ag.j4(bL:Nat)(M:aG):ag->ag
 | .slice _ xs => .slice .sh xs
 | .ia id=>if id<bL then .ia id else match M[id]? with
  |some (.map ks vs)=>if vs.all ag.plain&&ks.all ag.plainCell then .jA ks vs else .any
  |_ => .any
 |x=>x.kE bL M
def ag.kd(bL:Nat)(M:aG):ag->ag
 | .agg cs => .agg (cs.map (ag.j4 bL M))
 |x=>x.j4 bL M
def ag.mu(bL:Nat)(M:aG):ag->ag
 | .tuple vs => .tuple (vs.map (ag.kd bL M))
 |x=>x.kd bL M
def ag.ig:ag->List Nat
 | .ptr id _ | .ia id | .jn id | .cS id _ _ _ _ | .iJ id _ _ _=>[id]
 | .slice (.own k) _=>[k]
 | .jF _ id _=>[id]
 |_=>[]
def ag.mM:ag->List Nat
 | .func _ caps=>caps.flatMap ag.ig
 |x=>x.ig
def ag.ids:ag->List Nat
 | .agg cs=>cs.flatMap ag.mM
 |x=>x.mM
def ag.EP:ag->Bool
 | .func _ _ | .agg _ | .tuple _=>false
 |_=>true
def ag.vf:ag->Bool
 | .func _ caps=>caps.all ag.EP
 | .agg _ | .tuple _=>false
 |_=>true
def ag.flat:ag->Bool
 | .agg cs=>cs.all ag.vf
 |x=>x.vf
def dy.flat:dy->Bool
 | .vF=>false
 | .cells cs=>cs.all ag.vf
 | .map _ vs=>vs.all ag.flat
 |_=>true
def ag.sZ(ρ:Nat->Nat):ag->ag
 | .ptr id off => .ptr (ρ id) off
 | .ia id => .ia (ρ id)
 | .jn id => .jn (ρ id)
 | .cS id v sz lo hi => .cS (ρ id) v sz lo hi
 | .iJ id v i off => .iJ (ρ id) v i off
 | .slice (.own k) xs => .slice (.own (ρ k)) xs
 | .jF t id off => .jF t (ρ id) off
 |x=>x
def ag.r8(ρ:Nat->Nat):ag->ag
 | .func f caps => .func f (caps.map (ag.sZ ρ))
 |x=>x.sZ ρ
def ag.pL(ρ:Nat->Nat):ag->ag
 | .agg cs => .agg (cs.map (ag.r8 ρ))
 |x=>x.r8 ρ
def ag.Bg(ρ:Nat->Nat):ag->ag
 | .tuple vs => .tuple (vs.map (ag.pL ρ))
 |x=>x.pL ρ
def ag.we:ag->Bool
 | .tuple vs=>vs.all ag.flat
 |x=>x.flat
def dy.pL(ρ:Nat->Nat):dy->dy
 | .cells cs => .cells (cs.map (ag.r8 ρ))
 | .map ks vs => .map ks (vs.map (ag.pL ρ))
 |b=>b
def dy.ids:dy->List Nat
 | .cells cs=>cs.flatMap ag.mM
 | .map _ vs=>vs.flatMap ag.ids
 |_=>[]
def nth{α:Type}:List α->Nat->Option α
 | [],_=>none
 |a::_,0=>some a
 |_::l,n+1=>nth l n
def jj{α:Type}:List α->Nat->α->List α
 | [],_,_=>[]
 |_::l,0,x=>x::l
 |a::l,n+1,x=>a::jj l n x
def j8:List Nat->List Nat->List Nat
 |a,[]=>a
 |a,x::r=>j8 (if a.contains x then a else a++[x]) r
def pX(M:aG):List Nat->List Nat
 | []=>[]
 |i::r=>(match nth M i with|some b=>b.ids|none=>[])++pX M r
def kD(M:aG)(acc:List Nat):List Nat:=j8 acc (pX M acc)
def reach(M:aG)(l:List Nat):List Nat:=kD M (kD M (kD M (j8 [] l)))
def iy:List Nat->Nat->Nat
 | [],_=>0
 |a::l,x=>if a=x then 0 else iy l x+1
def wD(ids:List Nat)(i:Nat):Nat:=(nth ids i).getD 0
def jE(M:aG)(ρ:Nat->Nat):List Nat->Option aG
 | []=>some []
 |i::r=>match nth M i with
  |some b=>if b.flat then bH (jE M ρ r) fun l=>some (b.pL ρ::l) else none
  |none=>none
def kY(ids:List Nat)(M:aG):List Nat->aG->aG
 |i::r,b::l=>kY ids (jj M i (b.pL (wD ids))) r l
 |_,_=>M
def ag.ou(M:aG):ag->ag
 | .cS id ver sz lo hi=>match nth M id with
  |some (.arr _ v xs)=>if v=ver then .slice .sh ((xs.take hi).drop lo) else .any
  |_ => .any
 |x=>x
def ag.wx(M:aG):ag->ag
 | .agg cs => .agg (cs.map (ag.ou M))
 |x=>x.ou M
def sO(M:aG):List Nat->aG
 | []=>M
 |i::r=>match nth M i with
  |some (.arr sz _ xs)=>sO (jj M i (.tick sz xs.length)) r
  |_=>sO M r
inductive gV where
 |tmp (t:Nat)
 |ke (v:ag)
def gV.ev(br:Env):gV->ag
 | .tmp t=>iB br t
 | .ke v=>v
inductive Nc where
 |add|sub|mul|quo|rem|eql|neq|lss|leq|gtr|geq|shl|shr|and|or|xor
 deriving DecidableEq,Repr
inductive FK where
 |i|s|b
 deriving DecidableEq
inductive kg where
 |mv (x:gV)
 |own (sz:Nat) (x:gV)
 |pick (c a b:gV)
 |pH (cs:List ag)
 |box (x:gV)
 |build (zero:List ag) (parts:List (Nat×Nat×gV))
 |lits (sz:Nat) (parts:List gV)
 |Dz (sz:Nat) (parts:List gV)
 |kU (n:Nat) (x:gV)
 |ij (x:gV)
 |store (n:Nat) (a x:gV)
 |Bl (sz p n:Nat) (a x:gV)
 |W0 (x:gV)
 |bin (op:Nc) (x y:gV)
 |Xf (ks:List FK) (neg:Bool) (x y:gV)
 |eqB (neg:Bool) (x y:gV)
 |not (x:gV)
 |neg (x:gV)
 |conv (k:IntKind) (x:gV)
 |same (x:gV)
 |fn (f:Nat) (caps:List gV)
 |CQ (f:Nat) (firsts:List gV)
 |xl (x:gV) (lo hi:Option gV)
 |zb (sz:Nat) (x:gV) (lo hi mx:Option gV)
 |iT (off:Nat) (x:gV)
 |AO (off n:Nat) (x:gV)
 |AN (off:Nat) (x:gV)
 |vi (sz:Nat) (x i:gV)
 |wZ (n sz:Nat) (x i:gV)
 |w5 (x i:gV)
 |extract (x:gV) (i:Nat)
 |call (f:Nat) (args:List gV)
 |wa (f:gV) (args:List gV)
 |Bx (f:Nat) (args:List gV)
 |kB (f:Nat) (args:List gV)
 |v8 (f:Nat) (args:List gV)
 |AH (sz:Nat) (zero:List ag) (x:gV)
 |Oq (x:gV)
 |Dx (x:gV)
 |append (sz bytes:Nat) (x y:gV)
 |yV (mx:Bool) (x y:gV)
 |b2s (x:gV)
 |mkMap
 |look (fk:FK) (zero:ag) (ok:Bool) (m k:gV)
 |gD (fk:FK) (m k v:gV)
 |Oo (m:gV)
 |O7 (x:gV)
 |Fv (it:gV)
 |iface (t:Nat) (x:gV)
 |raise (x:gV)
 |mkS (zero:List ag) (n:gV)
 |OC (zero:List ag) (n:gV)
 |xz (sz bytes:Nat) (zero:List ag) (x n:gV)
 |vJ (sz bytes:Nat) (x y:gV)
 |EH (sz:Nat) (x y:gV)
 |Nz (sz:Nat)
structure cT where
 dst:Option Nat
 op:kg
 guard:Option (Nat×Bool)
 grow:Bool:=false
 wk:Bool:=false
 sep:List Nat:=[]
 stop:Bool:=true
def ob(d:Nat)(o:kg):cT:=⟨some d,o,none,false,false,[],true⟩
def og(d g:Nat)(b:Bool)(o:kg):cT:=⟨some d,o,some (g,b),false,false,[],true⟩
def ox(o:kg):cT:=⟨none,o,none,false,false,[],true⟩
def kg.Qb:kg->Bool
 | .call .. | .wa .. | .Bx .. | .kB .. | .raise _=>true
 |_=>false
inductive cB where
 |skip
 |region (ops:List cT) (draw:Bool) (live:List Nat)
 |seq (a b:cB)
 |cond (c:gV) (x y:cB)
 |block (id:Nat) (c:cB)
 |loop (live:List Nat) (c:cB)
 |exit (id:Nat)
 |ret
inductive aac where
 |normal|exit (id:Nat)|ret|mQ (v:Value)
abbrev eK:=Nat->List ag->aG->Option (ag×aG)
def strLt:List UInt8->List UInt8->Bool
 |_,[]=>false
 | [],_::_=>true
 |a::x,b::y=>a<b||(a==b&&strLt x y)
def aqJ(k:IntKind)(a b:Int):Int:=k.wrap (BitVec.ofInt k.bits a &&& BitVec.ofInt k.bits b).toNat
def ior(k:IntKind)(a b:Int):Int:=k.wrap (BitVec.ofInt k.bits a ||| BitVec.ofInt k.bits b).toNat
def aqP(k:IntKind)(a b:Int):Int:=k.wrap (BitVec.ofInt k.bits a ^^^ BitVec.ofInt k.bits b).toNat
def pU(b:UInt8):ag := .int .u8 b.toNat
def pM(op:Nc):ag->ag->Option ag
 | .int k a,.int k' b =>
  match op with
  | .shl=>if 0<=b then some (.int k (k.wrap (a*2 ^ (min b.toNat k.bits)))) else none
  | .shr=>if 0<=b then some (.int k (a.fdiv (2 ^ (min b.toNat k.bits)))) else none
  |op=>if k≠k' then none else
   match op with
   | .add=>some (.int k (k.wrap (a+b)))
   | .sub=>some (.int k (k.wrap (a-b)))
   | .mul=>some (.int k (k.wrap (a*b)))
   | .quo=>if b=0 then none else some (.int k (k.wrap (a.tdiv b)))
   | .rem=>if b=0 then none else some (.int k (a.tmod b))
   | .eql=>some (.bool (a==b))
   | .neq=>some (.bool (a != b))
   | .lss=>some (.bool (a<b))
   | .leq=>some (.bool (a<=b))
   | .gtr=>some (.bool (a>b))
   | .geq=>some (.bool (a>=b))
   | .and=>some (.int k (aqJ k a b))
   | .or=>some (.int k (ior k a b))
   | .xor=>some (.int k (aqP k a b))
   |_=>none
 | .str a,.str b =>
  match op with
  | .add=>if ((a.length+b.length:Nat):Int)>IntKind.i64.max then none else some (.str (a++b))
  | .eql=>some (.bool (a==b))
  | .neq=>some (.bool (a != b))
  | .lss=>some (.bool (strLt a b))
  | .leq=>some (.bool (strLt a b||a==b))
  | .gtr=>some (.bool (!(strLt a b||a==b)))
  | .geq=>some (.bool (!(strLt a b)))
  |_=>none
 |_,_=>none
def mc:FK->ag->ag->Option Bool
 | .i,.int k a,.int k' b=>if k=k' then some (a==b) else none
 | .s,.str a,.str b=>some (a==b)
 | .b,.bool a,.bool b=>some (a==b)
 |_,_,_=>none
def ko:List FK->List ag->List ag->Option Bool
 | [],[],[]=>some true
 |k::ks,a::x,b::y=>bH (mc k a b) fun e=>bH (ko ks x y) fun f=>some (e&&f)
 |_,_,_=>none
def ag.norm:ag->ag
 | .agg [c]=>c
 |x=>x
def valOf:ag->Option Value
 | .int k n=>some (.int k n)
 | .agg [.int k n]=>some (.agg #[.int k n])
 |_=>none
def bytesOf:List ag->Option (List UInt8)
 | []=>some []
 | .int .u8 n::r=>bH (bytesOf r) fun l=>some (UInt8.ofNat n.toNat::l)
 |_=>none
def A4(fk:FK)(k:ag):List ag->List ag->Option (Option ag)
 | [],[]=>some none
 |k'::ks,v::vs=>bH (mc fk k k') fun b=>yX b (some (some v)) (A4 fk k ks vs)
 |_,_=>none
def A5(fk:FK)(k v:ag):List ag->List ag->Option (List ag×List ag)
 | [],[]=>bH (mc fk k k) fun _=>some ([k],[v])
 |k'::ks,v'::vs=>bH (mc fk k k') fun b=>yX b (some (k::ks,v::vs)) (bH (A5 fk k v ks vs) fun x=>some (k'::x.1,v'::x.2))
 |_,_=>none
def qF(zero:ag)(ok:Bool)(r:Option ag):ag:=match ok with
 |true => .tuple [r.getD zero,.bool r.isSome]
 |false=>r.getD zero
def mapOf(M:aG):ag->Option (List ag×List ag)
 | .ia id=>match nth M id with|some (.map ks vs)=>some (ks,vs)|_=>none
 | .jA ks vs=>some (ks,vs)
 |_=>none
def mF(cs:List ag)(off:Nat)(new:List ag):List ag:=cs.take off++(new++cs.drop (off+new.length))
def putCells(e:ag)(off:Nat)(new:List ag):ag:=match e,new with
 | .agg cs,new => .agg (mF cs off new)
 |_,[c]=>c
 |e,_=>e
def lx(br:Env):List ag->List (Nat×Nat×gV)->Option (List ag)
 |cs,[]=>some cs
 |cs,(off,n,x)::r =>
  bH (x.ev br).cells? fun new=>if new.length=n/\off+n<=cs.length then lx br (mF cs off new) r else none
def sj(br:Env)(sz:Nat):List gV->Option (List ag)
 | []=>some []
 |x::r=>if (x.ev br).gb.plain=true/\(x.ev br).gb.cells.length=sz then bH (sj br sz r) fun l=>some ((x.ev br).gb::l) else none
def fF(br:Env)(n:Nat):Option gV->Option Int
 |none=>some n
 |some x=>match x.ev br with | .int _ i=>some i|_=>none
def wid(xs:List ag)(sz:Nat):Prop:=∀x,x∈xs->x.cells.length=sz
def cu(n bytes:Nat):Prop:=n*bytes<=2 ^ 44
noncomputable def aU(call:eK)(f:Nat)(vs:List ag)(M:aG):Option (ag×aG) :=
 if vs.all ag.flat then
  bH (jE M (iy (reach M (vs.flatMap ag.ids))) (reach M (vs.flatMap ag.ids))) fun B =>
   if kD M (reach M (vs.flatMap ag.ids))=reach M (vs.flatMap ag.ids) then
    bH (call f (vs.map (ag.pL (iy (reach M (vs.flatMap ag.ids))))) B) fun x =>
     if x.2.length=B.length/\x.1.we=true/\x.2.all dy.flat=true then some (x.1.Bg (wD (reach M (vs.flatMap ag.ids))),kY (reach M (vs.flatMap ag.ids)) M (reach M (vs.flatMap ag.ids)) x.2) else none
   else none
 else none
noncomputable def Be(call:eK)(f:Nat)(vs:List ag)(M:aG):Option (ag×aG) :=
 if vs.all ag.flat=true/\vs.flatMap ag.ids=[] then
  bH (call f vs []) fun x=>match x.1,x.2 with
   | .slice (.own 0) xs,[.tick sz n]=>some (.slice (.own M.length) xs,M++[.tick sz n])
   |_,_=>none
 else none
noncomputable def ef(call:eK)(br:Env)(M:aG):kg->Option (ag×aG)
 | .mv x=>some (x.ev br,M)
 | .own sz x =>
  match x.ev br with
  | .slice .c0 []=>some (.slice (.own M.length) [],M++[.tick sz 0])
  |_=>none
 | .pick c a b=>match c.ev br with
  | .bool t=>yX t (some (a.ev br,M)) (some (b.ev br,M))
  |_=>none
 | .pH cs=>some (.ptr M.length 0,M++[.cells cs])
 | .box x=>bH (x.ev br).cells? fun cs=>some (.ptr M.length 0,M++[.cells cs])
 | .build zero parts=>bH (lx br zero parts) fun cs=>some (.agg cs,M)
 | .lits sz parts=>bH (sj br sz parts) fun l=>some (match l with|[] => .slice .c0 []|_ => .slice .sh l,M)
 | .Dz sz parts=>bH (sj br sz parts) fun l=>some (.slice (.own M.length) l,M++[.tick sz l.length])
 | .kU n x =>
  match x.ev br with
  | .ptr id off=>match nth M id with
   |some (.cells cs)=>if off+n<=cs.length then some (.agg ((cs.drop off).take n),M) else none
   |_=>none
  | .iQ cs=>if n<=cs.length then some (.agg (cs.take n),M) else none
  | .iJ id ver i off=>match nth M id with
   |some (.arr _ v xs)=>if v=ver then bH (xs[i]?) fun e=>if off+n<=e.cells.length then some (.agg ((e.cells.drop off).take n),M) else none else none
   |_=>none
  |_=>none
 | .ij x =>
  match x.ev br with
  | .ptr id off=>match nth M id with
   |some (.cells cs)=>bH (nth cs off) fun c=>some (c,M)
   |_=>none
  | .iQ cs=>bH (nth cs 0) fun c=>some (c,M)
  | .iJ id ver i off=>match nth M id with
   |some (.arr _ v xs)=>if v=ver then bH (xs[i]?) fun e=>bH (nth e.cells off) fun c=>some (c,M) else none
   |_=>none
  |_=>none
 | .store n a x =>
  match a.ev br with
  | .ptr id off=>match nth M id with
   |some (.cells cs)=>bH (x.ev br).cells? fun new =>
    if new.length=n/\off+n<=cs.length/\new.all ag.iP=true then some (.any,jj M id (.cells (mF cs off new))) else none
   |_=>none
  | .iJ id ver i off=>match nth M id with
   |some (.arr sz v xs)=>bH (x.ev br).cells? fun new=>bH (xs[i]?) fun e =>
    if v=ver/\new.length=n/\off+n<=e.cells.length/\(new.map ag.shut).all ag.plainCell=true then some (.any,jj M id (.arr sz ver (jj xs i (putCells e off (new.map ag.shut))))) else none
   |_=>none
  |_=>none
 | .Bl sz p n a x =>
  match a.ev br with
  | .ptr id off=>match nth M id with
   |some (.cells cs)=>bH (x.ev br).cells? fun new =>
    match nth new p with
    |some (.slice .c0 [])=>if new.length=n/\off+n<=cs.length/\new.all ag.iP=true then some (.any,jj M id (.cells (mF cs off (jj new p (.slice (.own M.length) []))))++[.tick sz 0]) else none
    |_=>none
   |_=>none
  |_=>none
 | .W0 x=>match x.ev br with
  | .ptr id off=>some (.ptr id off,M)
  | .iQ cs=>some (.iQ cs,M)
  | .func f caps=>some (.func f caps,M)
  | .iJ id v i off=>some (.iJ id v i off,M)
  |_=>none
 | .bin op x y=>bH (pM op (x.ev br) (y.ev br)) fun v=>some (v,M)
 | .Xf ks neg x y =>
  match x.ev br,y.ev br with
  | .agg a,.agg b=>bH (ko ks a b) fun e=>some (.bool (match neg with|true => !e|false=>e),M)
  |_,_=>none
 | .eqB neg x y=>match x.ev br,y.ev br with
  | .bool a,.bool b=>some (.bool (match neg with|true => !(a==b)|false=>a==b),M)
  |_,_=>none
 | .not x=>match x.ev br with | .bool b=>some (.bool (!b),M)|_=>none
 | .neg x=>match x.ev br with | .int k n=>some (.int k (k.wrap (0-n)),M)|_=>none
 | .conv k x=>match x.ev br with | .int _ n=>some (.int k (k.wrap n),M)|_=>none
 | .same x=>match x.ev br with | .str s=>some (.str s,M)|_=>none
 | .fn f caps=>some (.func f (caps.map (gV.ev br)),M)
 | .CQ f firsts=>if (firsts.map fun x=>(x.ev br).gb).all ag.plain then some (.pR f (firsts.map fun x=>(x.ev br).gb),M) else none
 | .xl x lo hi =>
  match x.ev br with
  | .str s=>bH (fF br s.length hi) fun h=>bH (fF br 0 lo) fun l =>
   cA (0<=h/\h<=s.length/\0<=l/\l<=h) (some (.str ((s.take h.toNat).drop l.toNat),M))
  |_=>none
 | .zb sz x lo hi mx =>
  match x.ev br with
  | .slice _ xs=>cA (wid xs sz) <| bH (fF br xs.length hi) fun h=>bH (fF br 0 lo) fun l =>
   match mx with
   |none=>cA (0<=h/\h<=xs.length/\0<=l/\l<=h) (some (.slice .sh ((xs.take h.toNat).drop l.toNat),M))
   |some m=>match m.ev br with
    | .int _ m=>cA (0<=m/\m<=xs.length/\0<=h/\h<=m/\0<=l/\l<=h)
      (yX (m==0) (some (.slice .c0 [],M)) (some (.slice .sh ((xs.take h.toNat).drop l.toNat),M)))
    |_=>none
  | .cS id v sz' al ah=>cA (sz'=sz) <| bH (fF br (ah-al) hi) fun h=>bH (fF br 0 lo) fun l =>
   match mx with
   |none=>cA (0<=h/\h<=(ah-al:Nat)/\0<=l/\l<=h) (yX (l==h) (some (.slice .sh [],M)) (some (.cS id v sz (al+l.toNat) (al+h.toNat),M)))
   |some m=>match m.ev br with
    | .int _ m=>cA (0<=m/\m<=(ah-al:Nat)/\0<=h/\h<=m/\0<=l/\l<=h)
      (yX (m==0) (some (.slice .c0 [],M)) (yX (l==h) (some (.slice .sh [],M)) (some (.cS id v sz (al+l.toNat) (al+h.toNat),M))))
    |_=>none
  |_=>none
 | .iT off x=>match x.ev br with
  | .ptr id o=>some (.ptr id (o+off),M)
  | .iQ cs=>some (.iQ (cs.drop off),M)
  | .iJ id v i o=>some (.iJ id v i (o+off),M)
  |_=>none
 | .AO off n x=>match x.ev br with
  | .agg cs=>if off+n<=cs.length then some (.agg ((cs.drop off).take n),M) else none
  |_=>none
 | .AN off x=>match x.ev br with
  | .agg cs=>bH (nth cs off) fun c=>some (c,M)
  |_=>none
 | .vi sz x i =>
  match x.ev br,i.ev br with
  | .slice _ xs,.int _ n=>cA (0<=n) (bH (xs[n.toNat]?) fun e=>if e.cells.length=sz then some (.iQ e.cells,M) else none)
  | .cS id v sz' lo hi,.int _ n=>cA (0<=n/\n<(hi-lo:Nat)/\sz'=sz) (some (.iJ id v (lo+n.toNat) 0,M))
  |_,_=>none
 | .wZ n sz x i =>
  match x.ev br,i.ev br with
  | .iQ cs,.int _ m=>cA (0<=m/\m<n/\n*sz<=cs.length) (some (.iQ (cs.drop (m.toNat*sz)),M))
  | .ptr id off,.int _ m=>cA (0<=m/\m<n) (some (.ptr id (off+m.toNat*sz),M))
  |_,_=>none
 | .w5 x i =>
  match x.ev br,i.ev br with
  | .str s,.int _ n=>cA (0<=n) (bH (s[n.toNat]?) fun b=>some (.int .u8 b.toNat,M))
  |_,_=>none
 | .extract x i=>match x.ev br with | .tuple vs=>bH (nth vs i) fun v=>some (v,M)|_=>none
 | .call f args=>aU call f (args.map fun x=>(x.ev br).gb) M
 | .Bx f args=>call f (args.map (gV.ev br)) M
 | .kB f args=>aU call f (args.map fun x=>((x.ev br).wx M).gb) (sO M ((args.map (gV.ev br)).flatMap ag.ids))
 | .v8 f args=>Be call f (args.map fun x=>(x.ev br).gb) M
 | .AH sz zero x=>match x.ev br with
  | .slice _ xs=>match xs with|[]=>some (.any,M)|_=>none
  | .cS id ver sz' lo hi=>match nth M id with
   |some (.arr sz0 v xs)=>if v=ver/\sz'=sz/\zero.length=sz/\zero.all ag.plainCell=true then some (.any,jj M id (.arr sz0 ver (xs.take lo++(List.replicate (hi-lo) (.agg zero)++xs.drop hi)))) else none
   |_=>none
  |_=>none
 | .wa f args=>match f.ev br with
  | .func g caps=>aU call g ((args.map fun x=>(x.ev br).gb)++caps) M
  | .pR g fs=>aU call g (fs++args.map fun x=>(x.ev br).gb) M
  | .raw v=>match v with
   | .func (.func g) ⟨[]⟩ ⟨[]⟩=>aU call g (args.map fun x=>(x.ev br).gb) M
   |_=>none
  |_=>none
 | .Oq x=>match x.ev br with | .str s=>some (.int .i64 s.length,M)|_=>none
 | .Dx x=>match x.ev br with
  | .slice _ xs=>some (.int .i64 xs.length,M)
  | .cS _ _ _ lo hi=>some (.int .i64 (hi-lo:Nat),M)
  |_=>none
 | .append sz bytes x y =>
  match x.ev br,y.ev br with
  | .slice tk xs,.slice _ ys =>
   cA (cu (xs.length+ys.length) bytes/\wid xs sz/\wid ys sz) (
    match tk with
    | .c0=>match xs with|[]=>some (.slice (.own M.length) ys,M++[.tick sz ys.length])|_=>none
    | .own k=>match nth M k with
     |some (.tick sz' n)=>cA (sz'=sz/\n=xs.length) (some (.slice (.own k) (xs++ys),jj M k (.tick sz (xs.length+ys.length))))
     |_=>none
    | .sh=>none)
  | .cS id ver sz' lo hi,.slice _ ys=>match nth M id with
   |some (.arr sz0 v xs)=>cA (v=ver/\sz'=sz/\lo=0/\hi=xs.length/\cu (xs.length+ys.length) bytes/\wid xs sz/\wid ys sz/\0<ys.length)
     (some (.cS id (ver+1) sz 0 (xs.length+ys.length),jj M id (.arr sz0 (ver+1) (xs++ys))))
   |_=>none
  |_,_=>none
 | .yV mx x y=>match x.ev br,y.ev br with
  | .int k a,.int _ b=>some (.int k (match mx with|true=>if b>a then b else a|false=>if b<a then b else a),M)
  |_,_=>none
 | .b2s x=>match x.ev br with | .slice _ xs=>bH (bytesOf xs) fun l=>some (.str l,M)|_=>none
 | .mkMap=>some (.ia M.length,M++[.map [] []])
 | .look fk zero ok m k=>bH (mapOf M (m.ev br)) fun e=>bH (A4 fk (k.ev br) e.1 e.2) fun r=>some (qF zero ok r,M)
 | .gD fk m k v=>match m.ev br with
  | .ia id=>match nth M id with
   |some (.map ks vs)=>bH (A5 fk (k.ev br) (v.ev br) ks vs) fun e=>some (.any,jj M id (.map e.1 e.2))
   |_=>none
  |_=>none
 | .Oo m=>bH (mapOf M (m.ev br)) fun e=>some (.int .i64 e.1.length,M)
 | .O7 x=>match x.ev br with | .str s=>some (.jn M.length,M++[.mC s 0])|_=>none
 | .Fv it=>match it.ev br with
  | .jn id=>match nth M id with
   |some (.mC s pos)=>yX (decide (pos<s.length))
     (some (.tuple [.bool true,.int .i64 pos,.int .i32 (Utf8.decode ⟨s.toArray⟩ pos).1],jj M id (.mC s (pos+(Utf8.decode ⟨s.toArray⟩ pos).2))))
     (some (.tuple [.bool false],M))
   |_=>none
  |_=>none
 | .mkS zero n=>match n.ev br with
  | .int _ k=>cA (0<=k/\cu k.toNat (8*zero.length)/\zero.all ag.plainCell=true) (some (.slice .sh (List.replicate k.toNat (ag.agg zero).norm),M))
  |_=>none
 | .OC zero n=>match n.ev br with
  | .int _ k=>cA (0<=k/\cu k.toNat (8*zero.length)/\zero.all ag.plainCell=true) (some (.cS M.length 0 zero.length 0 k.toNat,M++[.arr zero.length 0 (List.replicate k.toNat (ag.agg zero).norm)]))
  |_=>none
 | .xz sz bytes zero x n =>
  match x.ev br,n.ev br with
  | .slice .c0 [],.int _ k=>cA (0<=k/\cu k.toNat bytes/\zero.length=sz/\zero.all ag.plainCell=true)
    (yX (k==0) (some (.slice .c0 [],M)) (some (.cS M.length 0 sz 0 k.toNat,M++[.arr sz 0 (List.replicate k.toNat (ag.agg zero).norm)])))
  | .cS id ver sz' lo hi,.int _ k=>match nth M id with
   |some (.arr sz0 v xs)=>cA (v=ver/\sz'=sz/\lo=0/\hi=xs.length/\0<=k/\cu (xs.length+k.toNat) bytes/\zero.length=sz/\zero.all ag.plainCell=true/\0<xs.length)
     (yX (k==0) (some (.cS id ver sz' lo hi,M)) (some (.cS id (ver+1) sz 0 (xs.length+k.toNat),jj M id (.arr sz0 (ver+1) (xs++List.replicate k.toNat (ag.agg zero).norm)))))
   |_=>none
  |_,_=>none
 | .vJ sz bytes x y =>
  match x.ev br,y.ev br with
  | .slice .c0 [],.slice _ ys=>cA (cu ys.length bytes/\wid ys sz) (some (.cS M.length 0 sz 0 ys.length,M++[.arr sz 0 ys]))
  |_,_=>none
 | .EH sz x y =>
  match x.ev br,y.ev br with
  | .slice .sh [],.slice _ ys=>cA (wid ys sz) (some (.int .i64 0,M))
  | .cS id ver sz' lo hi,.slice _ ys=>match nth M id with
   |some (.arr sz0 v xs)=>cA (v=ver/\sz'=sz/\wid ys sz/\0<xs.length)
     (some (.int .i64 (min ys.length (hi-lo):Nat),jj M id (.arr sz0 ver (xs.take lo++(ys.take (min ys.length (hi-lo))++xs.drop (lo+min ys.length (hi-lo)))))))
   |_=>none
  |_,_=>none
 | .Nz sz=>some (.ptr (M.length+1) 0,M++[.arr sz 0 [],.cells [.cS M.length 0 sz 0 0]])
 | .iface t x=>match x.ev br with
  | .ptr id off=>some (.jF t id off,M)
  |y=>bH (valOf y) fun v=>some (.raw (.iface t v),M)
 | .raise x=>match x.ev br with
  | .raw v=>match v with
   | .iface t u=>some (.mQ (.iface t u),M)
   |_=>none
  |_=>none
def pD(br:Env)(dst:Option Nat)(v:ag):Env :=
 match dst with
 |some d=>(d,v)::br
 |none=>br
def kg.eb(br:Env):kg->List Nat
 | .call _ args=>(args.map fun x=>(x.ev br).gb).flatMap ag.ids
 | .wa f args=>match f.ev br with
  | .func _ caps=>((args.map fun x=>(x.ev br).gb)++caps).flatMap ag.ids
  | .pR _ fs=>(fs++args.map fun x=>(x.ev br).gb).flatMap ag.ids
  | .raw v=>match v with
   | .func (.func _) ⟨[]⟩ ⟨[]⟩=>(args.map fun x=>(x.ev br).gb).flatMap ag.ids
   |_=>[]
  |_=>[]
 |_=>[]
def xj(br:Env)(M M':aG):List Nat->Prop
 | []=>True
 |z::r=>(match iB br z with
  | .ptr id _=>nth M' id=nth M id
  |_=>False)/\xj br M M' r
noncomputable def oq(call:eK)(o:cT)(br:Env)(M:aG):Option (ag×aG) :=
 match o.wk with
 |true=>cA (o.op.eb br=[]) (ef call br M o.op)
 |false=>match o.grow with
  |false=>ef call br M o.op
  |true=>bH (ef call br M o.op) fun x=>cA (M <+: x.2\/(o.sep≠[]/\xj br M x.2 o.sep)) (some x)
structure Out where
 e:aac
 br:Env
 mem:aG
def BU(c:Bool)(x:ag×aG)(k:Option Out):Option Out:=match x.1 with
 | .mQ v=>match c with
  |true=>some ⟨.mQ v,[],x.2⟩
  |false=>none
 |_=>k
def cT.lets(o:cT):Bool:=o.op.Qb&&o.stop
noncomputable def fR(call:eK):List cT->Env->aG->Option Out
 | [],br,M=>some ⟨.normal,br,M⟩
 |o::r,br,M =>
  match o.guard with
  |none=>bH (oq call o br M) fun x=>BU o.lets x (fR call r (pD br o.dst x.1) x.2)
  |some (t,want)=>match iB br t with
   | .bool b=>yX (b==want) (bH (oq call o br M) fun x=>BU o.lets x (fR call r (pD br o.dst x.1) x.2))
    (fR call r (pD br o.dst (.tuple [])) M)
   | .tuple []=>fR call r (pD br o.dst (.tuple [])) M
   |_=>none
def lQ(br:Env)(live:List Nat):Env:=live.map fun t=>(t,iB br t)
def Out.ov(live:List Nat)(o:Out):Out:=match o.e with
 | .normal=>⟨.normal,lQ o.br live,o.mem⟩
 |_=>o
open Classical in
noncomputable def lim{α:Type}(F:Nat->Option α):Option α:=if h:∃n,(F n).isSome=true then F (Classical.choose h) else none
def uL(o:Out)(k:Env->aG->Option Out):Option Out:=match o.e with
 | .normal=>k o.br o.mem
 |_=>some o
def wm(id:Nat)(o:Out):Out:=match o.e with
 | .exit i=>if i=id then ⟨.normal,o.br,o.mem⟩ else o
 |_=>o
def iter(f:Env->aG->Option Out)(live:List Nat):Nat->Env->aG->Option Out
 |0,_,_=>none
 |n+1,br,M=>bH (f (lQ br live) M) fun o=>uL o fun e m=>iter f live n (zq M.length m (lQ e live)) (lK M.length m)
noncomputable def eW(call:eK):cB->Env->aG->Option Out
 | .skip,br,M=>some ⟨.normal,br,M⟩
 | .region ops _ live,br,M=>bH (fR call ops br M) fun o=>some (o.ov live)
 | .seq a b,br,M=>bH (eW call a br M) fun o=>uL o (eW call b)
 | .cond c x y,br,M=>match c.ev br with
  | .bool t=>yX t (eW call x br M) (eW call y br M)
  |_=>none
 | .block id c,br,M=>bH (eW call c br M) fun o=>some (wm id o)
 | .loop live c,br,M=>lim fun n=>iter (eW call c) live n br M
 | .exit id,br,M=>some ⟨.exit id,br,M⟩
 | .ret,br,M=>some ⟨.ret,br,M⟩
inductive sv where
 |tmp (t:Nat)
 |dC (t n:Nat)
 |aas (t:Nat)
structure ei where
 nparams:Nat
 results:List sv
 body:cB
def DR(br:Env)(M:aG):sv->Option ag
 | .tmp t=>some (iB br t)
 | .dC t n=>match iB br t with
  | .ptr id off=>match nth M id with
   |some (.cells cs)=>if off+n<=cs.length then some (.agg ((cs.drop off).take n)) else none
   |_=>none
  |_=>none
 | .aas t=>match iB br t with
  | .ptr id off=>match nth M id with
   |some (.cells cs)=>nth cs off
   |_=>none
  |_=>none
def sm(br:Env)(M:aG):List sv->Option (List ag)
 | []=>some []
 |r::rs=>bH (DR br M r) fun v=>bH (sm br M rs) fun l=>some (v::l)
def one:List ag->ag
 | [v]=>v
 |l => .tuple l
def fe:Nat->List ag->Env
 |_,[]=>[]
 |i,v::r=>(i,v)::fe (i+1) r
def finish(res:List sv)(bL:Nat)(o:Out):Option (ag×aG) :=
 match o.e with
 | .exit _=>none
 | .mQ v=>some (.mQ v,lK bL o.mem)
 |_=>bH (sm o.br o.mem res) fun l=>some ((one l).mu bL o.mem,lK bL o.mem)
structure zg where
 code:Nat->Option ei
 nc:Nat->Option (List ag->aG->Option (ag×aG))
noncomputable def jz(T:zg):Nat->eK
 |0,f,args,M=>match T.nc f with
  |some g=>g args M
  |none=>none
 |n+1,f,args,M=>match T.nc f with
  |some g=>g args M
  |none=>match T.code f with
   |none=>none
   |some fn=>if args.length=fn.nparams then bH (eW (jz T n) fn.body (fe 0 args) M) (finish fn.results M.length) else none
noncomputable def ar(T:zg):eK:=fun f args M=>lim fun n=>jz T n f args M
theorem o9{α:Type}{F:Nat->Option α}(hm:∀n x,F n=some x->F (n+1)=some x){n:Nat}{x:α}(h:F n=some x):lim F=some x:=by
 have up:∀k n x,F n=some x->F (n+k)=some x:=by
  intro k;induction k<;>grind
 unfold lim;have hex:∃n,(F n).isSome=true:=⟨n,by grind⟩
 rw[dif_pos hex];have hc:=Classical.choose_spec hex;generalize Classical.choose _=m at *;obtain⟨y,hy⟩:=ct.1 hc;rcases Nat.le_total n m with hle|hle
 ·have:=up (m-n) n x h;rw[show n+(m-n)=m by omega] at this
  omega
 ·have:=up (n-m) m y hy;rw[show m+(n-m)=n by omega,h] at this
  rw[hy,this]
theorem vS{α:Type}{F:Nat->Option α}{x:α}(h:lim F=some x):∃n,F n=some x:=by
 unfold lim at h;split at h
 ·grind
 grind
def vI(C C':eK):Prop:=∀f a M x,C f a M=some x->C' f a M=some x
def bl{α β:Type}{x:Option α}{f:α->Option β}{y:β}(h:bH x f=some y):∃a,x=some a/\f a=some y:=by
 cases x<;>simp_all
def jR{α:Type}{b:Bool}{x y:Option α}{z:α}(h:yX b x y=some z):(b=true/\x=some z)\/(b=false/\y=some z):=by
 cases b
 ·simp_all
 simp_all
theorem db{α:Type}{p:Prop}{x:Option α}{z:α}(h:cA p x=some z):p/\x=some z:=by
 grind [cA]
theorem rq{C:eK}{f:Nat}{vs:List ag}{M:aG}{x:ag×aG}(h:aU C f vs M=some x) :
  ∃a B y,C f a B=some y/\∀C':eK,C' f a B=some y->aU C' f vs M=some x:=by
 unfold aU at h;split at h
 ·obtain⟨B,hB,h⟩:=bl h;split at h
  ·obtain⟨y,hy,h⟩:=bl h;refine⟨_,B,y,hy,fun C' hC'=>?_⟩
   simp_all [aU]
  grind
 grind
theorem LB{C:eK}{br:Env}{M:aG}{o:kg}{x:ag×aG}(h:ef C br M o=some x) :
  (∀C':eK,ef C' br M o=some x)\/∃f a B y,C f a B=some y/\∀C':eK,C' f a B=some y->ef C' br M o=some x:=by
 cases o
 case call f args =>
  simp only[ef] at h ⊢;obtain⟨a,B,y,h1,h2⟩:=rq h;exact .inr ⟨f,a,B,y,h1,h2⟩
 case v8 f args =>
  simp only[ef] at h ⊢;unfold Be at h;split at h
  ·rename_i hc;obtain⟨y,hy,h⟩:=bl h;refine .inr ⟨f,_,[],y,hy,fun C' hC'=>?_⟩
   unfold Be;rw[bc hc,hC'];exact h
  ·cases h
 case Bx f args=>exact .inr ⟨f,_,_,_,h,fun _ h'=>h'⟩
 case kB f args =>
  simp only[ef] at h ⊢;obtain⟨a,B,y,h1,h2⟩:=rq h;exact .inr ⟨f,a,B,y,h1,h2⟩
 case wa f args =>
  simp only[ef] at h ⊢;split at h<;>grind [rq]
 all_goals exact .inl fun _=>h
theorem P1{C C':eK}(hC:vI C C'){br:Env}{M:aG}{o:kg}{x:ag×aG}(h:ef C br M o=some x):ef C' br M o=some x:=by
 rcases LB h with h|⟨f,a,B,y,h1,h2⟩
 ·grind
 ·exact h2 _ (hC _ _ _ _ h1)
theorem rp{C:eK}{o:cT}{br:Env}{M:aG}{x:ag×aG}(h:oq C o br M=some x) :
  (o.wk=true/\o.op.eb br=[]/\ef C br M o.op=some x)\/(o.wk=false/\o.grow=false/\ef C br M o.op=some x)\/(o.wk=false/\o.grow=true/\(M <+: x.2\/(o.sep≠[]/\xj br M x.2 o.sep))/\ef C br M o.op=some x):=by
 unfold oq at h;split at h
 ·grind [db]
 ·split at h
  ·exact .inr (.inl ⟨by assumption,by assumption,h⟩)
  ·obtain⟨y,hy,h⟩:=bl h
   grind [db]
theorem CJ{C C':eK}(hC:vI C C'){br:Env}{M:aG}{o:cT}{x:ag×aG}(h:oq C o br M=some x):oq C' o br M=some x:=by
 grind [rp,oq,P1]
theorem GP{c:Bool}{x:ag×aG}{k:Option Out}{o:Out}(h:BU c x k=some o):(x.1.jx=false/\k=some o)\/∃v,c=true/\x.1 = .mQ v/\o=⟨.mQ v,[],x.2⟩:=by
 obtain⟨x,M⟩:=x
 cases x<;>first
  |exact .inl ⟨rfl,h⟩
  |(cases c
    ·cases h
    ·injection h with h; grind)
def GQ{c:Bool}{x:ag×aG}{k:Option Out}(h:x.1.jx=false):BU c x k=k:=by
 obtain⟨x,M⟩:=x;cases x<;>first|rfl|cases h
theorem GR{c:Bool}{x:ag×aG}{k:Option Out}{v:Value}(hc:c=true)(h:x.1 = .mQ v):BU c x k=some ⟨.mQ v,[],x.2⟩:=by
 grind [BU]
theorem po{C:eK}{o:cT}{r:List cT}{br:Env}{M:aG}{x:Out}(h:fR C (o::r) br M=some x) :
  (∃y,(∀t want,o.guard=some (t,want)->iB br t = .bool want)/\oq C o br M=some y/\((y.1.jx=false/\fR C r (pD br o.dst y.1) y.2=some x)\/∃v,o.lets=true/\y.1 = .mQ v/\x=⟨.mQ v,[],y.2⟩)) \/
  (∃t want,o.guard=some (t,want)/\(iB br t = .bool (!want)\/iB br t = .tuple [])/\fR C r (pD br o.dst (.tuple [])) M=some x):=by
 unfold fR at h;split at h
 ·rename_i hg;obtain⟨y,hy,h⟩:=bl h
  grind [GP]
 ·rename_i t want hg;split at h
  ·rename_i b hb;rcases jR h with ⟨h1,h2⟩|⟨h1,h2⟩
   ·obtain⟨y,hy,h2⟩:=bl h2
    grind [GP]
   ·refine .inr ⟨t,want,hg,.inl ?_,h2⟩;cases b<;>cases want<;>simp_all
  ·grind
  grind
def rn{C:eK}{o:cT}{r:List cT}{br:Env}{M:aG}{y:ag×aG}(hg:∀t want,o.guard=some (t,want)->iB br t = .bool want)
  (hy:oq C o br M=some y):fR C (o::r) br M=BU o.lets y (fR C r (pD br o.dst y.1) y.2):=by
 rw[fR];split
 ·rw[hy]; rfl
 simp_all
theorem vZ{C:eK}{o:cT}{r:List cT}{br:Env}{M:aG}{t:Nat}{want:Bool}(hg:o.guard=some (t,want))
  (hb:iB br t = .bool (!want)\/iB br t = .tuple []):fR C (o::r) br M=fR C r (pD br o.dst (.tuple [])) M:=by
 rw[fR];simp[hg];rcases hb with hb|hb
 ·rw[hb]; cases want<;>simp
 grind
theorem sF{C C':eK}(hC:vI C C'):∀ {ops:List cT} {br:Env} {M:aG} {x:Out},fR C ops br M=some x->fR C' ops br M=some x
 | [],_,_,_,h=>h
 |o::r,br,M,x,h=>by
  rcases po h with ⟨y,h1,h2,h3⟩|⟨t,want,h1,h2,h3⟩
  ·rw[rn h1 (CJ hC h2)];rcases h3 with ⟨h3,h4⟩|⟨v,h0,h3,rfl⟩
   ·rw[GQ h3]; exact sF hC h4
   grind [GR]
  ·rw[vZ h1 h2]; exact sF hC h3
theorem tG{o:Out}{k:Env->aG->Option Out}{x:Out}(h:uL o k=some x):(o.e = .normal/\k o.br o.mem=some x)\/(o.e ≠ .normal/\x=o):=by
 grind [uL]
theorem uw{o:Out}{k:Env->aG->Option Out}(h:o.e = .normal):uL o k=k o.br o.mem:=by grind [uL]
theorem zH{o:Out}{k:Env->aG->Option Out}(h:o.e ≠ .normal):uL o k=some o:=by
 simp[uL]
theorem vh{o:Out}{k k':Env->aG->Option Out}{x:Out}(hk:∀br M x,k br M=some x->k' br M=some x)(h:uL o k=some x):uL o k'=some x:=by
 grind [tG,uw,zH]
def xN{f g:Env->aG->Option Out}(hfg:∀br M x,f br M=some x->g br M=some x)(live:List Nat):∀n {br M x},iter f live n br M=some x->iter g live n br M=some x
 |0,_,_,_,h=>h
 |n+1,br,M,x,h=>by
  rw[iter] at *;obtain⟨a,ha,h⟩:=bl h;rw[hfg _ _ _ ha];exact vh (fun br M x h=>xN hfg _ n h) h
def vR{f:Env->aG->Option Out}(live:List Nat):∀n {br M x},iter f live n br M=some x->iter f live (n+1) br M=some x
 |0,_,_,_,h=>by cases h
 |n+1,br,M,x,h=>by
  rw[iter] at h ⊢;obtain⟨a,ha,h⟩:=bl h;rw[ha];exact vh (fun br M x h=>vR _ n h) h
theorem jG{C C':eK}(hC:vI C C'):∀(c:cB){br:Env}{M:aG}{x:Out},eW C c br M=some x->eW C' c br M=some x
 | .skip,_,_,_,h=>h
 | .exit _,_,_,_,h=>h
 | .ret,_,_,_,h=>h
 | .region _ d _,br,M,x,h=>by
  simp[eW] at *;obtain⟨a,ha,h⟩:=bl h;rw[sF hC ha]; grind
 | .seq a b,br,M,x,h=>by
  simp[eW] at *;obtain⟨o,ho,h⟩:=bl h;rw[jG hC a ho];exact vh (fun br M x=>jG hC b) h
 | .cond c a b,br,M,x,h=>by
  simp[eW] at *;split
  ·rename_i t ht;simp[ht] at h;rcases jR h with ⟨rfl,h⟩|⟨rfl,h⟩
   ·exact jG hC a h
   ·exact jG hC b h
  grind
 | .block id c,br,M,x,h=>by
  simp[eW] at *;obtain⟨o,ho,h⟩:=bl h;rw[jG hC c ho]; grind
 | .loop _ c,br,M,x,h=>by
  obtain⟨n,hn⟩:=vS h;exact o9 (fun n x=>vR _ n) (xN (fun br M x=>jG hC c) _ n hn)
theorem rj(T:zg):∀n,vI (jz T n) (jz T (n+1))
 |0,f,a,M,x,h=>by
  grind [jz]
 |n+1,f,a,M,x,h=>by
  rw[jz] at h ⊢;split
  ·grind
  ·rename_i hg;simp[hg] at h;split
   ·grind
   ·rename_i fn hf;simp only[hf] at h;split
    ·rename_i hl;rw[bc hl] at h;obtain⟨o,ho,h⟩:=bl h;rw[jG (rj T n) _ ho]
     grind
    grind
def te(T:zg){n m:Nat}(h:n<=m):vI (jz T n) (jz T m):=by
 obtain⟨k,rfl⟩:=Nat.exists_eq_add_of_le h;induction k with
 |zero=>exact fun _ _ _ _ h=>h
 |succ k ih=>exact fun f a M x hx=>rj T _ f a M x (ih (by simp) f a M x hx)
theorem J8(T:zg){br:Env}{M:aG}{o:cT}{x:ag×aG}(h:oq (ar T) o br M=some x):∃n,oq (jz T n) o br M=some x:=by
 have key:∀y,ef (ar T) br M o.op=some y->∃n,ef (jz T n) br M o.op=some y:=by
  intro y hy;rcases LB hy with h|⟨f,a,B,z,h1,h2⟩
  ·simp_all
  ·obtain⟨n,hn⟩:=vS h1
   grind
 rcases rp h with ⟨hn,hi,h1⟩|⟨hn,hg,h1⟩|⟨hn,hg,hp,h1⟩<;>obtain⟨n,h2⟩:=key _ h1
 ·grind [oq]
 ·grind [oq]
 grind [oq]
def vK(T:zg):∀ {ops:List cT} {br:Env} {M:aG} {x:Out},fR (ar T) ops br M=some x->∃n,fR (jz T n) ops br M=some x
 | [],_,_,_,h=>⟨0,h⟩
 |o::r,br,M,x,h=>by
  rcases po h with ⟨y,h1,h2,h3⟩|⟨t,want,h1,h2,h3⟩
  ·obtain⟨n,hn⟩:=J8 T h2;rcases h3 with ⟨h3,h4⟩|⟨v,h0,h3,rfl⟩
   ·obtain⟨m,hm⟩:=vK T h4;refine⟨max n m,?_⟩;rw[rn h1 (CJ (te T (Nat.le_max_left n m)) hn),GQ h3];exact sF (te T (Nat.le_max_right n m)) hm
   ·exact⟨n,by rw[rn h1 hn]; exact GR h0 h3⟩
  ·obtain⟨m,hm⟩:=vK T h3;exact⟨m,by rw[vZ h1 h2]; exact hm⟩
def pN(T:zg):∀(c:cB){br:Env}{M:aG}{x:Out},eW (ar T) c br M=some x->∃n,eW (jz T n) c br M=some x
 | .skip,_,_,_,h=>⟨0,h⟩
 | .exit _,_,_,_,h=>⟨0,h⟩
 | .ret,_,_,_,h=>⟨0,h⟩
 | .region ops d live,br,M,x,h=>by
  simp only[eW] at *;obtain⟨a,ha,h⟩:=bl h;obtain⟨n,hn⟩:=vK T ha;exact⟨n,by rw[hn]; exact h⟩
 | .seq a b,br,M,x,h=>by
  simp only[eW] at *;obtain⟨o,ho,h⟩:=bl h;obtain⟨n,hn⟩:=pN T a ho;rcases tG h with ⟨h1,h2⟩|⟨h1,h2⟩
  ·obtain⟨m,hm⟩:=pN T b h2;refine⟨max n m,?_⟩;rw[jG (te T (Nat.le_max_left n m)) a hn,bV,uw h1];exact jG (te T (Nat.le_max_right n m)) b hm
  ·exact⟨n,by rw[hn,bV,zH h1,h2]⟩
 | .cond c a b,br,M,x,h=>by
  simp only[eW] at *;split at h
  ·rename_i t ht;rcases jR h with ⟨rfl,h⟩|⟨rfl,h⟩
   ·obtain⟨n,hn⟩:=pN T a h; exact⟨n,hn⟩
   ·obtain⟨n,hn⟩:=pN T b h; exact⟨n,hn⟩
  ·cases h
 | .block id c,br,M,x,h=>by
  simp only[eW] at *;obtain⟨o,ho,h⟩:=bl h;obtain⟨n,hn⟩:=pN T c ho;exact⟨n,by rw[hn]; exact h⟩
 | .loop live c,br,M,x,h=>by
  simp only[eW] at *;obtain⟨k,hk⟩:=vS h
  have:∀k br M,iter (eW (ar T) c) live k br M=some x->∃n,iter (eW (jz T n) c) live k br M=some x:=by
   intro k;induction k with
   |zero=>intro br M h; cases h
   |succ k ih =>
    intro br M h;rw[iter] at h;obtain⟨a,ha,h⟩:=bl h;obtain⟨n,hn⟩:=pN T c ha;rcases tG h with ⟨h1,h2⟩|⟨h1,h2⟩
    ·obtain⟨m,hm⟩:=ih _ _ h2;refine⟨max n m,?_⟩;rw[iter,jG (te T (Nat.le_max_left n m)) c hn,bV,uw h1];exact xN (fun br M x=>jG (te T (Nat.le_max_right n m)) c) live k hm
    ·exact⟨n,by rw[iter,hn,bV,zH h1,h2]⟩
  obtain⟨n,hn⟩:=this k br M hk;exact⟨n,o9 (fun n x=>vR live n) hn⟩
def J4(C:eK)(live:List Nat)(c:cB)(br:Env)(M:aG) :
  eW C (.loop live c) br M=bH (eW C c (lQ br live) M) fun o=>uL o fun e m=>eW C (.loop live c) (zq M.length m (lQ e live)) (lK M.length m):=by
 apply Option.ext;intro x;constructor
 ·intro h;obtain⟨n,hn⟩:=vS (show lim (fun n=>iter (eW C c) live n br M)=some x from h)
  cases n with
  |zero=>cases hn
  |succ n =>
   rw[iter] at hn;obtain⟨o,ho,hn⟩:=bl hn;rw[ho,bV];exact vh (fun br M x hx=>o9 (fun n x=>vR live n) hx) hn
 ·intro h;obtain⟨o,ho,h⟩:=bl h;rcases tG h with ⟨h1,h2⟩|⟨h1,h2⟩
  ·obtain⟨n,hn⟩:=vS (show lim (fun n=>iter (eW C c) live n (zq M.length o.mem (lQ o.br live)) (lK M.length o.mem))=some x from h2)
   refine o9 (F:=fun n=>iter (eW C c) live n br M) (n:=n+1) (fun n x=>vR live n) ?_
   show iter (eW C c) live (n+1) br M=some x
   rw[iter,ho,bV,uw h1];exact hn
  ·refine o9 (F:=fun n=>iter (eW C c) live n br M) (n:=1) (fun n x=>vR live n) ?_
   show iter (eW C c) live 1 br M=some x
   rw[iter,ho,bV,zH h1,h2]
def J2{T:zg}{f:Nat}{fn:ei}{args:List ag}{M:aG}{x:ag×aG}(hp:T.nc f=none)(hc:T.code f=some fn)(hl:args.length=fn.nparams)
  (h:bH (eW (ar T) fn.body (fe 0 args) M) (finish fn.results M.length)=some x):ar T f args M=some x:=by
 obtain⟨o,hb,hf⟩:=bl h;obtain⟨n,hn⟩:=pN T fn.body hb;refine o9 (n:=n+1) (fun n x h=>rj T n f args M x h) ?_
 rw[jz];simp only[hp,hc,bc hl,hn,bV];exact hf
def eY{T:zg}{f:Nat}{g:List ag->aG->Option (ag×aG)}{args:List ag}{M:aG}{x:ag×aG}(hp:T.nc f=some g)(hg:g args M=some x):ar T f args M=some x:=by
 refine o9 (n:=0) (fun n x h=>rj T n f args M x h) ?_
 rw[jz];simp only[hp,hg]
inductive K where
 |seq (c:cB)
 |block (id:Nat)
 |loop (live:List Nat) (n:Nat) (c:cB)
noncomputable def kr(C:eK)(fn:List sv)(bL:Nat):List K->Out->Option (ag×aG)
 | [],o=>finish fn bL o
 | .seq c::k,o=>bH (uL o (eW C c)) (kr C fn bL k)
 | .block id::k,o=>kr C fn bL k (wm id o)
 | .loop live n c::k,o=>bH (uL o fun e m=>eW C (.loop live c) (zq n m (lQ e live)) (lK n m)) (kr C fn bL k)
noncomputable def eV(C:eK)(fn:List sv)(bL:Nat)(k:List K)(c:cB)(br:Env)(M:aG):Option (ag×aG):=bH (eW C c br M) (kr C fn bL k)
noncomputable def fZ(C:eK)(fn:List sv)(bL:Nat)(k:List K)(live:List Nat)(ops:List cT)(br:Env)(M:aG):Option (ag×aG) :=
 bH (fR C ops br M) fun o=>kr C fn bL k (o.ov live)
noncomputable def je(C:eK)(fn:List sv)(bL:Nat)(k:List K)(live:List Nat)(c:Bool)(dst:Option Nat)(r:List cT)(br:Env)(y:Option (ag×aG)):Option (ag×aG) :=
 bH y fun x=>bH (BU c x (fR C r (pD br dst x.1) x.2)) fun o=>kr C fn bL k (o.ov live)
noncomputable def gK(C:eK)(fn:List sv)(bL:Nat)(k:List K)(live:List Nat)(g:ag)(want:Bool)(o:cT)(r:List cT)(br:Env)(M:aG):Option (ag×aG) :=
 match g with
 | .bool b=>yX (b==want) (je C fn bL k live o.lets o.dst r br (oq C o br M)) (fZ C fn bL k live r (pD br o.dst (.tuple [])) M)
 | .tuple []=>fZ C fn bL k live r (pD br o.dst (.tuple [])) M
 |_=>none
noncomputable def eo(C:eK)(fn:List sv)(bL:Nat)(k:List K)(v:ag)(x y:cB)(br:Env)(M:aG):Option (ag×aG) :=
 match v with
 | .bool t=>yX t (eV C fn bL k x br M) (eV C fn bL k y br M)
 |_=>none
def pZ{α β γ:Type}(x:Option α)(f:α->Option β)(g:β->Option γ):bH (bH x f) g=bH x fun a=>bH (f a) g:=by cases x<;>rfl
section
variable (C:eK) (fn:List sv) (bL:Nat) (k:List K) (br:Env) (M:aG)
def Qz:eV C fn bL k .skip br M=kr C fn bL k ⟨.normal,br,M⟩:=rfl
def Qy(id:Nat):eV C fn bL k (.exit id) br M=kr C fn bL k ⟨.exit id,br,M⟩:=rfl
def Xm:eV C fn bL k .ret br M=kr C fn bL k ⟨.ret,br,M⟩:=rfl
def Xn(a b:cB):eV C fn bL k (.seq a b) br M=eV C fn bL (.seq b::k) a br M:=by
 unfold eV;rw[eW,pZ];rfl
def N0(id:Nat)(c:cB):eV C fn bL k (.block id c) br M=eV C fn bL (.block id::k) c br M:=by
 unfold eV;rw[eW,pZ];rfl
def Qx(c:gV)(x y:cB):eV C fn bL k (.cond c x y) br M=eo C fn bL k (c.ev br) x y br M:=by
 unfold eV eo;rw[eW];cases c.ev br<;>simp[eV]
def KH(ops:List cT)(d:Bool)(live:List Nat):eV C fn bL k (.region ops d live) br M=fZ C fn bL k live ops br M:=by
 unfold eV fZ;rw[eW,pZ];rfl
def bt(live:List Nat)(c:cB):eV C fn bL k (.loop live c) br M=eV C fn bL (.loop live M.length c::k) c (lQ br live) M:=by
 unfold eV;rw[J4,pZ];rfl
def Vd(live:List Nat):fZ C fn bL k live [] br M=kr C fn bL k ⟨.normal,lQ br live,M⟩:=rfl
def OW(live:List Nat)(d:Option Nat)(op:kg)(g m:Bool)(s:List Nat)(st:Bool)(r:List cT) :
  fZ C fn bL k live (⟨d,op,none,g,m,s,st⟩::r) br M=je C fn bL k live (cT.lets ⟨d,op,none,g,m,s,st⟩) d r br (oq C ⟨d,op,none,g,m,s,st⟩ br M):=by
 unfold fZ je;rw[fR,pZ]
def OX(live:List Nat)(d:Option Nat)(op:kg)(t:Nat)(w g m:Bool)(s:List Nat)(st:Bool)(r:List cT) :
  fZ C fn bL k live (⟨d,op,some (t,w),g,m,s,st⟩::r) br M=gK C fn bL k live (iB br t) w ⟨d,op,some (t,w),g,m,s,st⟩ r br M:=by
 unfold fZ gK;rw[fR];simp only;generalize iB br t=v;split
 ·rw[OH,pZ]; rfl
 ·rfl
 ·rename_i h1 h2
  first
   |rfl
   |(split
     ·rename_i b; exact absurd rfl (h1 b)
     ·exact absurd rfl h2
     ·rfl)
def UQ(live:List Nat)(c:Bool)(d:Option Nat)(r:List cT)(v:ag)(M':aG)(hv:v.jx=false):je C fn bL k live c d r br (some (v,M'))=fZ C fn bL k live r (pD br d v) M':=by
 unfold je;rw[bV,GQ hv]; rfl
def Zx(live:List Nat)(d:Option Nat)(r:List cT)(v:Value)(M':aG):je C fn bL k live true d r br (some (.mQ v,M'))=kr C fn bL k ⟨.mQ v,[],M'⟩:=rfl
def Ov(d g f:_)(a m s1 s:_):cT.lets ⟨d,.call f a,g,m,s1,s,true⟩=true:=rfl
def K3(d g f:_)(a m s1 s:_):cT.lets ⟨d,.wa f a,g,m,s1,s,true⟩=true:=rfl
def K1(d g f:_)(a m s1 s:_):cT.lets ⟨d,.Bx f a,g,m,s1,s,true⟩=true:=rfl
def K2(d g f:_)(a m s1 s:_):cT.lets ⟨d,.kB f a,g,m,s1,s,true⟩=true:=rfl
def K4(d g f:_)(m s1 s:_):cT.lets ⟨d,.raise f,g,m,s1,s,true⟩=true:=rfl
def akN(live:List Nat)(o:cT)(r:List cT):gK C fn bL k live (.bool true) true o r br M=je C fn bL k live o.lets o.dst r br (oq C o br M):=rfl
def akK(live:List Nat)(o:cT)(r:List cT):gK C fn bL k live (.bool false) false o r br M=je C fn bL k live o.lets o.dst r br (oq C o br M):=rfl
def akM(live:List Nat)(o:cT)(r:List cT):gK C fn bL k live (.bool true) false o r br M=fZ C fn bL k live r (pD br o.dst (.tuple [])) M:=rfl
def akL(live:List Nat)(o:cT)(r:List cT):gK C fn bL k live (.bool false) true o r br M=fZ C fn bL k live r (pD br o.dst (.tuple [])) M:=rfl
def akO(live:List Nat)(w:Bool)(o:cT)(r:List cT):gK C fn bL k live (.tuple []) w o r br M=fZ C fn bL k live r (pD br o.dst (.tuple [])) M:=rfl
def Xy(x y:cB):eo C fn bL k (.bool true) x y br M=eV C fn bL k x br M:=rfl
def Xx(x y:cB):eo C fn bL k (.bool false) x y br M=eV C fn bL k y br M:=rfl
def afh(c:cB):kr C fn bL (.seq c::k) ⟨.normal,br,M⟩=eV C fn bL k c br M:=rfl
def Iu(c:cB)(i:Nat):kr C fn bL (.seq c::k) ⟨.exit i,br,M⟩=kr C fn bL k ⟨.exit i,br,M⟩:=rfl
def KV(c:cB):kr C fn bL (.seq c::k) ⟨.ret,br,M⟩=kr C fn bL k ⟨.ret,br,M⟩:=rfl
def KU(c:cB)(v:Value):kr C fn bL (.seq c::k) ⟨.mQ v,br,M⟩=kr C fn bL k ⟨.mQ v,br,M⟩:=rfl
def GB(id:Nat)(v:Value):kr C fn bL (.block id::k) ⟨.mQ v,br,M⟩=kr C fn bL k ⟨.mQ v,br,M⟩:=rfl
def Ir(live:List Nat)(n:Nat)(c:cB)(v:Value):kr C fn bL (.loop live n c::k) ⟨.mQ v,br,M⟩=kr C fn bL k ⟨.mQ v,br,M⟩:=rfl
def T7(id:Nat):kr C fn bL (.block id::k) ⟨.normal,br,M⟩=kr C fn bL k ⟨.normal,br,M⟩:=rfl
def Eo(id i:Nat):kr C fn bL (.block id::k) ⟨.exit i,br,M⟩=if i=id then kr C fn bL k ⟨.normal,br,M⟩ else kr C fn bL k ⟨.exit i,br,M⟩:=by
 rw[kr]; simp only[wm]; split<;>rfl
def GC(id:Nat):kr C fn bL (.block id::k) ⟨.ret,br,M⟩=kr C fn bL k ⟨.ret,br,M⟩:=rfl
def XL(live:List Nat)(n:Nat)(c:cB):kr C fn bL (.loop live n c::k) ⟨.normal,br,M⟩=eV C fn bL k (.loop live c) (zq n M (lQ br live)) (lK n M):=rfl
def GD(live:List Nat)(n:Nat)(c:cB)(i:Nat):kr C fn bL (.loop live n c::k) ⟨.exit i,br,M⟩=kr C fn bL k ⟨.exit i,br,M⟩:=rfl
def It(live:List Nat)(n:Nat)(c:cB):kr C fn bL (.loop live n c::k) ⟨.ret,br,M⟩=kr C fn bL k ⟨.ret,br,M⟩:=rfl
def afg(o:Out):kr C fn bL [] o=finish fn bL o:=rfl
end
def kC{q body:cB}(h:q=body)(C:eK)(fn:List sv)(bL:Nat)(k:List K)(br:Env)(M:aG):eV C fn bL k q br M=eV C fn bL k body br M:=by rw[h]
def az{T:zg}{f:Nat}{fn:ei}{args:List ag}{M:aG}{x:ag×aG}(h:eV (ar T) fn.results M.length [] fn.body (fe 0 args) M=some x)
  (hp:T.nc f=none:=by exact rfl) (hc:T.code f=some fn:=by exact rfl) (hl:args.length=fn.nparams:=by exact rfl):ar T f args M=some x :=
 J2 hp hc hl (by
  unfold eV at h;obtain⟨o,h1,h2⟩:=bl h;rw[h1]; exact h2)
end
section
open Go Go.RowKit
def bs(s:List UInt8):ByteArray:=⟨s.toArray⟩
structure J where
 f:Nat->Option Nat
 X:Nat->Nat->Prop
instance:CoeFun J (fun _=>Nat->Option Nat):=⟨J.f⟩
structure ny(j:J)(M:aG)(w:World)(b off:Nat):Prop where
 lt:b<w.heap.size
 ids:∀id,id<M.length->j id=some b->∃sz n,M[id]?=some (.tick sz n)/\off<n*sz
 nx:¬j.X b off
inductive fM(w:World)(ib:Nat->Nat->Prop):ag->Value->Prop where
 |bool (b:Bool):fM w ib (.bool b) (.bool b)
 |int (k:IntKind) (n:Int):fM w ib (.int k n) (.int k n)
 |str (s:List UInt8):fM w ib (.str s) (.string (bs s))
 |raw (v:Value) (h1:v.oneCell'=true):fM w ib (.raw v) v
 |slice (xs:List ag) (A:Option Addr) (len cap b off sz:Nat) (vs:Nat->Value) (hl:len=xs.length) (hc:len<=cap)
   (ha:xs≠[]->A=some ⟨b,off,none⟩) (hz:∀x,x∈xs->x.cells.length=sz)
   (hs:∀(i:Nat)(x:ag)(k:Nat)(c:ag),xs[i]?=some x->x.cells[k]?=some c->w.cell? ⟨b,off+(i*sz+k),none⟩=some (vs (i*sz+k))/\ib b (off+(i*sz+k)))
   (hr:∀(i:Nat)(x:ag)(k:Nat)(c:ag),xs[i]?=some x->x.cells[k]?=some c->fM w ib c (vs (i*sz+k))):fM w ib (.slice .sh xs) (.slice A len cap)
def PV(j:J)(w:World)(k n t:Nat)(x:Bool)(v:Value):Prop :=
 (j k=none/\n=0/\∃A,v = .slice A 0 0/\(x=true->A=none)) \/
 ∃b cap vs,0<n/\j k=some b/\v = .slice (some ⟨b,0,none⟩) n cap/\w.heap[b]?=some (.cells vs t (0,0))/\cap<=vs.size/\n<=cap
def Hk(j:J)(w:World)(k sz n:Nat)(v:Value):Prop :=
 (j k=none/\n=0/\∃A,v = .slice A 0 0) \/
 ∃b cap vs t,j k=some b/\v = .slice (some ⟨b,0,none⟩) n cap/\w.heap[b]?=some (.cells vs t (0,0))/\cap*sz<=vs.size/\n<=cap
def B7(w:World)(ib:Nat->Nat->Prop)(x:ag)(v:Value):Prop :=
 match x with
 | .agg cs=>∃us:Array Value,v = .agg us/\cs.length=us.size/\∀(i:Nat)(c:ag)(u:Value),cs[i]?=some c->us[i]?=some u->fM w ib c u
 |x=>fM w ib x v
inductive gj(j:J)(M:aG)(w:World):ag->Value->Prop where
 |plain {x:ag} {v:Value} (h:fM w (ny j M w) x v):gj j M w x v
 |c0 (A:Option Addr):gj j M w (.slice .c0 []) (.slice A 0 0)
 |own {k:Nat} {xs:List ag} {v:Value} {sz n:Nat} (hk:M[k]?=some (.tick sz n)) (hn:xs.length<=n) (h:fM w (ny j M w) (.slice .sh xs) v)
   (ht:xs.length=n->Hk j w k sz n v):gj j M w (.slice (.own k) xs) v
 |agg {cs:List ag} {vs:Array Value} (hl:cs.length=vs.size) (h:∀(i:Nat)(c:ag)(v:Value),cs[i]?=some c->vs[i]?=some v->gj j M w c v):gj j M w (.agg cs) (.agg vs)
 |tuple {cs:List ag} {vs:Array Value} (hl:cs.length=vs.size) (h:∀(i:Nat)(c:ag)(v:Value),cs[i]?=some c->vs[i]?=some v->gj j M w c v):gj j M w (.tuple cs) (.tuple vs)
 |ptr {id off b:Nat} (hid:id<M.length) (hc:∃cs,M[id]?=some (.cells cs)) (hj:j id=some b):gj j M w (.ptr id off) (.pointer (some ⟨b,off,none⟩))
 |iQ {cs:List ag} {b off:Nat} {vs:Nat->Value} (h:∀(k:Nat)(c:ag),cs[k]?=some c->w.cell? ⟨b,off+k,none⟩=some (vs k)/\ny j M w b (off+k)/\fM w (ny j M w) c (vs k)) :
   gj j M w (.iQ cs) (.pointer (some ⟨b,off,none⟩))
 |func {f:Nat} {caps:List ag} {vs:Array Value} (hl:caps.length=vs.size) (h:∀(i:Nat)(c:ag)(v:Value),caps[i]?=some c->vs[i]?=some v->gj j M w c v) :
   gj j M w (.func f caps) (.func (.func f) #[] vs)
 |ia {id b:Nat} (hc:∃ks vs,M[id]?=some (.map ks vs)) (hj:j id=some b):gj j M w (.ia id) (.map (some b))
 |jn {id b:Nat} (hc:∃s p,M[id]?=some (.mC s p)) (hj:j id=some b):gj j M w (.jn id) (.pointer (some ⟨b,0,none⟩))
 |jA {ks vs:List ag} {b:Nat} {es:Array MapEntry} {clock:Nat} (hb:b<w.heap.size) (hf:∀i,i<M.length->j i≠some b) (hx:∀off,¬j.X b off) (hw:w.heap[b]?=some (.map es clock)) (hk:ks.length=es.size) (hv:vs.length=es.size)
   (hks:∀(i:Nat)(k:ag)(e:MapEntry),ks[i]?=some k->es[i]?=some e->fM w (ny j M w) k e.key) (hvs:∀(i:Nat)(v:ag)(e:MapEntry),vs[i]?=some v->es[i]?=some e->B7 w (ny j M w) v e.val) :
   gj j M w (.jA ks vs) (.map (some b))
 |cS {id ver sz lo hi:Nat} {v:Value} (h0:(∃b off c,v = .slice (some ⟨b,off,none⟩) (hi-lo) c/\hi-lo<=c)\/hi-lo=0/\∃A,v = .slice A 0 0) (hid:id<M.length) (hM:∀bx,M[id]?=some bx->bx.loose=true)
   (hv:∀sz' v' xs,M[id]?=some (.arr sz' v' xs)->ver<=v'/\(v'=ver->sz'=sz/\lo<=hi/\hi<=xs.length/\((xs=[]/\j id=none/\∃A,v = .slice A 0 0)\/∃b cap vs t,j id=some b/\v = .slice (some ⟨b,lo*sz,none⟩) (hi-lo) cap/\hi-lo<=cap/\w.heap[b]?=some (.cells vs t (0,0))/\(lo+cap)*sz<=vs.size))) :
   gj j M w (.cS id ver sz lo hi) v
 |iJ {id ver i off:Nat} {v:Value} (h0:∃b o,v = .pointer (some ⟨b,o,none⟩)) (hid:id<M.length) (hM:∀bx,M[id]?=some bx->bx.loose=true)
   (hv:∀sz v' xs,M[id]?=some (.arr sz v' xs)->ver<=v'/\(v'=ver->i<xs.length/\∃b,j id=some b/\v = .pointer (some ⟨b,i*sz+off,none⟩))) :
   gj j M w (.iJ id ver i off) v
 |pR {f:Nat} {fs:List ag} {vs:Array Value} (hl:fs.length=vs.size) (h:∀(i:Nat)(c:ag)(v:Value),fs[i]?=some c->vs[i]?=some v->B7 w (ny j M w) c v):gj j M w (.pR f fs) (.func (.func f) vs #[])
 |jF {t id off b:Nat} (hc:∃cs,M[id]?=some (.cells cs)) (hj:j id=some b):gj j M w (.jF t id off) (.iface t (.pointer (some ⟨b,off,none⟩)))
 |any (v:Value):gj j M w .any v
def RC(j:J)(M:aG)(w:World)(cs:List ag)(vs:Array Value):Prop :=
 cs.length=vs.size/\∀(i:Nat)(c:ag)(v:Value),cs[i]?=some c->vs[i]?=some v->gj j M w c v
def Holds(j:J)(M:aG)(w:World)(b:Nat):dy->Prop
 | .cells cs=>∃vs t,w.heap[b]?=some (.cells vs t (0,0))/\RC j M w cs vs
 | .tick _ _=>True
 | .map ks vs=>∃es clock,w.heap[b]?=some (.map es clock)/\ks.length=es.size/\vs.length=es.size/\(∀(i:Nat)(k:ag)(e:MapEntry),ks[i]?=some k->es[i]?=some e->fM w (ny j M w) k e.key) /\
   ∀(i:Nat)(v:ag)(e:MapEntry),vs[i]?=some v->es[i]?=some e->gj j M w v e.val
 | .mC s pos=>w.heap[b]?=some (.stringIter (bs s) pos)
 | .arr _ _ _=>True
 | .vF=>True
structure Rel(j:J)(M:aG)(w:World):Prop where
 inj:∀i i' b,i<M.length->i'<M.length->j i=some b->j i'=some b->i=i'
 lt:∀i b,i<M.length->j i=some b->b<w.heap.size
 fix:∀i bx,M[i]?=some bx->bx.fixed=true->∃b,j i=some b/\Holds j M w b bx
 tick:∀i sz n b,M[i]?=some (.tick sz n)->j i=some b->∃vs t,w.heap[b]?=some (.cells vs t (0,0))
 arr:∀i sz ver xs,M[i]?=some (.arr sz ver xs)->(xs=[]/\j i=none)\/∃b vs t,j i=some b/\w.heap[b]?=some (.cells vs t (0,0))/\xs.length*sz<=vs.size/\(∀x,x∈xs->x.cells.length=sz) /\
  ∀(q:Nat)(x:ag)(k:Nat)(c:ag),xs[q]?=some x->x.cells[k]?=some c->∃v,vs[q*sz+k]?=some v/\fM w (ny j M w) c v
 uS:∀i b,i<M.length->j i=some b->∀off,¬j.X b off
 Aq:∀b off,j.X b off->b<w.heap.size
def Rel.box{j:J}{M:aG}{w:World}(h:Rel j M w)(i:Nat)(cs:List ag)(hi:M[i]?=some (.cells cs)):∃b vs t,j i=some b/\w.heap[b]?=some (.cells vs t (0,0))/\cs.length=vs.size /\
  ∀(q:Nat)(c:ag)(v:Value),cs[q]?=some c->vs[q]?=some v->gj j M w c v:=by
 obtain⟨b,h1,vs,t,h2,h3⟩:=h.fix i _ hi rfl;exact⟨b,vs,t,h1,h2,h3.1,h3.2⟩
structure Ext(j:J)(M:aG)(w:World)(j':J)(M':aG)(w':World):Prop where
 len:M.length<=M'.length
 size:w.heap.size<=w'.heap.size
 os:w'.os=w.os
 tape:w'.tape=w.tape
 output:w'.output=w.output
 X:j'.X=j.X
 fix:∀i bx,M[i]?=some bx->bx.fixed=true->j' i=j i/\∃bx',M'[i]?=some bx'/\bx'.tag=bx.tag
 tick:∀i sz n,M[i]?=some (.tick sz n)->∃n',n<=n'/\M'[i]?=some (.tick sz n') /\
  (n'=n->j' i=j i/\∀b vs t,j i=some b->w.heap[b]?=some (.cells vs t (0,0))->∃vs',w'.heap[b]?=some (.cells vs' t (0,0))/\vs'.size=vs.size)
 arr:∀i sz ver xs,M[i]?=some (.arr sz ver xs)->(∃n',M'[i]?=some (.tick sz n'))\/∃ver' xs',M'[i]?=some (.arr sz ver' xs')/\ver<=ver' /\
  (ver'=ver->j' i=j i/\xs'.length=xs.length/\∀b vs t,j i=some b->w.heap[b]?=some (.cells vs t (0,0))->∃vs',w'.heap[b]?=some (.cells vs' t (0,0))/\vs'.size=vs.size)
 tags:∀(b:Nat)(vs:Array Value)(t:TypeId)(fr:Nat×Nat),w.heap[b]?=some (.cells vs t fr)->∃vs' fr',w'.heap[b]?=some (.cells vs' t fr')/\vs'.size=vs.size
 ib:∀b off,ny j M w b off->ny j' M' w' b off/\w'.cell? ⟨b,off,none⟩=w.cell? ⟨b,off,none⟩
 tL:∀b,b<w.heap.size->(∀i,i<M.length->j i≠some b)->w'.heap[b]?=w.heap[b]?/\∀i,i<M'.length->j' i≠some b
def Bn{a b:dy}(h:b.tag=a.tag)(ha:a.fixed=true):b.fixed=true:=by
 cases a<;>cases b<;>simp[dy.tag,dy.fixed] at * <;> omega
def FO{b:dy}(h:b.tag=0):∃cs,b = .cells cs:=by cases b<;>simp[dy.tag] at h; simp
def Z5{b:dy}(h:b.tag=1):∃ks vs,b = .map ks vs:=by cases b<;>simp[dy.tag] at h; simp
def Pf{b:dy}(h:b.tag=2):∃s p,b = .mC s p:=by cases b<;>simp[dy.tag] at h; simp
theorem fM.mono{w w':World}{ib saf':Nat->Nat->Prop}(h:∀b off,ib b off->saf' b off/\w'.cell? ⟨b,off,none⟩=w.cell? ⟨b,off,none⟩)
  {x:ag} {v:Value} (hr:fM w ib x v):fM w' saf' x v:=by
 induction hr with
 |bool b=>simp[bool]
 |int k n=>exact .int k n
 |str s=>exact .str s
 |raw v h1=>exact .raw v h1
 |slice xs A len cap b off sz vs hl hc ha hz hs _ ih =>
  refine .slice _ A _ _ b _ _ _ hl hc ha hz (fun i x k c hx hk=>?_) ih
  grind
def B7.mono{w w':World}{ib saf':Nat->Nat->Prop}(h:∀b off,ib b off->saf' b off/\w'.cell? ⟨b,off,none⟩=w.cell? ⟨b,off,none⟩)
  {x:ag} {v:Value} (hr:B7 w ib x v):B7 w' saf' x v:=by
 by_cases hag:∃cs,x = .agg cs
 ·obtain⟨cs,rfl⟩:=hag;obtain⟨us,h1,h2,h3⟩:=hr;exact⟨us,h1,h2,fun i c u hc hu=>(h3 i c u hc hu).mono h⟩
 ·cases x<;>first|exact absurd ⟨_,rfl⟩ hag|exact fM.mono h hr
section
variable {j j' j'':J} {M M' M'':aG} {w w' w'':World}
def PV.mono{k n t:Nat}{x:Bool}{v:Value}(h:PV j w k n t x v)(hj:j' k=j k)
  (hb:∀b vs t,j k=some b->w.heap[b]?=some (.cells vs t (0,0))->∃vs',w'.heap[b]?=some (.cells vs' t (0,0))/\vs'.size=vs.size):PV j' w' k n t x v:=by
 rcases h with ⟨h1,h2,h3⟩|⟨b,cap,vs,h0,h1,h2,h3,h4,h5⟩
 ·exact .inl ⟨hj.trans h1,h2,h3⟩
 ·obtain⟨vs',h6,h7⟩:=hb b _ t h1 h3;exact .inr ⟨b,cap,vs',h0,hj.trans h1,h2,h6,by omega,h5⟩
def Hk.mono{k sz n:Nat}{v:Value}(h:Hk j w k sz n v)(hj:j' k=j k)
  (hb:∀b vs t,j k=some b->w.heap[b]?=some (.cells vs t (0,0))->∃vs',w'.heap[b]?=some (.cells vs' t (0,0))/\vs'.size=vs.size):Hk j' w' k sz n v:=by
 rcases h with ⟨h1,h2,h3⟩|⟨b,cap,vs,t,h1,h2,h3,h4,h5⟩
 ·exact .inl ⟨hj.trans h1,h2,h3⟩
 ·obtain⟨vs',h6,h7⟩:=hb b _ t h1 h3;exact .inr ⟨b,cap,vs',t,hj.trans h1,h2,h6,by omega,h5⟩
theorem Ext.loose(hx:Ext j M w j' M' w'){id:Nat}(hid:id<M.length)(hM:∀bx,M[id]?=some bx->bx.loose=true):(∀bx,M'[id]?=some bx->bx.loose=true) /\
  ∀sz v' xs,M'[id]?=some (.arr sz v' xs)->∃v0 xs0,M[id]?=some (.arr sz v0 xs0)/\v0<=v' /\
   (v'=v0->j' id=j id/\xs.length=xs0.length/\∀b vs t,j id=some b->w.heap[b]?=some (.cells vs t (0,0))->∃vs',w'.heap[b]?=some (.cells vs' t (0,0))/\vs'.size=vs.size):=by
 have h0:=ai hid;have hf:=hM _ h0;generalize M[id]=bx at h0 hf;cases bx with
 |cells=>cases hf
 |map=>cases hf
 |mC=>cases hf
 |vF=>cases hf
 |tick sz n =>
  obtain⟨n',h1,h2,h3⟩:=hx.tick _ _ _ h0;refine⟨fun bx hb=>?_,fun sz v' xs h=>?_⟩
  ·rw[h2] at hb; cases hb; rfl
  grind
 |arr sz v xs =>
  rcases hx.arr _ _ _ _ h0 with ⟨n',h2⟩|⟨v1,xs1,h2,h3,h4⟩
  ·refine⟨fun bx hb=>?_,fun sz v' xs h=>?_⟩
   ·rw[h2] at hb; cases hb; rfl
   grind
  ·refine⟨fun bx hb=>?_,fun sz' v' xs' h=>?_⟩
   ·rw[h2] at hb; cases hb; rfl
   grind
theorem gj.mono(hx:Ext j M w j' M' w'){x:ag}{v:Value}(hr:gj j M w x v):gj j' M' w' x v:=by
 induction hr with
 |plain h=>exact .plain (h.mono hx.ib)
 |c0 A=>exact .c0 A
 |own hk hn h ht =>
  obtain⟨n',h1,h2,h3⟩:=hx.tick _ _ _ hk;refine .own h2 (by omega) (h.mono hx.ib) (fun he=>?_)
  have:n'=_:=Nat.le_antisymm (by omega) h1
  obtain⟨h4,h5⟩:=h3 this;subst this;exact(ht he).mono h4 h5
 |agg hl _ ih=>exact .agg hl ih
 |tuple hl _ ih=>exact .tuple hl ih
 |ptr hid hc hj =>
  obtain⟨cs,hc⟩:=hc;obtain⟨h1,bx,h2,h3⟩:=hx.fix _ _ hc rfl;obtain⟨cs',rfl⟩:=FO h3;exact .ptr (bz hid hx.len) ⟨_,h2⟩ (h1.trans hj)
 | @iQ cs b off vs h =>
  refine .iQ (vs:=vs) fun k c hk=>?_
  obtain⟨h1,h2,h3⟩:=h k c hk;obtain⟨h4,h5⟩:=hx.ib _ _ h2;exact⟨h5.trans h1,h4,h3.mono hx.ib⟩
 |func hl _ ih=>exact .func hl ih
 |ia hc hj =>
  obtain⟨ks,vs,hc⟩:=hc;obtain⟨h1,bx,h2,h3⟩:=hx.fix _ _ hc rfl;obtain⟨ks',vs',rfl⟩:=Z5 h3;exact .ia ⟨_,_,h2⟩ (h1.trans hj)
 |jn hc hj =>
  obtain⟨ks,vs,hc⟩:=hc;obtain⟨h1,bx,h2,h3⟩:=hx.fix _ _ hc rfl;obtain⟨ks',vs',rfl⟩:=Pf h3;exact .jn ⟨_,_,h2⟩ (h1.trans hj)
 |jA hb hf hxx hw hk hv hks hvs =>
  obtain⟨h1,h2⟩:=hx.tL _ hb hf;exact .jA (bz hb hx.size) h2 (by rw[hx.X]; omega) (h1.trans hw) hk hv (fun i k e h1 h2=>(hks i k e h1 h2).mono hx.ib) (fun i k e h1 h2=>(hvs i k e h1 h2).mono hx.ib)
 |cS hs hid hM hv =>
  obtain⟨g1,g2⟩:=hx.loose hid hM;refine .cS hs (bz hid hx.len) g1 fun sz v' xs h=>?_
  obtain⟨v0,xs0,h0,h1,h2⟩:=g2 sz v' xs h;obtain⟨h3,h4⟩:=hv sz v0 xs0 h0;refine⟨by omega,fun he=>?_⟩
  obtain⟨h5,h6,h7⟩:=h2 (by omega)
  obtain⟨l0,l1,l2,⟨rfl,l3,l4⟩|⟨b,cap,vs,t,l3,l4,l5,l6,l7⟩⟩:=h4 (by omega)
  ·exact⟨l0,l1,by omega,.inl ⟨cG (by omega),h5.trans l3,l4⟩⟩
  obtain⟨vs',l8,l9⟩:=h7 b vs t l3 l6;exact⟨l0,l1,by omega,.inr ⟨b,cap,vs',t,h5.trans l3,l4,l5,l8,by omega⟩⟩
 |iJ hs hid hM hv =>
  obtain⟨g1,g2⟩:=hx.loose hid hM;refine .iJ hs (bz hid hx.len) g1 fun sz v' xs h=>?_
  grind
 |pR hl h=>exact .pR hl fun i c v hc hv=>(h i c v hc hv).mono hx.ib
 |jF hc hj =>
  obtain⟨cs,hc⟩:=hc;obtain⟨h1,bx,h2,h3⟩:=hx.fix _ _ hc rfl;obtain⟨cs',rfl⟩:=FO h3;exact .jF ⟨_,h2⟩ (h1.trans hj)
 |any v=>exact .any v
def Holds.mono{b:Nat}{bx:dy}(hx:Ext j M w j' M' w')(hb:w'.heap[b]?=w.heap[b]?)(h:Holds j M w b bx):Holds j' M' w' b bx:=by
 cases bx with
 |cells cs =>
  obtain⟨vs,t,h1,h2,h3⟩:=h;exact⟨vs,t,hb.trans h1,h2,fun i c v hc hv=>(h3 i c v hc hv).mono hx⟩
 |tick=>trivial
 |map ks vs =>
  obtain⟨es,clock,h1,h2,h3,h4,h5⟩:=h;exact⟨es,clock,hb.trans h1,h2,h3,fun i k e hk he=>(h4 i k e hk he).mono hx.ib,fun i k e hk he=>(h5 i k e hk he).mono hx⟩
 |mC s pos=>exact hb.trans h
 |arr=>trivial
 |vF=>trivial
theorem Holds.lt{b:Nat}{bx:dy}(h:Holds j M w b bx)(hf:bx.fixed=true):∃o,w.heap[b]?=some o:=by
 cases bx with
 |cells cs=>obtain⟨vs,t,h1,_⟩:=h; grind
 |tick=>cases hf
 |map ks vs=>obtain⟨es,clock,h1,_⟩:=h; grind
 |mC s pos=>exact⟨_,h⟩
 |arr=>cases hf
 |vF=>cases hf
def Ext.refl(j:J)(M:aG)(w:World):Ext j M w j M w where
 len:=aC _
 size:=aC _
 os:=rfl
 tape:=rfl
 output:=rfl
 X:=rfl
 fix:=fun i bx h _=>⟨rfl,bx,h,rfl⟩
 tick:=fun i sz n h=>⟨n,aC _,h,fun _=>⟨rfl,fun b vs t _ h=>⟨vs,h,rfl⟩⟩⟩
 arr:=fun i sz v xs h => .inr ⟨v,xs,h,aC _,fun _=>⟨rfl,rfl,fun b vs t _ h=>⟨vs,h,rfl⟩⟩⟩
 tags:=fun b vs t fr h=>⟨vs,fr,h,rfl⟩
 ib:=fun b off h=>⟨h,rfl⟩
 tL:=fun b hb h=>⟨rfl,h⟩
theorem Ext.trans(h:Ext j M w j' M' w')(k:Ext j' M' w' j'' M'' w''):Ext j M w j'' M'' w'' where
 len:=aW h.len k.len
 size:=aW h.size k.size
 os:=k.os.trans h.os
 tape:=k.tape.trans h.tape
 output:=k.output.trans h.output
 X:=k.X.trans h.X
 fix:=fun i bx hi hf=>by
  obtain⟨h1,bx',h2,h3⟩:=h.fix i bx hi hf;have hf':bx'.fixed=true:=Bn h3 hf;obtain⟨h4,bx'',h5,h6⟩:=k.fix i bx' h2 hf'
  grind
 tick:=fun i sz n hi=>by
  obtain⟨n1,a1,a2,a3⟩:=h.tick i sz n hi;obtain⟨n2,b1,b2,b3⟩:=k.tick i sz n1 a2
  grind
 arr:=fun i sz v xs hi=>by
  rcases h.arr i sz v xs hi with ⟨n1,a1⟩|⟨v1,xs1,a1,a2,a3⟩
  ·obtain⟨n2,_,b2,_⟩:=k.tick i sz n1 a1
   grind
  ·rcases k.arr i sz v1 xs1 a1 with ⟨n2,b1⟩|⟨v2,xs2,b1,b2,b3⟩
   ·grind
   grind
 tags:=fun b vs t fr hb=>by
  obtain⟨vs1,fr1,h1,h2⟩:=h.tags b vs t fr hb;obtain⟨vs2,fr2,h3,h4⟩:=k.tags b vs1 t fr1 h1
  grind
 ib:=fun b off hs=>by
  obtain⟨h1,h2⟩:=h.ib b off hs;obtain⟨h3,h4⟩:=k.ib b off h1
  grind
 tL:=fun b hb hn=>by
  obtain⟨h1,h2⟩:=h.tL b hb hn;obtain⟨h3,h4⟩:=k.tL b (bz hb h.size) h2
  grind
theorem Ext.grow(hsz:w.heap.size<=w'.heap.size)(hos:w'.os=w.os)(ht:w'.tape=w.tape)(ho:w'.output=w.output)
  (hb:∀b,b<w.heap.size->w'.heap[b]?=w.heap[b]?):Ext j M w j M w' where
 len:=aC _
 size:=hsz
 os:=hos
 tape:=ht
 output:=ho
 X:=rfl
 fix:=fun i bx h _=>⟨rfl,bx,h,rfl⟩
 tick:=fun i sz n h=>⟨n,aC _,h,fun _=>⟨rfl,fun b vs t _ hv=>by
  grind⟩⟩
 arr:=fun i sz v xs h => .inr ⟨v,xs,h,aC _,fun _=>⟨rfl,rfl,fun b vs t _ hv=>by
  grind⟩⟩
 tags:=fun b vs t fr h=>by
  grind
 ib:=fun b off h=>⟨⟨bz h.1 hsz,h.2,h.3⟩,World.cell?_of_block (hb b h.1)⟩
 tL:=fun b cz h=>⟨hb b cz,h⟩
theorem Rel.grow(hr:Rel j M w)(hsz:w.heap.size<=w'.heap.size)(hos:w'.os=w.os)(ht:w'.tape=w.tape)(ho:w'.output=w.output)
  (hb:∀b,b<w.heap.size->w'.heap[b]?=w.heap[b]?):Rel j M w' where
 inj:=hr.inj
 lt:=fun i b hi h=>bz (hr.lt i b hi h) hsz
 fix:=fun i bx h hf=>by
  obtain⟨b,h1,h2⟩:=hr.fix i _ h hf;have hi  := (aq.1 h).1;exact⟨b,h1,h2.mono (Ext.grow hsz hos ht ho hb) (hb b (hr.lt i b hi h1))⟩
 tick:=fun i sz n b h hj=>by
  obtain⟨vs,t,h1⟩:=hr.tick i _ n b h hj
  grind
 arr:=fun i sz v xs h=>by
  rcases hr.arr i _ v _ h with he|⟨b,vs,t,h1,h2,h3,h4,h5⟩
  ·exact .inl he
  have hi  := (aq.1 h).1;refine .inr ⟨b,vs,t,h1,(hb b (hr.lt i b hi h1)).trans h2,h3,h4,fun q x k c hx hk=>?_⟩
  obtain⟨u,h6,h7⟩:=h5 q x k c hx hk;exact⟨u,h6,h7.mono (Ext.grow hsz hos ht ho hb).ib⟩
 uS:=hr.uS
 Aq:=fun b off h=>bz (hr.Aq b _ h) hsz
end
class kh where
 g:Nat->Option (List Value)
 q:Nat->Option (Value->Prop):=fun _=>none
 u8:Nat:=0
structure se[kh](j:J)(M:aG)(w:World):Prop where
 g:∀b vs k v,kh.g b=some vs->vs[k]?=some v->ny j M w b k/\w.cell? ⟨b,k,none⟩=some v
 n:∀b vs,kh.g b=some vs->∃us t fr,w.heap[b]?=some (.cells us t fr)/\us.size=vs.length
 q:∀b p,kh.q b=some p->∃v,p v/\ny j M w b 0/\w.cell? ⟨b,0,none⟩=some v
theorem se.ib[kh]{j j':J}{M M':aG}{w:World}(h:se j M w)(hx:∀b off,ny j M w b off->ny j' M' w b off):se j' M' w where
 g:=fun b vs k v hb hk=>⟨hx _ _ (h.g b _ k v hb hk).1,(h.g b _ k v hb hk).2⟩
 n:=h.n
 q:=fun b p hb=>by
  obtain⟨v,h0,h1,h2⟩:=h.q b p hb
  grind
theorem se.mono[kh]{j j':J}{M M':aG}{w w':World}(h:se j M w)(hx:Ext j M w j' M' w'):se j' M' w' where
 g:=fun b vs k v hb hk=>by
  obtain⟨h1,h2⟩:=h.g b _ k v hb hk;obtain⟨h3,h4⟩:=hx.ib _ _ h1
  grind
 n:=fun b vs hb=>by
  obtain⟨us,t,fr,h1,h2⟩:=h.n b _ hb;obtain⟨us',fr',h3,h4⟩:=hx.tags b _ t _ h1
  grind
 q:=fun b p hb=>by
  obtain⟨v,h0,h1,h2⟩:=h.q b p hb;obtain⟨h3,h4⟩:=hx.ib _ _ h1
  grind
variable [kh]
structure cn(j:J)(M:aG)(w:World)(br:Env)(a:Act):Prop where
 at':∀t,gj j M w (iB br t) (a.tmps.getD t undef)
 gl:se j M w
def cn.mono{j j':J}{M M':aG}{w w':World}{br:Env}{a:Act}(h:cn j M w br a)(hx:Ext j M w j' M' w'):cn j' M' w' br a :=
 ⟨fun t=>(h.at' t).mono hx,h.gl.mono hx⟩
def cn.put{j:J}{M:aG}{w:World}{br:Env}{a:Act}{n:Nat}(h:cn j M w br a)(hs:a.tmps.size=n){dst:Option Nat}(hd:∀d,dst=some d->d<n)
  {x:ag} {v:Value} (hv:gj j M w x v):cn j M w (pD br dst x) (a.put dst v):=by
 refine⟨fun t=>?_,h.gl⟩
 cases dst with
 |none=>exact h.at' t
 |some d =>
  simp[pD,iB,Act.put]
  by_cases he:d=t
  ·simp_all
  ·have:=h.at' t;simp_all
theorem yL(br:Env)(live:List Nat)(t:Nat):iB (lQ br live) t=if t∈live then iB br t else .any:=by
 induction live<;>grind [lQ,iB]
def cn.ov{j:J}{M:aG}{w:World}{br:Env}{a:Act}(h:cn j M w br a)(live:List Nat):cn j M w (lQ br live) a:=by
 refine⟨fun t=>?_,h.gl⟩
 rw[yL];split
 ·exact h.at' t
 ·exact .any _
end
section
open Go
def J1:Value->Option ag
 | .bool b=>some (.bool b)
 | .int k n=>some (.int k n)
 | .string s=>some (.str s.data.toList)
 | .slice none 0 0=>some (.slice .c0 [])
 | .pointer none=>some (.raw (.pointer none))
 | .nilFunc=>some (.raw .nilFunc)
 | .nilIface=>some (.raw .nilIface)
 | .map none=>some (.raw (.map none))
 |_=>none
def sy:List Value->Option (List ag)
 | []=>some []
 |v::r=>(J1 v).bind fun x=>(sy r).bind fun l=>some (x::l)
def PX:Value->Option ag
 | .agg vs=>(sy vs.toList).bind fun l=>some (.agg l)
 |v=>J1 v
def aap:Value->Option ag
 | .bool b=>some (.bool b)
 | .int k n=>some (.int k n)
 | .string s=>some (.str s.data.toList)
 | .pointer none=>some (.raw (.pointer none))
 | .nilIface=>some (.raw .nilIface)
 |_=>none
def PW:List Value->Option (List ag)
 | []=>some []
 |v::r=>(aap v).bind fun x=>(PW r).bind fun l=>some (x::l)
variable [kh]
def eE:Operand->Option gV
 | .tmp t=>some (.tmp t)
 | .const v=>(PX v).bind fun x=>some (.ke x)
 | .func f=>some (.ke (.func f []))
 | .global g=>(kh.g g).bind fun vs=>(PW vs).bind fun l=>some (.ke (.iQ l))
def Qa:Operand->Option gV
 | .func f=>some (.ke (.raw (.func (.func f) ⟨[]⟩ ⟨[]⟩)))
 |x=>eE x
def xD(n:Nat):List (Nat×Operand)->Option (List (Nat×Nat×gV))
 | []=>some []
 |(i,x)::r=>(eE x).bind fun y=>(xD n r).bind fun l=>some ((i*n,n,y)::l)
def uY:List Operand->Option (List gV)
 | []=>some []
 |x::r=>(eE x).bind fun y=>(uY r).bind fun l=>some (y::l)
def B9:Option Operand->Option (Option gV)
 |none=>some none
 |some x=>(eE x).bind fun y=>some (some y)
def pS(P:Program)(t:TypeId):Option Nat:=(P.info? t).bind fun i=>some i.size
def B8(P:Program)(t:TypeId):Option Bool:=(P.underlying t).bind fun d=>some (match d with | .struct _ | .array _ _=>true|_=>false)
def AG(P:Program)(fs:Array Field):List (Nat×Operand)->Option (List (Nat×Nat×gV))
 | []=>some []
 |(i,x)::r=>(fs[i]?).bind fun f=>(pS P f.type).bind fun n=>(eE x).bind fun y=>(AG P fs r).bind fun l=>some ((f.offset,n,y)::l)
def Hz:Nat->List (Nat×Operand)->Option (List gV)
 |_,[]=>some []
 |k,(i,x)::r=>if i=k then (eE x).bind fun y=>(Hz (k+1) r).bind fun l=>some (y::l) else none
def QG (P:Program) (f:Field):Option FK:=if f.name = "_" then none else match P.underlying f.type with
 |some .bool=>some .b
 |some (.int _)=>some .i
 |some .string=>some .s
 |_=>none
def BD(P:Program):Nat->List Field->Option (List FK)
 |_,[]=>some []
 |k,f::r=>if f.offset=k then (QG P f).bind fun x=>(BD P (k+1) r).bind fun l=>some (x::l) else none
def Du(P:Program)(t:TypeId):Option FK:=match P.underlying t with
 |some .bool=>some .b
 |some (.int _)=>some .i
 |some .string=>some .s
 |_=>none
def NB:BinOp->Option Nc
 | .and=>some .and | .or=>some .or | .xor=>some .xor
 | .add=>some .add | .sub=>some .sub | .mul=>some .mul | .quo=>some .quo | .rem=>some .rem
 | .eql=>some .eql | .neq=>some .neq | .lss=>some .lss | .leq=>some .leq | .gtr=>some .gtr | .geq=>some .geq
 | .shl=>some .shl | .shr=>some .shr
 |_=>none
def mi (P:Program) (f:Nat):Bool:=match P.funcs[f]? with|some fn=>fn.name != "runtime.NumGoroutine" && fn.body.isSome|none=>false
def P9(P:Program)(own:List Nat)(dst:Option Nat)(type:TypeId)(c:Call):Option kg :=
 match c.callee with
 | .value (.func f)=>if mi P f then (uY c.args.toList).bind fun l=>some (if own.contains (1000000+f) then .Bx f l else if own.contains (2000000+f) then .kB f l else if own.contains (8000000+f) then .v8 f l else .call f l) else none
 | .value (.tmp t)=>(uY c.args.toList).bind fun l=>some (.wa (.tmp t) l)
 | .builtin .len=>match c.args.toList,(c.argTypes[0]?).bind P.underlying with
  | [x],some .string=>(eE x).bind fun y=>some (.Oq y)
  | [x],some (.slice _)=>(eE x).bind fun y=>some (.Dx y)
  | [x],some (.map _ _)=>(eE x).bind fun y=>some (.Oo y)
  |_,_=>none
 | .builtin .copy=>match c.args.toList,c.argTypes.toList with
  | [x,y],[t,t']=>match P.underlying t,P.underlying t' with
   |some (.slice e),some (.slice _)=>(pS P e).bind fun n=>(eE x).bind fun x=>(eE y).bind fun y=>if 0<n then some (.EH n x y) else none
   |_,_=>none
  |_,_=>none
 | .builtin .append=>match c.args.toList,c.argTypes.toList with
  | [x,y],[t,t']=>match P.underlying t,P.underlying t' with
   |some (.slice e),some (.int _)=>(P.info? e).bind fun i=>i.zero.bind fun z=>(sy z.cells.toList).bind fun l=>(eE x).bind fun x=>(eE y).bind fun y =>
    if l.length=i.size/\0<i.size/\0<i.bytes/\i.bytes<=2 ^ 20 then some (.xz i.size i.bytes (l.map ag.shut) x y) else none
   |some (.slice e),some (.slice _)=>(P.info? e).bind fun i=>(eE x).bind fun x=>(eE y).bind fun y =>
    if decide ((i.zero.map fun z=>z.cells.size)=some i.size)&&decide (0<i.size)&&decide (0<i.bytes)&&decide (i.bytes<=2 ^ 20) then some (match dst with|some d=>if own.contains (7000000+d) then .vJ i.size i.bytes x y else .append i.size i.bytes x y|none => .append i.size i.bytes x y) else none
   |_,_=>none
  |_,_=>none
 | .builtin .clear=>match c.args.toList,c.argTypes.toList with
  | [x],[t]=>match P.underlying t with
   |some (.slice e)=>(P.info? e).bind fun i=>i.zero.bind fun z=>(sy z.cells.toList).bind fun l=>(eE x).bind fun x =>
    if l.length=i.size/\0<i.size then some (.AH i.size (l.map ag.shut) x) else none
   |_=>none
  |_,_=>none
 | .builtin .max=>match c.args.toList with|[x,y]=>(eE x).bind fun x=>(eE y).bind fun y=>some (.yV true x y)|_=>none
 | .builtin .min=>match c.args.toList with|[x,y]=>(eE x).bind fun x=>(eE y).bind fun y=>some (.yV false x y)|_=>none
 |_=>none
def Pv(P:Program)(own:List Nat)(o:Oper):Option kg :=
 match o.op with
 | .move x=>(eE x).bind fun x=>some (.mv x)
 | .assign x=>(eE x).bind fun x =>
  match o.dst with
  |some d=>if own.contains d then match P.underlying o.type with
    |some (.slice e)=>(pS P e).bind fun n=>match x with
     | .ke (.slice .c0 [])=>some (.own n x)
     |_=>some (.mv x)
    |_=>none
   else some (.mv x)
  |none=>some (.mv x)
 | .pick c a b=>(eE c).bind fun c=>(eE a).bind fun a=>(eE b).bind fun b=>some (.pick c a b)
 | .alloc t=>(P.info? t).bind fun i=>i.zero.bind fun z=>(sy z.cells.toList).bind fun l =>
  match o.dst with
  |some d=>if own.contains (6000000+d) then (match P.underlying t,l with
    |some (.slice e),[.slice .c0 []]=>(pS P e).bind fun n=>some (.Nz n)
    |_,_=>none) else some (.pH l)
  |none=>some (.pH l)
 | .box t x=>(eE x).bind fun x=>some (.box x)
 | .build t parts=>match P.underlying t with
  |some (.struct fs)=>(P.info? t).bind fun i=>i.zero.bind fun z=>(sy z.cells.toList).bind fun l=>(AG P fs parts.toList).bind fun ps =>
   if fs.all (fun f=>(P.info? f.type).isSome) then some (.build l ps) else none
  |some (.array _ e)=>(P.info? t).bind fun i=>i.zero.bind fun z=>(sy z.cells.toList).bind fun l=>(pS P e).bind fun n=>(xD n parts.toList).bind fun ps=>some (.build l ps)
  |_=>none
 | .buildSlice t len parts=>match P.underlying t with
  |some (.slice e)=>(P.info? e).bind fun i=>(Hz 0 parts.toList).bind fun l =>
   if l.length=len/\len*i.size<=2 ^ 24/\(i.zero.map fun z=>z.cells.size)=some i.size/\0<i.size then some (match o.dst with|some d=>if own.contains d then .Dz i.size l else .lits i.size l|none => .lits i.size l) else none
  |_=>none
 | .load t x=>(B8 P t).bind fun g=>(pS P t).bind fun n=>(eE x).bind fun x=>some (if g then .kU n x else .ij x)
 | .store t a x=>(pS P t).bind fun n=>(eE a).bind fun a=>(eE x).bind fun x=>some (match a with
  | .tmp s=>match own.find? (fun m=>decide (1000000000<=m)&&decide (m % 1000=s)) with
   |some m => .Bl (m / 1000000 % 1000) (m / 1000 % 1000) n a x
   |none => .store n a x
  |_ => .store n a x)
 | .nilCheck x=>(eE x).bind fun x=>some (.W0 x)
 | .binOp op t x y _=>(eE x).bind fun x=>(eE y).bind fun y=>match P.underlying t with
  |some (.int _)|some .string=>(NB op).bind fun b=>some (.bin b x y)
  |some .bool=>match op with
   | .eql=>some (.eqB false x y)
   | .neq=>some (.eqB true x y)
   |_=>none
  |some (.struct fs)=>if P.stoodInHeld t then none else (BD P 0 fs.toList).bind fun ks=>match op with
   | .eql=>some (.Xf ks false x y)
   | .neq=>some (.Xf ks true x y)
   |_=>none
  |some (.array len e)=>match P.underlying e,op with
   |some (.int _),.eql=>if pS P e=some 1 then some (.Xf (List.replicate len .i) false x y) else none
   |_,_=>none
  |_=>none
 | .unOp .not _ x=>(eE x).bind fun x=>some (.not x)
 | .unOp .neg _ x=>(eE x).bind fun x=>some (.neg x)
 | .convert s d x=>(eE x).bind fun x=>match P.underlying s,P.underlying d with
  |some (.int _),some (.int k)=>some (.conv k x)
  |some .string,some .string=>some (.same x)
  |some (.slice e),some .string=>match P.underlying e with|some (.int .u8)=>some (.b2s x)|_=>none
  |_,_=>none
 | .makeFunc (.func f) first caps=>if first.isEmpty then (uY caps.toList).bind fun l=>some (.fn f l) else if caps.isEmpty then (uY first.toList).bind fun l=>some (.CQ f l) else none
 | .slice t x lo hi mx=>(eE x).bind fun x=>(B9 lo).bind fun lo=>(B9 hi).bind fun hi=>(B9 mx).bind fun mx=>match P.underlying t with
  |some .string=>if mx.isNone then some (.xl x lo hi) else none
  |some (.slice e)=>(pS P e).bind fun n=>if 0<n/\(mx.isNone\/hi.isSome) then some (.zb n x lo hi mx) else none
  |_=>none
 | .fieldAddr s x f=>match P.underlying s with
  |some (.struct fs)=>(fs[f]?).bind fun f=>(pS P f.type).bind fun n=>(eE x).bind fun x=>if 0<n then some (.iT f.offset x) else none
  |_=>none
 | .field s x f=>match P.underlying s with
  |some (.struct fs)=>(fs[f]?).bind fun f=>(B8 P f.type).bind fun g=>(pS P f.type).bind fun n=>(eE x).bind fun x=>some (if g then .AO f.offset n x else .AN f.offset x)
  |_=>none
 | .indexAddr t x i=>match P.underlying t with
  |some (.slice e)=>(pS P e).bind fun n=>(eE x).bind fun x=>(eE i).bind fun i=>if 0<n then some (.vi n x i) else none
  |some (.array len e)=>(pS P e).bind fun n=>(eE x).bind fun x=>(eE i).bind fun i=>if 0<n then some (.wZ len n x i) else none
  |_=>none
 | .index t x i=>match P.underlying t with
  |some .string=>(eE x).bind fun x=>(eE i).bind fun i=>some (.w5 x i)
  |_=>none
 | .extract x i=>(eE x).bind fun x=>some (.extract x i)
 | .call c=>P9 P own o.dst o.type c
 | .makeMap _ none=>some .mkMap
 | .lookup t x i ok=>match P.underlying t with
  |some (.map k e)=>(Du P k).bind fun fk=>(P.info? e).bind fun ie=>ie.zero.bind fun zv=>(PX zv).bind fun z=>(eE x).bind fun x=>(eE i).bind fun i=>some (.look fk z ok x i)
  |_=>none
 | .mapUpdate t m k v=>match P.underlying t with
  |some (.map kt _)=>(Du P kt).bind fun fk=>(eE m).bind fun m=>(eE k).bind fun k=>(eE v).bind fun v=>some (.gD fk m k v)
  |_=>none
 | .range t x=>match P.underlying t with
  |some .string=>(eE x).bind fun x=>some (.O7 x)
  |_=>none
 | .next it true=>(eE it).bind fun it=>some (.Fv it)
 | .makeInterface t x=>(eE x).bind fun x=>match P.underlying t with
  |some (.interface _)=>none
  |some _=>some (.iface t x)
  |none=>none
 | .panic x=>(eE x).bind fun x=>some (.raise x)
 | .insert t m k v=>match P.underlying t with
  |some (.map kt _)=>(Du P kt).bind fun fk=>(eE m).bind fun m=>(eE k).bind fun k=>(Qa v).bind fun v=>some (.gD fk m k v)
  |_=>none
 | .makeSlice t (.tmp x) (.tmp y)=>match P.underlying t with
  |some (.slice e)=>(P.info? e).bind fun i=>i.zero.bind fun z=>(sy z.cells.toList).bind fun l=>(eE (.tmp x)).bind fun x' =>
   if x=y/\l.length=i.size/\0<i.size/\i.bytes<=8*i.size then some (match o.dst with|some d=>if own.contains (5000000+d) then .OC (l.map ag.shut) x' else .mkS (l.map ag.shut) x'|none => .mkS (l.map ag.shut) x') else none
  |_=>none
 |_=>none
structure D8 where
 n:Nat
 own:List Nat:=[]
 lv:List (Nat×List Nat)
 lp:List (Nat×List Nat):=[]
def find(l:List (Nat×List Nat))(k:Nat):List Nat:=match l with
 | []=>[]
 |(i,x)::r=>if i=k then x else find r k
def aaA(n:Nat):Option Nat->Bool
 |some d=>decide (d<n)
 |none=>true
def LK(P:Program)(A:D8)(ops:Array Oper)(grow:Bool)(o:Oper):Option cT :=
 (Pv P A.own o).bind fun op =>
  if aaA A.n o.dst then
   match o.guard with
   |none=>some { dst:=o.dst,op,guard:=none,grow }
   |some (k,want)=>((ops[k]?).bind (·.dst)).bind fun t=>if t<A.n then some { dst:=o.dst,op,guard:=some (t,want),grow } else none
  else none
def tx(P:Program)(A:D8)(ops:Array Oper)(grow:List Bool):List Oper->Option (List cT)
 | []=>some []
 |o::r=>(LK P A ops (grow.headD false) o).bind fun x=>(tx P A ops grow.tail r).bind fun l=>some (x::l)
def nz:Code->Nat
 | .region id _ _=>id
 | .seq a _=>nz a
 | .block _ c=>nz c
 | .loop c=>nz c
 | .cond _ a _=>nz a
 |_=>0
def gV.kX:gV->List Nat
 | .tmp t=>[t]
 | .ke _=>[]
def Ba:Option gV->List Nat
 |some x=>x.kX
 |none=>[]
def kg.kX:kg->List Nat
 | .mv x | .own _ x | .box x | .kU _ x | .ij x | .W0 x | .not x | .neg x | .conv _ x | .same x | .iT _ x | .AO _ _ x | .AN _ x | .extract x _ | .Oq x | .Dx x | .b2s x | .Oo x | .O7 x | .Fv x | .AH _ _ x | .iface _ x | .raise x | .mkS _ x | .OC _ x=>x.kX
 | .pick c a b=>c.kX++(a.kX++b.kX)
 | .pH _ | .mkMap | .Nz _=>[]
 | .build _ ps=>ps.flatMap fun p=>p.2.2.kX
 | .lits _ ps | .Dz _ ps=>ps.flatMap gV.kX
 | .store _ a x | .Bl _ _ _ a x=>a.kX++x.kX
 | .gD _ m k v=>m.kX++(k.kX++v.kX)
 | .bin _ x y | .look _ _ _ x y | .Xf _ _ x y | .eqB _ x y | .vi _ x y | .wZ _ _ x y | .w5 x y | .append _ _ x y | .vJ _ _ x y | .yV _ x y | .xz _ _ _ x y | .EH _ x y=>x.kX++y.kX
 | .fn _ l | .CQ _ l=>l.flatMap gV.kX
 | .xl x l h=>x.kX++(Ba l++Ba h)
 | .zb _ x l h m=>x.kX++(Ba l++(Ba h++Ba m))
 | .call _ l | .Bx _ l | .kB _ l | .v8 _ l=>l.flatMap gV.kX
 | .wa f l=>f.kX++l.flatMap gV.kX
def kg.Rp:kg->Bool
 | .own .. | .Dz .. | .OC .. | .xz .. | .EH .. | .Nz _ | .pH _ | .box _ | .store .. | .Bl .. | .call .. | .wa .. | .Bx .. | .kB .. | .v8 .. | .AH .. | .append .. | .vJ .. | .mkMap | .gD .. | .Oo _ | .O7 _ | .Fv _=>true
 |_=>false
def kg.Py:kg->Bool
 | .kU .. | .ij _ | .look .. => true
 |_=>false
def cT.reads(o:cT):List Nat:=o.op.kX++(match o.guard with|some (t,_)=>[t]|none=>[])
def xa(acc:List Nat):List Edge->Nat
 | []=>0
 |e::r=>if Region.binds .any e then xa acc r ||| (2 ^ e.on ||| (nth acc e.on).getD 0) else xa acc r
def CN:List Oper->List Nat->List Nat
 | [],acc=>acc
 |o::r,acc=>CN r (acc++[xa acc o.after.toList])
def qi(ops:List Oper):List Nat:=CN ops []
def ahead(bs:List Nat)(i k:Nat):Bool:=((nth bs k).getD 0).testBit i
def meet(x y:cT):Bool :=
 (match x.dst with|some d=>y.reads.contains d||y.dst==some d|none=>false)||(match y.dst with|some d=>x.reads.contains d|none=>false)
def fenced(bs:List Nat)(l:List cT)(k:Nat):Bool:=(List.range l.length).all fun i=>match nth l i with
 |some x => !x.op.Py||(if i<k then ahead bs i k else i==k||ahead bs k i)
 |none=>true
def kg.w6:kg->Bool
 | .call .. | .wa .. => true
 |_=>false
def ordered(bs:List Nat)(i k:Nat):Bool:=i==k||(if i<k then ahead bs i k else ahead bs k i)
def alone(bs:List Nat)(l:List cT)(k:Nat):Bool:=(List.range l.length).any fun i=>match nth l i with
 |some x=>x.op.Rp && !ordered bs i k
 |none=>false
def kg.MU:kg->Option Nat
 | .ij (.tmp z)=>some z
 | .kU _ (.tmp z)=>some z
 | .look _ _ _ (.tmp z) _=>some z
 |_=>none
def kg.aqO:kg->Bool
 | .store .. => true
 | .append .. | .vJ .. => true
 |_=>false
def alQ(l:List cT)(i k z:Nat):Bool:=(List.range k).all fun p=>decide (p<i)||match nth l p with|some x=>x.dst != some z|none=>true
def Ls(bs:List Nat)(l:List cT)(k:Nat):Bool:=(List.range l.length).all fun i=>i==k||(if i<k then (ahead bs i k||match nth l i with|some x => !x.op.Rp|none=>false) else ahead bs k i)
def MT(bs:List Nat)(l:List cT)(k:Nat):List Nat:=(List.range k).filterMap fun i=>match nth l i with
 |some x=>if x.op.Py && !ahead bs i k then x.op.MU else none
 |none=>none
def Cw(bs:List Nat)(l:List cT)(k:Nat)(sep:List Nat):Bool:=(List.range l.length).all fun i=>match nth l i with
 |some x => !x.op.Py||i==k||(if i<k then (ahead bs i k||match x.op.MU with|some z=>sep.contains z&&alQ l i k z|none=>false) else ahead bs k i)
 |none=>true
def pA(bs:List Nat)(l:List cT):Nat->List cT->List cT
 |_,[]=>[]
 |k,x::r=>{ x with grow:=x.op.Rp && !(x.op.w6&&alone bs l k) && !fenced bs l k,wk:=x.op.w6&&alone bs l k,sep:=if x.op.aqO && !fenced bs l k&&Cw bs l k (MT bs l k) then MT bs l k else [],stop := !x.op.Qb||Ls bs l k }::pA bs l (k+1) r
def cT.ug(x:cT):Bool:=x.op.Rp && !x.wk
def K9:kg->Bool
 | .ij (.ke _) | .kU _ (.ke _) | .look _ _ _ (.ke _) _=>false
 |_=>true
def BH(ops:Array Oper)(l:List cT)(k:Nat):Bool:=match ops[k]?,nth l k with
 |some o,some y=>(match y.op with
  | .pH _=>(match o.op with | .alloc _=>true|_=>false)
  | .v8 .. => (match o.op with | .call c=>(match c.callee with | .value (.func _)=>true|_=>false)|_=>false)
  |_=>false)&&y.guard.isNone
 |_,_=>false
def GM(ops:Array Oper)(bs:List Nat)(l:List cT):Bool:=(List.range l.length).all fun k=>match nth l k,ops[k]? with
 |some y,some o=>o.after.toList.all (fun e => !Region.binds .any e||decide (e.on<k))&&((!y.wk||y.op.w6)&&K9 y.op)&&((!(y.ug && !y.grow)||fenced bs l k)&&(y.sep.isEmpty||Cw bs l k y.sep)) &&
  ((!y.lets||Ls bs l k)&&(List.range k).all fun i=>match nth l i with
   |some x=>(!meet x y||ahead bs i k)&&(!(x.ug&&y.ug)||(ahead bs i k||(BH ops l i&&BH ops l k)))
   |none=>false)
 |_,_=>false
def A9(ops:Array Oper)(l:List cT):Option (List cT) :=
 if GM ops (qi ops.toList) (pA (qi ops.toList) l 0 l) then some (pA (qi ops.toList) l 0 l) else none
def comp(P:Program)(A:D8):Code->Option cB
 | .skip=>some .skip
 | .region id ops draw=>if draw then
   (tx P { A with own:=A.own.filter (1000000 <= ·) } ops [] ops.toList).bind fun l0=>(A9 ops l0).bind fun l=>some (.region l true (find A.lv id))
  else (tx P A ops [] ops.toList).bind fun l=>some (.region l false (find A.lv id))
 | .seq a b=>(comp P A a).bind fun x=>(comp P A b).bind fun y=>some (.seq x y)
 | .cond c a b=>(eE c).bind fun c=>(comp P A a).bind fun x=>(comp P A b).bind fun y=>some (.cond c x y)
 | .block id c=>(comp P A c).bind fun x=>some (.block id x)
 | .loop c=>(comp P A c).bind fun x=>some (.loop (find A.lp (nz c)) x)
 | .exit id=>some (.exit id)
 | .ret=>some .ret
 |_=>none
def Hy(P:Program):List ResultVar->Option (List sv)
 | []=>some []
 | .tmp t::r=>(Hy P r).bind fun l=>some (.tmp t::l)
 | .cell a t::r=>(B8 P t).bind fun g=>(pS P t).bind fun n=>(Hy P r).bind fun l=>some ((if g then .dC a n else .aas a)::l)
def oY(P:Program)(A:D8)(fn:Func):Option ei :=
 match fn.body with
 |none=>none
 |some c=>if fn.name != "runtime.NumGoroutine" /\ A.n=fn.ntmps/\fn.params.size+fn.nfree<=fn.ntmps then
   (comp P A c).bind fun b=>(Hy P fn.results.toList).bind fun r=>some { nparams:=fn.params.size+fn.nfree,results:=r,body:=b }
  else none
end
section
open Go
def amS(x:Operand)(s:Nat):Nat:=match x with
 | .tmp t=>s ||| (1 <<< t)
 |_=>s
def opB(ops:Array Oper)(o:Oper)(s:Nat):Nat :=
 let s:=match o.dst,o.guard with
  |some d,none=>if s.testBit d then s-(1 <<< d) else s
  |_,_=>s
 let s:=o.op.operands.toList.foldl (fun s x=>amS x s) s
 match o.guard with
 |some (k,_)=>match (ops[k]?).bind (·.dst) with
  |some t=>s ||| (1 <<< t)
  |none=>s
 |none=>s
def asv(ops:Array Oper)(out:Nat):Nat :=
 let l:=ops.toList.foldr (opB ops) out
 let g:=ops.toList.foldl (fun g o=>match o.dst,o.guard with
  |some d,some _=>g ||| (1 <<< d)
  |_,_=>g) 0
 let d:=g ^^^ (g &&& out)
 l ^^^ (l &&& d)
def Mw:List (Nat×Nat)->Nat->Nat
 | [],_=>0
 |(i,x)::r,k=>if i=k then x else Mw r k
def zQ(ret:Nat):Code->List (Nat×Nat)->Nat->Nat×List (Nat×Nat)×List (Nat×Nat)
 | .skip,_,out=>(out,[],[])
 | .region id ops _,_,out=>(asv ops out,[(id,out)],[])
 | .seq a b,ex,out =>
  let y:=zQ ret b ex out
  let x:=zQ ret a ex y.1
  (x.1,x.2.1++y.2.1,x.2.2++y.2.2)
 | .cond c a b,ex,out =>
  let x:=zQ ret a ex out
  let y:=zQ ret b ex out
  (amS c (x.1 ||| y.1),x.2.1++y.2.1,x.2.2++y.2.2)
 | .block id c,ex,out=>zQ ret c ((id,out)::ex) out
 | .loop c,ex,_ =>
  let h1:=(zQ ret c ex 0).1
  let h2:=h1 ||| (zQ ret c ex h1).1
  let z:=zQ ret c ex h2
  let h3:=h2 ||| z.1
  (h3,z.2.1,(nz c,h3)::z.2.2)
 | .exit id,ex,_=>(Mw ex id,[],[])
 | .ret,_,_=>(ret,[],[])
 |_,_,out=>(out,[],[])
def ajg(n s:Nat):List Nat:=(List.range n).filter s.testBit
def Ez(own:List Nat)(fn:Func):D8:=match fn.body with
 |none=>{ n:=0,lv:=[] }
 |some c =>
  let r:=fn.results.toList.foldl (fun s x=>match x with
   | .tmp t=>s ||| (1 <<< t)
   | .cell t _=>s ||| (1 <<< t)) 0
  let z:=zQ r c [] r
  let f:=fun(p:Nat×Nat)=>(p.1,ajg fn.ntmps p.2)
  { n:=fn.ntmps,own:=own,lv:=z.2.1.map f,lp:=z.2.2.map f }
def cB.size:cB->Nat
 | .seq a b=>a.size+b.size+1
 | .cond _ a b=>a.size+b.size+1
 | .block _ a=>a.size+1
 | .loop _ a=>a.size+1
 | .region .. => 1
 | .skip=>1
 | .exit _=>1
 | .ret=>1
def cB.ui:cB->List cB
 | .seq a b => .seq a b::(a.ui++b.ui)
 | .cond c a b => .cond c a b::(a.ui++b.ui)
 | .block i a => .block i a::a.ui
 | .loop l a => .loop l a::a.ui
 |c=>[c]
def sub(c:cB)(i:Nat):cB:=(c.ui[i]?).getD .skip
def ref(r:cB)(i:Nat):cB->cB
 | .skip => .skip
 | .exit n => .exit n
 | .ret => .ret
 | .region .. => sub r i
 | .seq .. => sub r i
 | .cond .. => sub r i
 | .block .. => sub r i
 | .loop .. => sub r i
def Cg(r:cB)(i:Nat):cB->cB
 | .region a b c => .region a b c
 | .skip => .skip
 | .exit n => .exit n
 | .ret => .ret
 | .seq .. => sub r i
 | .cond .. => sub r i
 | .block .. => sub r i
 | .loop .. => sub r i
abbrev Hd(q b:cB):Prop:=∀(C:eK)(fn:List sv)(bL:Nat)(k:List K)(br:Env)(M:aG),eV C fn bL k q br M=eV C fn bL k b br M
def Eg(e:Prop):cB->Prop
 | .region .. => True
 | .skip | .exit _ | .ret=>True
 | .seq .. => e
 | .cond .. => e
 | .block .. => e
 | .loop .. => e
def eqs(r:cB):Nat->cB->Prop
 |i,.seq a b=>Hd (sub r i) (.seq (Cg r (i+1) a) (ref r (i+1+a.size) b))/\(Eg (eqs r (i+1) a) a/\eqs r (i+1+a.size) b)
 |i,.cond c a b=>Hd (sub r i) (.cond c (ref r (i+1) a) (ref r (i+1+a.size) b))/\(eqs r (i+1) a/\eqs r (i+1+a.size) b)
 |i,.block n a=>Hd (sub r i) (.block n (ref r (i+1) a))/\eqs r (i+1) a
 |i,.loop n a=>Hd (sub r i) (.loop n (ref r (i+1) a))/\eqs r (i+1) a
 |i,.region a b c=>Hd (sub r i) (.region a b c)
 |_,.skip=>True
 |_,.exit _=>True
 |_,.ret=>True
def qW:∀c:cB,c.ui.length=c.size
 | .seq a b=>by simp[cB.ui,cB.size,qW a,qW b]
 | .cond _ a b=>by simp[cB.ui,cB.size,qW a,qW b]
 | .block _ a=>by simp[cB.ui,cB.size,qW a]
 | .loop _ a=>by simp[cB.ui,cB.size,qW a]
 | .region .. | .skip | .exit _ | .ret=>by simp[cB.ui,cB.size]
def agL(c:cB):c.ui[0]?=some c:=by cases c<;>simp[cB.ui]
def At(r:cB)(i:Nat)(c:cB):Prop:=∀j,j<c.size->r.ui[i+j]?=c.ui[j]?
def size_pos(c:cB):0<c.size:=by cases c<;>simp[cB.size]
def At.sub{r c:cB}{i:Nat}(h:At r i c):sub r i=c:=by
 have:=h 0 (size_pos c);rw[dk,agL] at this;simp[Abs.sub,this]
def At.ref{r c:cB}{i:Nat}(h:At r i c):ref r i c=c:=by
 cases c<;>first|rfl|exact h.sub
def At.Cg{r c:cB}{i:Nat}(h:At r i c):Cg r i c=c:=by
 cases c<;>first|rfl|exact h.sub
def Xh{e:Prop}{c:cB}(h:e):Eg e c:=by
 cases c<;>first|trivial|exact h
def At.two{r a b x:cB}{i:Nat}(h:At r i x)(hx:x.ui=x::(a.ui++b.ui))(hs:x.size=a.size+b.size+1):At r (i+1) a/\At r (i+1+a.size) b:=by
 refine⟨fun j hj=>?_,fun j hj=>?_⟩
 ·have:=h (j+1) (by omega)
  rw[hx,eO,bB (by rw[qW]; exact hj)] at this
  rw[<-this]; congr 1; omega
 ·have:=h (a.size+j+1) (by omega)
  rw[hx,eO,bA (by rw[qW]; omega),qW] at this
  rw[show a.size+j-a.size=j by omega] at this
  rw[<-this]; congr 1; omega
def At.one{r a x:cB}{i:Nat}(h:At r i x)(hx:x.ui=x::a.ui)(hs:x.size=a.size+1):At r (i+1) a:=by
 intro j hj;have:=h (j+1) (by omega)
 rw[hx,eO] at this;rw[<-this]; congr 1; omega
def H8{q b:cB}(h:q=b):Hd q b:=kC h
def yJ(r:cB):∀(c:cB)(i:Nat),At r i c->eqs r i c
 | .seq a b,i,h=>by
  obtain⟨h1,h2⟩:=h.two (a:=a) (b:=b) rfl rfl;exact⟨H8 (by rw[h.sub,h1.Cg,h2.ref]),Xh (yJ r a _ h1),yJ r b _ h2⟩
 | .cond c a b,i,h=>by
  obtain⟨h1,h2⟩:=h.two (a:=a) (b:=b) rfl rfl;exact⟨H8 (by rw[h.sub,h1.ref,h2.ref]),yJ r a _ h1,yJ r b _ h2⟩
 | .block n a,i,h=>by
  have h1:=h.one (a:=a) rfl rfl;exact⟨H8 (by rw[h.sub,h1.ref]),yJ r a _ h1⟩
 | .loop n a,i,h=>by
  have h1:=h.one (a:=a) rfl rfl;exact⟨H8 (by rw[h.sub,h1.ref]),yJ r a _ h1⟩
 | .region ..,_,h=>H8 h.sub
 | .skip,_,_=>trivial
 | .exit _,_,_=>trivial
 | .ret,_,_=>trivial
def ahA(r:cB):At r 0 r:=fun j _=>by rw[aL]
def C0[kh](P:Program)(A:D8):Code->Option cB
 | .skip=>some .skip
 | .region id ops draw=>if draw then
   (tx P { A with own:=A.own.filter (1000000 <= ·) } ops [] ops.toList).bind fun l=>some (.region (pA (qi ops.toList) l 0 l) true (find A.lv id))
  else (tx P A ops [] ops.toList).bind fun l=>some (.region l false (find A.lv id))
 | .seq a b=>(C0 P A a).bind fun x=>(C0 P A b).bind fun y=>some (.seq x y)
 | .cond c a b=>(eE c).bind fun c=>(C0 P A a).bind fun x=>(C0 P A b).bind fun y=>some (.cond c x y)
 | .block id c=>(C0 P A c).bind fun x=>some (.block id x)
 | .loop c=>(C0 P A c).bind fun x=>some (.loop (find A.lp (nz c)) x)
 | .exit id=>some (.exit id)
 | .ret=>some .ret
 |_=>none
def ajO[kh](P:Program)(A:D8)(fn:Func):Option cB:=match fn.body with
 |some c=>C0 P A c
 |none=>none
abbrev Cv[kh](P:Program)(A:D8)(f:Func):={ g:cB // ajO P A f=some g }
def okc{o:Option ei}{n:Nat}{r:List sv}{c:cB}(h:o=some (ei.mk n r c)):o=some (ei.mk n r (sub c 0)):=by
 rw[h,(ahA c).sub]
set_option linter.defProp false in
def zi:=bO @eqs.eq_1 (bO @eqs.eq_2 (bO @eqs.eq_3 (bO @eqs.eq_4 (bO @eqs.eq_5 (bO @eqs.eq_6 (bO @eqs.eq_7 (bO @eqs.eq_8 (bO @ref.eq_1 (bO @ref.eq_2 (bO @ref.eq_3 (bO @ref.eq_4 (bO @ref.eq_5 (bO @ref.eq_6 (bO @ref.eq_7 (bO @ref.eq_8 (bO @Cg.eq_1 (bO @Cg.eq_2 (bO @Cg.eq_3 (bO @Cg.eq_4 (bO @Cg.eq_5 (bO @Cg.eq_6 (bO @Cg.eq_7 (bO @Cg.eq_8 (bO @Eg.eq_1 (bO @Eg.eq_2 (bO @Eg.eq_3 (bO @Eg.eq_4 (bO @Eg.eq_5 (bO @Eg.eq_6 (bO @Eg.eq_7 (bO @Eg.eq_8 (bO @cB.size.eq_1 (bO @cB.size.eq_2 (bO @cB.size.eq_3 (bO @cB.size.eq_4 (bO @cB.size.eq_5 (bO @cB.size.eq_6 (bO @cB.size.eq_7 (bO @cB.size.eq_8 (bO @and_true (@true_and)))))))))))))))))))))))))))))))))))))))))
end
end Go.Abs
namespace Go.Proofs.YtahkjijkflobhaaGreatDoor
open Go Go.Abs
def HO:Value := .iface 177 (.agg #[.pointer (some ⟨2,70,none⟩)])
instance:kh where
 g:=fun b=>match b with
  |0=>some [HO]
  |_=>none
 u8:=5
def akJ:Func:={ name := "",origin := "",params := #[],resultTypes := #[],nfree:=0,ntmps:=0,results := #[],body:=some .skip,norace:=false,tmpNames := #[] }
noncomputable def amB:Program:={ toTables:={ goVersion := "",platform := "",initOrder := "",godebug := "",types:=Tryz.types,rt:=Tryz.progTables.rt,cutTypes := #[],globals := #[],inits := #[],main:=0 },funcs:=⟨List.replicate 900 akJ⟩ }
abbrev Ko(own:List Nat)(f:Func):=Cv amB (Ez own f) f
abbrev uI(own:List Nat)(f:Func)(c:ei):Prop:=oY Tryz.prog (Ez own f) f=some c
section
open Go.ChangeShapes Go.WideShapes Go.RowKit
def af3:ownKnob Tryz.prog.godebug=none:=by kernel_rfl
abbrev T8:List (String×DataW Unit):=[("errors.errorType",Rows.laid_errors_errorType)]
def jX0:J:=⟨fun _=>none,fun _ _=>False⟩
def asw(W:World):Rel jX0 [] W where
 inj:=fun _ _ _ h=>by cases h
 lt:=fun _ _ h=>by cases h
 fix:=fun _ _ h=>by cases h
 tick:=fun _ _ _ _ h=>by cases h
 arr:=fun _ _ _ _ h=>by cases h
 uS:=fun _ _ h=>by cases h
 Aq:=fun _ _ h=>h.elim
def LM{w:World}{b off:Nat}{v:Value}(h:w.cell? ⟨b,off,none⟩=some v):b<w.heap.size:=by
 rcases bD b w.heap.size with hb|hb
 ·exact hb
 ·simp[World.cell?,gY hb] at h
def afU:((List.range Tryz.prog.types.size).filter fun t=>Tryz.prog.rowNamed t [101,114,114,111,114])=[70]:=by kernel_rfl
theorem rtK{a:Option Nat}{u n:Nat}(e:a=some u)(h:a=some n):n=u:=Option.some.inj (h.symm.trans e)
def Rg{W:World}(hL:laidMetH Tryz.prog T8 W)(hsh:W.ShapedOpen Tryz.prog):se jX0 [] W:=by
 have h':laidMet Tryz.prog [] W/\handlesMet Tryz.prog T8 W:=hL;obtain⟨name,u,ty,e1,e2,e3,e4,e5⟩:=h'.2 _ (bM.2 rfl);have en:name=[101,114,114,111,114]:=(iH e1).symm;subst en;obtain rfl:=rtK e2 (n:=177) (by kernel_rfl)
 have hm:ty∈(List.range Tryz.prog.types.size).filter fun t=>Tryz.prog.rowNamed t [101,114,114,111,114]:=cm.2 ⟨jb.2 e3,e4⟩
 rw[afU] at hm;obtain rfl:=bM.1 hm;rw[show typeHandle Tryz.prog 70 = .pointer (some ⟨2,70,none⟩) by kernel_rfl] at e5
 have hc:W.cell? ⟨0,0,none⟩=some HO:=by simpa[HO] using World.var?_cell (show Tryz.prog.globalNamed "errors.errorType" = some 0 by kernel_rfl) e5 0
 obtain⟨⟨zero,t'⟩,hz,he⟩:=aN.1 (show(((begin Tryz.prog (fun _ _=>0) default).world.heap[0]?).bind Obj.row?).map (fun x=>x.1.size)=some 1 by kernel_rfl)
 obtain⟨cs,h1,h2,_⟩:=hsh.1 0 zero t' (fA (by kernel_rfl)) hz
 refine⟨fun b vs k v hb hk=>?_,fun b vs hb=>?_,fun b p hb=>by cases hb⟩
 ·match b,hb with
  |0,hb =>
   cases hb
   match k,hk with
   |0,hk=>cases hk; exact⟨⟨LM hc,fun id hid=>by simp at hid,fun h=>h⟩,hc⟩
 ·match b,hb with
  |0,hb=>cases hb; exact⟨cs,_,_,h1,h2.trans he⟩
noncomputable def oe(os:Os):World :=
 let w0:=World.holding Tryz.prog os ⟨#[],#[],[]⟩
 { w0 with heap:=w0.heap.modify 0 fun
   | .cells _ t frozen => .cells #[HO] t frozen
   |o=>o }
def Dw(os:Os)(args:Array Value):laidMetH Tryz.prog T8 ((oe os).forCall (fun _ _=>0) ⟨#[],args,[]⟩).memory :=
 laidMetH_of_parts (laidMet_nil _ _) (by kernel_rfl)
end
end Go.Proofs.YtahkjijkflobhaaGreatDoor
