import Derived.Test.YteoamaffclmdbaaGreatDoorCards
import Derived.LaidHandle
import Derived.Lib.LaidU8
import Derived.Deep.DeepWitnessRowRef
import Derived.ProofKit
import Derived.SizedLaws
import Derived.OpenShut
import Derived.Deep.Fields
import Derived.Shelf.Vars
import Derived.Lib.LaidIn
set_option linter.all false
namespace Go
def tf{α:Type}{o:Option α}{a b:α}(h:o=some a)(e:a=b:=by kernel_rfl):o=some b:=h.trans (congrArg some e)
def aH{p:Prop}(h:p:=by omega):=h
def gr{p:Prop}(h:p:=by simp;omega):=h
def dw{p:Prop}(h:p:=by simp):=h
def ft{p:Prop}(h:p:=by kernel_rfl):=h
def jO{p:Prop}(h:p:=by grind):=h
def mw{p:Prop}(h:p:=by decide):=h
def bR{a b:Prop}(x:a)(y:b):=And.intro x y
def u8w{a b c d e f g h i:Prop}(A:a)(B:b)(C:c)(D:d)(E:e)(F:f)(G:g)(H:h)(I:i):=bR A (bR B (bR C (bR D (bR E (bR F (bR G (bR H I)))))))
def dy:=@Array.getD_eq_getD_getElem?
def cd:=@Array.getElem?_append_left
def bg:=@Array.getElem?_eq_getElem
def im:=@Array.getElem?_eq_none
def fJ:=@Array.getElem?_eq_some_iff
def iL:=@Array.getElem?_map
def gU:=@Array.getElem?_modify
def fV:=@Array.getElem?_push
def fE:=@Array.getElem?_setIfInBounds_ne
def gZ:=@Array.getElem?_setIfInBounds_self
def lP:=@Array.mapM_eq_mapM_toList
def jQ:=@Array.replicate_succ
def jR:=@Array.replicate_zero
def fZ:=@Array.size_append
def bz:=@Bool.and_eq_true
def dR:=@Bool.and_false
def jS:=@Bool.and_self
def gd:=@Bool.and_true
def cr:=@Bool.eq_iff_iff
def cK:=@Bool.false_and
def af:=@Bool.false_eq_true
def c8:=@Bool.false_or
def ij:=@Bool.not_eq_true'
def dH:=@Bool.not_false
def cv:=@Bool.not_true
def jT:=@Bool.or_eq_false_iff
def dh:=@Bool.or_eq_true
def fF:=@Bool.or_false
def fG:=@Bool.or_self
def eu:=@Bool.or_true
def cW:=@Bool.true_and
def dL:=@Bool.true_or
def iI:=@Eq.trans
def dS:=@Int.le_refl
def bq:=@Int.lt_irrefl
def jA:=@Int.natCast_nonneg
def eN:=@Int.toNat_natCast
def oH:=@Int.toNat_of_nonneg
def jU:=@List.Pairwise.filter
def oI:=@List.all_append
def kN:=@List.all_cons
def bK:=@List.all_eq_true
def jV:=@List.any_cons
def km:=@List.any_eq_true
def o7:=@List.any_nil
def cm:=@List.append_assoc
def dz:=@List.append_nil
def kf:=@List.append_toArray
def oJ:=@List.cons.injEq
def aG:=@List.cons_append
def jD:=@List.contains_iff_mem
def lX:=@List.countP_cons
def nz:=@List.countP_le_length
def cL:=@List.drop_eq_getElem_cons
def iq:=@List.drop_eq_nil_of_le
def nI:=@List.drop_length
def ir:=@List.drop_of_length_le
def oL:=@List.drop_succ_cons
def ly:=@List.drop_zero
def dI:=@List.eq_nil_of_length_eq_zero
def kV:=@List.eq_nil_or_concat
def mf:=@List.eq_of_mem_replicate
def fi:=@List.exists_cons_of_ne_nil
def ct:=@List.ext_getElem?
def kI:=@List.filter_append
def fq:=@List.filter_cons
def mB:=@List.filter_cons_of_pos
def jj:=@List.filter_eq_self
def kO:=@List.filter_nil
def fy:=@List.find?_eq_none
def mZ:=@List.flatMap_cons
def mC:=@List.flatMap_eq_nil_iff
def eK:=@List.foldl_cons
def na:=@List.foldl_nil
def lg:=@List.getD_eq_getElem?_getD
def nP:=@List.getElem?_append
def aO:=@List.getElem?_append_left
def bj:=@List.getElem?_append_right
def da:=@List.getElem?_cons_succ
def gm:=@List.getElem?_cons_zero
def cS:=@List.getElem?_drop
def ai:=@List.getElem?_eq_getElem
def fj:=@List.getElem?_eq_none
def aj:=@List.getElem?_eq_some_iff
def aX:=@List.getElem?_map
def iU:=@List.getElem?_modify
def bV:=@List.getElem?_of_mem
def jk:=@List.getElem?_range
def iX:=@List.getElem?_replicate
def fK:=@List.getElem?_set
def fc:=@List.getElem?_set_ne
def fa:=@List.getElem?_set_self
def fz:=@List.getElem?_take
def bG:=@List.getElem?_take_of_lt
def jt:=@List.getElem_mem
def kg:=@List.getElem_of_mem
def aA:=@List.length_append
def au:=@List.length_cons
def hU:=@List.length_drop
def dU:=@List.length_eq_zero_iff
def bU:=@List.length_filter_le
def cz:=@List.length_map
def az:=@List.length_nil
def gP:=@List.length_pos_iff
def kW:=@List.length_replicate
def cA:=@List.length_set
def cf:=@List.length_take
def aW:=@List.map_append
def cT:=@List.map_congr_left
def aK:=@List.map_cons
def jW:=@List.map_drop
def oM:=@List.map_eq_nil_iff
def gI:=@List.map_map
def aV:=@List.map_nil
def gX:=@List.map_replicate
def jg:=@List.map_set
def ec:=@List.map_take
def bo:=@List.mem_append
def fu:=@List.mem_append_left
def iE:=@List.mem_append_right
def bH:=@List.mem_cons
def bu:=@List.mem_cons_of_mem
def bD:=@List.mem_cons_self
def dP:=@List.mem_filter
def iJ:=@List.mem_flatMap
def eJ:=@List.mem_map
def iz:=@List.mem_of_find?_eq_some
def aJ:=@List.mem_of_getElem?
def dA:=@List.mem_of_mem_drop
def dB:=@List.mem_of_mem_take
def iA:=@List.mem_or_eq_of_mem_set
def eY:=@List.mem_range
def bT:=@List.mem_singleton
def aP:=@List.nil_append
def lh:=@List.nodup_append
def oN:=@List.nodup_cons
def lA:=@List.nodup_nil
def fx:=@List.pairwise_append
def du:=@List.pairwise_cons
def cn:=@List.pairwise_iff_getElem
def jX:=@List.pairwise_map
def lY:=@List.prefix_refl
def lj:=@List.push_toArray
def nJ:=@List.range'_succ
def lB:=@List.range_eq_range'
def jl:=@List.replicate_succ
def nQ:=@List.replicate_succ'
def ju:=@List.set_eq_take_append_cons_drop
def db:=@List.size_toArray
def iu:=@List.takeWhile_cons
def cD:=@List.take_add_one
def cH:=@List.take_append_drop
def fQ:=@List.take_append_of_le_length
def bE:=@List.take_length
def nR:=@List.take_nil
def bt:=@List.take_of_length_le
def bP:=@Nat.add_mul
def dx:=@Nat.add_sub_cancel'
def iY:=@Nat.add_sub_cancel_left
def dj:=@Nat.add_zero
def kX:=@Nat.div_lt_iff_lt_mul
def nS:=@Nat.eq_of_testBit_eq
def gY:=@Nat.eq_zero_or_pos
def ko:=@Nat.le_add_right
def fL:=@Nat.le_mul_of_pos_right
def av:=@Nat.le_refl
def iZ:=@Nat.le_succ_of_le
def aY:=@Nat.le_trans
def ia:=@Nat.lt_irrefl
def bw:=@Nat.lt_of_lt_of_le
def bA:=@Nat.lt_or_ge
def ik:=@Nat.lt_trichotomy
def gV:=@Nat.min_eq_left
def nK:=@Nat.mod_eq_of_lt
def nA:=@Nat.mod_lt
def bd:=@Nat.mul_le_mul_right
def pQ:=@Nat.mul_one
def gJ:=@Nat.ne_of_lt
def jL:=@Nat.not_lt_zero
def fM:=@Nat.one_mul
def lC:=@Nat.pow_lt_pow_right
def mD:=@Nat.sub_mul
def bO:=@Nat.sub_zero
def mU:=@Nat.succ_mul
def nb:=@Nat.testBit_or
def oO:=@Nat.testBit_two_pow
def aI:=@Nat.zero_add
def cI:=@Nat.zero_le
def jG:=@Nat.zero_mul
def eX:=@Ne.symm
def dC:=@Option.bind_eq_some_iff
def iK:=@Option.getD_none
def bC:=@Option.getD_some
def fA:=@Option.isSome_iff_exists
def cU:=@Option.isSome_none
def bQ:=@Option.isSome_some
def aU:=@Option.map_eq_some_iff
def oQ:=@Option.map_none
def ep:=@Option.map_some
def oS:=@Option.some.inj
def ga:=@Option.some.injEq
def kJ:=@Option.toList_some
def jY:=@Prod.mk.injEq
def kY:=@UInt8.lt_iff_toNat_lt
def oT:=@UInt8.lt_irrefl
def kP:=@UInt8.toNat_inj
def jw:=@and_self
def jm:=@beq_eq_false_iff_ne
def eH:=@beq_iff_eq
def lZ:=@beq_self_eq_true
def pf:=@bne_iff_ne
def aw:=@bne_self_eq_false
def gn:=@decide_eq_false
def dD:=@decide_eq_false_iff_not
def iR:=@decide_eq_true
def bh:=@decide_eq_true_eq
def fT:=@eq_iff_iff
def p8:=@ge_iff_le
def mV:=@getElem!_pos
def aE:=@if_false
def aQ:=@if_neg
def aZ:=@if_pos
def aF:=@if_true
def jx:=@iff_true
def pg:=@not_or
def nc:=@not_true_eq_false
def jZ:=@of_decide_eq_true
end Go
namespace Go.Abs
section
open Go
inductive Tk where
 |sh|c0|own (k:Nat)
 deriving DecidableEq,Repr
inductive ag where
 |bool (b:Bool)
 |int (k:IntKind) (n:Int)
 |str (s:List UInt8)
 |slice (tk:Tk) (xs:List ag)
 |agg (cs:List ag)
 |tuple (vs:List ag)
 |ptr (id off:Nat)
 |jF (cs:List ag)
 |func (f:Nat) (caps:List ag)
 |iy (id:Nat)
 |ka (id:Nat)
 |kj (ks vs:List ag)
 |cE (id ver sz lo hi:Nat)
 |jv (id ver i off:Nat)
 |rb (f:Nat) (fs:List ag)
 |kv (t id off:Nat)
 |raw (v:Value)
 |nH (v:Value)
 |any
 deriving Inhabited
def ag.jr:ag->Bool
 | .nH _=>true
 | .bool _ | .int .. | .str _ | .slice .. | .agg _ | .tuple _ | .ptr .. | .jF _ | .func .. | .iy _ | .ka _ | .kj .. | .cE .. | .jv .. | .rb .. | .kv .. | .raw _ | .any=>false
abbrev aD(n:Int):ag:=.int .i64 n
abbrev gv(l:List ag):ag:=.slice .sh l
abbrev cC(n:Nat):ag:=.ptr n 0
inductive cV where
 |cells (cs:List ag)
 |tick (sz n:Nat)
 |map (ks vs:List ag)
 |nY (s:List UInt8) (pos:Nat)
 |arr (sz ver:Nat) (xs:List ag)
 |vZ
def cV.tag:cV->Nat
 | .cells _=>0
 | .tick sz _=>sz+3
 | .map _ _=>1
 | .nY _ _=>2
 | .arr sz _ _=>sz+3
 | .vZ=>3
def cV.fixed:cV->Bool
 | .tick _ _ | .arr _ _ _ | .vZ=>false
 |_=>true
def cV.loose:cV->Bool
 | .tick _ _ | .arr _ _ _=>true
 |_=>false
abbrev cF(l:List ag):cV:=.cells l
abbrev aC:=List cV
abbrev Env:=List (Nat×ag)
def bJ{α β:Type}(x:Option α)(f:α->Option β):Option β:=match x with
 |some a=>f a
 |none=>none
@[congr] theorem aem {α β:Type} {x x':Option α} {f:α->Option β} (h:x=x'):bJ x f=bJ x' f:=by rw[h]
@[simp] theorem bN {α β:Type} (a:α) (f:α->Option β):bJ (some a) f=f a:=rfl
@[simp] theorem ahU {α β:Type} (f:α->Option β):bJ none f=none:=rfl
def Bz{α:Type}(b:Bool)(x y:Option α):Option α:=match b with
 |true=>x
 |false=>y
@[congr] theorem aiV {α:Type} {b b':Bool} {x y:Option α} (h:b=b'):Bz b x y=Bz b' x y:=by rw[h]
@[simp] theorem vO {α:Type} (x y:Option α):Bz true x y=x:=rfl
@[simp] theorem qm {α:Type} (x y:Option α):Bz false x y=y:=rfl
@[simp] theorem Qg {α β:Type} (b:Bool) (x y:Option α) (f:α->Option β):bJ (Bz b x y) f=Bz b (bJ x f) (bJ y f):=by cases b<;>rfl
open Classical in
noncomputable def cu{α:Type}(p:Prop)(x:Option α):Option α:=if p then x else none
@[congr] theorem aeo {α:Type} {p p':Prop} {x:Option α} (h:p=p'):cu p x=cu p' x:=by rw[h]
theorem fh{α:Type}{p:Prop}{x:Option α}(h:p):cu p x=x:=aZ h
@[simp] theorem Mp {α:Type} (x:Option α):cu True x=x:=if_pos trivial
@[simp] theorem aep {α:Type} (x:Option α):cu False x=none:=if_neg not_false
@[simp] theorem aen {α β:Type} (p:Prop) (x:Option α) (f:α->Option β):bJ (cu p x) f=cu p (bJ x f):=by
 unfold cu; split<;>rfl
def hZ:Env->Nat->ag
 | [],_ => .any
 |(k,v)::e,t=>if k=t then v else hZ e t
def ag.cells:ag->List ag
 | .agg cs=>cs
 |x=>[x]
def ag.je:ag->Bool
 | .agg _ | .tuple _ | .any | .nH _=>false
 | .raw v=>match v with | .agg _ | .tuple _=>false|_=>true
 |_=>true
def ag.cells?:ag->Option (List ag)
 | .agg cs=>some cs
 | .tuple _ | .any | .nH _=>none
 | .raw (.agg _)=>none
 |x=>some [x]
def ag.shut:ag->ag
 | .slice _ xs => .slice .sh xs
 |x=>x
def ag.fU:ag->ag
 | .slice _ xs => .slice .sh xs
 | .agg cs => .agg (cs.map ag.shut)
 |x=>x
def ag.plainCell:ag->Bool
 | .bool _ | .int .. | .str _=>true
 | .slice .sh _=>true
 | .raw v=>match v with | .pointer none | .nilFunc | .nilIface | .map none | .func _ ⟨[]⟩ ⟨[]⟩=>true|_=>false
 |_=>false
def ag.plain:ag->Bool
 | .agg cs=>cs.all ag.plainCell
 |x=>x.plainCell
def ag.jy(bS:Nat)(M:aC):ag->ag
 | .slice (.own k) xs=>if k<bS then .slice (.own k) xs else .slice .sh xs
 | .ptr id off=>if id<bS then .ptr id off else .any
 | .iy id=>if id<bS then .iy id else .any
 | .ka id=>if id<bS then .ka id else .any
 | .cE id ver sz lo hi=>if id<bS then .cE id ver sz lo hi else match M[id]? with
  |some (.arr _ v xs)=>if v=ver then .slice .sh ((xs.take hi).drop lo) else .any
  |_ => .any
 | .jv id ver i off=>if id<bS then .jv id ver i off else .any
 | .kv t id off=>if id<bS then .kv t id off else .any
 | .func _ _ | .agg _ | .tuple _ => .any
 |x=>x
def ag.jH(bS:Nat)(M:aC):ag->ag
 | .func f caps => .func f (caps.map (ag.jy bS M))
 |x=>x.jy bS M
def ag.j4(bS:Nat)(M:aC):ag->ag
 | .agg cs => .agg (cs.map (ag.jH bS M))
 |x=>x.jH bS M
def ag.mG(bS:Nat)(M:aC):ag->ag
 | .tuple vs => .tuple (vs.map (ag.j4 bS M))
 |x=>x.j4 bS M
def cV.back(bS:Nat)(M:aC):cV->cV
 | .cells cs => .cells (cs.map (ag.jH bS M))
 | .tick sz n => .tick sz n
 | .map ks vs => .map ks (vs.map (ag.j4 bS M))
 | .nY s p => .nY s p
 | .arr sz v xs => .arr sz v xs
 | .vZ => .vZ
def iB(bS:Nat)(M:aC):aC:=(M.take bS).map (cV.back bS M)
def wD(bS:Nat)(M:aC)(bp:Env):Env:=bp.map fun x=>(x.1,x.2.mG bS M)
def ag.jM(bS:Nat)(M:aC):ag->ag
 | .slice _ xs => .slice .sh xs
 | .iy id=>if id<bS then .iy id else match M[id]? with
  |some (.map ks vs)=>if vs.all ag.plain&&ks.all ag.plainCell then .kj ks vs else .any
  |_ => .any
 |x=>x.jH bS M
def ag.ki(bS:Nat)(M:aC):ag->ag
 | .agg cs => .agg (cs.map (ag.jM bS M))
 |x=>x.jM bS M
def ag.kK(bS:Nat)(M:aC):ag->ag
 | .tuple vs => .tuple (vs.map (ag.ki bS M))
 |x=>x.ki bS M
def ag.iH:ag->List Nat
 | .ptr id _ | .iy id | .ka id | .cE id _ _ _ _ | .jv id _ _ _=>[id]
 | .slice (.own k) _=>[k]
 | .kv _ id _=>[id]
 |_=>[]
def ag.nG:ag->List Nat
 | .func _ caps=>caps.flatMap ag.iH
 |x=>x.iH
def ag.ids:ag->List Nat
 | .agg cs=>cs.flatMap ag.nG
 |x=>x.nG
def ag.Ja:ag->Bool
 | .func _ _ | .agg _ | .tuple _=>false
 |_=>true
def ag.vH:ag->Bool
 | .func _ caps=>caps.all ag.Ja
 | .agg _ | .tuple _=>false
 |_=>true
def ag.flat:ag->Bool
 | .agg cs=>cs.all ag.vH
 |x=>x.vH
def cV.flat:cV->Bool
 | .vZ=>false
 | .cells cs=>cs.all ag.vH
 | .map _ vs=>vs.all ag.flat
 |_=>true
def ag.uw(ρ:Nat->Nat):ag->ag
 | .ptr id off => .ptr (ρ id) off
 | .iy id => .iy (ρ id)
 | .ka id => .ka (ρ id)
 | .cE id v sz lo hi => .cE (ρ id) v sz lo hi
 | .jv id v i off => .jv (ρ id) v i off
 | .slice (.own k) xs => .slice (.own (ρ k)) xs
 | .kv t id off => .kv t (ρ id) off
 |x=>x
def ag.si(ρ:Nat->Nat):ag->ag
 | .func f caps => .func f (caps.map (ag.uw ρ))
 |x=>x.uw ρ
def ag.pv(ρ:Nat->Nat):ag->ag
 | .agg cs => .agg (cs.map (ag.si ρ))
 |x=>x.si ρ
def ag.Ax(ρ:Nat->Nat):ag->ag
 | .tuple vs => .tuple (vs.map (ag.pv ρ))
 |x=>x.pv ρ
def ag.wH:ag->Bool
 | .tuple vs=>vs.all ag.flat
 |x=>x.flat
def cV.pv(ρ:Nat->Nat):cV->cV
 | .cells cs => .cells (cs.map (ag.si ρ))
 | .map ks vs => .map ks (vs.map (ag.pv ρ))
 |b=>b
def cV.ids:cV->List Nat
 | .cells cs=>cs.flatMap ag.nG
 | .map _ vs=>vs.flatMap ag.ids
 |_=>[]
def nth{α:Type}:List α->Nat->Option α
 | [],_=>none
 |a::_,0=>some a
 |_::l,n+1=>nth l n
def jo{α:Type}:List α->Nat->α->List α
 | [],_,_=>[]
 |_::l,0,x=>x::l
 |a::l,n+1,x=>a::jo l n x
def ke:List Nat->List Nat->List Nat
 |a,[]=>a
 |a,x::r=>ke (if a.contains x then a else a++[x]) r
def qy(M:aC):List Nat->List Nat
 | []=>[]
 |i::r=>(match nth M i with|some b=>b.ids|none=>[])++qy M r
def kE(M:aC)(acc:List Nat):List Nat:=ke acc (qy M acc)
def reach(M:aC)(l:List Nat):List Nat:=kE M (kE M (kE M (ke [] l)))
def iw:List Nat->Nat->Nat
 | [],_=>0
 |a::l,x=>if a=x then 0 else iw l x+1
def wC(ids:List Nat)(i:Nat):Nat:=(nth ids i).getD 0
def j7(M:aC)(ρ:Nat->Nat):List Nat->Option aC
 | []=>some []
 |i::r=>match nth M i with
  |some b=>if b.flat then bJ (j7 M ρ r) fun l=>some (b.pv ρ::l) else none
  |none=>none
def mc(ids:List Nat)(M:aC):List Nat->aC->aC
 |i::r,b::l=>mc ids (jo M i (b.pv (wC ids))) r l
 |_,_=>M
def ag.oZ(M:aC):ag->ag
 | .cE id ver sz lo hi=>match nth M id with
  |some (.arr _ v xs)=>if v=ver then .slice .sh ((xs.take hi).drop lo) else .any
  |_ => .any
 |x=>x
def ag.rz(M:aC):ag->ag
 | .agg cs => .agg (cs.map (ag.oZ M))
 |x=>x.oZ M
def qE(M:aC):List Nat->aC
 | []=>M
 |i::r=>match nth M i with
  |some (.arr sz _ xs)=>qE (jo M i (.tick sz xs.length)) r
  |_=>qE M r
inductive fY where
 |tmp (t:Nat)
 |ti (v:ag)
def fY.ev(bp:Env):fY->ag
 | .tmp t=>hZ bp t
 | .ti v=>v
inductive OB where
 |add|sub|mul|quo|rem|eql|neq|lss|leq|gtr|geq|shl|shr|and|or|bic
 deriving DecidableEq,Repr
inductive FK where
 |i|s|b
 deriving DecidableEq
inductive kG where
 |mv (x:fY)
 |own (sz:Nat) (x:fY)
 |pick (c a b:fY)
 |yX (cs:List ag)
 |box (x:fY)
 |build (zero:List ag) (parts:List (Nat×Nat×fY))
 |lits (sz:Nat) (parts:List fY)
 |Gk (sz:Nat) (parts:List fY)
 |mM (n:Nat) (x:fY)
 |rE (x:fY)
 |store (n:Nat) (a x:fY)
 |BM (sz p n:Nat) (a x:fY)
 |chk (x:fY)
 |bin (op:OB) (x y:fY)
 |Q6 (ks:List FK) (neg:Bool) (x y:fY)
 |eqB (neg:Bool) (x y:fY)
 |not (x:fY)
 |neg (x:fY)
 |conv (k:IntKind) (x:fY)
 |same (x:fY)
 |fn (f:Nat) (caps:List fY)
 |FF (f:Nat) (firsts:List fY)
 |BI (x:fY) (lo hi:Option fY)
 |uA (sz:Nat) (x:fY) (lo hi mx:Option fY)
 |Pn (sz:Nat) (x hi:fY)
 |yF (off:Nat) (x:fY)
 |DL (off n:Nat) (x:fY)
 |DK (off:Nat) (x:fY)
 |ui (sz:Nat) (x i:fY)
 |Bi (n sz:Nat) (x i:fY)
 |Bj (x i:fY)
 |extract (x:fY) (i:Nat)
 |call (f:Nat) (args:List fY)
 |sB (f:fY) (args:List fY)
 |B5 (f:fY) (args:List fY)
 |B4 (f:Nat) (args:List fY)
 |lk (f:Nat) (args:List fY)
 |wE (f:Nat) (args:List fY)
 |xe (sz:Nat) (zero:List ag) (x:fY)
 |V5 (x:fY)
 |Aa (x:fY)
 |append (sz bytes:Nat) (x y:fY)
 |Bw (mx:Bool) (x y:fY)
 |b2s (x:fY)
 |mkMap
 |look (fk:FK) (zero:ag) (ok:Bool) (m k:fY)
 |gH (fk:FK) (m k v:fY)
 |P0 (m:fY)
 |QF (x:fY)
 |Gq (it:fY)
 |iface (t:Nat) (x:fY)
 |raise (x:fY)
 |mkS (zero:List ag) (n:fY)
 |Qd (zero:List ag) (n:fY)
 |xX (sz bytes:Nat) (zero:List ag) (x n:fY)
 |wb (sz bytes:Nat) (x y:fY)
 |FM (sz:Nat) (x y:fY)
 |O8 (sz:Nat)
structure dg where
 dst:Option Nat
 op:kG
 guard:Option (Nat×Bool)
 grow:Bool:=false
 xD:Bool:=false
 sep:List Nat:=[]
 stop:Bool:=true
def ob(d:Nat)(o:kG):dg:=⟨some d,o,none,false,false,[],true⟩
def og(d g:Nat)(b:Bool)(o:kG):dg:=⟨some d,o,some (g,b),false,false,[],true⟩
def ox(o:kG):dg:=⟨none,o,none,false,false,[],true⟩
def kG.RY:kG->Bool
 | .call .. | .sB .. | .B5 .. | .B4 .. | .lk .. | .raise _=>true
 |_=>false
inductive cG where
 |skip
 |region (ops:List dg) (draw:Bool) (live:List Nat)
 |seq (a b:cG)
 |cond (c:fY) (x y:cG)
 |block (id:Nat) (c:cG)
 |loop (live:List Nat) (c:cG)
 |nF (live:List Nat) (c:cG)
 |rz (t:Nat) (c:cG)
 |exit (id:Nat)
 |ret
inductive ace where
 |normal|exit (id:Nat)|ret|nH (v:Value)
abbrev eL:=Nat->List ag->aC->Option (ag×aC)
def strLt:List UInt8->List UInt8->Bool
 |_,[]=>false
 | [],_::_=>true
 |a::x,b::y=>a<b||(a==b&&strLt x y)
def D2(k:IntKind)(a b:Int):Int:=k.wrap (BitVec.ofInt k.bits a &&& BitVec.ofInt k.bits b).toNat
def ior(k:IntKind)(a b:Int):Int:=k.wrap (BitVec.ofInt k.bits a ||| BitVec.ofInt k.bits b).toNat
def Ho(k:IntKind)(a b:Int):Int:=k.wrap (BitVec.ofInt k.bits a &&& ~~~BitVec.ofInt k.bits b).toNat
def qB(b:UInt8):ag := .int .u8 b.toNat
def p7(op:OB):ag->ag->Option ag
 | .int k a,.int k' b =>
  match op with
  | .shl=>if 0<=b then some (.int k (k.wrap (a*2 ^ (min b.toNat k.bits)))) else none
  | .shr=>if 0<=b then some (.int k (a.fdiv (2 ^ (min b.toNat k.bits)))) else none
  |op=>if k≠k' then none else
   match op with
   | .add=>some (.int k (k.wrap (a+b)))
   | .sub=>some (.int k (k.wrap (a-b)))
   | .mul=>some (.int k (k.wrap (a*b)))
   | .quo=>if b=0 then none else some (.int k (k.wrap (a.tdiv b)))
   | .rem=>if b=0 then none else some (.int k (a.tmod b))
   | .eql=>some (.bool (a==b))
   | .neq=>some (.bool (a != b))
   | .lss=>some (.bool (a<b))
   | .leq=>some (.bool (a<=b))
   | .gtr=>some (.bool (a>b))
   | .geq=>some (.bool (a>=b))
   | .and=>some (.int k (D2 k a b))
   | .or=>some (.int k (ior k a b))
   | .bic=>some (.int k (Ho k a b))
   |_=>none
 | .str a,.str b =>
  match op with
  | .add=>if ((a.length+b.length:Nat):Int)>IntKind.i64.max then none else some (.str (a++b))
  | .eql=>some (.bool (a==b))
  | .neq=>some (.bool (a != b))
  | .lss=>some (.bool (strLt a b))
  | .leq=>some (.bool (strLt a b||a==b))
  | .gtr=>some (.bool (!(strLt a b||a==b)))
  | .geq=>some (.bool (!(strLt a b)))
  |_=>none
 |_,_=>none
def kC:FK->ag->ag->Option Bool
 | .i,.int k a,.int k' b=>if k=k' then some (a==b) else none
 | .s,.str a,.str b=>some (a==b)
 | .b,.bool a,.bool b=>some (a==b)
 |_,_,_=>none
def kZ:List FK->List ag->List ag->Option Bool
 | [],[],[]=>some true
 |k::ks,a::x,b::y=>bJ (kC k a b) fun e=>bJ (kZ ks x y) fun f=>some (e&&f)
 |_,_,_=>none
def ag.norm:ag->ag
 | .agg [c]=>c
 |x=>x
def valOf:ag->Option Value
 | .int k n=>some (.int k n)
 | .agg [.int k n]=>some (.agg #[.int k n])
 |_=>none
def bytesOf:List ag->Option (List UInt8)
 | []=>some []
 | .int .u8 n::r=>bJ (bytesOf r) fun l=>some (UInt8.ofNat n.toNat::l)
 |_=>none
def xx(fk:FK)(k:ag):List ag->List ag->Option (Option ag)
 | [],[]=>some none
 |k'::ks,v::vs=>bJ (kC fk k k') fun b=>Bz b (some (some v)) (xx fk k ks vs)
 |_,_=>none
def xz(fk:FK)(k v:ag):List ag->List ag->Option (List ag×List ag)
 | [],[]=>bJ (kC fk k k) fun _=>some ([k],[v])
 |k'::ks,v'::vs=>bJ (kC fk k k') fun b=>Bz b (some (k::ks,v::vs)) (bJ (xz fk k v ks vs) fun x=>some (k'::x.1,v'::x.2))
 |_,_=>none
def pt(zero:ag)(ok:Bool)(r:Option ag):ag:=match ok with
 |true => .tuple [r.getD zero,.bool r.isSome]
 |false=>r.getD zero
def mapOf(M:aC):ag->Option (List ag×List ag)
 | .iy id=>match nth M id with|some (.map ks vs)=>some (ks,vs)|_=>none
 | .kj ks vs=>some (ks,vs)
 |_=>none
def mQ(cs:List ag)(off:Nat)(new:List ag):List ag:=cs.take off++(new++cs.drop (off+new.length))
def putCells(e:ag)(off:Nat)(new:List ag):ag:=match e,new with
 | .agg cs,new => .agg (mQ cs off new)
 |_,[c]=>c
 |e,_=>e
def mo(bp:Env):List ag->List (Nat×Nat×fY)->Option (List ag)
 |cs,[]=>some cs
 |cs,(off,n,x)::r =>
  bJ (x.ev bp).cells? fun new=>if new.length=n/\off+n<=cs.length then mo bp (mQ cs off new) r else none
def tc(bp:Env)(sz:Nat):List fY->Option (List ag)
 | []=>some []
 |x::r=>if (x.ev bp).fU.plain=true/\(x.ev bp).fU.cells.length=sz then bJ (tc bp sz r) fun l=>some ((x.ev bp).fU::l) else none
def gA(bp:Env)(n:Nat):Option fY->Option Int
 |none=>some n
 |some x=>match x.ev bp with | .int _ i=>some i|_=>none
def wid(xs:List ag)(sz:Nat):Prop:=∀x,x∈xs->x.cells.length=sz
def cB(n bytes:Nat):Prop:=n*bytes<=2 ^ 44
noncomputable def aR(call:eL)(f:Nat)(vs:List ag)(M:aC):Option (ag×aC) :=
 if vs.all ag.flat then
  bJ (j7 M (iw (reach M (vs.flatMap ag.ids))) (reach M (vs.flatMap ag.ids))) fun B =>
   if kE M (reach M (vs.flatMap ag.ids))=reach M (vs.flatMap ag.ids) then
    bJ (call f (vs.map (ag.pv (iw (reach M (vs.flatMap ag.ids))))) B) fun x =>
     if x.2.length=B.length/\x.1.wH=true/\x.2.all cV.flat=true then some (x.1.Ax (wC (reach M (vs.flatMap ag.ids))),mc (reach M (vs.flatMap ag.ids)) M (reach M (vs.flatMap ag.ids)) x.2) else none
   else none
 else none
noncomputable def BE(call:eL)(f:Nat)(vs:List ag)(M:aC):Option (ag×aC) :=
 if vs.all ag.flat=true/\vs.flatMap ag.ids=[] then
  bJ (call f vs []) fun x=>match x.1,x.2 with
   | .slice (.own 0) xs,[.tick sz n]=>some (.slice (.own M.length) xs,M++[.tick sz n])
   |_,_=>none
 else none
def Qw(sz L:Nat):ag:=if 500<=sz then .cE L 0 (sz-500) 0 0 else .slice (.own L) []
def Qv(sz:Nat):cV:=if 500<=sz then .arr (sz-500) 0 [] else .tick sz 0
noncomputable def eo(call:eL)(bp:Env)(M:aC):kG->Option (ag×aC)
 | .mv x=>some (x.ev bp,M)
 | .own sz x =>
  match x.ev bp with
  | .slice .c0 []=>some (Qw sz M.length,M++[Qv sz])
  |v=>some (v,M)
 | .pick c a b=>match c.ev bp with
  | .bool t=>Bz t (some (a.ev bp,M)) (some (b.ev bp,M))
  |_=>none
 | .yX cs=>some (.ptr M.length 0,M++[.cells cs])
 | .box x=>bJ (x.ev bp).cells? fun cs=>some (.ptr M.length 0,M++[.cells cs])
 | .build zero parts=>bJ (mo bp zero parts) fun cs=>some (.agg cs,M)
 | .lits sz parts=>bJ (tc bp sz parts) fun l=>some (match l with|[] => .slice .c0 []|_ => .slice .sh l,M)
 | .Gk sz parts=>bJ (tc bp sz parts) fun l=>some (.slice (.own M.length) l,M++[.tick sz l.length])
 | .mM n x =>
  match x.ev bp with
  | .ptr id off=>match nth M id with
   |some (.cells cs)=>if off+n<=cs.length then some (.agg ((cs.drop off).take n),M) else none
   |_=>none
  | .jF cs=>if n<=cs.length then some (.agg (cs.take n),M) else none
  | .jv id ver i off=>match nth M id with
   |some (.arr _ v xs)=>if v=ver then bJ (xs[i]?) fun e=>if off+n<=e.cells.length then some (.agg ((e.cells.drop off).take n),M) else none else none
   |_=>none
  |_=>none
 | .rE x =>
  match x.ev bp with
  | .ptr id off=>match nth M id with
   |some (.cells cs)=>bJ (nth cs off) fun c=>some (c,M)
   |_=>none
  | .jF cs=>bJ (nth cs 0) fun c=>some (c,M)
  | .jv id ver i off=>match nth M id with
   |some (.arr _ v xs)=>if v=ver then bJ (xs[i]?) fun e=>bJ (nth e.cells off) fun c=>some (c,M) else none
   |_=>none
  |_=>none
 | .store n a x =>
  match a.ev bp with
  | .ptr id off=>match nth M id with
   |some (.cells cs)=>bJ (x.ev bp).cells? fun new =>
    if new.length=n/\off+n<=cs.length/\new.all ag.je=true then some (.any,jo M id (.cells (mQ cs off new))) else none
   |_=>none
  | .jv id ver i off=>match nth M id with
   |some (.arr sz v xs)=>bJ (x.ev bp).cells? fun new=>bJ (xs[i]?) fun e =>
    if v=ver/\new.length=n/\off+n<=e.cells.length/\(new.map ag.shut).all ag.plainCell=true then some (.any,jo M id (.arr sz ver (jo xs i (putCells e off (new.map ag.shut))))) else none
   |_=>none
  |_=>none
 | .BM sz p n a x =>
  match a.ev bp with
  | .ptr id off=>match nth M id with
   |some (.cells cs)=>bJ (x.ev bp).cells? fun new =>
    match nth new p with
    |some (.slice .c0 [])=>if new.length=n/\off+n<=cs.length/\new.all ag.je=true then some (.any,jo M id (.cells (mQ cs off (jo new p (Qw sz M.length))))++[Qv sz]) else none
    |_=>none
   |_=>none
  |_=>none
 | .chk x=>match x.ev bp with
  | .ptr id off=>some (.ptr id off,M)
  | .jF cs=>some (.jF cs,M)
  | .func f caps=>some (.func f caps,M)
  | .jv id v i off=>some (.jv id v i off,M)
  |_=>none
 | .bin op x y=>bJ (p7 op (x.ev bp) (y.ev bp)) fun v=>some (v,M)
 | .Q6 ks neg x y =>
  match x.ev bp,y.ev bp with
  | .agg a,.agg b=>bJ (kZ ks a b) fun e=>some (.bool (match neg with|true => !e|false=>e),M)
  |_,_=>none
 | .eqB neg x y=>match x.ev bp,y.ev bp with
  | .bool a,.bool b=>some (.bool (match neg with|true => !(a==b)|false=>a==b),M)
  |_,_=>none
 | .not x=>match x.ev bp with | .bool b=>some (.bool (!b),M)|_=>none
 | .neg x=>match x.ev bp with | .int k n=>some (.int k (k.wrap (0-n)),M)|_=>none
 | .conv k x=>match x.ev bp with | .int _ n=>some (.int k (k.wrap n),M)|_=>none
 | .same x=>match x.ev bp with | .str s=>some (.str s,M)|_=>none
 | .fn f caps=>some (.func f (caps.map (fY.ev bp)),M)
 | .FF f firsts=>if (firsts.map fun x=>(x.ev bp).fU).all ag.plain then some (.rb f (firsts.map fun x=>(x.ev bp).fU),M) else none
 | .BI x lo hi =>
  match x.ev bp with
  | .str s=>bJ (gA bp s.length hi) fun h=>bJ (gA bp 0 lo) fun l =>
   cu (0<=h/\h<=s.length/\0<=l/\l<=h) (some (.str ((s.take h.toNat).drop l.toNat),M))
  |_=>none
 | .uA sz x lo hi mx =>
  match x.ev bp with
  | .slice _ xs=>cu (wid xs sz) <| bJ (gA bp xs.length hi) fun h=>bJ (gA bp 0 lo) fun l =>
   match mx with
   |none=>cu (0<=h/\h<=xs.length/\0<=l/\l<=h) (some (.slice .sh ((xs.take h.toNat).drop l.toNat),M))
   |some m=>match m.ev bp with
    | .int _ m=>cu (0<=m/\m<=xs.length/\0<=h/\h<=m/\0<=l/\l<=h)
      (Bz (m==0) (some (.slice .c0 [],M)) (some (.slice .sh ((xs.take h.toNat).drop l.toNat),M)))
    |_=>none
  | .cE id v sz' al ah=>cu (sz'=sz) <| bJ (gA bp (ah-al) hi) fun h=>bJ (gA bp 0 lo) fun l =>
   match mx with
   |none=>cu (0<=h/\h<=(ah-al:Nat)/\0<=l/\l<=h) (Bz (l==h) (some (.slice .sh [],M)) (some (.cE id v sz (al+l.toNat) (al+h.toNat),M)))
   |some m=>match m.ev bp with
    | .int _ m=>cu (0<=m/\m<=(ah-al:Nat)/\0<=h/\h<=m/\0<=l/\l<=h)
      (Bz (m==0) (some (.slice .c0 [],M)) (Bz (l==h) (some (.slice .sh [],M)) (some (.cE id v sz (al+l.toNat) (al+h.toNat),M))))
    |_=>none
  |_=>none
 | .Pn sz x hi =>
  match x.ev bp,hi.ev bp with
  | .cE id v sz' lo ah,.int _ h=>cu (sz'=sz/\lo=0/\0<=h/\h<ah) (some (.cE id v sz 0 h.toNat,M))
  |_,_=>none
 | .yF off x=>match x.ev bp with
  | .ptr id o=>some (.ptr id (o+off),M)
  | .jF cs=>some (.jF (cs.drop off),M)
  | .jv id v i o=>some (.jv id v i (o+off),M)
  |_=>none
 | .DL off n x=>match x.ev bp with
  | .agg cs=>if off+n<=cs.length then some (.agg ((cs.drop off).take n),M) else none
  |_=>none
 | .DK off x=>match x.ev bp with
  | .agg cs=>bJ (nth cs off) fun c=>some (c,M)
  |_=>none
 | .ui sz x i =>
  match x.ev bp,i.ev bp with
  | .slice _ xs,.int _ n=>cu (0<=n) (bJ (xs[n.toNat]?) fun e=>if e.cells.length=sz then some (.jF e.cells,M) else none)
  | .cE id v sz' lo hi,.int _ n=>cu (0<=n/\n<(hi-lo:Nat)/\sz'=sz) (some (.jv id v (lo+n.toNat) 0,M))
  |_,_=>none
 | .Bi n sz x i =>
  match x.ev bp,i.ev bp with
  | .jF cs,.int _ m=>cu (0<=m/\m<n/\n*sz<=cs.length) (some (.jF (cs.drop (m.toNat*sz)),M))
  | .ptr id off,.int _ m=>cu (0<=m/\m<n) (some (.ptr id (off+m.toNat*sz),M))
  |_,_=>none
 | .Bj x i =>
  match x.ev bp,i.ev bp with
  | .str s,.int _ n=>cu (0<=n) (bJ (s[n.toNat]?) fun b=>some (.int .u8 b.toNat,M))
  |_,_=>none
 | .extract x i=>match x.ev bp with | .tuple vs=>bJ (nth vs i) fun v=>some (v,M)|_=>none
 | .call f args=>aR call f (args.map fun x=>(x.ev bp).fU) M
 | .B4 f args=>call f (args.map (fY.ev bp)) M
 | .B5 f args=>match f.ev bp with
  | .func g caps=>call g (args.map (fY.ev bp)++caps) M
  |_=>none
 | .lk f args=>aR call f (args.map fun x=>((x.ev bp).rz M).fU) (qE M ((args.map (fY.ev bp)).flatMap ag.ids))
 | .wE f args=>BE call f (args.map fun x=>(x.ev bp).fU) M
 | .xe sz zero x=>match x.ev bp with
  | .slice _ xs=>match xs with|[]=>some (.any,M)|_=>none
  | .cE id ver sz' lo hi=>match nth M id with
   |some (.arr sz0 v xs)=>if v=ver/\sz'=sz/\zero.length=sz/\zero.all ag.plainCell=true then some (.any,jo M id (.arr sz0 ver (xs.take lo++(List.replicate (hi-lo) (.agg zero)++xs.drop hi)))) else none
   |_=>none
  |_=>none
 | .sB f args=>match f.ev bp with
  | .func g caps=>aR call g ((args.map fun x=>(x.ev bp).fU)++caps) M
  | .rb g fs=>aR call g (fs++args.map fun x=>(x.ev bp).fU) M
  | .raw v=>match v with
   | .func (.func g) ⟨[]⟩ ⟨[]⟩=>aR call g (args.map fun x=>(x.ev bp).fU) M
   |_=>none
  |_=>none
 | .V5 x=>match x.ev bp with | .str s=>some (.int .i64 s.length,M)|_=>none
 | .Aa x=>match x.ev bp with
  | .slice _ xs=>some (.int .i64 xs.length,M)
  | .cE _ _ _ lo hi=>some (.int .i64 (hi-lo:Nat),M)
  |_=>none
 | .append sz bytes x y =>
  match x.ev bp,y.ev bp with
  | .slice tk xs,.slice _ ys =>
   cu (cB (xs.length+ys.length) bytes/\wid xs sz/\wid ys sz) (
    match tk with
    | .c0=>match xs with|[]=>some (.slice (.own M.length) ys,M++[.tick sz ys.length])|_=>none
    | .own k=>match nth M k with
     |some (.tick sz' n)=>cu (sz'=sz/\n=xs.length) (some (.slice (.own k) (xs++ys),jo M k (.tick sz (xs.length+ys.length))))
     |_=>none
    | .sh=>none)
  | .cE id ver sz' lo hi,.slice _ ys=>match nth M id with
   |some (.arr sz0 v xs)=>cu (v=ver/\sz'=sz/\lo=0/\hi<=xs.length/\cB (hi+ys.length) bytes/\wid (xs.take hi) sz/\wid ys sz)
     (Bz (ys.length==0) (some (.cE id ver sz lo hi,M)) (some (.cE id (ver+1) sz 0 (hi+ys.length),jo M id (.arr sz0 (ver+1) (xs.take hi++ys)))))
   |_=>none
  |_,_=>none
 | .Bw mx x y=>match x.ev bp,y.ev bp with
  | .int k a,.int _ b=>some (.int k (match mx with|true=>if b>a then b else a|false=>if b<a then b else a),M)
  |_,_=>none
 | .b2s x=>match x.ev bp with | .slice _ xs=>bJ (bytesOf xs) fun l=>some (.str l,M)|_=>none
 | .mkMap=>some (.iy M.length,M++[.map [] []])
 | .look fk zero ok m k=>bJ (mapOf M (m.ev bp)) fun e=>bJ (xx fk (k.ev bp) e.1 e.2) fun r=>some (pt zero ok r,M)
 | .gH fk m k v=>match m.ev bp with
  | .iy id=>match nth M id with
   |some (.map ks vs)=>bJ (xz fk (k.ev bp) (v.ev bp) ks vs) fun e=>some (.any,jo M id (.map e.1 e.2))
   |_=>none
  |_=>none
 | .P0 m=>bJ (mapOf M (m.ev bp)) fun e=>some (.int .i64 e.1.length,M)
 | .QF x=>match x.ev bp with | .str s=>some (.ka M.length,M++[.nY s 0])|_=>none
 | .Gq it=>match it.ev bp with
  | .ka id=>match nth M id with
   |some (.nY s pos)=>Bz (decide (pos<s.length))
     (some (.tuple [.bool true,.int .i64 pos,.int .i32 (Utf8.decode ⟨s.toArray⟩ pos).1],jo M id (.nY s (pos+(Utf8.decode ⟨s.toArray⟩ pos).2))))
     (some (.tuple [.bool false],M))
   |_=>none
  |_=>none
 | .mkS zero n=>match n.ev bp with
  | .int _ k=>cu (0<=k/\cB k.toNat (8*zero.length)/\zero.all ag.plainCell=true) (some (.slice .sh (List.replicate k.toNat (ag.agg zero).norm),M))
  |_=>none
 | .Qd zero n=>match n.ev bp with
  | .int _ k=>cu (0<=k/\cB k.toNat (8*zero.length)/\zero.all ag.plainCell=true) (some (.cE M.length 0 zero.length 0 k.toNat,M++[.arr zero.length 0 (List.replicate k.toNat (ag.agg zero).norm)]))
  |_=>none
 | .xX sz bytes zero x n =>
  match x.ev bp,n.ev bp with
  | .slice .c0 [],.int _ k=>cu (0<=k/\cB k.toNat bytes/\zero.length=sz/\zero.all ag.plainCell=true)
    (Bz (k==0) (some (.slice .c0 [],M)) (some (.cE M.length 0 sz 0 k.toNat,M++[.arr sz 0 (List.replicate k.toNat (ag.agg zero).norm)])))
  | .cE id ver sz' lo hi,.int _ k=>match nth M id with
   |some (.arr sz0 v xs)=>cu (v=ver/\sz'=sz/\lo=0/\hi=xs.length/\0<=k/\cB (xs.length+k.toNat) bytes/\zero.length=sz/\zero.all ag.plainCell=true/\0<xs.length)
     (Bz (k==0) (some (.cE id ver sz' lo hi,M)) (some (.cE id (ver+1) sz 0 (xs.length+k.toNat),jo M id (.arr sz0 (ver+1) (xs++List.replicate k.toNat (ag.agg zero).norm)))))
   |_=>none
  |_,_=>none
 | .wb sz bytes x y =>
  match x.ev bp,y.ev bp with
  | .slice .c0 [],.slice _ ys=>cu (cB ys.length bytes/\wid ys sz) (some (.cE M.length 0 sz 0 ys.length,M++[.arr sz 0 ys]))
  |_,_=>none
 | .FM sz x y =>
  match x.ev bp,y.ev bp with
  | .slice .sh [],.slice _ ys=>cu (wid ys sz) (some (.int .i64 0,M))
  | .cE id ver sz' lo hi,.slice _ ys=>match nth M id with
   |some (.arr sz0 v xs)=>cu (v=ver/\sz'=sz/\wid ys sz/\0<xs.length)
     (some (.int .i64 (min ys.length (hi-lo):Nat),jo M id (.arr sz0 ver (xs.take lo++(ys.take (min ys.length (hi-lo))++xs.drop (lo+min ys.length (hi-lo)))))))
   |_=>none
  |_,_=>none
 | .O8 sz=>some (.ptr (M.length+1) 0,M++[.arr sz 0 [],.cells [.cE M.length 0 sz 0 0]])
 | .iface t x=>match x.ev bp with
  | .ptr id off=>some (.kv t id off,M)
  |y=>bJ (valOf y) fun v=>some (.raw (.iface t v),M)
 | .raise x=>match x.ev bp with
  | .raw v=>match v with
   | .iface t u=>some (.nH (.iface t u),M)
   |_=>none
  |_=>none
def rH(bp:Env)(dst:Option Nat)(v:ag):Env :=
 match dst with
 |some d=>(d,v)::bp
 |none=>bp
def kG.eF(bp:Env):kG->List Nat
 | .call _ args=>(args.map fun x=>(x.ev bp).fU).flatMap ag.ids
 | .sB f args=>match f.ev bp with
  | .func _ caps=>((args.map fun x=>(x.ev bp).fU)++caps).flatMap ag.ids
  | .rb _ fs=>(fs++args.map fun x=>(x.ev bp).fU).flatMap ag.ids
  | .raw v=>match v with
   | .func (.func _) ⟨[]⟩ ⟨[]⟩=>(args.map fun x=>(x.ev bp).fU).flatMap ag.ids
   |_=>[]
  |_=>[]
 |_=>[]
def zt(bp:Env)(M M':aC):List Nat->Prop
 | []=>True
 |z::r=>(match hZ bp z with
  | .ptr id _=>nth M' id=nth M id
  |_=>False)/\zt bp M M' r
noncomputable def qv(call:eL)(o:dg)(bp:Env)(M:aC):Option (ag×aC) :=
 match o.xD with
 |true=>cu (o.op.eF bp=[]) (eo call bp M o.op)
 |false=>match o.grow with
  |false=>eo call bp M o.op
  |true=>bJ (eo call bp M o.op) fun x=>cu (M <+: x.2\/(o.sep≠[]/\zt bp M x.2 o.sep)) (some x)
structure Out where
 e:ace
 bp:Env
 mem:aC
def E7(c:Bool)(x:ag×aC)(k:Option Out):Option Out:=match x.1 with
 | .nH v=>match c with
  |true=>some ⟨.nH v,[],x.2⟩
  |false=>none
 |_=>k
def dg.lets(o:dg):Bool:=o.op.RY&&o.stop
noncomputable def gu(call:eL):List dg->Env->aC->Option Out
 | [],bp,M=>some ⟨.normal,bp,M⟩
 |o::r,bp,M =>
  match o.guard with
  |none=>bJ (qv call o bp M) fun x=>E7 o.lets x (gu call r (rH bp o.dst x.1) x.2)
  |some (t,want)=>match hZ bp t with
   | .bool b=>Bz (b==want) (bJ (qv call o bp M) fun x=>E7 o.lets x (gu call r (rH bp o.dst x.1) x.2))
    (gu call r (rH bp o.dst (.tuple [])) M)
   | .tuple []=>gu call r (rH bp o.dst (.tuple [])) M
   |_=>none
def jI(bp:Env)(live:List Nat):Env:=live.map fun t=>(t,hZ bp t)
def Out.rn(live:List Nat)(o:Out):Out:=match o.e with
 | .normal=>⟨.normal,jI o.bp live,o.mem⟩
 |_=>o
open Classical in
noncomputable def lim{α:Type}(F:Nat->Option α):Option α:=if h:∃n,(F n).isSome=true then F (Classical.choose h) else none
def ug(o:Out)(k:Env->aC->Option Out):Option Out:=match o.e with
 | .normal=>k o.bp o.mem
 |_=>some o
def xE(id:Nat)(o:Out):Out:=match o.e with
 | .exit i=>if i=id then ⟨.normal,o.bp,o.mem⟩ else o
 |_=>o
def iter(g:Nat->Nat->Nat)(f:Env->aC->Option Out)(live:List Nat):Nat->Env->aC->Option Out
 |0,_,_=>none
 |n+1,bp,M=>bJ (f (jI bp live) M) fun o=>ug o fun e m=>iter g f live n (wD (g M.length m.length) m (jI e live)) (iB (g M.length m.length) m)
abbrev gL(a _b:Nat):Nat:=a
abbrev gR(_a b:Nat):Nat:=b
def LQ(M:aC)(t:Nat)(bp:Env):Env:=(t,(hZ bp t).rz M)::bp
noncomputable def eM(call:eL):cG->Env->aC->Option Out
 | .skip,bp,M=>some ⟨.normal,bp,M⟩
 | .region ops _ live,bp,M=>bJ (gu call ops bp M) fun o=>some (o.rn live)
 | .seq a b,bp,M=>bJ (eM call a bp M) fun o=>ug o (eM call b)
 | .cond c x y,bp,M=>match c.ev bp with
  | .bool t=>Bz t (eM call x bp M) (eM call y bp M)
  |_=>none
 | .block id c,bp,M=>bJ (eM call c bp M) fun o=>some (xE id o)
 | .loop live c,bp,M=>lim fun n=>iter gL (eM call c) live n bp M
 | .nF live c,bp,M=>lim fun n=>iter gR (eM call c) live n bp M
 | .rz t c,bp,M=>eM call c (LQ M t bp) (qE M (hZ bp t).ids)
 | .exit id,bp,M=>some ⟨.exit id,bp,M⟩
 | .ret,bp,M=>some ⟨.ret,bp,M⟩
inductive sV where
 |tmp (t:Nat)
 |dQ (t n:Nat)
 |acs (t:Nat)
structure eE where
 nparams:Nat
 results:List sV
 body:cG
def EI(bp:Env)(M:aC):sV->Option ag
 | .tmp t=>some (hZ bp t)
 | .dQ t n=>match hZ bp t with
  | .ptr id off=>match nth M id with
   |some (.cells cs)=>if off+n<=cs.length then some (.agg ((cs.drop off).take n)) else none
   |_=>none
  |_=>none
 | .acs t=>match hZ bp t with
  | .ptr id off=>match nth M id with
   |some (.cells cs)=>nth cs off
   |_=>none
  |_=>none
def te(bp:Env)(M:aC):List sV->Option (List ag)
 | []=>some []
 |r::rs=>bJ (EI bp M r) fun v=>bJ (te bp M rs) fun l=>some (v::l)
def one:List ag->ag
 | [v]=>v
 |l => .tuple l
def ef:Nat->List ag->Env
 |_,[]=>[]
 |i,v::r=>(i,v)::ef (i+1) r
def finish(res:List sV)(bS:Nat)(o:Out):Option (ag×aC) :=
 match o.e with
 | .exit _=>none
 | .nH v=>some (.nH v,iB bS o.mem)
 |_=>bJ (te o.bp o.mem res) fun l=>some ((one l).kK bS o.mem,iB bS o.mem)
structure zA where
 code:Nat->Option eE
 o4:Nat->Option (List ag->aC->Option (ag×aC))
noncomputable def kd(T:zA):Nat->eL
 |0,f,args,M=>match T.o4 f with
  |some g=>g args M
  |none=>none
 |n+1,f,args,M=>match T.o4 f with
  |some g=>g args M
  |none=>match T.code f with
   |none=>none
   |some fn=>if args.length=fn.nparams then bJ (eM (kd T n) fn.body (ef 0 args) M) (finish fn.results M.length) else none
noncomputable def aq(T:zA):eL:=fun f args M=>lim fun n=>kd T n f args M
theorem pU{α:Type}{F:Nat->Option α}(hm:∀n x,F n=some x->F (n+1)=some x){n:Nat}{x:α}(h:F n=some x):lim F=some x:=by
 have up:∀k n x,F n=some x->F (n+k)=some x:=by
  intro k;induction k<;>grind
 unfold lim;have hex:∃n,(F n).isSome=true:=⟨n,jO⟩;rw[dif_pos hex];have hc:=Classical.choose_spec hex;generalize Classical.choose _=m at *;obtain⟨y,hy⟩:=fA.1 hc;rcases Nat.le_total n m with hle|hle
 ·have:=up (m-n) n x h;rw[show n+(m-n)=m by omega] at this
  omega
 ·have:=up (n-m) m y hy;rw[show m+(n-m)=n by omega,h] at this
  rw[hy,this]
theorem uq{α:Type}{F:Nat->Option α}{x:α}(h:lim F=some x):∃n,F n=some x:=by
 unfold lim at h;split at h
 ·grind
 grind
def wV(C C':eL):Prop:=∀f a M x,C f a M=some x->C' f a M=some x
def bm{α β:Type}{x:Option α}{f:α->Option β}{y:β}(h:bJ x f=some y):∃a,x=some a/\f a=some y:=by
 cases x<;>simp_all
def lI{α:Type}{b:Bool}{x y:Option α}{z:α}(h:Bz b x y=some z):(b=true/\x=some z)\/(b=false/\y=some z):=by
 cases b
 ·simp_all
 simp_all
theorem dq{α:Type}{p:Prop}{x:Option α}{z:α}(h:cu p x=some z):p/\x=some z:=by
 grind [cu]
theorem oV{C:eL}{f:Nat}{vs:List ag}{M:aC}{x:ag×aC}(h:aR C f vs M=some x) :
  ∃a B y,C f a B=some y/\∀C':eL,C' f a B=some y->aR C' f vs M=some x:=by
 unfold aR at h;split at h
 ·obtain⟨B,hB,h⟩:=bm h;split at h
  ·obtain⟨y,hy,h⟩:=bm h;refine⟨_,B,y,hy,fun C' hC'=>?_⟩
   simp_all [aR]
  grind
 grind
theorem MP{C:eL}{bp:Env}{M:aC}{o:kG}{x:ag×aC}(h:eo C bp M o=some x) :
  (∀C':eL,eo C' bp M o=some x)\/∃f a B y,C f a B=some y/\∀C':eL,C' f a B=some y->eo C' bp M o=some x:=by
 cases o
 case call f args =>
  simp only[eo] at h ⊢;obtain⟨a,B,y,h1,h2⟩:=oV h;exact .inr ⟨f,a,B,y,h1,h2⟩
 case wE f args =>
  simp only[eo] at h ⊢;unfold BE at h;split at h
  ·rename_i hc;obtain⟨y,hy,h⟩:=bm h;refine .inr ⟨f,_,[],y,hy,fun C' hC'=>?_⟩
   unfold BE;rw[aZ hc,hC'];exact h
  ·cases h
 case B5 f args =>
  simp only[eo] at h ⊢;split at h
  ·exact .inr ⟨_,_,_,_,h,fun _ h'=>h'⟩
  ·cases h
 case B4 f args=>exact .inr ⟨f,_,_,_,h,fun _ h'=>h'⟩
 case lk f args =>
  simp only[eo] at h ⊢;obtain⟨a,B,y,h1,h2⟩:=oV h;exact .inr ⟨f,a,B,y,h1,h2⟩
 case sB f args =>
  simp only[eo] at h ⊢;split at h<;>grind [oV]
 all_goals exact .inl fun _=>h
theorem RG{C C':eL}(hC:wV C C'){bp:Env}{M:aC}{o:kG}{x:ag×aC}(h:eo C bp M o=some x):eo C' bp M o=some x:=by
 rcases MP h with h|⟨f,a,B,y,h1,h2⟩
 ·grind
 ·exact h2 _ (hC _ _ _ _ h1)
theorem r9{C:eL}{o:dg}{bp:Env}{M:aC}{x:ag×aC}(h:qv C o bp M=some x) :
  (o.xD=true/\o.op.eF bp=[]/\eo C bp M o.op=some x)\/(o.xD=false/\o.grow=false/\eo C bp M o.op=some x)\/(o.xD=false/\o.grow=true/\(M <+: x.2\/(o.sep≠[]/\zt bp M x.2 o.sep))/\eo C bp M o.op=some x):=by
 unfold qv at h;split at h
 ·grind [dq]
 ·split at h
  ·exact .inr (.inl ⟨by assumption,by assumption,h⟩)
  ·obtain⟨y,hy,h⟩:=bm h
   grind [dq]
theorem Dn{C C':eL}(hC:wV C C'){bp:Env}{M:aC}{o:dg}{x:ag×aC}(h:qv C o bp M=some x):qv C' o bp M=some x:=by
 grind [r9,qv,RG]
theorem N2{c:Bool}{x:ag×aC}{k:Option Out}{o:Out}(h:E7 c x k=some o):(x.1.jr=false/\k=some o)\/∃v,c=true/\x.1 = .nH v/\o=⟨.nH v,[],x.2⟩:=by
 obtain⟨x,M⟩:=x
 cases x<;>first
  |exact .inl ⟨rfl,h⟩
  |(cases c
    ·cases h
    ·injection h with h; grind)
def Ms{c:Bool}{x:ag×aC}{k:Option Out}(h:x.1.jr=false):E7 c x k=k:=by
 obtain⟨x,M⟩:=x;cases x<;>first|rfl|cases h
theorem N3{c:Bool}{x:ag×aC}{k:Option Out}{v:Value}(hc:c=true)(h:x.1 = .nH v):E7 c x k=some ⟨.nH v,[],x.2⟩:=by
 grind [E7]
theorem p9{C:eL}{o:dg}{r:List dg}{bp:Env}{M:aC}{x:Out}(h:gu C (o::r) bp M=some x) :
  (∃y,(∀t want,o.guard=some (t,want)->hZ bp t = .bool want)/\qv C o bp M=some y/\((y.1.jr=false/\gu C r (rH bp o.dst y.1) y.2=some x)\/∃v,o.lets=true/\y.1 = .nH v/\x=⟨.nH v,[],y.2⟩)) \/
  (∃t want,o.guard=some (t,want)/\(hZ bp t = .bool (!want)\/hZ bp t = .tuple [])/\gu C r (rH bp o.dst (.tuple [])) M=some x):=by
 unfold gu at h;split at h
 ·rename_i hg;obtain⟨y,hy,h⟩:=bm h
  grind [N2]
 ·rename_i t want hg;split at h
  ·rename_i b hb;rcases lI h with ⟨h1,h2⟩|⟨h1,h2⟩
   ·obtain⟨y,hy,h2⟩:=bm h2
    grind [N2]
   ·refine .inr ⟨t,want,hg,.inl ?_,h2⟩;cases b<;>cases want<;>simp_all
  ·grind
  grind
def r8{C:eL}{o:dg}{r:List dg}{bp:Env}{M:aC}{y:ag×aC}(hg:∀t want,o.guard=some (t,want)->hZ bp t = .bool want)
  (hy:qv C o bp M=some y):gu C (o::r) bp M=E7 o.lets y (gu C r (rH bp o.dst y.1) y.2):=by
 rw[gu];split
 ·rw[hy]; rfl
 simp_all
theorem wB{C:eL}{o:dg}{r:List dg}{bp:Env}{M:aC}{t:Nat}{want:Bool}(hg:o.guard=some (t,want))
  (hb:hZ bp t = .bool (!want)\/hZ bp t = .tuple []):gu C (o::r) bp M=gu C r (rH bp o.dst (.tuple [])) M:=by
 rw[gu];simp[hg];rcases hb with hb|hb
 ·rw[hb]; cases want<;>simp
 grind
theorem tv{C C':eL}(hC:wV C C'):∀ {ops:List dg} {bp:Env} {M:aC} {x:Out},gu C ops bp M=some x->gu C' ops bp M=some x
 | [],_,_,_,h=>h
 |o::r,bp,M,x,h=>by
  rcases p9 h with ⟨y,h1,h2,h3⟩|⟨t,want,h1,h2,h3⟩
  ·rw[r8 h1 (Dn hC h2)];rcases h3 with ⟨h3,h4⟩|⟨v,h0,h3,rfl⟩
   ·rw[Ms h3]; exact tv hC h4
   grind [N3]
  ·rw[wB h1 h2]; exact tv hC h3
theorem uh{o:Out}{k:Env->aC->Option Out}{x:Out}(h:ug o k=some x):(o.e = .normal/\k o.bp o.mem=some x)\/(o.e ≠ .normal/\x=o):=by
 grind [ug]
theorem uW{o:Out}{k:Env->aC->Option Out}(h:o.e = .normal):ug o k=k o.bp o.mem:=by grind [ug]
theorem zX{o:Out}{k:Env->aC->Option Out}(h:o.e ≠ .normal):ug o k=some o:=by
 simp[ug]
theorem ya{o:Out}{k k':Env->aC->Option Out}{x:Out}(hk:∀bp M x,k bp M=some x->k' bp M=some x)(h:ug o k=some x):ug o k'=some x:=by
 grind [uh,uW,zX]
def yc{g0:Nat->Nat->Nat}{f g:Env->aC->Option Out}(hfg:∀bp M x,f bp M=some x->g bp M=some x)(live:List Nat):∀n {bp M x},iter g0 f live n bp M=some x->iter g0 g live n bp M=some x
 |0,_,_,_,h=>h
 |n+1,bp,M,x,h=>by
  rw[iter] at *;obtain⟨a,ha,h⟩:=bm h;rw[hfg _ _ _ ha];exact ya (fun bp M x h=>yc hfg _ n h) h
def uY{g0:Nat->Nat->Nat}{f:Env->aC->Option Out}(live:List Nat):∀n {bp M x},iter g0 f live n bp M=some x->iter g0 f live (n+1) bp M=some x
 |0,_,_,_,h=>by cases h
 |n+1,bp,M,x,h=>by
  rw[iter] at h ⊢;obtain⟨a,ha,h⟩:=bm h;rw[ha];exact ya (fun bp M x h=>uY _ n h) h
theorem jK{C C':eL}(hC:wV C C'):∀(c:cG){bp:Env}{M:aC}{x:Out},eM C c bp M=some x->eM C' c bp M=some x
 | .skip,_,_,_,h=>h
 | .exit _,_,_,_,h=>h
 | .ret,_,_,_,h=>h
 | .region _ d _,bp,M,x,h=>by
  simp[eM] at *;obtain⟨a,ha,h⟩:=bm h;rw[tv hC ha]; grind
 | .seq a b,bp,M,x,h=>by
  simp[eM] at *;obtain⟨o,ho,h⟩:=bm h;rw[jK hC a ho];exact ya (fun bp M x=>jK hC b) h
 | .cond c a b,bp,M,x,h=>by
  simp[eM] at *;split
  ·rename_i t ht;simp[ht] at h;rcases lI h with ⟨rfl,h⟩|⟨rfl,h⟩
   ·exact jK hC a h
   ·exact jK hC b h
  grind
 | .block id c,bp,M,x,h=>by
  simp[eM] at *;obtain⟨o,ho,h⟩:=bm h;rw[jK hC c ho]; grind
 | .loop _ c,bp,M,x,h=>by
  obtain⟨n,hn⟩:=uq h;exact pU (fun n x=>uY _ n) (yc (fun bp M x=>jK hC c) _ n hn)
 | .nF _ c,bp,M,x,h=>by
  obtain⟨n,hn⟩:=uq h;exact pU (fun n x=>uY _ n) (yc (fun bp M x=>jK hC c) _ n hn)
 | .rz _ c,bp,M,x,h=>jK hC c h
theorem tI(T:zA):∀n,wV (kd T n) (kd T (n+1))
 |0,f,a,M,x,h=>by
  grind [kd]
 |n+1,f,a,M,x,h=>by
  rw[kd] at h ⊢;split
  ·grind
  ·rename_i hg;simp[hg] at h;split
   ·grind
   ·rename_i fn hf;simp only[hf] at h;split
    ·rename_i hl;rw[aZ hl] at h;obtain⟨o,ho,h⟩:=bm h;rw[jK (tI T n) _ ho]
     grind
    grind
def tH(T:zA){n m:Nat}(h:n<=m):wV (kd T n) (kd T m):=by
 obtain⟨k,rfl⟩:=Nat.exists_eq_add_of_le h;induction k with
 |zero=>exact fun _ _ _ _ h=>h
 |succ k ih=>exact fun f a M x hx=>tI T _ f a M x (ih dw f a M x hx)
theorem K2(T:zA){bp:Env}{M:aC}{o:dg}{x:ag×aC}(h:qv (aq T) o bp M=some x):∃n,qv (kd T n) o bp M=some x:=by
 have key:∀y,eo (aq T) bp M o.op=some y->∃n,eo (kd T n) bp M o.op=some y:=by
  intro y hy;rcases MP hy with h|⟨f,a,B,z,h1,h2⟩
  ·simp_all
  ·obtain⟨n,hn⟩:=uq h1
   grind
 rcases r9 h with ⟨hn,hi,h1⟩|⟨hn,hg,h1⟩|⟨hn,hg,hp,h1⟩<;>obtain⟨n,h2⟩:=key _ h1
 ·grind [qv]
 ·grind [qv]
 grind [qv]
def wc(T:zA):∀ {ops:List dg} {bp:Env} {M:aC} {x:Out},gu (aq T) ops bp M=some x->∃n,gu (kd T n) ops bp M=some x
 | [],_,_,_,h=>⟨0,h⟩
 |o::r,bp,M,x,h=>by
  rcases p9 h with ⟨y,h1,h2,h3⟩|⟨t,want,h1,h2,h3⟩
  ·obtain⟨n,hn⟩:=K2 T h2;rcases h3 with ⟨h3,h4⟩|⟨v,h0,h3,rfl⟩
   ·obtain⟨m,hm⟩:=wc T h4;refine⟨max n m,?_⟩;rw[r8 h1 (Dn (tH T (Nat.le_max_left n m)) hn),Ms h3];exact tv (tH T (Nat.le_max_right n m)) hm
   ·exact⟨n,by rw[r8 h1 hn]; exact N3 h0 h3⟩
  ·obtain⟨m,hm⟩:=wc T h3;exact⟨m,by rw[wB h1 h2]; exact hm⟩
def Bo(T:zA){g:Nat->Nat->Nat}{live:List Nat}{c:cG}(hc:∀ {bp:Env} {M:aC} {x:Out},eM (aq T) c bp M=some x->∃n,eM (kd T n) c bp M=some x){x:Out} :
  ∀k bp M,iter g (eM (aq T) c) live k bp M=some x->∃n,iter g (eM (kd T n) c) live k bp M=some x
 |0,bp,M,h=>by cases h
 |k+1,bp,M,h=>by
  rw[iter] at h;obtain⟨a,ha,h⟩:=bm h;obtain⟨n,hn⟩:=hc ha;rcases uh h with ⟨h1,h2⟩|⟨h1,h2⟩
  ·obtain⟨m,hm⟩:=Bo T hc k _ _ h2;refine⟨max n m,?_⟩;rw[iter,jK (tH T (Nat.le_max_left n m)) c hn,bN,uW h1];exact yc (fun bp M x=>jK (tH T (Nat.le_max_right n m)) c) live k hm
  ·exact⟨n,by rw[iter,hn,bN,zX h1,h2]⟩
def oG(T:zA):∀(c:cG){bp:Env}{M:aC}{x:Out},eM (aq T) c bp M=some x->∃n,eM (kd T n) c bp M=some x
 | .skip,_,_,_,h=>⟨0,h⟩
 | .exit _,_,_,_,h=>⟨0,h⟩
 | .ret,_,_,_,h=>⟨0,h⟩
 | .region ops d live,bp,M,x,h=>by
  simp only[eM] at *;obtain⟨a,ha,h⟩:=bm h;obtain⟨n,hn⟩:=wc T ha;exact⟨n,by rw[hn]; exact h⟩
 | .seq a b,bp,M,x,h=>by
  simp only[eM] at *;obtain⟨o,ho,h⟩:=bm h;obtain⟨n,hn⟩:=oG T a ho;rcases uh h with ⟨h1,h2⟩|⟨h1,h2⟩
  ·obtain⟨m,hm⟩:=oG T b h2;refine⟨max n m,?_⟩;rw[jK (tH T (Nat.le_max_left n m)) a hn,bN,uW h1];exact jK (tH T (Nat.le_max_right n m)) b hm
  ·exact⟨n,by rw[hn,bN,zX h1,h2]⟩
 | .cond c a b,bp,M,x,h=>by
  simp only[eM] at *;split at h
  ·rename_i t ht;rcases lI h with ⟨rfl,h⟩|⟨rfl,h⟩
   ·obtain⟨n,hn⟩:=oG T a h; exact⟨n,hn⟩
   ·obtain⟨n,hn⟩:=oG T b h; exact⟨n,hn⟩
  ·cases h
 | .block id c,bp,M,x,h=>by
  simp only[eM] at *;obtain⟨o,ho,h⟩:=bm h;obtain⟨n,hn⟩:=oG T c ho;exact⟨n,by rw[hn]; exact h⟩
 | .loop live c,bp,M,x,h=>by
  simp only[eM] at *;obtain⟨k,hk⟩:=uq h;obtain⟨n,hn⟩:=Bo T (oG T c) k bp M hk;exact⟨n,pU (fun n x=>uY live n) hn⟩
 | .nF live c,bp,M,x,h=>by
  simp only[eM] at *;obtain⟨k,hk⟩:=uq h;obtain⟨n,hn⟩:=Bo T (oG T c) k bp M hk;exact⟨n,pU (fun n x=>uY live n) hn⟩
 | .rz _ c,bp,M,x,h=>oG T c h
def Gd(g:Nat->Nat->Nat)(C:eL)(live:List Nat)(c:cG)(bp:Env)(M:aC) :
  lim (fun n=>iter g (eM C c) live n bp M)=bJ (eM C c (jI bp live) M) fun o=>ug o fun e m=>lim fun n=>iter g (eM C c) live n (wD (g M.length m.length) m (jI e live)) (iB (g M.length m.length) m):=by
 apply Option.ext;intro x;constructor
 ·intro h;obtain⟨n,hn⟩:=uq h;cases n with
  |zero=>cases hn
  |succ n =>
   rw[iter] at hn;obtain⟨o,ho,hn⟩:=bm hn;rw[ho,bN];exact ya (fun bp M x hx=>pU (fun n x=>uY live n) hx) hn
 ·intro h;obtain⟨o,ho,h⟩:=bm h;rcases uh h with ⟨h1,h2⟩|⟨h1,h2⟩
  ·obtain⟨n,hn⟩:=uq h2;refine pU (F:=fun n=>iter g (eM C c) live n bp M) (n:=n+1) (fun n x=>uY live n) ?_
   show iter g (eM C c) live (n+1) bp M=some x
   rw[iter,ho,bN,uW h1];exact hn
  ·refine pU (F:=fun n=>iter g (eM C c) live n bp M) (n:=1) (fun n x=>uY live n) ?_
   show iter g (eM C c) live 1 bp M=some x
   rw[iter,ho,bN,zX h1,h2]
def KV(C:eL)(live:List Nat)(c:cG)(bp:Env)(M:aC) :
  eM C (.loop live c) bp M=bJ (eM C c (jI bp live) M) fun o=>ug o fun e m=>eM C (.loop live c) (wD M.length m (jI e live)) (iB M.length m):=Gd gL C live c bp M
def Ij(C:eL)(live:List Nat)(c:cG)(bp:Env)(M:aC) :
  eM C (.nF live c) bp M=bJ (eM C c (jI bp live) M) fun o=>ug o fun e m=>eM C (.nF live c) (wD m.length m (jI e live)) (iB m.length m):=Gd gR C live c bp M
def KT{T:zA}{f:Nat}{fn:eE}{args:List ag}{M:aC}{x:ag×aC}(hp:T.o4 f=none)(hc:T.code f=some fn)(hl:args.length=fn.nparams)
  (h:bJ (eM (aq T) fn.body (ef 0 args) M) (finish fn.results M.length)=some x):aq T f args M=some x:=by
 obtain⟨o,hb,hf⟩:=bm h;obtain⟨n,hn⟩:=oG T fn.body hb;refine pU (n:=n+1) (fun n x h=>tI T n f args M x h) ?_
 rw[kd];simp only[hp,hc,aZ hl,hn,bN];exact hf
def eP{T:zA}{f:Nat}{g:List ag->aC->Option (ag×aC)}{args:List ag}{M:aC}{x:ag×aC}(hp:T.o4 f=some g)(hg:g args M=some x):aq T f args M=some x:=by
 refine pU (n:=0) (fun n x h=>tI T n f args M x h) ?_
 rw[kd];simp only[hp,hg]
inductive K where
 |seq (c:cG)
 |block (id:Nat)
 |loop (live:List Nat) (n:Nat) (c:cG)
 |nF (live:List Nat) (c:cG)
noncomputable def kr(C:eL)(fn:List sV)(bS:Nat):List K->Out->Option (ag×aC)
 | [],o=>finish fn bS o
 | .seq c::k,o=>bJ (ug o (eM C c)) (kr C fn bS k)
 | .block id::k,o=>kr C fn bS k (xE id o)
 | .loop live n c::k,o=>bJ (ug o fun e m=>eM C (.loop live c) (wD n m (jI e live)) (iB n m)) (kr C fn bS k)
 | .nF live c::k,o=>bJ (ug o fun e m=>eM C (.nF live c) (wD m.length m (jI e live)) (iB m.length m)) (kr C fn bS k)
noncomputable def eS(C:eL)(fn:List sV)(bS:Nat)(k:List K)(c:cG)(bp:Env)(M:aC):Option (ag×aC):=bJ (eM C c bp M) (kr C fn bS k)
noncomputable def fI(C:eL)(fn:List sV)(bS:Nat)(k:List K)(live:List Nat)(ops:List dg)(bp:Env)(M:aC):Option (ag×aC) :=
 bJ (gu C ops bp M) fun o=>kr C fn bS k (o.rn live)
noncomputable def lx(C:eL)(fn:List sV)(bS:Nat)(k:List K)(live:List Nat)(c:Bool)(dst:Option Nat)(r:List dg)(bp:Env)(y:Option (ag×aC)):Option (ag×aC) :=
 bJ y fun x=>bJ (E7 c x (gu C r (rH bp dst x.1) x.2)) fun o=>kr C fn bS k (o.rn live)
noncomputable def gK(C:eL)(fn:List sV)(bS:Nat)(k:List K)(live:List Nat)(g:ag)(want:Bool)(o:dg)(r:List dg)(bp:Env)(M:aC):Option (ag×aC) :=
 match g with
 | .bool b=>Bz (b==want) (lx C fn bS k live o.lets o.dst r bp (qv C o bp M)) (fI C fn bS k live r (rH bp o.dst (.tuple [])) M)
 | .tuple []=>fI C fn bS k live r (rH bp o.dst (.tuple [])) M
 |_=>none
noncomputable def dZ(C:eL)(fn:List sV)(bS:Nat)(k:List K)(v:ag)(x y:cG)(bp:Env)(M:aC):Option (ag×aC) :=
 match v with
 | .bool t=>Bz t (eS C fn bS k x bp M) (eS C fn bS k y bp M)
 |_=>none
def pV{α β γ:Type}(x:Option α)(f:α->Option β)(g:β->Option γ):bJ (bJ x f) g=bJ x fun a=>bJ (f a) g:=by cases x<;>rfl
section
variable (C:eL) (fn:List sV) (bS:Nat) (k:List K) (bp:Env) (M:aC)
def Sq:eS C fn bS k .skip bp M=kr C fn bS k ⟨.normal,bp,M⟩:=rfl
def Sn(id:Nat):eS C fn bS k (.exit id) bp M=kr C fn bS k ⟨.exit id,bp,M⟩:=rfl
def Zw:eS C fn bS k .ret bp M=kr C fn bS k ⟨.ret,bp,M⟩:=rfl
def Zx(a b:cG):eS C fn bS k (.seq a b) bp M=eS C fn bS (.seq b::k) a bp M:=by
 unfold eS;rw[eM,pV];rfl
def Pz(id:Nat)(c:cG):eS C fn bS k (.block id c) bp M=eS C fn bS (.block id::k) c bp M:=by
 unfold eS;rw[eM,pV];rfl
def Sm(c:fY)(x y:cG):eS C fn bS k (.cond c x y) bp M=dZ C fn bS k (c.ev bp) x y bp M:=by
 unfold eS dZ;rw[eM];cases c.ev bp<;>simp[eS]
def LI(ops:List dg)(d:Bool)(live:List Nat):eS C fn bS k (.region ops d live) bp M=fI C fn bS k live ops bp M:=by
 unfold eS fI;rw[eM,pV];rfl
def bI(live:List Nat)(c:cG):eS C fn bS k (.loop live c) bp M=eS C fn bS (.loop live M.length c::k) c (jI bp live) M:=by
 unfold eS;rw[KV,pV];rfl
def vF(live:List Nat)(c:cG):eS C fn bS k (.nF live c) bp M=eS C fn bS (.nF live c::k) c (jI bp live) M:=by
 unfold eS;rw[Ij,pV];rfl
def Zv(t:Nat)(c:cG):eS C fn bS k (.rz t c) bp M=eS C fn bS k c (LQ M t bp) (qE M (hZ bp t).ids):=rfl
def V2(live:List Nat)(c:cG):kr C fn bS (.nF live c::k) ⟨.normal,bp,M⟩=eS C fn bS k (.nF live c) (wD M.length M (jI bp live)) (iB M.length M):=rfl
def Fp(live:List Nat)(c:cG)(i:Nat):kr C fn bS (.nF live c::k) ⟨.exit i,bp,M⟩=kr C fn bS k ⟨.exit i,bp,M⟩:=rfl
def Hv(live:List Nat)(c:cG):kr C fn bS (.nF live c::k) ⟨.ret,bp,M⟩=kr C fn bS k ⟨.ret,bp,M⟩:=rfl
def Xd(live:List Nat):fI C fn bS k live [] bp M=kr C fn bS k ⟨.normal,jI bp live,M⟩:=rfl
def Qs(live:List Nat)(d:Option Nat)(op:kG)(g m:Bool)(s:List Nat)(st:Bool)(r:List dg) :
  fI C fn bS k live (⟨d,op,none,g,m,s,st⟩::r) bp M=lx C fn bS k live (dg.lets ⟨d,op,none,g,m,s,st⟩) d r bp (qv C ⟨d,op,none,g,m,s,st⟩ bp M):=by
 unfold fI lx;rw[gu,pV]
def Qt(live:List Nat)(d:Option Nat)(op:kG)(t:Nat)(w g m:Bool)(s:List Nat)(st:Bool)(r:List dg) :
  fI C fn bS k live (⟨d,op,some (t,w),g,m,s,st⟩::r) bp M=gK C fn bS k live (hZ bp t) w ⟨d,op,some (t,w),g,m,s,st⟩ r bp M:=by
 unfold fI gK;rw[gu];simp only;generalize hZ bp t=v;split
 ·rw[Qg,pV]; rfl
 ·rfl
 ·rename_i h1 h2
  first
   |rfl
   |(split
     ·rename_i b; exact absurd rfl (h1 b)
     ·exact absurd rfl h2
     ·rfl)
def WK(live:List Nat)(c:Bool)(d:Option Nat)(r:List dg)(v:ag)(M':aC)(hv:v.jr=false):lx C fn bS k live c d r bp (some (v,M'))=fI C fn bS k live r (rH bp d v) M':=by
 unfold lx;rw[bN,Ms hv]; rfl
def abp(live:List Nat)(d:Option Nat)(r:List dg)(v:Value)(M':aC):lx C fn bS k live true d r bp (some (.nH v,M'))=kr C fn bS k ⟨.nH v,[],M'⟩:=rfl
def P5(d g f:_)(a m s1 s:_):dg.lets ⟨d,.call f a,g,m,s1,s,true⟩=true:=rfl
def Mb(d g f:_)(a m s1 s:_):dg.lets ⟨d,.sB f a,g,m,s1,s,true⟩=true:=rfl
def Mc(d g f:_)(a m s1 s:_):dg.lets ⟨d,.B5 f a,g,m,s1,s,true⟩=true:=rfl
def L9(d g f:_)(a m s1 s:_):dg.lets ⟨d,.B4 f a,g,m,s1,s,true⟩=true:=rfl
def Ma(d g f:_)(a m s1 s:_):dg.lets ⟨d,.lk f a,g,m,s1,s,true⟩=true:=rfl
def Md(d g f:_)(m s1 s:_):dg.lets ⟨d,.raise f,g,m,s1,s,true⟩=true:=rfl
def amJ(live:List Nat)(o:dg)(r:List dg):gK C fn bS k live (.bool true) true o r bp M=lx C fn bS k live o.lets o.dst r bp (qv C o bp M):=rfl
def amG(live:List Nat)(o:dg)(r:List dg):gK C fn bS k live (.bool false) false o r bp M=lx C fn bS k live o.lets o.dst r bp (qv C o bp M):=rfl
def amI(live:List Nat)(o:dg)(r:List dg):gK C fn bS k live (.bool true) false o r bp M=fI C fn bS k live r (rH bp o.dst (.tuple [])) M:=rfl
def amH(live:List Nat)(o:dg)(r:List dg):gK C fn bS k live (.bool false) true o r bp M=fI C fn bS k live r (rH bp o.dst (.tuple [])) M:=rfl
def amK(live:List Nat)(w:Bool)(o:dg)(r:List dg):gK C fn bS k live (.tuple []) w o r bp M=fI C fn bS k live r (rH bp o.dst (.tuple [])) M:=rfl
def ZE(x y:cG):dZ C fn bS k (.bool true) x y bp M=eS C fn bS k x bp M:=rfl
def ZD(x y:cG):dZ C fn bS k (.bool false) x y bp M=eS C fn bS k y bp M:=rfl
def ahs(c:cG):kr C fn bS (.seq c::k) ⟨.normal,bp,M⟩=eS C fn bS k c bp M:=rfl
def JH(c:cG)(i:Nat):kr C fn bS (.seq c::k) ⟨.exit i,bp,M⟩=kr C fn bS k ⟨.exit i,bp,M⟩:=rfl
def L1(c:cG):kr C fn bS (.seq c::k) ⟨.ret,bp,M⟩=kr C fn bS k ⟨.ret,bp,M⟩:=rfl
def L0(c:cG)(v:Value):kr C fn bS (.seq c::k) ⟨.nH v,bp,M⟩=kr C fn bS k ⟨.nH v,bp,M⟩:=rfl
def Ht(id:Nat)(v:Value):kr C fn bS (.block id::k) ⟨.nH v,bp,M⟩=kr C fn bS k ⟨.nH v,bp,M⟩:=rfl
def JF(live:List Nat)(n:Nat)(c:cG)(v:Value):kr C fn bS (.loop live n c::k) ⟨.nH v,bp,M⟩=kr C fn bS k ⟨.nH v,bp,M⟩:=rfl
def V1(id:Nat):kr C fn bS (.block id::k) ⟨.normal,bp,M⟩=kr C fn bS k ⟨.normal,bp,M⟩:=rfl
def Fo(id i:Nat):kr C fn bS (.block id::k) ⟨.exit i,bp,M⟩=if i=id then kr C fn bS k ⟨.normal,bp,M⟩ else kr C fn bS k ⟨.exit i,bp,M⟩:=by
 rw[kr]; simp only[xE]; split<;>rfl
def Hu(id:Nat):kr C fn bS (.block id::k) ⟨.ret,bp,M⟩=kr C fn bS k ⟨.ret,bp,M⟩:=rfl
def ZX(live:List Nat)(n:Nat)(c:cG):kr C fn bS (.loop live n c::k) ⟨.normal,bp,M⟩=eS C fn bS k (.loop live c) (wD n M (jI bp live)) (iB n M):=rfl
def Hw(live:List Nat)(n:Nat)(c:cG)(i:Nat):kr C fn bS (.loop live n c::k) ⟨.exit i,bp,M⟩=kr C fn bS k ⟨.exit i,bp,M⟩:=rfl
def JG(live:List Nat)(n:Nat)(c:cG):kr C fn bS (.loop live n c::k) ⟨.ret,bp,M⟩=kr C fn bS k ⟨.ret,bp,M⟩:=rfl
def ahr(o:Out):kr C fn bS [] o=finish fn bS o:=rfl
end
def nn{q body:cG}(h:q=body)(C:eL)(fn:List sV)(bS:Nat)(k:List K)(bp:Env)(M:aC):eS C fn bS k q bp M=eS C fn bS k body bp M:=by rw[h]
def aB{T:zA}{f:Nat}{fn:eE}{args:List ag}{M:aC}{x:ag×aC}(h:eS (aq T) fn.results M.length [] fn.body (ef 0 args) M=some x)
  (hp:T.o4 f=none:=by exact rfl) (hc:T.code f=some fn:=by exact rfl) (hl:args.length=fn.nparams:=by exact rfl):aq T f args M=some x :=
 KT hp hc hl (by
  unfold eS at h;obtain⟨o,h1,h2⟩:=bm h;rw[h1]; exact h2)
end
section
open Go Go.RowKit
def bs(s:List UInt8):ByteArray:=⟨s.toArray⟩
structure J where
 f:Nat->Option Nat
 X:Nat->Nat->Prop
instance:CoeFun J (fun _=>Nat->Option Nat):=⟨J.f⟩
structure nM(j:J)(M:aC)(w:World)(b off:Nat):Prop where
 lt:b<w.heap.size
 ids:∀id,id<M.length->j id=some b->∃sz n,M[id]?=some (.tick sz n)/\off<n*sz
 nx:¬j.X b off
inductive fP(w:World)(iv:Nat->Nat->Prop):ag->Value->Prop where
 |bool (b:Bool):fP w iv (.bool b) (.bool b)
 |int (k:IntKind) (n:Int):fP w iv (.int k n) (.int k n)
 |str (s:List UInt8):fP w iv (.str s) (.string (bs s))
 |raw (v:Value) (h1:v.oneCell'=true):fP w iv (.raw v) v
 |slice (xs:List ag) (A:Option Addr) (len cap b off sz:Nat) (vs:Nat->Value) (hl:len=xs.length) (hc:len<=cap)
   (ha:xs≠[]->A=some ⟨b,off,none⟩) (hz:∀x,x∈xs->x.cells.length=sz)
   (hs:∀(i:Nat)(x:ag)(k:Nat)(c:ag),xs[i]?=some x->x.cells[k]?=some c->w.cell? ⟨b,off+(i*sz+k),none⟩=some (vs (i*sz+k))/\iv b (off+(i*sz+k)))
   (hr:∀(i:Nat)(x:ag)(k:Nat)(c:ag),xs[i]?=some x->x.cells[k]?=some c->fP w iv c (vs (i*sz+k))):fP w iv (.slice .sh xs) (.slice A len cap)
def Rs(j:J)(w:World)(k n t:Nat)(x:Bool)(v:Value):Prop :=
 (j k=none/\n=0/\∃A,v = .slice A 0 0/\(x=true->A=none)) \/
 ∃b cap vs,0<n/\j k=some b/\v = .slice (some ⟨b,0,none⟩) n cap/\w.heap[b]?=some (.cells vs t (0,0))/\cap<=vs.size/\n<=cap
def Ic(j:J)(w:World)(k sz n:Nat)(v:Value):Prop :=
 (j k=none/\n=0/\∃A,v = .slice A 0 0) \/
 ∃b cap vs t,j k=some b/\v = .slice (some ⟨b,0,none⟩) n cap/\w.heap[b]?=some (.cells vs t (0,0))/\cap*sz<=vs.size/\n<=cap
def AN(w:World)(iv:Nat->Nat->Prop)(x:ag)(v:Value):Prop :=
 match x with
 | .agg cs=>∃us:Array Value,v = .agg us/\cs.length=us.size/\∀(i:Nat)(c:ag)(u:Value),cs[i]?=some c->us[i]?=some u->fP w iv c u
 |x=>fP w iv x v
inductive gk(j:J)(M:aC)(w:World):ag->Value->Prop where
 |plain {x:ag} {v:Value} (h:fP w (nM j M w) x v):gk j M w x v
 |c0 (A:Option Addr):gk j M w (.slice .c0 []) (.slice A 0 0)
 |own {k:Nat} {xs:List ag} {v:Value} {sz n:Nat} (hk:M[k]?=some (.tick sz n)) (hn:xs.length<=n) (h:fP w (nM j M w) (.slice .sh xs) v)
   (ht:xs.length=n->Ic j w k sz n v):gk j M w (.slice (.own k) xs) v
 |agg {cs:List ag} {vs:Array Value} (hl:cs.length=vs.size) (h:∀(i:Nat)(c:ag)(v:Value),cs[i]?=some c->vs[i]?=some v->gk j M w c v):gk j M w (.agg cs) (.agg vs)
 |tuple {cs:List ag} {vs:Array Value} (hl:cs.length=vs.size) (h:∀(i:Nat)(c:ag)(v:Value),cs[i]?=some c->vs[i]?=some v->gk j M w c v):gk j M w (.tuple cs) (.tuple vs)
 |ptr {id off b:Nat} (hid:id<M.length) (hc:∃cs,M[id]?=some (.cells cs)) (hj:j id=some b):gk j M w (.ptr id off) (.pointer (some ⟨b,off,none⟩))
 |jF {cs:List ag} {b off:Nat} {vs:Nat->Value} (h:∀(k:Nat)(c:ag),cs[k]?=some c->w.cell? ⟨b,off+k,none⟩=some (vs k)/\nM j M w b (off+k)/\fP w (nM j M w) c (vs k)) :
   gk j M w (.jF cs) (.pointer (some ⟨b,off,none⟩))
 |func {f:Nat} {caps:List ag} {vs:Array Value} (hl:caps.length=vs.size) (h:∀(i:Nat)(c:ag)(v:Value),caps[i]?=some c->vs[i]?=some v->gk j M w c v) :
   gk j M w (.func f caps) (.func (.func f) #[] vs)
 |iy {id b:Nat} (hc:∃ks vs,M[id]?=some (.map ks vs)) (hj:j id=some b):gk j M w (.iy id) (.map (some b))
 |ka {id b:Nat} (hc:∃s p,M[id]?=some (.nY s p)) (hj:j id=some b):gk j M w (.ka id) (.pointer (some ⟨b,0,none⟩))
 |kj {ks vs:List ag} {b:Nat} {es:Array MapEntry} {clock:Nat} (hb:b<w.heap.size) (hf:∀i,i<M.length->j i≠some b) (hx:∀off,¬j.X b off) (hw:w.heap[b]?=some (.map es clock)) (hk:ks.length=es.size) (hv:vs.length=es.size)
   (hks:∀(i:Nat)(k:ag)(e:MapEntry),ks[i]?=some k->es[i]?=some e->fP w (nM j M w) k e.key) (hvs:∀(i:Nat)(v:ag)(e:MapEntry),vs[i]?=some v->es[i]?=some e->AN w (nM j M w) v e.val) :
   gk j M w (.kj ks vs) (.map (some b))
 |cE {id ver sz lo hi:Nat} {v:Value} (h0:(∃b off c,v = .slice (some ⟨b,off,none⟩) (hi-lo) c/\hi-lo<=c)\/hi-lo=0/\∃A,v = .slice A 0 0) (hid:id<M.length) (hM:∀bx,M[id]?=some bx->bx.loose=true)
   (hv:∀sz' v' xs,M[id]?=some (.arr sz' v' xs)->ver<=v'/\(v'=ver->sz'=sz/\lo<=hi/\hi<=xs.length/\((xs=[]/\j id=none/\∃A,v = .slice A 0 0)\/∃b cap vs t,j id=some b/\v = .slice (some ⟨b,lo*sz,none⟩) (hi-lo) cap/\hi-lo<=cap/\w.heap[b]?=some (.cells vs t (0,0))/\(lo+cap)*sz<=vs.size))) :
   gk j M w (.cE id ver sz lo hi) v
 |jv {id ver i off:Nat} {v:Value} (h0:∃b o,v = .pointer (some ⟨b,o,none⟩)) (hid:id<M.length) (hM:∀bx,M[id]?=some bx->bx.loose=true)
   (hv:∀sz v' xs,M[id]?=some (.arr sz v' xs)->ver<=v'/\(v'=ver->i<xs.length/\∃b,j id=some b/\v = .pointer (some ⟨b,i*sz+off,none⟩))) :
   gk j M w (.jv id ver i off) v
 |rb {f:Nat} {fs:List ag} {vs:Array Value} (hl:fs.length=vs.size) (h:∀(i:Nat)(c:ag)(v:Value),fs[i]?=some c->vs[i]?=some v->AN w (nM j M w) c v):gk j M w (.rb f fs) (.func (.func f) vs #[])
 |kv {t id off b:Nat} (hc:∃cs,M[id]?=some (.cells cs)) (hj:j id=some b):gk j M w (.kv t id off) (.iface t (.pointer (some ⟨b,off,none⟩)))
 |any (v:Value):gk j M w .any v
def RC(j:J)(M:aC)(w:World)(cs:List ag)(vs:Array Value):Prop :=
 cs.length=vs.size/\∀(i:Nat)(c:ag)(v:Value),cs[i]?=some c->vs[i]?=some v->gk j M w c v
def Holds(j:J)(M:aC)(w:World)(b:Nat):cV->Prop
 | .cells cs=>∃vs t,w.heap[b]?=some (.cells vs t (0,0))/\RC j M w cs vs
 | .tick _ _=>True
 | .map ks vs=>∃es clock,w.heap[b]?=some (.map es clock)/\ks.length=es.size/\vs.length=es.size/\(∀(i:Nat)(k:ag)(e:MapEntry),ks[i]?=some k->es[i]?=some e->fP w (nM j M w) k e.key) /\
   ∀(i:Nat)(v:ag)(e:MapEntry),vs[i]?=some v->es[i]?=some e->gk j M w v e.val
 | .nY s pos=>w.heap[b]?=some (.stringIter (bs s) pos)
 | .arr _ _ _=>True
 | .vZ=>True
structure Rel(j:J)(M:aC)(w:World):Prop where
 inj:∀i i' b,i<M.length->i'<M.length->j i=some b->j i'=some b->i=i'
 lt:∀i b,i<M.length->j i=some b->b<w.heap.size
 fix:∀i bx,M[i]?=some bx->bx.fixed=true->∃b,j i=some b/\Holds j M w b bx
 tick:∀i sz n b,M[i]?=some (.tick sz n)->j i=some b->∃vs t,w.heap[b]?=some (.cells vs t (0,0))
 arr:∀i sz ver xs,M[i]?=some (.arr sz ver xs)->(xs=[]/\j i=none)\/∃b vs t,j i=some b/\w.heap[b]?=some (.cells vs t (0,0))/\xs.length*sz<=vs.size/\(∀x,x∈xs->x.cells.length=sz) /\
  ∀(q:Nat)(x:ag)(k:Nat)(c:ag),xs[q]?=some x->x.cells[k]?=some c->∃v,vs[q*sz+k]?=some v/\fP w (nM j M w) c v
 uM:∀i b,i<M.length->j i=some b->∀off,¬j.X b off
 zz:∀b off,j.X b off->b<w.heap.size
def Rel.box{j:J}{M:aC}{w:World}(h:Rel j M w)(i:Nat)(cs:List ag)(hi:M[i]?=some (.cells cs)):∃b vs t,j i=some b/\w.heap[b]?=some (.cells vs t (0,0))/\cs.length=vs.size /\
  ∀(q:Nat)(c:ag)(v:Value),cs[q]?=some c->vs[q]?=some v->gk j M w c v:=by
 obtain⟨b,h1,vs,t,h2,h3⟩:=h.fix i _ hi rfl;exact⟨b,vs,t,h1,h2,h3.1,h3.2⟩
structure Ext(j:J)(M:aC)(w:World)(j':J)(M':aC)(w':World):Prop where
 len:M.length<=M'.length
 size:w.heap.size<=w'.heap.size
 os:w'.os=w.os
 tape:w'.tape=w.tape
 output:w'.output=w.output
 X:j'.X=j.X
 fix:∀i bx,M[i]?=some bx->bx.fixed=true->j' i=j i/\∃bx',M'[i]?=some bx'/\bx'.tag=bx.tag
 tick:∀i sz n,M[i]?=some (.tick sz n)->∃n',n<=n'/\M'[i]?=some (.tick sz n') /\
  (n'=n->j' i=j i/\∀b vs t,j i=some b->w.heap[b]?=some (.cells vs t (0,0))->∃vs',w'.heap[b]?=some (.cells vs' t (0,0))/\vs'.size=vs.size)
 arr:∀i sz ver xs,M[i]?=some (.arr sz ver xs)->(∃n',M'[i]?=some (.tick sz n'))\/∃ver' xs',M'[i]?=some (.arr sz ver' xs')/\ver<=ver' /\
  (ver'=ver->j' i=j i/\xs'.length=xs.length/\∀b vs t,j i=some b->w.heap[b]?=some (.cells vs t (0,0))->∃vs',w'.heap[b]?=some (.cells vs' t (0,0))/\vs'.size=vs.size)
 tags:∀(b:Nat)(vs:Array Value)(t:TypeId)(fr:Nat×Nat),w.heap[b]?=some (.cells vs t fr)->∃vs' fr',w'.heap[b]?=some (.cells vs' t fr')/\vs'.size=vs.size
 iv:∀b off,nM j M w b off->nM j' M' w' b off/\w'.cell? ⟨b,off,none⟩=w.cell? ⟨b,off,none⟩
 tV:∀b,b<w.heap.size->(∀i,i<M.length->j i≠some b)->w'.heap[b]?=w.heap[b]?/\∀i,i<M'.length->j' i≠some b
def BO{a b:cV}(h:b.tag=a.tag)(ha:a.fixed=true):b.fixed=true:=by
 cases a<;>cases b<;>simp[cV.tag,cV.fixed] at * <;> omega
def GL{b:cV}(h:b.tag=0):∃cs,b = .cells cs:=by cases b<;>simp[cV.tag] at h; simp
def ab4{b:cV}(h:b.tag=1):∃ks vs,b = .map ks vs:=by cases b<;>simp[cV.tag] at h; simp
def QM{b:cV}(h:b.tag=2):∃s p,b = .nY s p:=by cases b<;>simp[cV.tag] at h; simp
theorem fP.mono{w w':World}{iv saf':Nat->Nat->Prop}(h:∀b off,iv b off->saf' b off/\w'.cell? ⟨b,off,none⟩=w.cell? ⟨b,off,none⟩)
  {x:ag} {v:Value} (hr:fP w iv x v):fP w' saf' x v:=by
 induction hr with
 |bool b=>simp[bool]
 |int k n=>exact .int k n
 |str s=>exact .str s
 |raw v h1=>exact .raw v h1
 |slice xs A len cap b off sz vs hl hc ha hz hs _ ih =>
  refine .slice _ A _ _ b _ _ _ hl hc ha hz (fun i x k c hx hk=>?_) ih
  grind
def AN.mono{w w':World}{iv saf':Nat->Nat->Prop}(h:∀b off,iv b off->saf' b off/\w'.cell? ⟨b,off,none⟩=w.cell? ⟨b,off,none⟩)
  {x:ag} {v:Value} (hr:AN w iv x v):AN w' saf' x v:=by
 by_cases hag:∃cs,x = .agg cs
 ·obtain⟨cs,rfl⟩:=hag;obtain⟨us,h1,h2,h3⟩:=hr;exact⟨us,h1,h2,fun i c u hc hu=>(h3 i c u hc hu).mono h⟩
 ·cases x<;>first|exact absurd ⟨_,rfl⟩ hag|exact fP.mono h hr
section
variable {j j' j'':J} {M M' M'':aC} {w w' w'':World}
def Rs.mono{k n t:Nat}{x:Bool}{v:Value}(h:Rs j w k n t x v)(hj:j' k=j k)
  (hb:∀b vs t,j k=some b->w.heap[b]?=some (.cells vs t (0,0))->∃vs',w'.heap[b]?=some (.cells vs' t (0,0))/\vs'.size=vs.size):Rs j' w' k n t x v:=by
 rcases h with ⟨h1,h2,h3⟩|⟨b,cap,vs,h0,h1,h2,h3,h4,h5⟩
 ·exact .inl ⟨hj.trans h1,h2,h3⟩
 ·obtain⟨vs',h6,h7⟩:=hb b _ t h1 h3;exact .inr ⟨b,cap,vs',h0,hj.trans h1,h2,h6,aH,h5⟩
def Ic.mono{k sz n:Nat}{v:Value}(h:Ic j w k sz n v)(hj:j' k=j k)
  (hb:∀b vs t,j k=some b->w.heap[b]?=some (.cells vs t (0,0))->∃vs',w'.heap[b]?=some (.cells vs' t (0,0))/\vs'.size=vs.size):Ic j' w' k sz n v:=by
 rcases h with ⟨h1,h2,h3⟩|⟨b,cap,vs,t,h1,h2,h3,h4,h5⟩
 ·exact .inl ⟨hj.trans h1,h2,h3⟩
 ·obtain⟨vs',h6,h7⟩:=hb b _ t h1 h3;exact .inr ⟨b,cap,vs',t,hj.trans h1,h2,h6,aH,h5⟩
theorem Ext.loose(hx:Ext j M w j' M' w'){id:Nat}(hid:id<M.length)(hM:∀bx,M[id]?=some bx->bx.loose=true):(∀bx,M'[id]?=some bx->bx.loose=true) /\
  ∀sz v' xs,M'[id]?=some (.arr sz v' xs)->∃v0 xs0,M[id]?=some (.arr sz v0 xs0)/\v0<=v' /\
   (v'=v0->j' id=j id/\xs.length=xs0.length/\∀b vs t,j id=some b->w.heap[b]?=some (.cells vs t (0,0))->∃vs',w'.heap[b]?=some (.cells vs' t (0,0))/\vs'.size=vs.size):=by
 have h0:=ai hid;have hf:=hM _ h0;generalize M[id]=bx at h0 hf;cases bx with
 |cells=>cases hf
 |map=>cases hf
 |nY=>cases hf
 |vZ=>cases hf
 |tick sz n =>
  obtain⟨n',h1,h2,h3⟩:=hx.tick _ _ _ h0;refine⟨fun bx hb=>?_,fun sz v' xs h=>?_⟩
  ·rw[h2] at hb; cases hb; rfl
  grind
 |arr sz v xs =>
  rcases hx.arr _ _ _ _ h0 with ⟨n',h2⟩|⟨v1,xs1,h2,h3,h4⟩
  ·refine⟨fun bx hb=>?_,fun sz v' xs h=>?_⟩
   ·rw[h2] at hb; cases hb; rfl
   grind
  ·refine⟨fun bx hb=>?_,fun sz' v' xs' h=>?_⟩
   ·rw[h2] at hb; cases hb; rfl
   grind
theorem gk.mono(hx:Ext j M w j' M' w'){x:ag}{v:Value}(hr:gk j M w x v):gk j' M' w' x v:=by
 induction hr with
 |plain h=>exact .plain (h.mono hx.iv)
 |c0 A=>exact .c0 A
 |own hk hn h ht =>
  obtain⟨n',h1,h2,h3⟩:=hx.tick _ _ _ hk;refine .own h2 aH (h.mono hx.iv) (fun he=>?_)
  have:n'=_:=Nat.le_antisymm aH h1;obtain⟨h4,h5⟩:=h3 this;subst this;exact(ht he).mono h4 h5
 |agg hl _ ih=>exact .agg hl ih
 |tuple hl _ ih=>exact .tuple hl ih
 |ptr hid hc hj =>
  obtain⟨cs,hc⟩:=hc;obtain⟨h1,bx,h2,h3⟩:=hx.fix _ _ hc rfl;obtain⟨cs',rfl⟩:=GL h3;exact .ptr (bw hid hx.len) ⟨_,h2⟩ (h1.trans hj)
 | @jF cs b off vs h =>
  refine .jF (vs:=vs) fun k c hk=>?_
  obtain⟨h1,h2,h3⟩:=h k c hk;obtain⟨h4,h5⟩:=hx.iv _ _ h2;exact⟨h5.trans h1,h4,h3.mono hx.iv⟩
 |func hl _ ih=>exact .func hl ih
 |iy hc hj =>
  obtain⟨ks,vs,hc⟩:=hc;obtain⟨h1,bx,h2,h3⟩:=hx.fix _ _ hc rfl;obtain⟨ks',vs',rfl⟩:=ab4 h3;exact .iy ⟨_,_,h2⟩ (h1.trans hj)
 |ka hc hj =>
  obtain⟨ks,vs,hc⟩:=hc;obtain⟨h1,bx,h2,h3⟩:=hx.fix _ _ hc rfl;obtain⟨ks',vs',rfl⟩:=QM h3;exact .ka ⟨_,_,h2⟩ (h1.trans hj)
 |kj hb hf hxx hw hk hv hks hvs =>
  obtain⟨h1,h2⟩:=hx.tV _ hb hf;exact .kj (bw hb hx.size) h2 (by rw[hx.X]; omega) (h1.trans hw) hk hv (fun i k e h1 h2=>(hks i k e h1 h2).mono hx.iv) (fun i k e h1 h2=>(hvs i k e h1 h2).mono hx.iv)
 |cE hs hid hM hv =>
  obtain⟨g1,g2⟩:=hx.loose hid hM;refine .cE hs (bw hid hx.len) g1 fun sz v' xs h=>?_
  obtain⟨v0,xs0,h0,h1,h2⟩:=g2 sz v' xs h;obtain⟨h3,h4⟩:=hv sz v0 xs0 h0;refine⟨aH,fun he=>?_⟩
  obtain⟨h5,h6,h7⟩:=h2 aH;obtain⟨l0,l1,l2,⟨rfl,l3,l4⟩|⟨b,cap,vs,t,l3,l4,l5,l6,l7⟩⟩:=h4 aH
  ·exact⟨l0,l1,aH,.inl ⟨dI aH,h5.trans l3,l4⟩⟩
  obtain⟨vs',l8,l9⟩:=h7 b vs t l3 l6;exact⟨l0,l1,aH,.inr ⟨b,cap,vs',t,h5.trans l3,l4,l5,l8,aH⟩⟩
 |jv hs hid hM hv =>
  obtain⟨g1,g2⟩:=hx.loose hid hM;refine .jv hs (bw hid hx.len) g1 fun sz v' xs h=>?_
  grind
 |rb hl h=>exact .rb hl fun i c v hc hv=>(h i c v hc hv).mono hx.iv
 |kv hc hj =>
  obtain⟨cs,hc⟩:=hc;obtain⟨h1,bx,h2,h3⟩:=hx.fix _ _ hc rfl;obtain⟨cs',rfl⟩:=GL h3;exact .kv ⟨_,h2⟩ (h1.trans hj)
 |any v=>exact .any v
def Holds.mono{b:Nat}{bx:cV}(hx:Ext j M w j' M' w')(hb:w'.heap[b]?=w.heap[b]?)(h:Holds j M w b bx):Holds j' M' w' b bx:=by
 cases bx with
 |cells cs =>
  obtain⟨vs,t,h1,h2,h3⟩:=h;exact⟨vs,t,hb.trans h1,h2,fun i c v hc hv=>(h3 i c v hc hv).mono hx⟩
 |tick=>trivial
 |map ks vs =>
  obtain⟨es,clock,h1,h2,h3,h4,h5⟩:=h;exact⟨es,clock,hb.trans h1,h2,h3,fun i k e hk he=>(h4 i k e hk he).mono hx.iv,fun i k e hk he=>(h5 i k e hk he).mono hx⟩
 |nY s pos=>exact hb.trans h
 |arr=>trivial
 |vZ=>trivial
theorem Holds.lt{b:Nat}{bx:cV}(h:Holds j M w b bx)(hf:bx.fixed=true):∃o,w.heap[b]?=some o:=by
 cases bx with
 |cells cs=>obtain⟨vs,t,h1,_⟩:=h; grind
 |tick=>cases hf
 |map ks vs=>obtain⟨es,clock,h1,_⟩:=h; grind
 |nY s pos=>exact⟨_,h⟩
 |arr=>cases hf
 |vZ=>cases hf
def Ext.refl(j:J)(M:aC)(w:World):Ext j M w j M w where
 len:=av _
 size:=av _
 os:=rfl
 tape:=rfl
 output:=rfl
 X:=rfl
 fix:=fun i bx h _=>⟨rfl,bx,h,rfl⟩
 tick:=fun i sz n h=>⟨n,av _,h,fun _=>⟨rfl,fun b vs t _ h=>⟨vs,h,rfl⟩⟩⟩
 arr:=fun i sz v xs h => .inr ⟨v,xs,h,av _,fun _=>⟨rfl,rfl,fun b vs t _ h=>⟨vs,h,rfl⟩⟩⟩
 tags:=fun b vs t fr h=>⟨vs,fr,h,rfl⟩
 iv:=fun b off h=>⟨h,rfl⟩
 tV:=fun b hb h=>⟨rfl,h⟩
theorem Ext.trans(h:Ext j M w j' M' w')(k:Ext j' M' w' j'' M'' w''):Ext j M w j'' M'' w'' where
 len:=aY h.len k.len
 size:=aY h.size k.size
 os:=k.os.trans h.os
 tape:=k.tape.trans h.tape
 output:=k.output.trans h.output
 X:=k.X.trans h.X
 fix:=fun i bx hi hf=>by
  obtain⟨h1,bx',h2,h3⟩:=h.fix i bx hi hf;have hf':bx'.fixed=true:=BO h3 hf;obtain⟨h4,bx'',h5,h6⟩:=k.fix i bx' h2 hf'
  grind
 tick:=fun i sz n hi=>by
  obtain⟨n1,a1,a2,a3⟩:=h.tick i sz n hi;obtain⟨n2,b1,b2,b3⟩:=k.tick i sz n1 a2
  grind
 arr:=fun i sz v xs hi=>by
  rcases h.arr i sz v xs hi with ⟨n1,a1⟩|⟨v1,xs1,a1,a2,a3⟩
  ·obtain⟨n2,_,b2,_⟩:=k.tick i sz n1 a1
   grind
  ·rcases k.arr i sz v1 xs1 a1 with ⟨n2,b1⟩|⟨v2,xs2,b1,b2,b3⟩
   ·grind
   grind
 tags:=fun b vs t fr hb=>by
  obtain⟨vs1,fr1,h1,h2⟩:=h.tags b vs t fr hb;obtain⟨vs2,fr2,h3,h4⟩:=k.tags b vs1 t fr1 h1
  grind
 iv:=fun b off hs=>by
  obtain⟨h1,h2⟩:=h.iv b off hs;obtain⟨h3,h4⟩:=k.iv b off h1
  grind
 tV:=fun b hb hn=>by
  obtain⟨h1,h2⟩:=h.tV b hb hn;obtain⟨h3,h4⟩:=k.tV b (bw hb h.size) h2
  grind
theorem Ext.grow(hsz:w.heap.size<=w'.heap.size)(hos:w'.os=w.os)(ht:w'.tape=w.tape)(ho:w'.output=w.output)
  (hb:∀b,b<w.heap.size->w'.heap[b]?=w.heap[b]?):Ext j M w j M w' where
 len:=av _
 size:=hsz
 os:=hos
 tape:=ht
 output:=ho
 X:=rfl
 fix:=fun i bx h _=>⟨rfl,bx,h,rfl⟩
 tick:=fun i sz n h=>⟨n,av _,h,fun _=>⟨rfl,fun b vs t _ hv=>by
  grind⟩⟩
 arr:=fun i sz v xs h => .inr ⟨v,xs,h,av _,fun _=>⟨rfl,rfl,fun b vs t _ hv=>by
  grind⟩⟩
 tags:=fun b vs t fr h=>by
  grind
 iv:=fun b off h=>⟨⟨bw h.1 hsz,h.2,h.3⟩,World.cell?_of_block (hb b h.1)⟩
 tV:=fun b cQ h=>⟨hb b cQ,h⟩
theorem Rel.grow(hr:Rel j M w)(hsz:w.heap.size<=w'.heap.size)(hos:w'.os=w.os)(ht:w'.tape=w.tape)(ho:w'.output=w.output)
  (hb:∀b,b<w.heap.size->w'.heap[b]?=w.heap[b]?):Rel j M w' where
 inj:=hr.inj
 lt:=fun i b hi h=>bw (hr.lt i b hi h) hsz
 fix:=fun i bx h hf=>by
  obtain⟨b,h1,h2⟩:=hr.fix i _ h hf;have hi  := (aj.1 h).1;exact⟨b,h1,h2.mono (Ext.grow hsz hos ht ho hb) (hb b (hr.lt i b hi h1))⟩
 tick:=fun i sz n b h hj=>by
  obtain⟨vs,t,h1⟩:=hr.tick i _ n b h hj
  grind
 arr:=fun i sz v xs h=>by
  rcases hr.arr i _ v _ h with he|⟨b,vs,t,h1,h2,h3,h4,h5⟩
  ·exact .inl he
  have hi  := (aj.1 h).1;refine .inr ⟨b,vs,t,h1,(hb b (hr.lt i b hi h1)).trans h2,h3,h4,fun q x k c hx hk=>?_⟩
  obtain⟨u,h6,h7⟩:=h5 q x k c hx hk;exact⟨u,h6,h7.mono (Ext.grow hsz hos ht ho hb).iv⟩
 uM:=hr.uM
 zz:=fun b off h=>bw (hr.zz b _ h) hsz
end
class kx where
 g:Nat->Option (List Value)
 q:Nat->Option (Value->Prop):=fun _=>none
 u8:Nat:=0
structure sW[kx](j:J)(M:aC)(w:World):Prop where
 g:∀b vs k v,kx.g b=some vs->vs[k]?=some v->nM j M w b k/\w.cell? ⟨b,k,none⟩=some v
 n:∀b vs,kx.g b=some vs->∃us t fr,w.heap[b]?=some (.cells us t fr)/\us.size=vs.length
 q:∀b p,kx.q b=some p->∃v,p v/\nM j M w b 0/\w.cell? ⟨b,0,none⟩=some v
theorem sW.iv[kx]{j j':J}{M M':aC}{w:World}(h:sW j M w)(hx:∀b off,nM j M w b off->nM j' M' w b off):sW j' M' w where
 g:=fun b vs k v hb hk=>⟨hx _ _ (h.g b _ k v hb hk).1,(h.g b _ k v hb hk).2⟩
 n:=h.n
 q:=fun b p hb=>by
  obtain⟨v,h0,h1,h2⟩:=h.q b p hb
  grind
theorem sW.mono[kx]{j j':J}{M M':aC}{w w':World}(h:sW j M w)(hx:Ext j M w j' M' w'):sW j' M' w' where
 g:=fun b vs k v hb hk=>by
  obtain⟨h1,h2⟩:=h.g b _ k v hb hk;obtain⟨h3,h4⟩:=hx.iv _ _ h1
  grind
 n:=fun b vs hb=>by
  obtain⟨us,t,fr,h1,h2⟩:=h.n b _ hb;obtain⟨us',fr',h3,h4⟩:=hx.tags b _ t _ h1
  grind
 q:=fun b p hb=>by
  obtain⟨v,h0,h1,h2⟩:=h.q b p hb;obtain⟨h3,h4⟩:=hx.iv _ _ h1
  grind
variable [kx]
structure cq(j:J)(M:aC)(w:World)(bp:Env)(a:Act):Prop where
 at':∀t,gk j M w (hZ bp t) (a.tmps.getD t undef)
 gl:sW j M w
def cq.mono{j j':J}{M M':aC}{w w':World}{bp:Env}{a:Act}(h:cq j M w bp a)(hx:Ext j M w j' M' w'):cq j' M' w' bp a :=
 ⟨fun t=>(h.at' t).mono hx,h.gl.mono hx⟩
def cq.put{j:J}{M:aC}{w:World}{bp:Env}{a:Act}{n:Nat}(h:cq j M w bp a)(hs:a.tmps.size=n){dst:Option Nat}(hd:∀d,dst=some d->d<n)
  {x:ag} {v:Value} (hv:gk j M w x v):cq j M w (rH bp dst x) (a.put dst v):=by
 refine⟨fun t=>?_,h.gl⟩
 cases dst with
 |none=>exact h.at' t
 |some d =>
  simp[rH,hZ,Act.put]
  by_cases he:d=t
  ·simp_all
  ·have:=h.at' t;simp_all
theorem zf(bp:Env)(live:List Nat)(t:Nat):hZ (jI bp live) t=if t∈live then hZ bp t else .any:=by
 induction live<;>grind [jI,hZ]
def cq.rn{j:J}{M:aC}{w:World}{bp:Env}{a:Act}(h:cq j M w bp a)(live:List Nat):cq j M w (jI bp live) a:=by
 refine⟨fun t=>?_,h.gl⟩
 rw[zf];split
 ·exact h.at' t
 ·exact .any _
end
section
open Go
def KS:Value->Option ag
 | .bool b=>some (.bool b)
 | .int k n=>some (.int k n)
 | .string s=>some (.str s.data.toList)
 | .slice none 0 0=>some (.slice .c0 [])
 | .pointer none=>some (.raw (.pointer none))
 | .nilFunc=>some (.raw .nilFunc)
 | .nilIface=>some (.raw .nilIface)
 | .map none=>some (.raw (.map none))
 |_=>none
def tu:List Value->Option (List ag)
 | []=>some []
 |v::r=>(KS v).bind fun x=>(tu r).bind fun l=>some (x::l)
def Rv:Value->Option ag
 | .agg vs=>(tu vs.toList).bind fun l=>some (.agg l)
 |v=>KS v
def acp:Value->Option ag
 | .bool b=>some (.bool b)
 | .int k n=>some (.int k n)
 | .string s=>some (.str s.data.toList)
 | .pointer none=>some (.raw (.pointer none))
 | .nilIface=>some (.raw .nilIface)
 |_=>none
def Ru:List Value->Option (List ag)
 | []=>some []
 |v::r=>(acp v).bind fun x=>(Ru r).bind fun l=>some (x::l)
variable [kx]
def aiE:Operand->Operand->Bool
 | .tmp x,.tmp y=>x==y
 | .const (.int k x),.const (.int l y)=>decide (k=l)&&decide (x=y)
 |_,_=>false
def ab5:∀ {x y:Operand},aiE x y=true->x=y:=by
 intro x y h;unfold aiE at h;split at h<;>simp_all
def eV:Operand->Option fY
 | .tmp t=>some (.tmp t)
 | .const v=>(Rv v).bind fun x=>some (.ti x)
 | .func f=>some (.ti (.func f []))
 | .global g=>(kx.g g).bind fun vs=>(Ru vs).bind fun l=>some (.ti (.jF l))
def RT:Operand->Option fY
 | .func f=>some (.ti (.raw (.func (.func f) ⟨[]⟩ ⟨[]⟩)))
 |x=>eV x
def x5(n:Nat):List (Nat×Operand)->Option (List (Nat×Nat×fY))
 | []=>some []
 |(i,x)::r=>(eV x).bind fun y=>(x5 n r).bind fun l=>some ((i*n,n,y)::l)
def vA:List Operand->Option (List fY)
 | []=>some []
 |x::r=>(eV x).bind fun y=>(vA r).bind fun l=>some (y::l)
def yZ:Option Operand->Option (Option fY)
 |none=>some none
 |some x=>(eV x).bind fun y=>some (some y)
def qG(P:Program)(t:TypeId):Option Nat:=(P.info? t).bind fun i=>some i.size
def CK(P:Program)(t:TypeId):Option Bool:=(P.underlying t).bind fun d=>some (match d with | .struct _ | .array _ _=>true|_=>false)
def AX(P:Program)(fs:Array Field):List (Nat×Operand)->Option (List (Nat×Nat×fY))
 | []=>some []
 |(i,x)::r=>(fs[i]?).bind fun f=>(qG P f.type).bind fun n=>(eV x).bind fun y=>(AX P fs r).bind fun l=>some ((f.offset,n,y)::l)
def G7:Nat->List (Nat×Operand)->Option (List fY)
 |_,[]=>some []
 |k,(i,x)::r=>if i=k then (eV x).bind fun y=>(G7 (k+1) r).bind fun l=>some (y::l) else none
def Sw (P:Program) (f:Field):Option FK:=if f.name = "_" then none else match P.underlying f.type with
 |some .bool=>some .b
 |some (.int _)=>some .i
 |some .string=>some .s
 |_=>none
def Cg(P:Program):Nat->List Field->Option (List FK)
 |_,[]=>some []
 |k,f::r=>if f.offset=k then (Sw P f).bind fun x=>(Cg P (k+1) r).bind fun l=>some (x::l) else none
def Ec(P:Program)(t:TypeId):Option FK:=match P.underlying t with
 |some .bool=>some .b
 |some (.int _)=>some .i
 |some .string=>some .s
 |_=>none
def O9:BinOp->Option OB
 | .and=>some .and | .or=>some .or | .andNot=>some .bic
 | .add=>some .add | .sub=>some .sub | .mul=>some .mul | .quo=>some .quo | .rem=>some .rem
 | .eql=>some .eql | .neq=>some .neq | .lss=>some .lss | .leq=>some .leq | .gtr=>some .gtr | .geq=>some .geq
 | .shl=>some .shl | .shr=>some .shr
 |_=>none
def lG (P:Program) (f:Nat):Bool:=match P.funcs[f]? with|some fn=>fn.name != "runtime.NumGoroutine" && fn.body.isSome|none=>false
def RR(P:Program)(own:List Nat)(dst:Option Nat)(type:TypeId)(c:Call):Option kG :=
 match c.callee with
 | .value (.func f)=>if lG P f then (vA c.args.toList).bind fun l=>some (if own.contains (1000000+f) then .B4 f l else if own.contains (2000000+f) then .lk f l else if own.contains (8000000+f) then .wE f l else .call f l) else none
 | .value (.tmp t)=>(vA c.args.toList).bind fun l=>some (if own.contains (12000000+t) then .B5 (.tmp t) l else .sB (.tmp t) l)
 | .builtin .len=>match c.args.toList,(c.argTypes[0]?).bind P.underlying with
  | [x],some .string=>(eV x).bind fun y=>some (.V5 y)
  | [x],some (.slice _)=>(eV x).bind fun y=>some (.Aa y)
  | [x],some (.map _ _)=>(eV x).bind fun y=>some (.P0 y)
  |_,_=>none
 | .builtin .copy=>match c.args.toList,c.argTypes.toList with
  | [x,y],[t,t']=>match P.underlying t,P.underlying t' with
   |some (.slice e),some (.slice _)=>(qG P e).bind fun n=>(eV x).bind fun x=>(eV y).bind fun y=>if 0<n then some (.FM n x y) else none
   |_,_=>none
  |_,_=>none
 | .builtin .append=>match c.args.toList,c.argTypes.toList with
  | [x,y],[t,t']=>match P.underlying t,P.underlying t' with
   |some (.slice e),some (.int _)=>(P.info? e).bind fun i=>i.zero.bind fun z=>(tu z.cells.toList).bind fun l=>(eV x).bind fun x=>(eV y).bind fun y =>
    if l.length=i.size/\0<i.size/\0<i.bytes/\i.bytes<=2 ^ 20 then some (.xX i.size i.bytes (l.map ag.shut) x y) else none
   |some (.slice e),some (.slice _)=>(P.info? e).bind fun i=>(eV x).bind fun x=>(eV y).bind fun y =>
    if decide ((i.zero.map fun z=>z.cells.size)=some i.size)&&decide (0<i.size)&&decide (0<i.bytes)&&decide (i.bytes<=2 ^ 20) then some (match dst with|some d=>if own.contains (7000000+d) then .wb i.size i.bytes x y else .append i.size i.bytes x y|none => .append i.size i.bytes x y) else none
   |_,_=>none
  |_,_=>none
 | .builtin .clear=>match c.args.toList,c.argTypes.toList with
  | [x],[t]=>match P.underlying t with
   |some (.slice e)=>(P.info? e).bind fun i=>i.zero.bind fun z=>(tu z.cells.toList).bind fun l=>(eV x).bind fun x =>
    if l.length=i.size/\0<i.size then some (.xe i.size (l.map ag.shut) x) else none
   |_=>none
  |_,_=>none
 | .builtin .max=>match c.args.toList with|[x,y]=>(eV x).bind fun x=>(eV y).bind fun y=>some (.Bw true x y)|_=>none
 | .builtin .min=>match c.args.toList with|[x,y]=>(eV x).bind fun x=>(eV y).bind fun y=>some (.Bw false x y)|_=>none
 |_=>none
def RU(own:List Nat)(dst:Option Nat)(n:Nat)(x:fY)(lo hi mx:Option fY):kG :=
 match dst,hi with
 |some d,some h=>if own.contains (15000000+d)&&lo.isNone&&mx.isNone then .Pn n x h else .uA n x lo hi mx
 |_,_ => .uA n x lo hi mx
def Pa(P:Program)(own:List Nat)(o:Oper):Option kG :=
 match o.op with
 | .move x=>(eV x).bind fun x=>some (.mv x)
 | .assign x=>(eV x).bind fun x =>
  match o.dst with
  |some d=>if own.contains d then match P.underlying o.type with
    |some (.slice e)=>(qG P e).bind fun n=>match x with
     | .ti (.slice .c0 [])=>some (.own n x)
     |_=>some (.mv x)
    |_=>none
   else if own.contains (13000000+d) then match P.underlying o.type with
    |some (.slice e)=>(qG P e).bind fun n=>some (.own (500+n) x)
    |_=>none
   else some (.mv x)
  |none=>some (.mv x)
 | .pick c a b=>(eV c).bind fun c=>(eV a).bind fun a=>(eV b).bind fun b=>some (.pick c a b)
 | .alloc t=>(P.info? t).bind fun i=>i.zero.bind fun z=>(tu z.cells.toList).bind fun l =>
  match o.dst with
  |some d=>if own.contains (6000000+d) then (match P.underlying t,l with
    |some (.slice e),[.slice .c0 []]=>(qG P e).bind fun n=>some (.O8 n)
    |_,_=>none) else some (.yX l)
  |none=>some (.yX l)
 | .box t x=>(eV x).bind fun x=>some (.box x)
 | .build t parts=>match P.underlying t with
  |some (.struct fs)=>(P.info? t).bind fun i=>i.zero.bind fun z=>(tu z.cells.toList).bind fun l=>(AX P fs parts.toList).bind fun ps =>
   if fs.all (fun f=>(P.info? f.type).isSome) then some (.build l ps) else none
  |some (.array _ e)=>(P.info? t).bind fun i=>i.zero.bind fun z=>(tu z.cells.toList).bind fun l=>(qG P e).bind fun n=>(x5 n parts.toList).bind fun ps=>some (.build l ps)
  |_=>none
 | .buildSlice t len parts=>match P.underlying t with
  |some (.slice e)=>(P.info? e).bind fun i=>(G7 0 parts.toList).bind fun l =>
   if l.length=len/\len*i.size<=2 ^ 24/\(i.zero.map fun z=>z.cells.size)=some i.size/\0<i.size then some (match o.dst with|some d=>if own.contains d then .Gk i.size l else if own.contains (13000000+d)&&l.isEmpty then .own (500+i.size) (.ti (.slice .c0 [])) else .lits i.size l|none => .lits i.size l) else none
  |_=>none
 | .load t x=>(CK P t).bind fun g=>(qG P t).bind fun n=>(eV x).bind fun x=>some (if g then .mM n x else .rE x)
 | .store t a x=>(qG P t).bind fun n=>(eV a).bind fun a=>(eV x).bind fun x=>some (match a with
  | .tmp s=>match own.find? (fun m=>decide (1000000000<=m)&&decide (m<2000000000)&&decide (m % 1000=s)) with
   |some m => .BM (m / 1000000 % 1000) (m / 1000 % 1000) n a x
   |none => .store n a x
  |_ => .store n a x)
 | .nilCheck x=>(eV x).bind fun x=>some (.chk x)
 | .binOp op t x y _=>(eV x).bind fun x=>(eV y).bind fun y=>match P.underlying t with
  |some (.int _)|some .string=>(O9 op).bind fun b=>some (.bin b x y)
  |some .bool=>match op with
   | .eql=>some (.eqB false x y)
   | .neq=>some (.eqB true x y)
   |_=>none
  |some (.struct fs)=>if P.stoodInHeld t then none else (Cg P 0 fs.toList).bind fun ks=>match op with
   | .eql=>some (.Q6 ks false x y)
   | .neq=>some (.Q6 ks true x y)
   |_=>none
  |some (.array len e)=>match P.underlying e,op with
   |some (.int _),.eql=>if qG P e=some 1 then some (.Q6 (List.replicate len .i) false x y) else none
   |_,_=>none
  |_=>none
 | .unOp .not _ x=>(eV x).bind fun x=>some (.not x)
 | .unOp .neg _ x=>(eV x).bind fun x=>some (.neg x)
 | .convert s d x=>(eV x).bind fun x=>match P.underlying s,P.underlying d with
  |some (.int _),some (.int k)=>some (.conv k x)
  |some .string,some .string=>some (.same x)
  |some (.slice e),some .string=>match P.underlying e with|some (.int .u8)=>some (.b2s x)|_=>none
  |_,_=>none
 | .makeFunc (.func f) first caps=>if first.isEmpty then (vA caps.toList).bind fun l=>some (.fn f l) else if caps.isEmpty then (vA first.toList).bind fun l=>some (.FF f l) else none
 | .slice t x lo hi mx=>(eV x).bind fun x=>(yZ lo).bind fun lo=>(yZ hi).bind fun hi=>(yZ mx).bind fun mx=>match P.underlying t with
  |some .string=>if mx.isNone then some (.BI x lo hi) else none
  |some (.slice e)=>(qG P e).bind fun n=>if 0<n/\(mx.isNone\/hi.isSome) then some (RU own o.dst n x lo hi mx) else none
  |_=>none
 | .fieldAddr s x f=>match P.underlying s with
  |some (.struct fs)=>(fs[f]?).bind fun f=>(qG P f.type).bind fun n=>(eV x).bind fun x=>if 0<n then some (.yF f.offset x) else none
  |_=>none
 | .field s x f=>match P.underlying s with
  |some (.struct fs)=>(fs[f]?).bind fun f=>(CK P f.type).bind fun g=>(qG P f.type).bind fun n=>(eV x).bind fun x=>some (if g then .DL f.offset n x else .DK f.offset x)
  |_=>none
 | .indexAddr t x i=>match P.underlying t with
  |some (.slice e)=>(qG P e).bind fun n=>(eV x).bind fun x=>(eV i).bind fun i=>if 0<n then some (.ui n x i) else none
  |some (.array len e)=>(qG P e).bind fun n=>(eV x).bind fun x=>(eV i).bind fun i=>if 0<n then some (.Bi len n x i) else none
  |_=>none
 | .index t x i=>match P.underlying t with
  |some .string=>(eV x).bind fun x=>(eV i).bind fun i=>some (.Bj x i)
  |_=>none
 | .extract x i=>(eV x).bind fun x=>some (.extract x i)
 | .call c=>RR P own o.dst o.type c
 | .makeMap _ none=>some .mkMap
 | .lookup t x i ok=>match P.underlying t with
  |some (.map k e)=>(Ec P k).bind fun fk=>(P.info? e).bind fun ie=>ie.zero.bind fun zv=>(Rv zv).bind fun z=>(eV x).bind fun x=>(eV i).bind fun i=>some (.look fk z ok x i)
  |_=>none
 | .mapUpdate t m k v=>match P.underlying t with
  |some (.map kt _)=>(Ec P kt).bind fun fk=>(eV m).bind fun m=>(eV k).bind fun k=>(eV v).bind fun v=>some (.gH fk m k v)
  |_=>none
 | .range t x=>match P.underlying t with
  |some .string=>(eV x).bind fun x=>some (.QF x)
  |_=>none
 | .next it true=>(eV it).bind fun it=>some (.Gq it)
 | .makeInterface t x=>(eV x).bind fun x=>match P.underlying t with
  |some (.interface _)=>none
  |some _=>some (.iface t x)
  |none=>none
 | .panic x=>(eV x).bind fun x=>some (.raise x)
 | .insert t m k v=>match P.underlying t with
  |some (.map kt _)=>(Ec P kt).bind fun fk=>(eV m).bind fun m=>(eV k).bind fun k=>(RT v).bind fun v=>some (.gH fk m k v)
  |_=>none
 | .makeSlice t x y=>match P.underlying t with
  |some (.slice e)=>(P.info? e).bind fun i=>i.zero.bind fun z=>(tu z.cells.toList).bind fun l=>(eV x).bind fun x' =>
   if aiE x y=true/\l.length=i.size/\0<i.size/\i.bytes<=32*i.size then some (match o.dst with|some d=>if own.contains (5000000+d) then .Qd (l.map ag.shut) x' else .mkS (l.map ag.shut) x'|none => .mkS (l.map ag.shut) x') else none
  |_=>none
 |_=>none
structure BX where
 n:Nat
 own:List Nat:=[]
 lv:List (Nat×List Nat)
 lp:List (Nat×List Nat):=[]
def find(l:List (Nat×List Nat))(k:Nat):List Nat:=match l with
 | []=>[]
 |(i,x)::r=>if i=k then x else find r k
def acA(n:Nat):Option Nat->Bool
 |some d=>decide (d<n)
 |none=>true
def MW(P:Program)(A:BX)(ops:Array Oper)(grow:Bool)(o:Oper):Option dg :=
 (Pa P A.own o).bind fun op =>
  if acA A.n o.dst then
   match o.guard with
   |none=>some { dst:=o.dst,op,guard:=none,grow }
   |some (k,want)=>((ops[k]?).bind (·.dst)).bind fun t=>if t<A.n then some { dst:=o.dst,op,guard:=some (t,want),grow } else none
  else none
def ub(P:Program)(A:BX)(ops:Array Oper)(grow:List Bool):List Oper->Option (List dg)
 | []=>some []
 |o::r=>(MW P A ops (grow.headD false) o).bind fun x=>(ub P A ops grow.tail r).bind fun l=>some (x::l)
def ll:Code->Nat
 | .region id _ _=>id
 | .seq a _=>ll a
 | .block _ c=>ll c
 | .loop c=>ll c
 | .cond _ a _=>ll a
 |_=>0
def fY.mb:fY->List Nat
 | .tmp t=>[t]
 | .ti _=>[]
def BB:Option fY->List Nat
 |some x=>x.mb
 |none=>[]
def kG.mb:kG->List Nat
 | .mv x | .own _ x | .box x | .mM _ x | .rE x | .chk x | .not x | .neg x | .conv _ x | .same x | .yF _ x | .DL _ _ x | .DK _ x | .extract x _ | .V5 x | .Aa x | .b2s x | .P0 x | .QF x | .Gq x | .xe _ _ x | .iface _ x | .raise x | .mkS _ x | .Qd _ x=>x.mb
 | .pick c a b=>c.mb++(a.mb++b.mb)
 | .yX _ | .mkMap | .O8 _=>[]
 | .build _ ps=>ps.flatMap fun p=>p.2.2.mb
 | .lits _ ps | .Gk _ ps=>ps.flatMap fY.mb
 | .store _ a x | .BM _ _ _ a x=>a.mb++x.mb
 | .gH _ m k v=>m.mb++(k.mb++v.mb)
 | .bin _ x y | .look _ _ _ x y | .Q6 _ _ x y | .eqB _ x y | .ui _ x y | .Bi _ _ x y | .Bj x y | .Pn _ x y | .append _ _ x y | .wb _ _ x y | .Bw _ x y | .xX _ _ _ x y | .FM _ x y=>x.mb++y.mb
 | .fn _ l | .FF _ l=>l.flatMap fY.mb
 | .BI x l h=>x.mb++(BB l++BB h)
 | .uA _ x l h m=>x.mb++(BB l++(BB h++BB m))
 | .call _ l | .B4 _ l | .lk _ l | .wE _ l=>l.flatMap fY.mb
 | .sB f l | .B5 f l=>f.mb++l.flatMap fY.mb
def kG.Q7:kG->Bool
 | .own .. | .Gk .. | .Qd .. | .xX .. | .FM .. | .O8 _ | .yX _ | .box _ | .store .. | .BM .. | .call .. | .sB .. | .B5 .. | .B4 .. | .lk .. | .wE .. | .xe .. | .append .. | .wb .. | .mkMap | .gH .. | .P0 _ | .QF _ | .Gq _=>true
 |_=>false
def kG.Q8:kG->Bool
 | .mM .. | .rE _ | .look .. => true
 |_=>false
def dg.reads(o:dg):List Nat:=o.op.mb++(match o.guard with|some (t,_)=>[t]|none=>[])
def xA(acc:List Nat):List Edge->Nat
 | []=>0
 |e::r=>if Region.binds .any e then xA acc r ||| (2 ^ e.on ||| (nth acc e.on).getD 0) else xA acc r
def Ds:List Oper->List Nat->List Nat
 | [],acc=>acc
 |o::r,acc=>Ds r (acc++[xA acc o.after.toList])
def rl(ops:List Oper):List Nat:=Ds ops []
def ahead(bs:List Nat)(i k:Nat):Bool:=((nth bs k).getD 0).testBit i
def meet(x y:dg):Bool :=
 (match x.dst with|some d=>y.reads.contains d||y.dst==some d|none=>false)||(match y.dst with|some d=>x.reads.contains d|none=>false)
def fenced(bs:List Nat)(l:List dg)(k:Nat):Bool:=(List.range l.length).all fun i=>match nth l i with
 |some x => !x.op.Q8||(if i<k then ahead bs i k else i==k||ahead bs k i)
 |none=>true
def kG.xm:kG->Bool
 | .call .. | .sB .. => true
 |_=>false
def ordered(bs:List Nat)(i k:Nat):Bool:=i==k||(if i<k then ahead bs i k else ahead bs k i)
def alone(bs:List Nat)(l:List dg)(k:Nat):Bool:=(List.range l.length).any fun i=>match nth l i with
 |some x=>x.op.Q7 && !ordered bs i k
 |none=>false
def kG.Oj:kG->Option Nat
 | .rE (.tmp z)=>some z
 | .mM _ (.tmp z)=>some z
 | .look _ _ _ (.tmp z) _=>some z
 |_=>none
def kG.as0:kG->Bool
 | .store .. => true
 | .append .. | .wb .. => true
 |_=>false
def anN(l:List dg)(i k z:Nat):Bool:=(List.range k).all fun p=>decide (p<i)||match nth l p with|some x=>x.dst != some z|none=>true
def MD(bs:List Nat)(l:List dg)(k:Nat):Bool:=(List.range l.length).all fun i=>i==k||(if i<k then (ahead bs i k||match nth l i with|some x => !x.op.Q7|none=>false) else ahead bs k i)
def Og(bs:List Nat)(l:List dg)(k:Nat):List Nat:=(List.range k).filterMap fun i=>match nth l i with
 |some x=>if x.op.Q8 && !ahead bs i k then x.op.Oj else none
 |none=>none
def Da(bs:List Nat)(l:List dg)(k:Nat)(sep:List Nat):Bool:=(List.range l.length).all fun i=>match nth l i with
 |some x => !x.op.Q8||i==k||(if i<k then (ahead bs i k||match x.op.Oj with|some z=>sep.contains z&&anN l i k z|none=>false) else ahead bs k i)
 |none=>true
def qt(bs:List Nat)(l:List dg):Nat->List dg->List dg
 |_,[]=>[]
 |k,x::r=>{ x with grow:=x.op.Q7 && !(x.op.xm&&alone bs l k) && !fenced bs l k,xD:=x.op.xm&&alone bs l k,sep:=if x.op.as0 && !fenced bs l k&&Da bs l k (Og bs l k) then Og bs l k else [],stop := !x.op.RY||MD bs l k }::qt bs l (k+1) r
def dg.uk(x:dg):Bool:=x.op.Q7 && !x.xD
def Mi:kG->Bool
 | .rE (.ti _) | .mM _ (.ti _) | .look _ _ _ (.ti _) _=>false
 |_=>true
def Cj(ops:Array Oper)(l:List dg)(k:Nat):Bool:=match ops[k]?,nth l k with
 |some o,some y=>(match y.op with
  | .yX _=>(match o.op with | .alloc _=>true|_=>false)
  | .box _=>(match o.op with | .box _ _=>true|_=>false)
  | .wE .. => (match o.op with | .call c=>(match c.callee with | .value (.func _)=>true|_=>false)|_=>false)
  |_=>false)&&y.guard.isNone
 |_,_=>false
def HF(ops:Array Oper)(bs:List Nat)(l:List dg):Bool:=(List.range l.length).all fun k=>match nth l k,ops[k]? with
 |some y,some o=>o.after.toList.all (fun e => !Region.binds .any e||decide (e.on<k))&&((!y.xD||y.op.xm)&&Mi y.op)&&((!(y.uk && !y.grow)||fenced bs l k)&&(y.sep.isEmpty||Da bs l k y.sep)) &&
  ((!y.lets||MD bs l k)&&(List.range k).all fun i=>match nth l i with
   |some x=>(!meet x y||ahead bs i k)&&(!(x.uk&&y.uk)||(ahead bs i k||(Cj ops l i&&Cj ops l k)))
   |none=>false)
 |_,_=>false
def BA(ops:Array Oper)(l:List dg):Option (List dg) :=
 if HF ops (rl ops.toList) (qt (rl ops.toList) l 0 l) then some (qt (rl ops.toList) l 0 l) else none
def ZG(A:BX)(y:Code)(c:cG):cG:=match A.own.find? (fun m=>decide (m / 1000=14000000+ll y)) with
 |some m => .rz (m % 1000) c
 |none=>c
def NR(A:BX)(c:Code)(l:List Nat)(x:cG):cG:=if A.own.contains (11000000+ll c) then .nF l x else .loop l x
def comp(P:Program)(A:BX):Code->Option cG
 | .skip=>some .skip
 | .region id ops draw=>if draw then
   (ub P { A with own:=A.own.filter (1000000 <= ·) } ops [] ops.toList).bind fun l0=>(BA ops l0).bind fun l=>some (.region l true (find A.lv id))
  else (ub P A ops [] ops.toList).bind fun l=>some (.region l false (find A.lv id))
 | .seq a b=>(comp P A a).bind fun x=>(comp P A b).bind fun y=>some (.seq x (ZG A b y))
 | .cond c a b=>(eV c).bind fun c=>(comp P A a).bind fun x=>(comp P A b).bind fun y=>some (.cond c x y)
 | .block id c=>(comp P A c).bind fun x=>some (.block id x)
 | .loop c=>(comp P A c).bind fun x=>some (NR A c (find A.lp (ll c)) x)
 | .exit id=>some (.exit id)
 | .ret=>some .ret
 |_=>none
def IE(P:Program):List ResultVar->Option (List sV)
 | []=>some []
 | .tmp t::r=>(IE P r).bind fun l=>some (.tmp t::l)
 | .cell a t::r=>(CK P t).bind fun g=>(qG P t).bind fun n=>(IE P r).bind fun l=>some ((if g then .dQ a n else .acs a)::l)
def oW(P:Program)(A:BX)(fn:Func):Option eE :=
 match fn.body with
 |none=>none
 |some c=>if fn.name != "runtime.NumGoroutine" /\ A.n=fn.ntmps/\fn.params.size+fn.nfree<=fn.ntmps then
   (comp P A c).bind fun b=>(IE P fn.results.toList).bind fun r=>some { nparams:=fn.params.size+fn.nfree,results:=r,body:=b }
  else none
end
section
open Go
def aoN(x:Operand)(s:Nat):Nat:=match x with
 | .tmp t=>s ||| (1 <<< t)
 |_=>s
def opB(ops:Array Oper)(o:Oper)(s:Nat):Nat :=
 let s:=match o.dst,o.guard with
  |some d,none=>if s.testBit d then s-(1 <<< d) else s
  |_,_=>s
 let s:=o.op.operands.toList.foldl (fun s x=>aoN x s) s
 match o.guard with
 |some (k,_)=>match (ops[k]?).bind (·.dst) with
  |some t=>s ||| (1 <<< t)
  |none=>s
 |none=>s
def auU(ops:Array Oper)(out:Nat):Nat :=
 let l:=ops.toList.foldr (opB ops) out
 let g:=ops.toList.foldl (fun g o=>match o.dst,o.guard with
  |some d,some _=>g ||| (1 <<< d)
  |_,_=>g) 0
 let d:=g ^^^ (g &&& out)
 l ^^^ (l &&& d)
def NN:List (Nat×Nat)->Nat->Nat
 | [],_=>0
 |(i,x)::r,k=>if i=k then x else NN r k
def Ac(ret:Nat):Code->List (Nat×Nat)->Nat->Nat×List (Nat×Nat)×List (Nat×Nat)
 | .skip,_,out=>(out,[],[])
 | .region id ops _,_,out=>(auU ops out,[(id,out)],[])
 | .seq a b,ex,out =>
  let y:=Ac ret b ex out
  let x:=Ac ret a ex y.1
  (x.1,x.2.1++y.2.1,x.2.2++y.2.2)
 | .cond c a b,ex,out =>
  let x:=Ac ret a ex out
  let y:=Ac ret b ex out
  (aoN c (x.1 ||| y.1),x.2.1++y.2.1,x.2.2++y.2.2)
 | .block id c,ex,out=>Ac ret c ((id,out)::ex) out
 | .loop c,ex,_ =>
  let h1:=(Ac ret c ex 0).1
  let h2:=h1 ||| (Ac ret c ex h1).1
  let z:=Ac ret c ex h2
  let h3:=h2 ||| z.1
  (h3,z.2.1,(ll c,h3)::z.2.2)
 | .exit id,ex,_=>(NN ex id,[],[])
 | .ret,_,_=>(ret,[],[])
 |_,_,out=>(out,[],[])
def alg(n s:Nat):List Nat:=(List.range n).filter s.testBit
def Fy(own:List Nat)(fn:Func):BX:=match fn.body with
 |none=>{ n:=0,lv:=[] }
 |some c =>
  let r:=fn.results.toList.foldl (fun s x=>match x with
   | .tmp t=>s ||| (1 <<< t)
   | .cell t _=>s ||| (1 <<< t)) 0
  let z:=Ac r c [] r
  let f:=fun(p:Nat×Nat)=>(p.1,alg fn.ntmps p.2)
  { n:=fn.ntmps,own:=own,lv:=z.2.1.map f,lp:=z.2.2.map f }
def cG.size:cG->Nat
 | .seq a b=>a.size+b.size+1
 | .cond _ a b=>a.size+b.size+1
 | .block _ a=>a.size+1
 | .loop _ a=>a.size+1
 | .nF _ a=>a.size+1
 | .rz _ a=>a.size+1
 | .region .. => 1
 | .skip=>1
 | .exit _=>1
 | .ret=>1
def cG.sP:cG->List cG
 | .seq a b => .seq a b::(a.sP++b.sP)
 | .cond c a b => .cond c a b::(a.sP++b.sP)
 | .block i a => .block i a::a.sP
 | .loop l a => .loop l a::a.sP
 | .nF l a => .nF l a::a.sP
 | .rz l a => .rz l a::a.sP
 |c=>[c]
def sub(c:cG)(i:Nat):cG:=(c.sP[i]?).getD .skip
def ref(r:cG)(i:Nat):cG->cG
 | .skip => .skip
 | .exit n => .exit n
 | .ret => .ret
 | .region .. => sub r i
 | .seq .. => sub r i
 | .cond .. => sub r i
 | .block .. => sub r i
 | .loop .. => sub r i
 | .nF .. => sub r i
 | .rz .. => sub r i
def Aw(r:cG)(i:Nat):cG->cG
 | .region a b c => .region a b c
 | .skip => .skip
 | .exit n => .exit n
 | .ret => .ret
 | .seq .. => sub r i
 | .cond .. => sub r i
 | .block .. => sub r i
 | .loop .. => sub r i
 | .nF .. => sub r i
 | .rz .. => sub r i
abbrev Hd(q b:cG):Prop:=∀(C:eL)(fn:List sV)(bS:Nat)(k:List K)(bp:Env)(M:aC),eS C fn bS k q bp M=eS C fn bS k b bp M
def CP(e:Prop):cG->Prop
 | .region .. => True
 | .skip | .exit _ | .ret=>True
 | .seq .. => e
 | .cond .. => e
 | .block .. => e
 | .loop .. => e
 | .nF .. => e
 | .rz .. => e
def eqs(r:cG):Nat->cG->Prop
 |i,.seq a b=>Hd (sub r i) (.seq (Aw r (i+1) a) (ref r (i+1+a.size) b))/\(CP (eqs r (i+1) a) a/\eqs r (i+1+a.size) b)
 |i,.cond c a b=>Hd (sub r i) (.cond c (ref r (i+1) a) (ref r (i+1+a.size) b))/\(eqs r (i+1) a/\eqs r (i+1+a.size) b)
 |i,.block n a=>Hd (sub r i) (.block n (ref r (i+1) a))/\eqs r (i+1) a
 |i,.loop n a=>Hd (sub r i) (.loop n (ref r (i+1) a))/\eqs r (i+1) a
 |i,.nF n a=>Hd (sub r i) (.nF n (ref r (i+1) a))/\eqs r (i+1) a
 |i,.rz n a=>Hd (sub r i) (.rz n (ref r (i+1) a))/\eqs r (i+1) a
 |i,.region a b c=>Hd (sub r i) (.region a b c)
 |_,.skip=>True
 |_,.exit _=>True
 |_,.ret=>True
def pZ:∀c:cG,c.sP.length=c.size
 | .seq a b=>by simp[cG.sP,cG.size,pZ a,pZ b]
 | .cond _ a b=>by simp[cG.sP,cG.size,pZ a,pZ b]
 | .block _ a=>by simp[cG.sP,cG.size,pZ a]
 | .loop _ a=>by simp[cG.sP,cG.size,pZ a]
 | .nF _ a=>by simp[cG.sP,cG.size,pZ a]
 | .rz _ a=>by simp[cG.sP,cG.size,pZ a]
 | .region .. | .skip | .exit _ | .ret=>by simp[cG.sP,cG.size]
def aiw(c:cG):c.sP[0]?=some c:=by cases c<;>simp[cG.sP]
def At(r:cG)(i:Nat)(c:cG):Prop:=∀j,j<c.size->r.sP[i+j]?=c.sP[j]?
def size_pos(c:cG):0<c.size:=by cases c<;>simp[cG.size]
def At.sub{r c:cG}{i:Nat}(h:At r i c):sub r i=c:=by
 have:=h 0 (size_pos c);rw[dj,aiw] at this;simp[Abs.sub,this]
def At.ref{r c:cG}{i:Nat}(h:At r i c):ref r i c=c:=by
 cases c<;>first|rfl|exact h.sub
def At.Aw{r c:cG}{i:Nat}(h:At r i c):Aw r i c=c:=by
 cases c<;>first|rfl|exact h.sub
def Zo{e:Prop}{c:cG}(h:e):CP e c:=by
 cases c<;>first|trivial|exact h
def At.two{r a b x:cG}{i:Nat}(h:At r i x)(hx:x.sP=x::(a.sP++b.sP))(hs:x.size=a.size+b.size+1):At r (i+1) a/\At r (i+1+a.size) b:=by
 refine⟨fun j hj=>?_,fun j hj=>?_⟩
 ·have:=h (j+1) aH;rw[hx,da,aO (by rw[pZ]; exact hj)] at this
  rw[<-this]; congr 1; omega
 ·have:=h (a.size+j+1) aH;rw[hx,da,bj (by rw[pZ]; omega),pZ] at this
  rw[show a.size+j-a.size=j by omega] at this
  rw[<-this]; congr 1; omega
def At.one{r a x:cG}{i:Nat}(h:At r i x)(hx:x.sP=x::a.sP)(hs:x.size=a.size+1):At r (i+1) a:=by
 intro j hj;have:=h (j+1) aH;rw[hx,da] at this;rw[<-this]; congr 1; omega
def D0{q b:cG}(h:q=b):Hd q b:=nn h
def wm(r:cG):∀(c:cG)(i:Nat),At r i c->eqs r i c
 | .seq a b,i,h=>by
  obtain⟨h1,h2⟩:=h.two (a:=a) (b:=b) rfl rfl;exact⟨D0 (by rw[h.sub,h1.Aw,h2.ref]),Zo (wm r a _ h1),wm r b _ h2⟩
 | .cond c a b,i,h=>by
  obtain⟨h1,h2⟩:=h.two (a:=a) (b:=b) rfl rfl;exact⟨D0 (by rw[h.sub,h1.ref,h2.ref]),wm r a _ h1,wm r b _ h2⟩
 | .block n a,i,h=>by
  have h1:=h.one (a:=a) rfl rfl;exact⟨D0 (by rw[h.sub,h1.ref]),wm r a _ h1⟩
 | .loop n a,i,h=>by
  have h1:=h.one (a:=a) rfl rfl;exact⟨D0 (by rw[h.sub,h1.ref]),wm r a _ h1⟩
 | .nF n a,i,h=>by
  have h1:=h.one (a:=a) rfl rfl;exact⟨D0 (by rw[h.sub,h1.ref]),wm r a _ h1⟩
 | .rz n a,i,h=>by
  have h1:=h.one (a:=a) rfl rfl;exact⟨D0 (by rw[h.sub,h1.ref]),wm r a _ h1⟩
 | .region ..,_,h=>D0 h.sub
 | .skip,_,_=>trivial
 | .exit _,_,_=>trivial
 | .ret,_,_=>trivial
def ajq(r:cG):At r 0 r:=fun j _=>by rw[aI]
def DB[kx](P:Program)(A:BX):Code->Option cG
 | .skip=>some .skip
 | .region id ops draw=>if draw then
   (ub P { A with own:=A.own.filter (1000000 <= ·) } ops [] ops.toList).bind fun l=>some (.region (qt (rl ops.toList) l 0 l) true (find A.lv id))
  else (ub P A ops [] ops.toList).bind fun l=>some (.region l false (find A.lv id))
 | .seq a b=>(DB P A a).bind fun x=>(DB P A b).bind fun y=>some (.seq x (ZG A b y))
 | .cond c a b=>(eV c).bind fun c=>(DB P A a).bind fun x=>(DB P A b).bind fun y=>some (.cond c x y)
 | .block id c=>(DB P A c).bind fun x=>some (.block id x)
 | .loop c=>(DB P A c).bind fun x=>some (NR A c (find A.lp (ll c)) x)
 | .exit id=>some (.exit id)
 | .ret=>some .ret
 |_=>none
def alK[kx](P:Program)(A:BX)(fn:Func):Option cG:=match fn.body with
 |some c=>DB P A c
 |none=>none
abbrev Cv[kx](P:Program)(A:BX)(f:Func):={ g:cG // alK P A f=some g }
def okc{o:Option eE}{n:Nat}{r:List sV}{c:cG}(h:o=some (eE.mk n r c)):o=some (eE.mk n r (sub c 0)):=by
 rw[h,(ajq c).sub]
def yQ:=u8w @eqs.eq_1 @eqs.eq_2 @eqs.eq_3 @eqs.eq_4 @eqs.eq_5 @eqs.eq_6 @eqs.eq_7 @eqs.eq_8 (u8w @eqs.eq_9 @eqs.eq_10 @ref.eq_1 @ref.eq_2 @ref.eq_3 @ref.eq_4 @ref.eq_5 @ref.eq_6 (u8w @ref.eq_7 @ref.eq_8 @ref.eq_9 @ref.eq_10 @Aw.eq_1 @Aw.eq_2 @Aw.eq_3 @Aw.eq_4 (u8w @Aw.eq_5 @Aw.eq_6 @Aw.eq_7 @Aw.eq_8 @Aw.eq_9 @Aw.eq_10 @CP.eq_1 @CP.eq_2 (u8w @CP.eq_3 @CP.eq_4 @CP.eq_5 @CP.eq_6 @CP.eq_7 @CP.eq_8 @CP.eq_9 @CP.eq_10 (u8w @cG.size.eq_1 @cG.size.eq_2 @cG.size.eq_3 @cG.size.eq_4 @cG.size.eq_5 @cG.size.eq_6 @cG.size.eq_7 @cG.size.eq_8 (bR @cG.size.eq_9 (bR @cG.size.eq_10 (bR @and_true @true_and))))))))
end
end Go.Abs
namespace Go.Proofs.YteoamaffclmdbaaGreatDoor
open Go Go.Abs
def I5:Value := .iface 215 (.agg #[.pointer (some ⟨2,99,none⟩)])
instance:kx where
 g:=fun b=>match b with
  |0=>some [I5]
  |_=>none
 u8:=5
def amF:Func:={ name := "",origin := "",params := #[],resultTypes := #[],nfree:=0,ntmps:=0,results := #[],body:=some .skip,norace:=false,tmpNames := #[] }
noncomputable def aov:Program:={ toTables:={ goVersion := "",platform := "",initOrder := "",godebug := "",types:=Tryz.types,rt:=Tryz.progTables.rt,cutTypes := #[],globals := #[],inits := #[],main:=0 },funcs:=⟨List.replicate 900 amF⟩ }
abbrev Ko(own:List Nat)(f:Func):=Cv aov (Fy own f) f
def eO{A:List Nat}{f:Func}(h:Ko A f:=by apply Subtype.mk; cbv):=h
abbrev sS(own:List Nat)(f:Func)(c:eE):Prop:=oW Tryz.prog (Fy own f) f=some c
section
open Go.ChangeShapes Go.WideShapes Go.RowKit
def auP:ownKnob Tryz.prog.godebug=none:=ft
abbrev V3:List (String×DataW Unit):=[("errors.errorType",Rows.laid_errors_errorType)]
def Tt:J:=⟨fun _=>none,fun _ _=>False⟩
def auV(W:World):Rel Tt [] W where
 inj:=fun _ _ _ h=>by cases h
 lt:=fun _ _ h=>by cases h
 fix:=fun _ _ h=>by cases h
 tick:=fun _ _ _ _ h=>by cases h
 arr:=fun _ _ _ _ h=>by cases h
 uM:=fun _ _ h=>by cases h
 zz:=fun _ _ h=>h.elim
def MZ{w:World}{b off:Nat}{v:Value}(h:w.cell? ⟨b,off,none⟩=some v):b<w.heap.size:=by
 rcases bA b w.heap.size with hb|hb
 ·exact hb
 ·simp[World.cell?,im hb] at h
def ahZ:((List.range Tryz.prog.types.size).filter fun t=>Tryz.prog.rowNamed t [101,114,114,111,114])=[99]:=ft
def rtK{a:Option Nat}{u n:Nat}(e:a=some u)(h:a=some n):n=u:=oS (h.symm.trans e)
def amO{W:World}(hL:laidMetH Tryz.prog V3 W)(hsh:W.ShapedOpen Tryz.prog):sW Tt [] W:=by
 have h':laidMet Tryz.prog [] W/\handlesMet Tryz.prog V3 W:=hL;obtain⟨name,u,ty,e1,e2,e3,e4,e5⟩:=h'.2 _ (bT.2 rfl);have en:name=[101,114,114,111,114]:=(oS e1).symm;subst en;obtain rfl:=rtK e2 (n:=215) ft;have hm:ty∈(List.range Tryz.prog.types.size).filter fun t=>Tryz.prog.rowNamed t [101,114,114,111,114]:=dP.2 ⟨eY.2 e3,e4⟩
 rw[ahZ] at hm;obtain rfl:=bT.1 hm;rw[show typeHandle Tryz.prog 99 = .pointer (some ⟨2,99,none⟩) by kernel_rfl] at e5
 have hc:W.cell? ⟨0,0,none⟩=some I5:=by simpa[I5] using World.var?_cell (show Tryz.prog.globalNamed "errors.errorType" = some 0 by kernel_rfl) e5 0
 obtain⟨⟨zero,t'⟩,hz,he⟩:=aU.1 (show(((begin Tryz.prog (fun _ _=>0) default).world.heap[0]?).bind Obj.row?).map (fun x=>x.1.size)=some 1 by kernel_rfl)
 obtain⟨cs,h1,h2,_⟩:=hsh.1 0 zero t' (jZ ft) hz;refine⟨fun b vs k v hb hk=>?_,fun b vs hb=>?_,fun b p hb=>by cases hb⟩
 ·match b,hb with
  |0,hb =>
   cases hb
   match k,hk with
   |0,hk=>cases hk; exact⟨⟨MZ hc,fun id hid=>by simp at hid,fun h=>h⟩,hc⟩
 ·match b,hb with
  |0,hb=>cases hb; exact⟨cs,_,_,h1,h2.trans he⟩
noncomputable def yd(os:Os):World :=
 let w0:=World.holding Tryz.prog os ⟨#[],#[],[]⟩
 { w0 with heap:=w0.heap.modify 0 fun
   | .cells _ t frozen => .cells #[I5] t frozen
   |o=>o }
def V4(os:Os)(args:Array Value):laidMetH Tryz.prog V3 ((yd os).forCall (fun _ _=>0) ⟨#[],args,[]⟩).memory :=
 laidMetH_of_parts (laidMet_nil _ _) ft
end
end Go.Proofs.YteoamaffclmdbaaGreatDoor
