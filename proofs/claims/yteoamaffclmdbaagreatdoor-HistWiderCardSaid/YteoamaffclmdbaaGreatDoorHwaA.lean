import Derived.KernelRfl
import Derived.Calls
import Derived.Laws.Sem
import Derived.Below
import Derived.Test.YteoamaffclmdbaaGreatDoorProg
import Derived.Test.YteoamaffclmdbaaGreatDoorCards
import Derived.ChangeSame
import Derived.ChangeVars
import Derived.JoinedOf
import Derived.RowKit
import Derived.RowKitTokens
import Derived.LaidLaws
import Derived.LaidHandle
import Derived.Stop.Joined
import Derived.Lib.LaidU8
import Derived.Deep.DeepHandedRow
import Derived.Deep.DeepWitnessRowRef
import Derived.ProofKit
import Derived.SizedLaws
import Derived.Carry
import Derived.OpenShut
import Derived.Deep.Slices
import Derived.Deep.Fields
import Derived.ChangeOld
import Derived.Shelf.Vars
import Derived.Lib.LaidIn
set_option linter.unusedSimpArgs false
set_option linter.unusedVariables false
set_option linter.unusedSectionVars false
set_option linter.defProp false
namespace Go
def sY{α:Type}{o:Option α}{a b:α}(h:o=some a)(e:a=b:=by kernel_rfl):o=some b:=h.trans (congrArg some e)
def aI{p:Prop}(h:p:=by omega):=h
def gm{p:Prop}(h:p:=by simp;omega):=h
def dv{p:Prop}(h:p:=by simp):=h
def fy{p:Prop}(h:p:=by kernel_rfl):=h
def ka{p:Prop}(h:p:=by grind):=h
def mr{p:Prop}(h:p:=by decide):=h
def bR{a b:Prop}(x:a)(y:b):=And.intro x y
def dw:=@Array.getD_eq_getD_getElem?
def cf:=@Array.getElem?_append_left
def bh:=@Array.getElem?_eq_getElem
def iq:=@Array.getElem?_eq_none
def fI:=@Array.getElem?_eq_some_iff
def iJ:=@Array.getElem?_map
def gV:=@Array.getElem?_modify
def fW:=@Array.getElem?_push
def fD:=@Array.getElem?_setIfInBounds_ne
def gZ:=@Array.getElem?_setIfInBounds_self
def lU:=@Array.mapM_eq_mapM_toList
def jN:=@Array.replicate_succ
def jO:=@Array.replicate_zero
def ga:=@Array.size_append
def bt:=@Bool.and_eq_true
def dV:=@Bool.and_false
def jP:=@Bool.and_self
def gG:=@Bool.and_true
def cE:=@Bool.eq_iff_iff
def dW:=@Bool.false_and
def af:=@Bool.false_eq_true
def cT:=@Bool.false_or
def gN:=@Bool.not_eq_true'
def ew:=@Bool.not_false
def cU:=@Bool.not_true
def jQ:=@Bool.or_eq_false_iff
def cS:=@Bool.or_eq_true
def fE:=@Bool.or_false
def fF:=@Bool.or_self
def er:=@Bool.or_true
def dZ:=@Bool.true_and
def dJ:=@Bool.true_or
def il:=@Eq.trans
def dN:=@Int.le_refl
def bu:=@Int.lt_irrefl
def kI:=@Int.natCast_nonneg
def eL:=@Int.toNat_natCast
def oL:=@Int.toNat_of_nonneg
def jR:=@List.Pairwise.filter
def oM:=@List.all_append
def kN:=@List.all_cons
def bN:=@List.all_eq_true
def jS:=@List.any_cons
def ku:=@List.any_eq_true
def o5:=@List.any_nil
def bZ:=@List.append_assoc
def c8:=@List.append_nil
def kd:=@List.append_toArray
def kO:=@List.cons.injEq
def aG:=@List.cons_append
def jB:=@List.contains_iff_mem
def lZ:=@List.countP_cons
def nA:=@List.countP_le_length
def du:=@List.drop_eq_getElem_cons
def jn:=@List.drop_eq_nil_of_le
def ir:=@List.drop_of_length_le
def ke:=@List.drop_succ_cons
def jx:=@List.drop_zero
def dC:=@List.eq_nil_of_length_eq_zero
def nB:=@List.eq_nil_or_concat
def mj:=@List.eq_of_mem_replicate
def fj:=@List.exists_cons_of_ne_nil
def ct:=@List.ext_getElem?
def iK:=@List.filter_append
def eZ:=@List.filter_cons
def mH:=@List.filter_cons_of_pos
def ji:=@List.filter_eq_self
def kP:=@List.filter_nil
def fu:=@List.find?_eq_none
def mJ:=@List.flatMap_eq_nil_iff
def ll:=@List.foldl_append
def cF:=@List.foldl_cons
def nh:=@List.foldl_nil
def lq:=@List.getD_eq_getElem?_getD
def nR:=@List.getElem?_append
def aO:=@List.getElem?_append_left
def bg:=@List.getElem?_append_right
def cW:=@List.getElem?_cons_succ
def gq:=@List.getElem?_cons_zero
def cI:=@List.getElem?_drop
def ai:=@List.getElem?_eq_getElem
def gb:=@List.getElem?_eq_none
def aj:=@List.getElem?_eq_some_iff
def aY:=@List.getElem?_map
def fP:=@List.getElem?_modify
def bV:=@List.getElem?_of_mem
def jj:=@List.getElem?_range
def ia:=@List.getElem?_replicate
def fJ:=@List.getElem?_set
def eJ:=@List.getElem?_set_ne
def fa:=@List.getElem?_set_self
def fx:=@List.getElem?_take
def bH:=@List.getElem?_take_of_lt
def js:=@List.getElem_mem
def kf:=@List.getElem_of_mem
def aA:=@List.length_append
def au:=@List.length_cons
def hU:=@List.length_drop
def dP:=@List.length_eq_zero_iff
def bT:=@List.length_filter_le
def ef:=@List.length_map
def jy:=@List.length_modify
def aw:=@List.length_nil
def gP:=@List.length_pos_iff
def kX:=@List.length_replicate
def cG:=@List.length_set
def cp:=@List.length_take
def aW:=@List.map_append
def cX:=@List.map_congr_left
def aF:=@List.map_cons
def jT:=@List.map_drop
def oN:=@List.map_eq_nil_iff
def gH:=@List.map_map
def aR:=@List.map_nil
def gX:=@List.map_replicate
def gj:=@List.map_set
def eP:=@List.map_take
def bo:=@List.mem_append
def fq:=@List.mem_append_left
def iC:=@List.mem_append_right
def bI:=@List.mem_cons
def bw:=@List.mem_cons_of_mem
def bE:=@List.mem_cons_self
def ei:=@List.mem_filter
def jt:=@List.mem_flatMap
def eK:=@List.mem_map
def iA:=@List.mem_of_find?_eq_some
def aK:=@List.mem_of_getElem?
def dx:=@List.mem_of_mem_drop
def dM:=@List.mem_of_mem_take
def jG:=@List.mem_or_eq_of_mem_set
def gk:=@List.mem_range
def bQ:=@List.mem_singleton
def aQ:=@List.nil_append
def lu:=@List.nodup_append
def oO:=@List.nodup_cons
def lF:=@List.nodup_nil
def ft:=@List.pairwise_append
def dj:=@List.pairwise_cons
def cm:=@List.pairwise_iff_getElem
def jU:=@List.pairwise_map
def ma:=@List.prefix_refl
def lx:=@List.push_toArray
def lG:=@List.range_eq_range'
def jk:=@List.replicate_succ
def nS:=@List.replicate_succ'
def ju:=@List.set_eq_take_append_cons_drop
def cY:=@List.size_toArray
def iu:=@List.takeWhile_cons
def cB:=@List.take_add_one
def cC:=@List.take_append_drop
def fQ:=@List.take_append_of_le_length
def bF:=@List.take_length
def bB:=@List.take_of_length_le
def ml:=@List.take_succ_cons
def bP:=@Nat.add_mul
def dq:=@Nat.add_sub_cancel'
def iW:=@Nat.add_sub_cancel_left
def db:=@Nat.add_zero
def kY:=@Nat.div_lt_iff_lt_mul
def nU:=@Nat.eq_of_testBit_eq
def gY:=@Nat.eq_zero_or_pos
def kv:=@Nat.le_add_right
def fK:=@Nat.le_mul_of_pos_right
def av:=@Nat.le_refl
def iX:=@Nat.le_succ_of_le
def aZ:=@Nat.le_trans
def ib:=@Nat.lt_irrefl
def bz:=@Nat.lt_of_lt_of_le
def bD:=@Nat.lt_or_ge
def iY:=@Nat.lt_trichotomy
def iv:=@Nat.min_eq_left
def nL:=@Nat.mod_eq_of_lt
def kZ:=@Nat.mod_lt
def bd:=@Nat.mul_le_mul_right
def pP:=@Nat.mul_one
def gI:=@Nat.ne_of_lt
def jL:=@Nat.not_lt_zero
def fL:=@Nat.one_mul
def lI:=@Nat.pow_lt_pow_right
def mL:=@Nat.sub_mul
def bK:=@Nat.sub_zero
def na:=@Nat.succ_mul
def ni:=@Nat.testBit_or
def oQ:=@Nat.testBit_two_pow
def aJ:=@Nat.zero_add
def cQ:=@Nat.zero_le
def jH:=@Nat.zero_mul
def eS:=@Ne.symm
def dy:=@Option.bind_eq_some_iff
def iI:=@Option.getD_none
def bm:=@Option.getD_some
def fz:=@Option.isSome_iff_exists
def dp:=@Option.isSome_none
def bX:=@Option.isSome_some
def aV:=@Option.map_eq_some_iff
def oS:=@Option.map_none
def dL:=@Option.map_some
def oT:=@Option.some.inj
def gd:=@Option.some.injEq
def kJ:=@Option.toList_some
def iE:=@Prod.mk.injEq
def lf:=@UInt8.lt_iff_toNat_lt
def oU:=@UInt8.lt_irrefl
def kQ:=@UInt8.toNat_inj
def jV:=@and_self
def pQ:=@and_true
def jl:=@beq_eq_false_iff_ne
def eu:=@beq_iff_eq
def mb:=@beq_self_eq_true
def nC:=@bne_iff_ne
def az:=@bne_self_eq_false
def iZ:=@decide_eq_false
def dz:=@decide_eq_false_iff_not
def kg:=@decide_eq_true
def bj:=@decide_eq_true_eq
def fG:=@eq_iff_iff
def qe:=@ge_iff_le
def nb:=@getElem!_pos
def aD:=@if_false
def aL:=@if_neg
def aX:=@if_pos
def aE:=@if_true
def ja:=@iff_true
def pb:=@not_or
def nj:=@not_true_eq_false
def jW:=@of_decide_eq_true
end Go
namespace Go.Abs
section
open Go
inductive Tk where
 |sh|c0|own (k:Nat)
 deriving DecidableEq,Repr
inductive ag where
 |bool (b:Bool)
 |int (k:IntKind) (n:Int)
 |str (s:List UInt8)
 |slice (tk:Tk) (xs:List ag)
 |agg (cs:List ag)
 |tuple (vs:List ag)
 |ptr (id off:Nat)
 |jE (cs:List ag)
 |func (f:Nat) (caps:List ag)
 |iy (id:Nat)
 |j8 (id:Nat)
 |kl (ks vs:List ag)
 |cz (id ver sz lo hi:Nat)
 |jv (id ver i off:Nat)
 |ra (f:Nat) (fs:List ag)
 |ky (t id off:Nat)
 |raw (v:Value)
 |nK (v:Value)
 |any
 deriving Inhabited
def ag.jo:ag->Bool
 | .nK _=>true
 | .bool _ | .int .. | .str _ | .slice .. | .agg _ | .tuple _ | .ptr .. | .jE _ | .func .. | .iy _ | .j8 _ | .kl .. | .cz .. | .jv .. | .ra .. | .ky .. | .raw _ | .any=>false
abbrev aH(n:Int):ag:=.int .i64 n
abbrev gU(l:List ag):ag:=.slice .sh l
abbrev cu(n:Nat):ag:=.ptr n 0
inductive cJ where
 |cells (cs:List ag)
 |tick (sz n:Nat)
 |map (ks vs:List ag)
 |oa (s:List UInt8) (pos:Nat)
 |arr (sz ver:Nat) (xs:List ag)
 |vT
def cJ.tag:cJ->Nat
 | .cells _=>0
 | .tick sz _=>sz+3
 | .map _ _=>1
 | .oa _ _=>2
 | .arr sz _ _=>sz+3
 | .vT=>3
def cJ.fixed:cJ->Bool
 | .tick _ _ | .arr _ _ _ | .vT=>false
 |_=>true
def cJ.loose:cJ->Bool
 | .tick _ _ | .arr _ _ _=>true
 |_=>false
abbrev cv(l:List ag):cJ:=.cells l
abbrev aC:=List cJ
abbrev Env:=List (Nat×ag)
def bJ{α β:Type}(x:Option α)(f:α->Option β):Option β:=match x with
 |some a=>f a
 |none=>none
@[congr] theorem adJ {α β:Type} {x x':Option α} {f:α->Option β} (h:x=x'):bJ x f=bJ x' f:=by rw[h]
@[simp] theorem bO {α β:Type} (a:α) (f:α->Option β):bJ (some a) f=f a:=rfl
@[simp] theorem ahg {α β:Type} (f:α->Option β):bJ none f=none:=rfl
def Br{α:Type}(b:Bool)(x y:Option α):Option α:=match b with
 |true=>x
 |false=>y
@[congr] theorem aic {α:Type} {b b':Bool} {x y:Option α} (h:b=b'):Br b x y=Br b' x y:=by rw[h]
@[simp] theorem vI {α:Type} (x y:Option α):Br true x y=x:=rfl
@[simp] theorem qq {α:Type} (x y:Option α):Br false x y=y:=rfl
@[simp] theorem PO {α β:Type} (b:Bool) (x y:Option α) (f:α->Option β):bJ (Br b x y) f=Br b (bJ x f) (bJ y f):=by cases b<;>rfl
open Classical in
noncomputable def cr{α:Type}(p:Prop)(x:Option α):Option α:=if p then x else none
@[congr] theorem adL {α:Type} {p p':Prop} {x:Option α} (h:p=p'):cr p x=cr p' x:=by rw[h]
theorem fi{α:Type}{p:Prop}{x:Option α}(h:p):cr p x=x:=aX h
@[simp] theorem L7 {α:Type} (x:Option α):cr True x=x:=if_pos trivial
@[simp] theorem adM {α:Type} (x:Option α):cr False x=none:=if_neg not_false
@[simp] theorem adK {α β:Type} (p:Prop) (x:Option α) (f:α->Option β):bJ (cr p x) f=cr p (bJ x f):=by
 unfold cr; split<;>rfl
def hZ:Env->Nat->ag
 | [],_ => .any
 |(k,v)::e,t=>if k=t then v else hZ e t
def ag.cells:ag->List ag
 | .agg cs=>cs
 |x=>[x]
def ag.jf:ag->Bool
 | .agg _ | .tuple _ | .any | .nK _=>false
 | .raw v=>match v with | .agg _ | .tuple _=>false|_=>true
 |_=>true
def ag.cells?:ag->Option (List ag)
 | .agg cs=>some cs
 | .tuple _ | .any | .nK _=>none
 | .raw (.agg _)=>none
 |x=>some [x]
def ag.shut:ag->ag
 | .slice _ xs => .slice .sh xs
 |x=>x
def ag.fV:ag->ag
 | .slice _ xs => .slice .sh xs
 | .agg cs => .agg (cs.map ag.shut)
 |x=>x
def ag.plainCell:ag->Bool
 | .bool _ | .int .. | .str _=>true
 | .slice .sh _=>true
 | .raw v=>match v with | .pointer none | .nilFunc | .nilIface | .map none | .func _ ⟨[]⟩ ⟨[]⟩=>true|_=>false
 |_=>false
def ag.plain:ag->Bool
 | .agg cs=>cs.all ag.plainCell
 |x=>x.plainCell
def ag.jC(bS:Nat)(M:aC):ag->ag
 | .slice (.own k) xs=>if k<bS then .slice (.own k) xs else .slice .sh xs
 | .ptr id off=>if id<bS then .ptr id off else .any
 | .iy id=>if id<bS then .iy id else .any
 | .j8 id=>if id<bS then .j8 id else .any
 | .cz id ver sz lo hi=>if id<bS then .cz id ver sz lo hi else match M[id]? with
  |some (.arr _ v xs)=>if v=ver then .slice .sh ((xs.take hi).drop lo) else .any
  |_ => .any
 | .jv id ver i off=>if id<bS then .jv id ver i off else .any
 | .ky t id off=>if id<bS then .ky t id off else .any
 | .func _ _ | .agg _ | .tuple _ => .any
 |x=>x
def ag.jX(bS:Nat)(M:aC):ag->ag
 | .func f caps => .func f (caps.map (ag.jC bS M))
 |x=>x.jC bS M
def ag.jY(bS:Nat)(M:aC):ag->ag
 | .agg cs => .agg (cs.map (ag.jX bS M))
 |x=>x.jX bS M
def ag.mN(bS:Nat)(M:aC):ag->ag
 | .tuple vs => .tuple (vs.map (ag.jY bS M))
 |x=>x.jY bS M
def cJ.back(bS:Nat)(M:aC):cJ->cJ
 | .cells cs => .cells (cs.map (ag.jX bS M))
 | .tick sz n => .tick sz n
 | .map ks vs => .map ks (vs.map (ag.jY bS M))
 | .oa s p => .oa s p
 | .arr sz v xs => .arr sz v xs
 | .vT => .vT
def iT(bS:Nat)(M:aC):aC:=(M.take bS).map (cJ.back bS M)
def wE(bS:Nat)(M:aC)(bq:Env):Env:=bq.map fun x=>(x.1,x.2.mN bS M)
def ag.ki(bS:Nat)(M:aC):ag->ag
 | .slice _ xs => .slice .sh xs
 | .iy id=>if id<bS then .iy id else match M[id]? with
  |some (.map ks vs)=>if vs.all ag.plain&&ks.all ag.plainCell then .kl ks vs else .any
  |_ => .any
 |x=>x.jX bS M
def ag.kR(bS:Nat)(M:aC):ag->ag
 | .agg cs => .agg (cs.map (ag.ki bS M))
 |x=>x.ki bS M
def ag.lK(bS:Nat)(M:aC):ag->ag
 | .tuple vs => .tuple (vs.map (ag.kR bS M))
 |x=>x.kR bS M
def ag.iH:ag->List Nat
 | .ptr id _ | .iy id | .j8 id | .cz id _ _ _ _ | .jv id _ _ _=>[id]
 | .slice (.own k) _=>[k]
 | .ky _ id _=>[id]
 |_=>[]
def ag.nJ:ag->List Nat
 | .func _ caps=>caps.flatMap ag.iH
 |x=>x.iH
def ag.ids:ag->List Nat
 | .agg cs=>cs.flatMap ag.nJ
 |x=>x.nJ
def ag.IP:ag->Bool
 | .func _ _ | .agg _ | .tuple _=>false
 |_=>true
def ag.vA:ag->Bool
 | .func _ caps=>caps.all ag.IP
 | .agg _ | .tuple _=>false
 |_=>true
def ag.flat:ag->Bool
 | .agg cs=>cs.all ag.vA
 |x=>x.vA
def cJ.flat:cJ->Bool
 | .vT=>false
 | .cells cs=>cs.all ag.vA
 | .map _ vs=>vs.all ag.flat
 |_=>true
def ag.ur(ρ:Nat->Nat):ag->ag
 | .ptr id off => .ptr (ρ id) off
 | .iy id => .iy (ρ id)
 | .j8 id => .j8 (ρ id)
 | .cz id v sz lo hi => .cz (ρ id) v sz lo hi
 | .jv id v i off => .jv (ρ id) v i off
 | .slice (.own k) xs => .slice (.own (ρ k)) xs
 | .ky t id off => .ky t (ρ id) off
 |x=>x
def ag.sf(ρ:Nat->Nat):ag->ag
 | .func f caps => .func f (caps.map (ag.ur ρ))
 |x=>x.ur ρ
def ag.pq(ρ:Nat->Nat):ag->ag
 | .agg cs => .agg (cs.map (ag.sf ρ))
 |x=>x.sf ρ
def ag.Ar(ρ:Nat->Nat):ag->ag
 | .tuple vs => .tuple (vs.map (ag.pq ρ))
 |x=>x.pq ρ
def ag.wH:ag->Bool
 | .tuple vs=>vs.all ag.flat
 |x=>x.flat
def cJ.pq(ρ:Nat->Nat):cJ->cJ
 | .cells cs => .cells (cs.map (ag.sf ρ))
 | .map ks vs => .map ks (vs.map (ag.pq ρ))
 |b=>b
def cJ.ids:cJ->List Nat
 | .cells cs=>cs.flatMap ag.nJ
 | .map _ vs=>vs.flatMap ag.ids
 |_=>[]
def nth{α:Type}:List α->Nat->Option α
 | [],_=>none
 |a::_,0=>some a
 |_::l,n+1=>nth l n
def iP{α:Type}:List α->Nat->α->List α
 | [],_,_=>[]
 |_::l,0,x=>x::l
 |a::l,n+1,x=>a::iP l n x
def kc:List Nat->List Nat->List Nat
 |a,[]=>a
 |a,x::r=>kc (if a.contains x then a else a++[x]) r
def qz(M:aC):List Nat->List Nat
 | []=>[]
 |i::r=>(match nth M i with|some b=>b.ids|none=>[])++qz M r
def kD(M:aC)(acc:List Nat):List Nat:=kc acc (qz M acc)
def reach(M:aC)(l:List Nat):List Nat:=kD M (kD M (kD M (kc [] l)))
def iw:List Nat->Nat->Nat
 | [],_=>0
 |a::l,x=>if a=x then 0 else iw l x+1
def wD(ids:List Nat)(i:Nat):Nat:=(nth ids i).getD 0
def j5(M:aC)(ρ:Nat->Nat):List Nat->Option aC
 | []=>some []
 |i::r=>match nth M i with
  |some b=>if b.flat then bJ (j5 M ρ r) fun l=>some (b.pq ρ::l) else none
  |none=>none
def mh(ids:List Nat)(M:aC):List Nat->aC->aC
 |i::r,b::l=>mh ids (iP M i (b.pq (wD ids))) r l
 |_,_=>M
def ag.nY(M:aC):ag->ag
 | .cz id ver sz lo hi=>match nth M id with
  |some (.arr _ v xs)=>if v=ver then .slice .sh ((xs.take hi).drop lo) else .any
  |_ => .any
 |x=>x
def ag.qX(M:aC):ag->ag
 | .agg cs => .agg (cs.map (ag.nY M))
 |x=>x.nY M
def pw(M:aC):List Nat->aC
 | []=>M
 |i::r=>match nth M i with
  |some (.arr sz _ xs)=>pw (iP M i (.tick sz xs.length)) r
  |_=>pw M r
inductive fZ where
 |tmp (t:Nat)
 |tc (v:ag)
def fZ.ev(bq:Env):fZ->ag
 | .tmp t=>hZ bq t
 | .tc v=>v
inductive N9 where
 |add|sub|mul|quo|rem|eql|neq|lss|leq|gtr|geq|shl|shr|and|or|bic
 deriving DecidableEq,Repr
inductive FK where
 |i|s|b
 deriving DecidableEq
inductive kE where
 |mv (x:fZ)
 |own (sz:Nat) (x:fZ)
 |pick (c a b:fZ)
 |yR (cs:List ag)
 |box (x:fZ)
 |build (zero:List ag) (parts:List (Nat×Nat×fZ))
 |lits (sz:Nat) (parts:List fZ)
 |F9 (sz:Nat) (parts:List fZ)
 |mR (n:Nat) (x:fZ)
 |rD (x:fZ)
 |store (n:Nat) (a x:fZ)
 |BF (sz p n:Nat) (a x:fZ)
 |chk (x:fZ)
 |bin (op:N9) (x y:fZ)
 |QC (ks:List FK) (neg:Bool) (x y:fZ)
 |eqB (neg:Bool) (x y:fZ)
 |not (x:fZ)
 |neg (x:fZ)
 |conv (k:IntKind) (x:fZ)
 |same (x:fZ)
 |fn (f:Nat) (caps:List fZ)
 |Fv (f:Nat) (firsts:List fZ)
 |BC (x:fZ) (lo hi:Option fZ)
 |uv (sz:Nat) (x:fZ) (lo hi mx:Option fZ)
 |OX (sz:Nat) (x hi:fZ)
 |yA (off:Nat) (x:fZ)
 |DE (off n:Nat) (x:fZ)
 |DD (off:Nat) (x:fZ)
 |ue (sz:Nat) (x i:fZ)
 |Bc (n sz:Nat) (x i:fZ)
 |Be (x i:fZ)
 |extract (x:fZ) (i:Nat)
 |call (f:Nat) (args:List fZ)
 |sw (f:fZ) (args:List fZ)
 |BV (f:fZ) (args:List fZ)
 |BU (f:Nat) (args:List fZ)
 |ly (f:Nat) (args:List fZ)
 |wF (f:Nat) (args:List fZ)
 |xc (sz:Nat) (zero:List ag) (x:fZ)
 |Vx (x:fZ)
 |z7 (x:fZ)
 |append (sz bytes:Nat) (x y:fZ)
 |Bp (mx:Bool) (x y:fZ)
 |b2s (x:fZ)
 |mkMap
 |look (fk:FK) (zero:ag) (ok:Bool) (m k:fZ)
 |gF (fk:FK) (m k v:fZ)
 |Py (m:fZ)
 |Qe (x:fZ)
 |Gf (it:fZ)
 |iface (t:Nat) (x:fZ)
 |raise (x:fZ)
 |mkS (zero:List ag) (n:fZ)
 |PL (zero:List ag) (n:fZ)
 |xU (sz bytes:Nat) (zero:List ag) (x n:fZ)
 |vW (sz bytes:Nat) (x y:fZ)
 |FA (sz:Nat) (x y:fZ)
 |OG (sz:Nat)
structure cZ where
 dst:Option Nat
 op:kE
 guard:Option (Nat×Bool)
 grow:Bool:=false
 xA:Bool:=false
 sep:List Nat:=[]
 stop:Bool:=true
def ob(d:Nat)(o:kE):cZ:=⟨some d,o,none,false,false,[],true⟩
def og(d g:Nat)(b:Bool)(o:kE):cZ:=⟨some d,o,some (g,b),false,false,[],true⟩
def ox(o:kE):cZ:=⟨none,o,none,false,false,[],true⟩
def kE.Rg:kE->Bool
 | .call .. | .sw .. | .BV .. | .BU .. | .ly .. | .raise _=>true
 |_=>false
inductive cA where
 |skip
 |region (ops:List cZ) (draw:Bool) (live:List Nat)
 |seq (a b:cA)
 |cond (c:fZ) (x y:cA)
 |block (id:Nat) (c:cA)
 |loop (live:List Nat) (c:cA)
 |nI (live:List Nat) (c:cA)
 |qX (t:Nat) (c:cA)
 |exit (id:Nat)
 |ret
inductive abz where
 |normal|exit (id:Nat)|ret|nK (v:Value)
abbrev eR:=Nat->List ag->aC->Option (ag×aC)
def strLt:List UInt8->List UInt8->Bool
 |_,[]=>false
 | [],_::_=>true
 |a::x,b::y=>a<b||(a==b&&strLt x y)
def DV(k:IntKind)(a b:Int):Int:=k.wrap (BitVec.ofInt k.bits a &&& BitVec.ofInt k.bits b).toNat
def ior(k:IntKind)(a b:Int):Int:=k.wrap (BitVec.ofInt k.bits a ||| BitVec.ofInt k.bits b).toNat
def Hf(k:IntKind)(a b:Int):Int:=k.wrap (BitVec.ofInt k.bits a &&& ~~~BitVec.ofInt k.bits b).toNat
def pf(b:UInt8):ag := .int .u8 b.toNat
def p9(op:N9):ag->ag->Option ag
 | .int k a,.int k' b =>
  match op with
  | .shl=>if 0<=b then some (.int k (k.wrap (a*2 ^ (min b.toNat k.bits)))) else none
  | .shr=>if 0<=b then some (.int k (a.fdiv (2 ^ (min b.toNat k.bits)))) else none
  |op=>if k≠k' then none else
   match op with
   | .add=>some (.int k (k.wrap (a+b)))
   | .sub=>some (.int k (k.wrap (a-b)))
   | .mul=>some (.int k (k.wrap (a*b)))
   | .quo=>if b=0 then none else some (.int k (k.wrap (a.tdiv b)))
   | .rem=>if b=0 then none else some (.int k (a.tmod b))
   | .eql=>some (.bool (a==b))
   | .neq=>some (.bool (a != b))
   | .lss=>some (.bool (a<b))
   | .leq=>some (.bool (a<=b))
   | .gtr=>some (.bool (a>b))
   | .geq=>some (.bool (a>=b))
   | .and=>some (.int k (DV k a b))
   | .or=>some (.int k (ior k a b))
   | .bic=>some (.int k (Hf k a b))
   |_=>none
 | .str a,.str b =>
  match op with
  | .add=>if ((a.length+b.length:Nat):Int)>IntKind.i64.max then none else some (.str (a++b))
  | .eql=>some (.bool (a==b))
  | .neq=>some (.bool (a != b))
  | .lss=>some (.bool (strLt a b))
  | .leq=>some (.bool (strLt a b||a==b))
  | .gtr=>some (.bool (!(strLt a b||a==b)))
  | .geq=>some (.bool (!(strLt a b)))
  |_=>none
 |_,_=>none
def kC:FK->ag->ag->Option Bool
 | .i,.int k a,.int k' b=>if k=k' then some (a==b) else none
 | .s,.str a,.str b=>some (a==b)
 | .b,.bool a,.bool b=>some (a==b)
 |_,_,_=>none
def lh:List FK->List ag->List ag->Option Bool
 | [],[],[]=>some true
 |k::ks,a::x,b::y=>bJ (kC k a b) fun e=>bJ (lh ks x y) fun f=>some (e&&f)
 |_,_,_=>none
def ag.norm:ag->ag
 | .agg [c]=>c
 |x=>x
def valOf:ag->Option Value
 | .int k n=>some (.int k n)
 | .agg [.int k n]=>some (.agg #[.int k n])
 |_=>none
def bytesOf:List ag->Option (List UInt8)
 | []=>some []
 | .int .u8 n::r=>bJ (bytesOf r) fun l=>some (UInt8.ofNat n.toNat::l)
 |_=>none
def xu(fk:FK)(k:ag):List ag->List ag->Option (Option ag)
 | [],[]=>some none
 |k'::ks,v::vs=>bJ (kC fk k k') fun b=>Br b (some (some v)) (xu fk k ks vs)
 |_,_=>none
def xw(fk:FK)(k v:ag):List ag->List ag->Option (List ag×List ag)
 | [],[]=>bJ (kC fk k k) fun _=>some ([k],[v])
 |k'::ks,v'::vs=>bJ (kC fk k k') fun b=>Br b (some (k::ks,v::vs)) (bJ (xw fk k v ks vs) fun x=>some (k'::x.1,v'::x.2))
 |_,_=>none
def po(zero:ag)(ok:Bool)(r:Option ag):ag:=match ok with
 |true => .tuple [r.getD zero,.bool r.isSome]
 |false=>r.getD zero
def mapOf(M:aC):ag->Option (List ag×List ag)
 | .iy id=>match nth M id with|some (.map ks vs)=>some (ks,vs)|_=>none
 | .kl ks vs=>some (ks,vs)
 |_=>none
def mX(cs:List ag)(off:Nat)(new:List ag):List ag:=cs.take off++(new++cs.drop (off+new.length))
def putCells(e:ag)(off:Nat)(new:List ag):ag:=match e,new with
 | .agg cs,new => .agg (mX cs off new)
 |_,[c]=>c
 |e,_=>e
def mC(bq:Env):List ag->List (Nat×Nat×fZ)->Option (List ag)
 |cs,[]=>some cs
 |cs,(off,n,x)::r =>
  bJ (x.ev bq).cells? fun new=>if new.length=n/\off+n<=cs.length then mC bq (mX cs off new) r else none
def sV(bq:Env)(sz:Nat):List fZ->Option (List ag)
 | []=>some []
 |x::r=>if (x.ev bq).fV.plain=true/\(x.ev bq).fV.cells.length=sz then bJ (sV bq sz r) fun l=>some ((x.ev bq).fV::l) else none
def gz(bq:Env)(n:Nat):Option fZ->Option Int
 |none=>some n
 |some x=>match x.ev bq with | .int _ i=>some i|_=>none
def wid(xs:List ag)(sz:Nat):Prop:=∀x,x∈xs->x.cells.length=sz
def cq(n bytes:Nat):Prop:=n*bytes<=2 ^ 44
noncomputable def aU(call:eR)(f:Nat)(vs:List ag)(M:aC):Option (ag×aC) :=
 if vs.all ag.flat then
  bJ (j5 M (iw (reach M (vs.flatMap ag.ids))) (reach M (vs.flatMap ag.ids))) fun B =>
   if kD M (reach M (vs.flatMap ag.ids))=reach M (vs.flatMap ag.ids) then
    bJ (call f (vs.map (ag.pq (iw (reach M (vs.flatMap ag.ids))))) B) fun x =>
     if x.2.length=B.length/\x.1.wH=true/\x.2.all cJ.flat=true then some (x.1.Ar (wD (reach M (vs.flatMap ag.ids))),mh (reach M (vs.flatMap ag.ids)) M (reach M (vs.flatMap ag.ids)) x.2) else none
   else none
 else none
noncomputable def Bx(call:eR)(f:Nat)(vs:List ag)(M:aC):Option (ag×aC) :=
 if vs.all ag.flat=true/\vs.flatMap ag.ids=[] then
  bJ (call f vs []) fun x=>match x.1,x.2 with
   | .slice (.own 0) xs,[.tick sz n]=>some (.slice (.own M.length) xs,M++[.tick sz n])
   |_,_=>none
 else none
def P5(sz L:Nat):ag:=if 500<=sz then .cz L 0 (sz-500) 0 0 else .slice (.own L) []
def P4(sz:Nat):cJ:=if 500<=sz then .arr (sz-500) 0 [] else .tick sz 0
noncomputable def ec(call:eR)(bq:Env)(M:aC):kE->Option (ag×aC)
 | .mv x=>some (x.ev bq,M)
 | .own sz x =>
  match x.ev bq with
  | .slice .c0 []=>some (P5 sz M.length,M++[P4 sz])
  |v=>some (v,M)
 | .pick c a b=>match c.ev bq with
  | .bool t=>Br t (some (a.ev bq,M)) (some (b.ev bq,M))
  |_=>none
 | .yR cs=>some (.ptr M.length 0,M++[.cells cs])
 | .box x=>bJ (x.ev bq).cells? fun cs=>some (.ptr M.length 0,M++[.cells cs])
 | .build zero parts=>bJ (mC bq zero parts) fun cs=>some (.agg cs,M)
 | .lits sz parts=>bJ (sV bq sz parts) fun l=>some (match l with|[] => .slice .c0 []|_ => .slice .sh l,M)
 | .F9 sz parts=>bJ (sV bq sz parts) fun l=>some (.slice (.own M.length) l,M++[.tick sz l.length])
 | .mR n x =>
  match x.ev bq with
  | .ptr id off=>match nth M id with
   |some (.cells cs)=>if off+n<=cs.length then some (.agg ((cs.drop off).take n),M) else none
   |_=>none
  | .jE cs=>if n<=cs.length then some (.agg (cs.take n),M) else none
  | .jv id ver i off=>match nth M id with
   |some (.arr _ v xs)=>if v=ver then bJ (xs[i]?) fun e=>if off+n<=e.cells.length then some (.agg ((e.cells.drop off).take n),M) else none else none
   |_=>none
  |_=>none
 | .rD x =>
  match x.ev bq with
  | .ptr id off=>match nth M id with
   |some (.cells cs)=>bJ (nth cs off) fun c=>some (c,M)
   |_=>none
  | .jE cs=>bJ (nth cs 0) fun c=>some (c,M)
  | .jv id ver i off=>match nth M id with
   |some (.arr _ v xs)=>if v=ver then bJ (xs[i]?) fun e=>bJ (nth e.cells off) fun c=>some (c,M) else none
   |_=>none
  |_=>none
 | .store n a x =>
  match a.ev bq with
  | .ptr id off=>match nth M id with
   |some (.cells cs)=>bJ (x.ev bq).cells? fun new =>
    if new.length=n/\off+n<=cs.length/\new.all ag.jf=true then some (.any,iP M id (.cells (mX cs off new))) else none
   |_=>none
  | .jv id ver i off=>match nth M id with
   |some (.arr sz v xs)=>bJ (x.ev bq).cells? fun new=>bJ (xs[i]?) fun e =>
    if v=ver/\new.length=n/\off+n<=e.cells.length/\(new.map ag.shut).all ag.plainCell=true then some (.any,iP M id (.arr sz ver (iP xs i (putCells e off (new.map ag.shut))))) else none
   |_=>none
  |_=>none
 | .BF sz p n a x =>
  match a.ev bq with
  | .ptr id off=>match nth M id with
   |some (.cells cs)=>bJ (x.ev bq).cells? fun new =>
    match nth new p with
    |some (.slice .c0 [])=>if new.length=n/\off+n<=cs.length/\new.all ag.jf=true then some (.any,iP M id (.cells (mX cs off (iP new p (P5 sz M.length))))++[P4 sz]) else none
    |_=>none
   |_=>none
  |_=>none
 | .chk x=>match x.ev bq with
  | .ptr id off=>some (.ptr id off,M)
  | .jE cs=>some (.jE cs,M)
  | .func f caps=>some (.func f caps,M)
  | .jv id v i off=>some (.jv id v i off,M)
  |_=>none
 | .bin op x y=>bJ (p9 op (x.ev bq) (y.ev bq)) fun v=>some (v,M)
 | .QC ks neg x y =>
  match x.ev bq,y.ev bq with
  | .agg a,.agg b=>bJ (lh ks a b) fun e=>some (.bool (match neg with|true => !e|false=>e),M)
  |_,_=>none
 | .eqB neg x y=>match x.ev bq,y.ev bq with
  | .bool a,.bool b=>some (.bool (match neg with|true => !(a==b)|false=>a==b),M)
  |_,_=>none
 | .not x=>match x.ev bq with | .bool b=>some (.bool (!b),M)|_=>none
 | .neg x=>match x.ev bq with | .int k n=>some (.int k (k.wrap (0-n)),M)|_=>none
 | .conv k x=>match x.ev bq with | .int _ n=>some (.int k (k.wrap n),M)|_=>none
 | .same x=>match x.ev bq with | .str s=>some (.str s,M)|_=>none
 | .fn f caps=>some (.func f (caps.map (fZ.ev bq)),M)
 | .Fv f firsts=>if (firsts.map fun x=>(x.ev bq).fV).all ag.plain then some (.ra f (firsts.map fun x=>(x.ev bq).fV),M) else none
 | .BC x lo hi =>
  match x.ev bq with
  | .str s=>bJ (gz bq s.length hi) fun h=>bJ (gz bq 0 lo) fun l =>
   cr (0<=h/\h<=s.length/\0<=l/\l<=h) (some (.str ((s.take h.toNat).drop l.toNat),M))
  |_=>none
 | .uv sz x lo hi mx =>
  match x.ev bq with
  | .slice _ xs=>cr (wid xs sz) <| bJ (gz bq xs.length hi) fun h=>bJ (gz bq 0 lo) fun l =>
   match mx with
   |none=>cr (0<=h/\h<=xs.length/\0<=l/\l<=h) (some (.slice .sh ((xs.take h.toNat).drop l.toNat),M))
   |some m=>match m.ev bq with
    | .int _ m=>cr (0<=m/\m<=xs.length/\0<=h/\h<=m/\0<=l/\l<=h)
      (Br (m==0) (some (.slice .c0 [],M)) (some (.slice .sh ((xs.take h.toNat).drop l.toNat),M)))
    |_=>none
  | .cz id v sz' al ah=>cr (sz'=sz) <| bJ (gz bq (ah-al) hi) fun h=>bJ (gz bq 0 lo) fun l =>
   match mx with
   |none=>cr (0<=h/\h<=(ah-al:Nat)/\0<=l/\l<=h) (Br (l==h) (some (.slice .sh [],M)) (some (.cz id v sz (al+l.toNat) (al+h.toNat),M)))
   |some m=>match m.ev bq with
    | .int _ m=>cr (0<=m/\m<=(ah-al:Nat)/\0<=h/\h<=m/\0<=l/\l<=h)
      (Br (m==0) (some (.slice .c0 [],M)) (Br (l==h) (some (.slice .sh [],M)) (some (.cz id v sz (al+l.toNat) (al+h.toNat),M))))
    |_=>none
  |_=>none
 | .OX sz x hi =>
  match x.ev bq,hi.ev bq with
  | .cz id v sz' lo ah,.int _ h=>cr (sz'=sz/\lo=0/\0<=h/\h<ah) (some (.cz id v sz 0 h.toNat,M))
  |_,_=>none
 | .yA off x=>match x.ev bq with
  | .ptr id o=>some (.ptr id (o+off),M)
  | .jE cs=>some (.jE (cs.drop off),M)
  | .jv id v i o=>some (.jv id v i (o+off),M)
  |_=>none
 | .DE off n x=>match x.ev bq with
  | .agg cs=>if off+n<=cs.length then some (.agg ((cs.drop off).take n),M) else none
  |_=>none
 | .DD off x=>match x.ev bq with
  | .agg cs=>bJ (nth cs off) fun c=>some (c,M)
  |_=>none
 | .ue sz x i =>
  match x.ev bq,i.ev bq with
  | .slice _ xs,.int _ n=>cr (0<=n) (bJ (xs[n.toNat]?) fun e=>if e.cells.length=sz then some (.jE e.cells,M) else none)
  | .cz id v sz' lo hi,.int _ n=>cr (0<=n/\n<(hi-lo:Nat)/\sz'=sz) (some (.jv id v (lo+n.toNat) 0,M))
  |_,_=>none
 | .Bc n sz x i =>
  match x.ev bq,i.ev bq with
  | .jE cs,.int _ m=>cr (0<=m/\m<n/\n*sz<=cs.length) (some (.jE (cs.drop (m.toNat*sz)),M))
  | .ptr id off,.int _ m=>cr (0<=m/\m<n) (some (.ptr id (off+m.toNat*sz),M))
  |_,_=>none
 | .Be x i =>
  match x.ev bq,i.ev bq with
  | .str s,.int _ n=>cr (0<=n) (bJ (s[n.toNat]?) fun b=>some (.int .u8 b.toNat,M))
  |_,_=>none
 | .extract x i=>match x.ev bq with | .tuple vs=>bJ (nth vs i) fun v=>some (v,M)|_=>none
 | .call f args=>aU call f (args.map fun x=>(x.ev bq).fV) M
 | .BU f args=>call f (args.map (fZ.ev bq)) M
 | .BV f args=>match f.ev bq with
  | .func g caps=>call g (args.map (fZ.ev bq)++caps) M
  |_=>none
 | .ly f args=>aU call f (args.map fun x=>((x.ev bq).qX M).fV) (pw M ((args.map (fZ.ev bq)).flatMap ag.ids))
 | .wF f args=>Bx call f (args.map fun x=>(x.ev bq).fV) M
 | .xc sz zero x=>match x.ev bq with
  | .slice _ xs=>match xs with|[]=>some (.any,M)|_=>none
  | .cz id ver sz' lo hi=>match nth M id with
   |some (.arr sz0 v xs)=>if v=ver/\sz'=sz/\zero.length=sz/\zero.all ag.plainCell=true then some (.any,iP M id (.arr sz0 ver (xs.take lo++(List.replicate (hi-lo) (.agg zero)++xs.drop hi)))) else none
   |_=>none
  |_=>none
 | .sw f args=>match f.ev bq with
  | .func g caps=>aU call g ((args.map fun x=>(x.ev bq).fV)++caps) M
  | .ra g fs=>aU call g (fs++args.map fun x=>(x.ev bq).fV) M
  | .raw v=>match v with
   | .func (.func g) ⟨[]⟩ ⟨[]⟩=>aU call g (args.map fun x=>(x.ev bq).fV) M
   |_=>none
  |_=>none
 | .Vx x=>match x.ev bq with | .str s=>some (.int .i64 s.length,M)|_=>none
 | .z7 x=>match x.ev bq with
  | .slice _ xs=>some (.int .i64 xs.length,M)
  | .cz _ _ _ lo hi=>some (.int .i64 (hi-lo:Nat),M)
  |_=>none
 | .append sz bytes x y =>
  match x.ev bq,y.ev bq with
  | .slice tk xs,.slice _ ys =>
   cr (cq (xs.length+ys.length) bytes/\wid xs sz/\wid ys sz) (
    match tk with
    | .c0=>match xs with|[]=>some (.slice (.own M.length) ys,M++[.tick sz ys.length])|_=>none
    | .own k=>match nth M k with
     |some (.tick sz' n)=>cr (sz'=sz/\n=xs.length) (some (.slice (.own k) (xs++ys),iP M k (.tick sz (xs.length+ys.length))))
     |_=>none
    | .sh=>none)
  | .cz id ver sz' lo hi,.slice _ ys=>match nth M id with
   |some (.arr sz0 v xs)=>cr (v=ver/\sz'=sz/\lo=0/\hi<=xs.length/\cq (hi+ys.length) bytes/\wid (xs.take hi) sz/\wid ys sz)
     (Br (ys.length==0) (some (.cz id ver sz lo hi,M)) (some (.cz id (ver+1) sz 0 (hi+ys.length),iP M id (.arr sz0 (ver+1) (xs.take hi++ys)))))
   |_=>none
  |_,_=>none
 | .Bp mx x y=>match x.ev bq,y.ev bq with
  | .int k a,.int _ b=>some (.int k (match mx with|true=>if b>a then b else a|false=>if b<a then b else a),M)
  |_,_=>none
 | .b2s x=>match x.ev bq with | .slice _ xs=>bJ (bytesOf xs) fun l=>some (.str l,M)|_=>none
 | .mkMap=>some (.iy M.length,M++[.map [] []])
 | .look fk zero ok m k=>bJ (mapOf M (m.ev bq)) fun e=>bJ (xu fk (k.ev bq) e.1 e.2) fun r=>some (po zero ok r,M)
 | .gF fk m k v=>match m.ev bq with
  | .iy id=>match nth M id with
   |some (.map ks vs)=>bJ (xw fk (k.ev bq) (v.ev bq) ks vs) fun e=>some (.any,iP M id (.map e.1 e.2))
   |_=>none
  |_=>none
 | .Py m=>bJ (mapOf M (m.ev bq)) fun e=>some (.int .i64 e.1.length,M)
 | .Qe x=>match x.ev bq with | .str s=>some (.j8 M.length,M++[.oa s 0])|_=>none
 | .Gf it=>match it.ev bq with
  | .j8 id=>match nth M id with
   |some (.oa s pos)=>Br (decide (pos<s.length))
     (some (.tuple [.bool true,.int .i64 pos,.int .i32 (Utf8.decode ⟨s.toArray⟩ pos).1],iP M id (.oa s (pos+(Utf8.decode ⟨s.toArray⟩ pos).2))))
     (some (.tuple [.bool false],M))
   |_=>none
  |_=>none
 | .mkS zero n=>match n.ev bq with
  | .int _ k=>cr (0<=k/\cq k.toNat (8*zero.length)/\zero.all ag.plainCell=true) (some (.slice .sh (List.replicate k.toNat (ag.agg zero).norm),M))
  |_=>none
 | .PL zero n=>match n.ev bq with
  | .int _ k=>cr (0<=k/\cq k.toNat (8*zero.length)/\zero.all ag.plainCell=true) (some (.cz M.length 0 zero.length 0 k.toNat,M++[.arr zero.length 0 (List.replicate k.toNat (ag.agg zero).norm)]))
  |_=>none
 | .xU sz bytes zero x n =>
  match x.ev bq,n.ev bq with
  | .slice .c0 [],.int _ k=>cr (0<=k/\cq k.toNat bytes/\zero.length=sz/\zero.all ag.plainCell=true)
    (Br (k==0) (some (.slice .c0 [],M)) (some (.cz M.length 0 sz 0 k.toNat,M++[.arr sz 0 (List.replicate k.toNat (ag.agg zero).norm)])))
  | .cz id ver sz' lo hi,.int _ k=>match nth M id with
   |some (.arr sz0 v xs)=>cr (v=ver/\sz'=sz/\lo=0/\hi=xs.length/\0<=k/\cq (xs.length+k.toNat) bytes/\zero.length=sz/\zero.all ag.plainCell=true/\0<xs.length)
     (Br (k==0) (some (.cz id ver sz' lo hi,M)) (some (.cz id (ver+1) sz 0 (xs.length+k.toNat),iP M id (.arr sz0 (ver+1) (xs++List.replicate k.toNat (ag.agg zero).norm)))))
   |_=>none
  |_,_=>none
 | .vW sz bytes x y =>
  match x.ev bq,y.ev bq with
  | .slice .c0 [],.slice _ ys=>cr (cq ys.length bytes/\wid ys sz) (some (.cz M.length 0 sz 0 ys.length,M++[.arr sz 0 ys]))
  |_,_=>none
 | .FA sz x y =>
  match x.ev bq,y.ev bq with
  | .slice .sh [],.slice _ ys=>cr (wid ys sz) (some (.int .i64 0,M))
  | .cz id ver sz' lo hi,.slice _ ys=>match nth M id with
   |some (.arr sz0 v xs)=>cr (v=ver/\sz'=sz/\wid ys sz/\0<xs.length)
     (some (.int .i64 (min ys.length (hi-lo):Nat),iP M id (.arr sz0 ver (xs.take lo++(ys.take (min ys.length (hi-lo))++xs.drop (lo+min ys.length (hi-lo)))))))
   |_=>none
  |_,_=>none
 | .OG sz=>some (.ptr (M.length+1) 0,M++[.arr sz 0 [],.cells [.cz M.length 0 sz 0 0]])
 | .iface t x=>match x.ev bq with
  | .ptr id off=>some (.ky t id off,M)
  |y=>bJ (valOf y) fun v=>some (.raw (.iface t v),M)
 | .raise x=>match x.ev bq with
  | .raw v=>match v with
   | .iface t u=>some (.nK (.iface t u),M)
   |_=>none
  |_=>none
def rG(bq:Env)(dst:Option Nat)(v:ag):Env :=
 match dst with
 |some d=>(d,v)::bq
 |none=>bq
def kE.eF(bq:Env):kE->List Nat
 | .call _ args=>(args.map fun x=>(x.ev bq).fV).flatMap ag.ids
 | .sw f args=>match f.ev bq with
  | .func _ caps=>((args.map fun x=>(x.ev bq).fV)++caps).flatMap ag.ids
  | .ra _ fs=>(fs++args.map fun x=>(x.ev bq).fV).flatMap ag.ids
  | .raw v=>match v with
   | .func (.func _) ⟨[]⟩ ⟨[]⟩=>(args.map fun x=>(x.ev bq).fV).flatMap ag.ids
   |_=>[]
  |_=>[]
 |_=>[]
def zq(bq:Env)(M M':aC):List Nat->Prop
 | []=>True
 |z::r=>(match hZ bq z with
  | .ptr id _=>nth M' id=nth M id
  |_=>False)/\zq bq M M' r
noncomputable def qx(call:eR)(o:cZ)(bq:Env)(M:aC):Option (ag×aC) :=
 match o.xA with
 |true=>cr (o.op.eF bq=[]) (ec call bq M o.op)
 |false=>match o.grow with
  |false=>ec call bq M o.op
  |true=>bJ (ec call bq M o.op) fun x=>cr (M <+: x.2\/(o.sep≠[]/\zq bq M x.2 o.sep)) (some x)
structure Out where
 e:abz
 bq:Env
 mem:aC
def EU(c:Bool)(x:ag×aC)(k:Option Out):Option Out:=match x.1 with
 | .nK v=>match c with
  |true=>some ⟨.nK v,[],x.2⟩
  |false=>none
 |_=>k
def cZ.lets(o:cZ):Bool:=o.op.Rg&&o.stop
noncomputable def gu(call:eR):List cZ->Env->aC->Option Out
 | [],bq,M=>some ⟨.normal,bq,M⟩
 |o::r,bq,M =>
  match o.guard with
  |none=>bJ (qx call o bq M) fun x=>EU o.lets x (gu call r (rG bq o.dst x.1) x.2)
  |some (t,want)=>match hZ bq t with
   | .bool b=>Br (b==want) (bJ (qx call o bq M) fun x=>EU o.lets x (gu call r (rG bq o.dst x.1) x.2))
    (gu call r (rG bq o.dst (.tuple [])) M)
   | .tuple []=>gu call r (rG bq o.dst (.tuple [])) M
   |_=>none
def jq(bq:Env)(live:List Nat):Env:=live.map fun t=>(t,hZ bq t)
def Out.pU(live:List Nat)(o:Out):Out:=match o.e with
 | .normal=>⟨.normal,jq o.bq live,o.mem⟩
 |_=>o
open Classical in
noncomputable def lim{α:Type}(F:Nat->Option α):Option α:=if h:∃n,(F n).isSome=true then F (Classical.choose h) else none
def uc(o:Out)(k:Env->aC->Option Out):Option Out:=match o.e with
 | .normal=>k o.bq o.mem
 |_=>some o
def xC(id:Nat)(o:Out):Out:=match o.e with
 | .exit i=>if i=id then ⟨.normal,o.bq,o.mem⟩ else o
 |_=>o
def iter(g:Nat->Nat->Nat)(f:Env->aC->Option Out)(live:List Nat):Nat->Env->aC->Option Out
 |0,_,_=>none
 |n+1,bq,M=>bJ (f (jq bq live) M) fun o=>uc o fun e m=>iter g f live n (wE (g M.length m.length) m (jq e live)) (iT (g M.length m.length) m)
abbrev gL(a _b:Nat):Nat:=a
abbrev gR(_a b:Nat):Nat:=b
def Lw(M:aC)(t:Nat)(bq:Env):Env:=(t,(hZ bq t).qX M)::bq
noncomputable def eO(call:eR):cA->Env->aC->Option Out
 | .skip,bq,M=>some ⟨.normal,bq,M⟩
 | .region ops _ live,bq,M=>bJ (gu call ops bq M) fun o=>some (o.pU live)
 | .seq a b,bq,M=>bJ (eO call a bq M) fun o=>uc o (eO call b)
 | .cond c x y,bq,M=>match c.ev bq with
  | .bool t=>Br t (eO call x bq M) (eO call y bq M)
  |_=>none
 | .block id c,bq,M=>bJ (eO call c bq M) fun o=>some (xC id o)
 | .loop live c,bq,M=>lim fun n=>iter gL (eO call c) live n bq M
 | .nI live c,bq,M=>lim fun n=>iter gR (eO call c) live n bq M
 | .qX t c,bq,M=>eO call c (Lw M t bq) (pw M (hZ bq t).ids)
 | .exit id,bq,M=>some ⟨.exit id,bq,M⟩
 | .ret,bq,M=>some ⟨.ret,bq,M⟩
inductive sP where
 |tmp (t:Nat)
 |dH (t n:Nat)
 |abM (t:Nat)
structure eH where
 nparams:Nat
 results:List sP
 body:cA
def Ey(bq:Env)(M:aC):sP->Option ag
 | .tmp t=>some (hZ bq t)
 | .dH t n=>match hZ bq t with
  | .ptr id off=>match nth M id with
   |some (.cells cs)=>if off+n<=cs.length then some (.agg ((cs.drop off).take n)) else none
   |_=>none
  |_=>none
 | .abM t=>match hZ bq t with
  | .ptr id off=>match nth M id with
   |some (.cells cs)=>nth cs off
   |_=>none
  |_=>none
def sX(bq:Env)(M:aC):List sP->Option (List ag)
 | []=>some []
 |r::rs=>bJ (Ey bq M r) fun v=>bJ (sX bq M rs) fun l=>some (v::l)
def one:List ag->ag
 | [v]=>v
 |l => .tuple l
def eG:Nat->List ag->Env
 |_,[]=>[]
 |i,v::r=>(i,v)::eG (i+1) r
def finish(res:List sP)(bS:Nat)(o:Out):Option (ag×aC) :=
 match o.e with
 | .exit _=>none
 | .nK v=>some (.nK v,iT bS o.mem)
 |_=>bJ (sX o.bq o.mem res) fun l=>some ((one l).lK bS o.mem,iT bS o.mem)
structure zB where
 code:Nat->Option eH
 oY:Nat->Option (List ag->aC->Option (ag×aC))
noncomputable def kb(T:zB):Nat->eR
 |0,f,args,M=>match T.oY f with
  |some g=>g args M
  |none=>none
 |n+1,f,args,M=>match T.oY f with
  |some g=>g args M
  |none=>match T.code f with
   |none=>none
   |some fn=>if args.length=fn.nparams then bJ (eO (kb T n) fn.body (eG 0 args) M) (finish fn.results M.length) else none
noncomputable def aq(T:zB):eR:=fun f args M=>lim fun n=>kb T n f args M
theorem pV{α:Type}{F:Nat->Option α}(hm:∀n x,F n=some x->F (n+1)=some x){n:Nat}{x:α}(h:F n=some x):lim F=some x:=by
 have up:∀k n x,F n=some x->F (n+k)=some x:=by
  intro k;induction k<;>grind
 unfold lim;have hex:∃n,(F n).isSome=true:=⟨n,ka⟩;rw[dif_pos hex];have hc:=Classical.choose_spec hex;generalize Classical.choose _=m at *;obtain⟨y,hy⟩:=fz.1 hc;rcases Nat.le_total n m with hle|hle
 ·have:=up (m-n) n x h;rw[show n+(m-n)=m by omega] at this
  omega
 ·have:=up (n-m) m y hy;rw[show m+(n-m)=n by omega,h] at this
  rw[hy,this]
theorem uj{α:Type}{F:Nat->Option α}{x:α}(h:lim F=some x):∃n,F n=some x:=by
 unfold lim at h;split at h
 ·grind
 grind
def wW(C C':eR):Prop:=∀f a M x,C f a M=some x->C' f a M=some x
def bp{α β:Type}{x:Option α}{f:α->Option β}{y:β}(h:bJ x f=some y):∃a,x=some a/\f a=some y:=by
 cases x<;>simp_all
def lM{α:Type}{b:Bool}{x y:Option α}{z:α}(h:Br b x y=some z):(b=true/\x=some z)\/(b=false/\y=some z):=by
 cases b
 ·simp_all
 simp_all
theorem dg{α:Type}{p:Prop}{x:Option α}{z:α}(h:cr p x=some z):p/\x=some z:=by
 grind [cr]
theorem pR{C:eR}{f:Nat}{vs:List ag}{M:aC}{x:ag×aC}(h:aU C f vs M=some x) :
  ∃a B y,C f a B=some y/\∀C':eR,C' f a B=some y->aU C' f vs M=some x:=by
 unfold aU at h;split at h
 ·obtain⟨B,hB,h⟩:=bp h;split at h
  ·obtain⟨y,hy,h⟩:=bp h;refine⟨_,B,y,hy,fun C' hC'=>?_⟩
   simp_all [aU]
  grind
 grind
theorem Mu{C:eR}{bq:Env}{M:aC}{o:kE}{x:ag×aC}(h:ec C bq M o=some x) :
  (∀C':eR,ec C' bq M o=some x)\/∃f a B y,C f a B=some y/\∀C':eR,C' f a B=some y->ec C' bq M o=some x:=by
 cases o
 case call f args =>
  simp only[ec] at h ⊢;obtain⟨a,B,y,h1,h2⟩:=pR h;exact .inr ⟨f,a,B,y,h1,h2⟩
 case wF f args =>
  simp only[ec] at h ⊢;unfold Bx at h;split at h
  ·rename_i hc;obtain⟨y,hy,h⟩:=bp h;refine .inr ⟨f,_,[],y,hy,fun C' hC'=>?_⟩
   unfold Bx;rw[aX hc,hC'];exact h
  ·cases h
 case BV f args =>
  simp only[ec] at h ⊢;split at h
  ·exact .inr ⟨_,_,_,_,h,fun _ h'=>h'⟩
  ·cases h
 case BU f args=>exact .inr ⟨f,_,_,_,h,fun _ h'=>h'⟩
 case ly f args =>
  simp only[ec] at h ⊢;obtain⟨a,B,y,h1,h2⟩:=pR h;exact .inr ⟨f,a,B,y,h1,h2⟩
 case sw f args =>
  simp only[ec] at h ⊢;split at h<;>grind [pR]
 all_goals exact .inl fun _=>h
theorem Q4{C C':eR}(hC:wW C C'){bq:Env}{M:aC}{o:kE}{x:ag×aC}(h:ec C bq M o=some x):ec C' bq M o=some x:=by
 rcases Mu h with h|⟨f,a,B,y,h1,h2⟩
 ·grind
 ·exact h2 _ (hC _ _ _ _ h1)
theorem rY{C:eR}{o:cZ}{bq:Env}{M:aC}{x:ag×aC}(h:qx C o bq M=some x) :
  (o.xA=true/\o.op.eF bq=[]/\ec C bq M o.op=some x)\/(o.xA=false/\o.grow=false/\ec C bq M o.op=some x)\/(o.xA=false/\o.grow=true/\(M <+: x.2\/(o.sep≠[]/\zq bq M x.2 o.sep))/\ec C bq M o.op=some x):=by
 unfold qx at h;split at h
 ·grind [dg]
 ·split at h
  ·exact .inr (.inl ⟨by assumption,by assumption,h⟩)
  ·obtain⟨y,hy,h⟩:=bp h
   grind [dg]
theorem Df{C C':eR}(hC:wW C C'){bq:Env}{M:aC}{o:cZ}{x:ag×aC}(h:qx C o bq M=some x):qx C' o bq M=some x:=by
 grind [rY,qx,Q4]
theorem NF{c:Bool}{x:ag×aC}{k:Option Out}{o:Out}(h:EU c x k=some o):(x.1.jo=false/\k=some o)\/∃v,c=true/\x.1 = .nK v/\o=⟨.nK v,[],x.2⟩:=by
 obtain⟨x,M⟩:=x
 cases x<;>first
  |exact .inl ⟨rfl,h⟩
  |(cases c
    ·cases h
    ·injection h with h; grind)
def Ma{c:Bool}{x:ag×aC}{k:Option Out}(h:x.1.jo=false):EU c x k=k:=by
 obtain⟨x,M⟩:=x;cases x<;>first|rfl|cases h
theorem NG{c:Bool}{x:ag×aC}{k:Option Out}{v:Value}(hc:c=true)(h:x.1 = .nK v):EU c x k=some ⟨.nK v,[],x.2⟩:=by
 grind [EU]
theorem qk{C:eR}{o:cZ}{r:List cZ}{bq:Env}{M:aC}{x:Out}(h:gu C (o::r) bq M=some x) :
  (∃y,(∀t want,o.guard=some (t,want)->hZ bq t = .bool want)/\qx C o bq M=some y/\((y.1.jo=false/\gu C r (rG bq o.dst y.1) y.2=some x)\/∃v,o.lets=true/\y.1 = .nK v/\x=⟨.nK v,[],y.2⟩)) \/
  (∃t want,o.guard=some (t,want)/\(hZ bq t = .bool (!want)\/hZ bq t = .tuple [])/\gu C r (rG bq o.dst (.tuple [])) M=some x):=by
 unfold gu at h;split at h
 ·rename_i hg;obtain⟨y,hy,h⟩:=bp h
  grind [NF]
 ·rename_i t want hg;split at h
  ·rename_i b hb;rcases lM h with ⟨h1,h2⟩|⟨h1,h2⟩
   ·obtain⟨y,hy,h2⟩:=bp h2
    grind [NF]
   ·refine .inr ⟨t,want,hg,.inl ?_,h2⟩;cases b<;>cases want<;>simp_all
  ·grind
  grind
def rX{C:eR}{o:cZ}{r:List cZ}{bq:Env}{M:aC}{y:ag×aC}(hg:∀t want,o.guard=some (t,want)->hZ bq t = .bool want)
  (hy:qx C o bq M=some y):gu C (o::r) bq M=EU o.lets y (gu C r (rG bq o.dst y.1) y.2):=by
 rw[gu];split
 ·rw[hy]; rfl
 simp_all
theorem wC{C:eR}{o:cZ}{r:List cZ}{bq:Env}{M:aC}{t:Nat}{want:Bool}(hg:o.guard=some (t,want))
  (hb:hZ bq t = .bool (!want)\/hZ bq t = .tuple []):gu C (o::r) bq M=gu C r (rG bq o.dst (.tuple [])) M:=by
 rw[gu];simp[hg];rcases hb with hb|hb
 ·rw[hb]; cases want<;>simp
 grind
theorem ti{C C':eR}(hC:wW C C'):∀ {ops:List cZ} {bq:Env} {M:aC} {x:Out},gu C ops bq M=some x->gu C' ops bq M=some x
 | [],_,_,_,h=>h
 |o::r,bq,M,x,h=>by
  rcases qk h with ⟨y,h1,h2,h3⟩|⟨t,want,h1,h2,h3⟩
  ·rw[rX h1 (Df hC h2)];rcases h3 with ⟨h3,h4⟩|⟨v,h0,h3,rfl⟩
   ·rw[Ma h3]; exact ti hC h4
   grind [NG]
  ·rw[wC h1 h2]; exact ti hC h3
theorem ud{o:Out}{k:Env->aC->Option Out}{x:Out}(h:uc o k=some x):(o.e = .normal/\k o.bq o.mem=some x)\/(o.e ≠ .normal/\x=o):=by
 grind [uc]
theorem uQ{o:Out}{k:Env->aC->Option Out}(h:o.e = .normal):uc o k=k o.bq o.mem:=by grind [uc]
theorem zU{o:Out}{k:Env->aC->Option Out}(h:o.e ≠ .normal):uc o k=some o:=by
 simp[uc]
theorem x8{o:Out}{k k':Env->aC->Option Out}{x:Out}(hk:∀bq M x,k bq M=some x->k' bq M=some x)(h:uc o k=some x):uc o k'=some x:=by
 grind [ud,uQ,zU]
def ya{g0:Nat->Nat->Nat}{f g:Env->aC->Option Out}(hfg:∀bq M x,f bq M=some x->g bq M=some x)(live:List Nat):∀n {bq M x},iter g0 f live n bq M=some x->iter g0 g live n bq M=some x
 |0,_,_,_,h=>h
 |n+1,bq,M,x,h=>by
  rw[iter] at *;obtain⟨a,ha,h⟩:=bp h;rw[hfg _ _ _ ha];exact x8 (fun bq M x h=>ya hfg _ n h) h
def uS{g0:Nat->Nat->Nat}{f:Env->aC->Option Out}(live:List Nat):∀n {bq M x},iter g0 f live n bq M=some x->iter g0 f live (n+1) bq M=some x
 |0,_,_,_,h=>by cases h
 |n+1,bq,M,x,h=>by
  rw[iter] at h ⊢;obtain⟨a,ha,h⟩:=bp h;rw[ha];exact x8 (fun bq M x h=>uS _ n h) h
theorem jK{C C':eR}(hC:wW C C'):∀(c:cA){bq:Env}{M:aC}{x:Out},eO C c bq M=some x->eO C' c bq M=some x
 | .skip,_,_,_,h=>h
 | .exit _,_,_,_,h=>h
 | .ret,_,_,_,h=>h
 | .region _ d _,bq,M,x,h=>by
  simp[eO] at *;obtain⟨a,ha,h⟩:=bp h;rw[ti hC ha]; grind
 | .seq a b,bq,M,x,h=>by
  simp[eO] at *;obtain⟨o,ho,h⟩:=bp h;rw[jK hC a ho];exact x8 (fun bq M x=>jK hC b) h
 | .cond c a b,bq,M,x,h=>by
  simp[eO] at *;split
  ·rename_i t ht;simp[ht] at h;rcases lM h with ⟨rfl,h⟩|⟨rfl,h⟩
   ·exact jK hC a h
   ·exact jK hC b h
  grind
 | .block id c,bq,M,x,h=>by
  simp[eO] at *;obtain⟨o,ho,h⟩:=bp h;rw[jK hC c ho]; grind
 | .loop _ c,bq,M,x,h=>by
  obtain⟨n,hn⟩:=uj h;exact pV (fun n x=>uS _ n) (ya (fun bq M x=>jK hC c) _ n hn)
 | .nI _ c,bq,M,x,h=>by
  obtain⟨n,hn⟩:=uj h;exact pV (fun n x=>uS _ n) (ya (fun bq M x=>jK hC c) _ n hn)
 | .qX _ c,bq,M,x,h=>jK hC c h
theorem tC(T:zB):∀n,wW (kb T n) (kb T (n+1))
 |0,f,a,M,x,h=>by
  grind [kb]
 |n+1,f,a,M,x,h=>by
  rw[kb] at h ⊢;split
  ·grind
  ·rename_i hg;simp[hg] at h;split
   ·grind
   ·rename_i fn hf;simp only[hf] at h;split
    ·rename_i hl;rw[aX hl] at h;obtain⟨o,ho,h⟩:=bp h;rw[jK (tC T n) _ ho]
     grind
    grind
def tz(T:zB){n m:Nat}(h:n<=m):wW (kb T n) (kb T m):=by
 obtain⟨k,rfl⟩:=Nat.exists_eq_add_of_le h;induction k with
 |zero=>exact fun _ _ _ _ h=>h
 |succ k ih=>exact fun f a M x hx=>tC T _ f a M x (ih dv f a M x hx)
theorem KI(T:zB){bq:Env}{M:aC}{o:cZ}{x:ag×aC}(h:qx (aq T) o bq M=some x):∃n,qx (kb T n) o bq M=some x:=by
 have key:∀y,ec (aq T) bq M o.op=some y->∃n,ec (kb T n) bq M o.op=some y:=by
  intro y hy;rcases Mu hy with h|⟨f,a,B,z,h1,h2⟩
  ·simp_all
  ·obtain⟨n,hn⟩:=uj h1
   grind
 rcases rY h with ⟨hn,hi,h1⟩|⟨hn,hg,h1⟩|⟨hn,hg,hp,h1⟩<;>obtain⟨n,h2⟩:=key _ h1
 ·grind [qx]
 ·grind [qx]
 grind [qx]
def vX(T:zB):∀ {ops:List cZ} {bq:Env} {M:aC} {x:Out},gu (aq T) ops bq M=some x->∃n,gu (kb T n) ops bq M=some x
 | [],_,_,_,h=>⟨0,h⟩
 |o::r,bq,M,x,h=>by
  rcases qk h with ⟨y,h1,h2,h3⟩|⟨t,want,h1,h2,h3⟩
  ·obtain⟨n,hn⟩:=KI T h2;rcases h3 with ⟨h3,h4⟩|⟨v,h0,h3,rfl⟩
   ·obtain⟨m,hm⟩:=vX T h4;refine⟨max n m,?_⟩;rw[rX h1 (Df (tz T (Nat.le_max_left n m)) hn),Ma h3];exact ti (tz T (Nat.le_max_right n m)) hm
   ·exact⟨n,by rw[rX h1 hn]; exact NG h0 h3⟩
  ·obtain⟨m,hm⟩:=vX T h3;exact⟨m,by rw[wC h1 h2]; exact hm⟩
def Bh(T:zB){g:Nat->Nat->Nat}{live:List Nat}{c:cA}(hc:∀ {bq:Env} {M:aC} {x:Out},eO (aq T) c bq M=some x->∃n,eO (kb T n) c bq M=some x){x:Out} :
  ∀k bq M,iter g (eO (aq T) c) live k bq M=some x->∃n,iter g (eO (kb T n) c) live k bq M=some x
 |0,bq,M,h=>by cases h
 |k+1,bq,M,h=>by
  rw[iter] at h;obtain⟨a,ha,h⟩:=bp h;obtain⟨n,hn⟩:=hc ha;rcases ud h with ⟨h1,h2⟩|⟨h1,h2⟩
  ·obtain⟨m,hm⟩:=Bh T hc k _ _ h2;refine⟨max n m,?_⟩;rw[iter,jK (tz T (Nat.le_max_left n m)) c hn,bO,uQ h1];exact ya (fun bq M x=>jK (tz T (Nat.le_max_right n m)) c) live k hm
  ·exact⟨n,by rw[iter,hn,bO,zU h1,h2]⟩
def oJ(T:zB):∀(c:cA){bq:Env}{M:aC}{x:Out},eO (aq T) c bq M=some x->∃n,eO (kb T n) c bq M=some x
 | .skip,_,_,_,h=>⟨0,h⟩
 | .exit _,_,_,_,h=>⟨0,h⟩
 | .ret,_,_,_,h=>⟨0,h⟩
 | .region ops d live,bq,M,x,h=>by
  simp only[eO] at *;obtain⟨a,ha,h⟩:=bp h;obtain⟨n,hn⟩:=vX T ha;exact⟨n,by rw[hn]; exact h⟩
 | .seq a b,bq,M,x,h=>by
  simp only[eO] at *;obtain⟨o,ho,h⟩:=bp h;obtain⟨n,hn⟩:=oJ T a ho;rcases ud h with ⟨h1,h2⟩|⟨h1,h2⟩
  ·obtain⟨m,hm⟩:=oJ T b h2;refine⟨max n m,?_⟩;rw[jK (tz T (Nat.le_max_left n m)) a hn,bO,uQ h1];exact jK (tz T (Nat.le_max_right n m)) b hm
  ·exact⟨n,by rw[hn,bO,zU h1,h2]⟩
 | .cond c a b,bq,M,x,h=>by
  simp only[eO] at *;split at h
  ·rename_i t ht;rcases lM h with ⟨rfl,h⟩|⟨rfl,h⟩
   ·obtain⟨n,hn⟩:=oJ T a h; exact⟨n,hn⟩
   ·obtain⟨n,hn⟩:=oJ T b h; exact⟨n,hn⟩
  ·cases h
 | .block id c,bq,M,x,h=>by
  simp only[eO] at *;obtain⟨o,ho,h⟩:=bp h;obtain⟨n,hn⟩:=oJ T c ho;exact⟨n,by rw[hn]; exact h⟩
 | .loop live c,bq,M,x,h=>by
  simp only[eO] at *;obtain⟨k,hk⟩:=uj h;obtain⟨n,hn⟩:=Bh T (oJ T c) k bq M hk;exact⟨n,pV (fun n x=>uS live n) hn⟩
 | .nI live c,bq,M,x,h=>by
  simp only[eO] at *;obtain⟨k,hk⟩:=uj h;obtain⟨n,hn⟩:=Bh T (oJ T c) k bq M hk;exact⟨n,pV (fun n x=>uS live n) hn⟩
 | .qX _ c,bq,M,x,h=>oJ T c h
def F3(g:Nat->Nat->Nat)(C:eR)(live:List Nat)(c:cA)(bq:Env)(M:aC) :
  lim (fun n=>iter g (eO C c) live n bq M)=bJ (eO C c (jq bq live) M) fun o=>uc o fun e m=>lim fun n=>iter g (eO C c) live n (wE (g M.length m.length) m (jq e live)) (iT (g M.length m.length) m):=by
 apply Option.ext;intro x;constructor
 ·intro h;obtain⟨n,hn⟩:=uj h;cases n with
  |zero=>cases hn
  |succ n =>
   rw[iter] at hn;obtain⟨o,ho,hn⟩:=bp hn;rw[ho,bO];exact x8 (fun bq M x hx=>pV (fun n x=>uS live n) hx) hn
 ·intro h;obtain⟨o,ho,h⟩:=bp h;rcases ud h with ⟨h1,h2⟩|⟨h1,h2⟩
  ·obtain⟨n,hn⟩:=uj h2;refine pV (F:=fun n=>iter g (eO C c) live n bq M) (n:=n+1) (fun n x=>uS live n) ?_
   show iter g (eO C c) live (n+1) bq M=some x
   rw[iter,ho,bO,uQ h1];exact hn
  ·refine pV (F:=fun n=>iter g (eO C c) live n bq M) (n:=1) (fun n x=>uS live n) ?_
   show iter g (eO C c) live 1 bq M=some x
   rw[iter,ho,bO,zU h1,h2]
def KC(C:eR)(live:List Nat)(c:cA)(bq:Env)(M:aC) :
  eO C (.loop live c) bq M=bJ (eO C c (jq bq live) M) fun o=>uc o fun e m=>eO C (.loop live c) (wE M.length m (jq e live)) (iT M.length m):=F3 gL C live c bq M
def H3(C:eR)(live:List Nat)(c:cA)(bq:Env)(M:aC) :
  eO C (.nI live c) bq M=bJ (eO C c (jq bq live) M) fun o=>uc o fun e m=>eO C (.nI live c) (wE m.length m (jq e live)) (iT m.length m):=F3 gR C live c bq M
def KA{T:zB}{f:Nat}{fn:eH}{args:List ag}{M:aC}{x:ag×aC}(hp:T.oY f=none)(hc:T.code f=some fn)(hl:args.length=fn.nparams)
  (h:bJ (eO (aq T) fn.body (eG 0 args) M) (finish fn.results M.length)=some x):aq T f args M=some x:=by
 obtain⟨o,hb,hf⟩:=bp h;obtain⟨n,hn⟩:=oJ T fn.body hb;refine pV (n:=n+1) (fun n x h=>tC T n f args M x h) ?_
 rw[kb];simp only[hp,hc,aX hl,hn,bO];exact hf
def fg{T:zB}{f:Nat}{g:List ag->aC->Option (ag×aC)}{args:List ag}{M:aC}{x:ag×aC}(hp:T.oY f=some g)(hg:g args M=some x):aq T f args M=some x:=by
 refine pV (n:=0) (fun n x h=>tC T n f args M x h) ?_
 rw[kb];simp only[hp,hg]
inductive K where
 |seq (c:cA)
 |block (id:Nat)
 |loop (live:List Nat) (n:Nat) (c:cA)
 |nI (live:List Nat) (c:cA)
noncomputable def kr(C:eR)(fn:List sP)(bS:Nat):List K->Out->Option (ag×aC)
 | [],o=>finish fn bS o
 | .seq c::k,o=>bJ (uc o (eO C c)) (kr C fn bS k)
 | .block id::k,o=>kr C fn bS k (xC id o)
 | .loop live n c::k,o=>bJ (uc o fun e m=>eO C (.loop live c) (wE n m (jq e live)) (iT n m)) (kr C fn bS k)
 | .nI live c::k,o=>bJ (uc o fun e m=>eO C (.nI live c) (wE m.length m (jq e live)) (iT m.length m)) (kr C fn bS k)
noncomputable def eX(C:eR)(fn:List sP)(bS:Nat)(k:List K)(c:cA)(bq:Env)(M:aC):Option (ag×aC):=bJ (eO C c bq M) (kr C fn bS k)
noncomputable def fM(C:eR)(fn:List sP)(bS:Nat)(k:List K)(live:List Nat)(ops:List cZ)(bq:Env)(M:aC):Option (ag×aC) :=
 bJ (gu C ops bq M) fun o=>kr C fn bS k (o.pU live)
noncomputable def lC(C:eR)(fn:List sP)(bS:Nat)(k:List K)(live:List Nat)(c:Bool)(dst:Option Nat)(r:List cZ)(bq:Env)(y:Option (ag×aC)):Option (ag×aC) :=
 bJ y fun x=>bJ (EU c x (gu C r (rG bq dst x.1) x.2)) fun o=>kr C fn bS k (o.pU live)
noncomputable def gK(C:eR)(fn:List sP)(bS:Nat)(k:List K)(live:List Nat)(g:ag)(want:Bool)(o:cZ)(r:List cZ)(bq:Env)(M:aC):Option (ag×aC) :=
 match g with
 | .bool b=>Br (b==want) (lC C fn bS k live o.lets o.dst r bq (qx C o bq M)) (fM C fn bS k live r (rG bq o.dst (.tuple [])) M)
 | .tuple []=>fM C fn bS k live r (rG bq o.dst (.tuple [])) M
 |_=>none
noncomputable def dX(C:eR)(fn:List sP)(bS:Nat)(k:List K)(v:ag)(x y:cA)(bq:Env)(M:aC):Option (ag×aC) :=
 match v with
 | .bool t=>Br t (eX C fn bS k x bq M) (eX C fn bS k y bq M)
 |_=>none
def pW{α β γ:Type}(x:Option α)(f:α->Option β)(g:β->Option γ):bJ (bJ x f) g=bJ x fun a=>bJ (f a) g:=by cases x<;>rfl
section
variable (C:eR) (fn:List sP) (bS:Nat) (k:List K) (bq:Env) (M:aC)
def RQ:eX C fn bS k .skip bq M=kr C fn bS k ⟨.normal,bq,M⟩:=rfl
def RP(id:Nat):eX C fn bS k (.exit id) bq M=kr C fn bS k ⟨.exit id,bq,M⟩:=rfl
def YP:eX C fn bS k .ret bq M=kr C fn bS k ⟨.ret,bq,M⟩:=rfl
def YQ(a b:cA):eX C fn bS k (.seq a b) bq M=eX C fn bS (.seq b::k) a bq M:=by
 unfold eX;rw[eO,pW];rfl
def O8(id:Nat)(c:cA):eX C fn bS k (.block id c) bq M=eX C fn bS (.block id::k) c bq M:=by
 unfold eX;rw[eO,pW];rfl
def RO(c:fZ)(x y:cA):eX C fn bS k (.cond c x y) bq M=dX C fn bS k (c.ev bq) x y bq M:=by
 unfold eX dX;rw[eO];cases c.ev bq<;>simp[eX]
def Lo(ops:List cZ)(d:Bool)(live:List Nat):eX C fn bS k (.region ops d live) bq M=fM C fn bS k live ops bq M:=by
 unfold eX fM;rw[eO,pW];rfl
def bG(live:List Nat)(c:cA):eX C fn bS k (.loop live c) bq M=eX C fn bS (.loop live M.length c::k) c (jq bq live) M:=by
 unfold eX;rw[KC,pW];rfl
def vy(live:List Nat)(c:cA):eX C fn bS k (.nI live c) bq M=eX C fn bS (.nI live c::k) c (jq bq live) M:=by
 unfold eX;rw[H3,pW];rfl
def YO(t:Nat)(c:cA):eX C fn bS k (.qX t c) bq M=eX C fn bS k c (Lw M t bq) (pw M (hZ bq t).ids):=rfl
def Vu(live:List Nat)(c:cA):kr C fn bS (.nI live c::k) ⟨.normal,bq,M⟩=eX C fn bS k (.nI live c) (wE M.length M (jq bq live)) (iT M.length M):=rfl
def Ff(live:List Nat)(c:cA)(i:Nat):kr C fn bS (.nI live c::k) ⟨.exit i,bq,M⟩=kr C fn bS k ⟨.exit i,bq,M⟩:=rfl
def Hl(live:List Nat)(c:cA):kr C fn bS (.nI live c::k) ⟨.ret,bq,M⟩=kr C fn bS k ⟨.ret,bq,M⟩:=rfl
def WA(live:List Nat):fM C fn bS k live [] bq M=kr C fn bS k ⟨.normal,jq bq live,M⟩:=rfl
def P1(live:List Nat)(d:Option Nat)(op:kE)(g m:Bool)(s:List Nat)(st:Bool)(r:List cZ) :
  fM C fn bS k live (⟨d,op,none,g,m,s,st⟩::r) bq M=lC C fn bS k live (cZ.lets ⟨d,op,none,g,m,s,st⟩) d r bq (qx C ⟨d,op,none,g,m,s,st⟩ bq M):=by
 unfold fM lC;rw[gu,pW]
def P2(live:List Nat)(d:Option Nat)(op:kE)(t:Nat)(w g m:Bool)(s:List Nat)(st:Bool)(r:List cZ) :
  fM C fn bS k live (⟨d,op,some (t,w),g,m,s,st⟩::r) bq M=gK C fn bS k live (hZ bq t) w ⟨d,op,some (t,w),g,m,s,st⟩ r bq M:=by
 unfold fM gK;rw[gu];simp only;generalize hZ bq t=v;split
 ·rw[PO,pW]; rfl
 ·rfl
 ·rename_i h1 h2
  first
   |rfl
   |(split
     ·rename_i b; exact absurd rfl (h1 b)
     ·exact absurd rfl h2
     ·rfl)
def Wa(live:List Nat)(c:Bool)(d:Option Nat)(r:List cZ)(v:ag)(M':aC)(hv:v.jo=false):lC C fn bS k live c d r bq (some (v,M'))=fM C fn bS k live r (rG bq d v) M':=by
 unfold lC;rw[bO,Ma hv]; rfl
def aaN(live:List Nat)(d:Option Nat)(r:List cZ)(v:Value)(M':aC):lC C fn bS k live true d r bq (some (.nK v,M'))=kr C fn bS k ⟨.nK v,[],M'⟩:=rfl
def PE(d g f:_)(a m s1 s:_):cZ.lets ⟨d,.call f a,g,m,s1,s,true⟩=true:=rfl
def LS(d g f:_)(a m s1 s:_):cZ.lets ⟨d,.sw f a,g,m,s1,s,true⟩=true:=rfl
def LU(d g f:_)(a m s1 s:_):cZ.lets ⟨d,.BV f a,g,m,s1,s,true⟩=true:=rfl
def LP(d g f:_)(a m s1 s:_):cZ.lets ⟨d,.BU f a,g,m,s1,s,true⟩=true:=rfl
def LQ(d g f:_)(a m s1 s:_):cZ.lets ⟨d,.ly f a,g,m,s1,s,true⟩=true:=rfl
def LV(d g f:_)(m s1 s:_):cZ.lets ⟨d,.raise f,g,m,s1,s,true⟩=true:=rfl
def alV(live:List Nat)(o:cZ)(r:List cZ):gK C fn bS k live (.bool true) true o r bq M=lC C fn bS k live o.lets o.dst r bq (qx C o bq M):=rfl
def alS(live:List Nat)(o:cZ)(r:List cZ):gK C fn bS k live (.bool false) false o r bq M=lC C fn bS k live o.lets o.dst r bq (qx C o bq M):=rfl
def alU(live:List Nat)(o:cZ)(r:List cZ):gK C fn bS k live (.bool true) false o r bq M=fM C fn bS k live r (rG bq o.dst (.tuple [])) M:=rfl
def alT(live:List Nat)(o:cZ)(r:List cZ):gK C fn bS k live (.bool false) true o r bq M=fM C fn bS k live r (rG bq o.dst (.tuple [])) M:=rfl
def alW(live:List Nat)(w:Bool)(o:cZ)(r:List cZ):gK C fn bS k live (.tuple []) w o r bq M=fM C fn bS k live r (rG bq o.dst (.tuple [])) M:=rfl
def YZ(x y:cA):dX C fn bS k (.bool true) x y bq M=eX C fn bS k x bq M:=rfl
def YY(x y:cA):dX C fn bS k (.bool false) x y bq M=eX C fn bS k y bq M:=rfl
def agO(c:cA):kr C fn bS (.seq c::k) ⟨.normal,bq,M⟩=eX C fn bS k c bq M:=rfl
def Jn(c:cA)(i:Nat):kr C fn bS (.seq c::k) ⟨.exit i,bq,M⟩=kr C fn bS k ⟨.exit i,bq,M⟩:=rfl
def LH(c:cA):kr C fn bS (.seq c::k) ⟨.ret,bq,M⟩=kr C fn bS k ⟨.ret,bq,M⟩:=rfl
def LG(c:cA)(v:Value):kr C fn bS (.seq c::k) ⟨.nK v,bq,M⟩=kr C fn bS k ⟨.nK v,bq,M⟩:=rfl
def Hj(id:Nat)(v:Value):kr C fn bS (.block id::k) ⟨.nK v,bq,M⟩=kr C fn bS k ⟨.nK v,bq,M⟩:=rfl
def Jl(live:List Nat)(n:Nat)(c:cA)(v:Value):kr C fn bS (.loop live n c::k) ⟨.nK v,bq,M⟩=kr C fn bS k ⟨.nK v,bq,M⟩:=rfl
def Vt(id:Nat):kr C fn bS (.block id::k) ⟨.normal,bq,M⟩=kr C fn bS k ⟨.normal,bq,M⟩:=rfl
def Fe(id i:Nat):kr C fn bS (.block id::k) ⟨.exit i,bq,M⟩=if i=id then kr C fn bS k ⟨.normal,bq,M⟩ else kr C fn bS k ⟨.exit i,bq,M⟩:=by
 rw[kr]; simp only[xC]; split<;>rfl
def Hk(id:Nat):kr C fn bS (.block id::k) ⟨.ret,bq,M⟩=kr C fn bS k ⟨.ret,bq,M⟩:=rfl
def Zi(live:List Nat)(n:Nat)(c:cA):kr C fn bS (.loop live n c::k) ⟨.normal,bq,M⟩=eX C fn bS k (.loop live c) (wE n M (jq bq live)) (iT n M):=rfl
def Hm(live:List Nat)(n:Nat)(c:cA)(i:Nat):kr C fn bS (.loop live n c::k) ⟨.exit i,bq,M⟩=kr C fn bS k ⟨.exit i,bq,M⟩:=rfl
def Jm(live:List Nat)(n:Nat)(c:cA):kr C fn bS (.loop live n c::k) ⟨.ret,bq,M⟩=kr C fn bS k ⟨.ret,bq,M⟩:=rfl
def agN(o:Out):kr C fn bS [] o=finish fn bS o:=rfl
end
def nu{q body:cA}(h:q=body)(C:eR)(fn:List sP)(bS:Nat)(k:List K)(bq:Env)(M:aC):eX C fn bS k q bq M=eX C fn bS k body bq M:=by rw[h]
def aB{T:zB}{f:Nat}{fn:eH}{args:List ag}{M:aC}{x:ag×aC}(h:eX (aq T) fn.results M.length [] fn.body (eG 0 args) M=some x)
  (hp:T.oY f=none:=by exact rfl) (hc:T.code f=some fn:=by exact rfl) (hl:args.length=fn.nparams:=by exact rfl):aq T f args M=some x :=
 KA hp hc hl (by
  unfold eX at h;obtain⟨o,h1,h2⟩:=bp h;rw[h1]; exact h2)
end
section
open Go Go.RowKit
def bs(s:List UInt8):ByteArray:=⟨s.toArray⟩
structure J where
 f:Nat->Option Nat
 X:Nat->Nat->Prop
instance:CoeFun J (fun _=>Nat->Option Nat):=⟨J.f⟩
structure oG(j:J)(M:aC)(w:World)(b off:Nat):Prop where
 lt:b<w.heap.size
 ids:∀id,id<M.length->j id=some b->∃sz n,M[id]?=some (.tick sz n)/\off<n*sz
 nx:¬j.X b off
inductive fS(w:World)(iz:Nat->Nat->Prop):ag->Value->Prop where
 |bool (b:Bool):fS w iz (.bool b) (.bool b)
 |int (k:IntKind) (n:Int):fS w iz (.int k n) (.int k n)
 |str (s:List UInt8):fS w iz (.str s) (.string (bs s))
 |raw (v:Value) (h1:v.oneCell'=true):fS w iz (.raw v) v
 |slice (xs:List ag) (A:Option Addr) (len cap b off sz:Nat) (vs:Nat->Value) (hl:len=xs.length) (hc:len<=cap)
   (ha:xs≠[]->A=some ⟨b,off,none⟩) (hz:∀x,x∈xs->x.cells.length=sz)
   (hs:∀(i:Nat)(x:ag)(k:Nat)(c:ag),xs[i]?=some x->x.cells[k]?=some c->w.cell? ⟨b,off+(i*sz+k),none⟩=some (vs (i*sz+k))/\iz b (off+(i*sz+k)))
   (hr:∀(i:Nat)(x:ag)(k:Nat)(c:ag),xs[i]?=some x->x.cells[k]?=some c->fS w iz c (vs (i*sz+k))):fS w iz (.slice .sh xs) (.slice A len cap)
def QZ(j:J)(w:World)(k n t:Nat)(x:Bool)(v:Value):Prop :=
 (j k=none/\n=0/\∃A,v = .slice A 0 0/\(x=true->A=none)) \/
 ∃b cap vs,0<n/\j k=some b/\v = .slice (some ⟨b,0,none⟩) n cap/\w.heap[b]?=some (.cells vs t (0,0))/\cap<=vs.size/\n<=cap
def HX(j:J)(w:World)(k sz n:Nat)(v:Value):Prop :=
 (j k=none/\n=0/\∃A,v = .slice A 0 0) \/
 ∃b cap vs t,j k=some b/\v = .slice (some ⟨b,0,none⟩) n cap/\w.heap[b]?=some (.cells vs t (0,0))/\cap*sz<=vs.size/\n<=cap
def CD(w:World)(iz:Nat->Nat->Prop)(x:ag)(v:Value):Prop :=
 match x with
 | .agg cs=>∃us:Array Value,v = .agg us/\cs.length=us.size/\∀(i:Nat)(c:ag)(u:Value),cs[i]?=some c->us[i]?=some u->fS w iz c u
 |x=>fS w iz x v
inductive gn(j:J)(M:aC)(w:World):ag->Value->Prop where
 |plain {x:ag} {v:Value} (h:fS w (oG j M w) x v):gn j M w x v
 |c0 (A:Option Addr):gn j M w (.slice .c0 []) (.slice A 0 0)
 |own {k:Nat} {xs:List ag} {v:Value} {sz n:Nat} (hk:M[k]?=some (.tick sz n)) (hn:xs.length<=n) (h:fS w (oG j M w) (.slice .sh xs) v)
   (ht:xs.length=n->HX j w k sz n v):gn j M w (.slice (.own k) xs) v
 |agg {cs:List ag} {vs:Array Value} (hl:cs.length=vs.size) (h:∀(i:Nat)(c:ag)(v:Value),cs[i]?=some c->vs[i]?=some v->gn j M w c v):gn j M w (.agg cs) (.agg vs)
 |tuple {cs:List ag} {vs:Array Value} (hl:cs.length=vs.size) (h:∀(i:Nat)(c:ag)(v:Value),cs[i]?=some c->vs[i]?=some v->gn j M w c v):gn j M w (.tuple cs) (.tuple vs)
 |ptr {id off b:Nat} (hid:id<M.length) (hc:∃cs,M[id]?=some (.cells cs)) (hj:j id=some b):gn j M w (.ptr id off) (.pointer (some ⟨b,off,none⟩))
 |jE {cs:List ag} {b off:Nat} {vs:Nat->Value} (h:∀(k:Nat)(c:ag),cs[k]?=some c->w.cell? ⟨b,off+k,none⟩=some (vs k)/\oG j M w b (off+k)/\fS w (oG j M w) c (vs k)) :
   gn j M w (.jE cs) (.pointer (some ⟨b,off,none⟩))
 |func {f:Nat} {caps:List ag} {vs:Array Value} (hl:caps.length=vs.size) (h:∀(i:Nat)(c:ag)(v:Value),caps[i]?=some c->vs[i]?=some v->gn j M w c v) :
   gn j M w (.func f caps) (.func (.func f) #[] vs)
 |iy {id b:Nat} (hc:∃ks vs,M[id]?=some (.map ks vs)) (hj:j id=some b):gn j M w (.iy id) (.map (some b))
 |j8 {id b:Nat} (hc:∃s p,M[id]?=some (.oa s p)) (hj:j id=some b):gn j M w (.j8 id) (.pointer (some ⟨b,0,none⟩))
 |kl {ks vs:List ag} {b:Nat} {es:Array MapEntry} {clock:Nat} (hb:b<w.heap.size) (hf:∀i,i<M.length->j i≠some b) (hx:∀off,¬j.X b off) (hw:w.heap[b]?=some (.map es clock)) (hk:ks.length=es.size) (hv:vs.length=es.size)
   (hks:∀(i:Nat)(k:ag)(e:MapEntry),ks[i]?=some k->es[i]?=some e->fS w (oG j M w) k e.key) (hvs:∀(i:Nat)(v:ag)(e:MapEntry),vs[i]?=some v->es[i]?=some e->CD w (oG j M w) v e.val) :
   gn j M w (.kl ks vs) (.map (some b))
 |cz {id ver sz lo hi:Nat} {v:Value} (h0:(∃b off c,v = .slice (some ⟨b,off,none⟩) (hi-lo) c/\hi-lo<=c)\/hi-lo=0/\∃A,v = .slice A 0 0) (hid:id<M.length) (hM:∀bx,M[id]?=some bx->bx.loose=true)
   (hv:∀sz' v' xs,M[id]?=some (.arr sz' v' xs)->ver<=v'/\(v'=ver->sz'=sz/\lo<=hi/\hi<=xs.length/\((xs=[]/\j id=none/\∃A,v = .slice A 0 0)\/∃b cap vs t,j id=some b/\v = .slice (some ⟨b,lo*sz,none⟩) (hi-lo) cap/\hi-lo<=cap/\w.heap[b]?=some (.cells vs t (0,0))/\(lo+cap)*sz<=vs.size))) :
   gn j M w (.cz id ver sz lo hi) v
 |jv {id ver i off:Nat} {v:Value} (h0:∃b o,v = .pointer (some ⟨b,o,none⟩)) (hid:id<M.length) (hM:∀bx,M[id]?=some bx->bx.loose=true)
   (hv:∀sz v' xs,M[id]?=some (.arr sz v' xs)->ver<=v'/\(v'=ver->i<xs.length/\∃b,j id=some b/\v = .pointer (some ⟨b,i*sz+off,none⟩))) :
   gn j M w (.jv id ver i off) v
 |ra {f:Nat} {fs:List ag} {vs:Array Value} (hl:fs.length=vs.size) (h:∀(i:Nat)(c:ag)(v:Value),fs[i]?=some c->vs[i]?=some v->CD w (oG j M w) c v):gn j M w (.ra f fs) (.func (.func f) vs #[])
 |ky {t id off b:Nat} (hc:∃cs,M[id]?=some (.cells cs)) (hj:j id=some b):gn j M w (.ky t id off) (.iface t (.pointer (some ⟨b,off,none⟩)))
 |any (v:Value):gn j M w .any v
def RC(j:J)(M:aC)(w:World)(cs:List ag)(vs:Array Value):Prop :=
 cs.length=vs.size/\∀(i:Nat)(c:ag)(v:Value),cs[i]?=some c->vs[i]?=some v->gn j M w c v
def Holds(j:J)(M:aC)(w:World)(b:Nat):cJ->Prop
 | .cells cs=>∃vs t,w.heap[b]?=some (.cells vs t (0,0))/\RC j M w cs vs
 | .tick _ _=>True
 | .map ks vs=>∃es clock,w.heap[b]?=some (.map es clock)/\ks.length=es.size/\vs.length=es.size/\(∀(i:Nat)(k:ag)(e:MapEntry),ks[i]?=some k->es[i]?=some e->fS w (oG j M w) k e.key) /\
   ∀(i:Nat)(v:ag)(e:MapEntry),vs[i]?=some v->es[i]?=some e->gn j M w v e.val
 | .oa s pos=>w.heap[b]?=some (.stringIter (bs s) pos)
 | .arr _ _ _=>True
 | .vT=>True
structure Rel(j:J)(M:aC)(w:World):Prop where
 inj:∀i i' b,i<M.length->i'<M.length->j i=some b->j i'=some b->i=i'
 lt:∀i b,i<M.length->j i=some b->b<w.heap.size
 fix:∀i bx,M[i]?=some bx->bx.fixed=true->∃b,j i=some b/\Holds j M w b bx
 tick:∀i sz n b,M[i]?=some (.tick sz n)->j i=some b->∃vs t,w.heap[b]?=some (.cells vs t (0,0))
 arr:∀i sz ver xs,M[i]?=some (.arr sz ver xs)->(xs=[]/\j i=none)\/∃b vs t,j i=some b/\w.heap[b]?=some (.cells vs t (0,0))/\xs.length*sz<=vs.size/\(∀x,x∈xs->x.cells.length=sz) /\
  ∀(q:Nat)(x:ag)(k:Nat)(c:ag),xs[q]?=some x->x.cells[k]?=some c->∃v,vs[q*sz+k]?=some v/\fS w (oG j M w) c v
 vj:∀i b,i<M.length->j i=some b->∀off,¬j.X b off
 AD:∀b off,j.X b off->b<w.heap.size
def Rel.box{j:J}{M:aC}{w:World}(h:Rel j M w)(i:Nat)(cs:List ag)(hi:M[i]?=some (.cells cs)):∃b vs t,j i=some b/\w.heap[b]?=some (.cells vs t (0,0))/\cs.length=vs.size /\
  ∀(q:Nat)(c:ag)(v:Value),cs[q]?=some c->vs[q]?=some v->gn j M w c v:=by
 obtain⟨b,h1,vs,t,h2,h3⟩:=h.fix i _ hi rfl;exact⟨b,vs,t,h1,h2,h3.1,h3.2⟩
structure Ext(j:J)(M:aC)(w:World)(j':J)(M':aC)(w':World):Prop where
 len:M.length<=M'.length
 size:w.heap.size<=w'.heap.size
 os:w'.os=w.os
 tape:w'.tape=w.tape
 output:w'.output=w.output
 X:j'.X=j.X
 fix:∀i bx,M[i]?=some bx->bx.fixed=true->j' i=j i/\∃bx',M'[i]?=some bx'/\bx'.tag=bx.tag
 tick:∀i sz n,M[i]?=some (.tick sz n)->∃n',n<=n'/\M'[i]?=some (.tick sz n') /\
  (n'=n->j' i=j i/\∀b vs t,j i=some b->w.heap[b]?=some (.cells vs t (0,0))->∃vs',w'.heap[b]?=some (.cells vs' t (0,0))/\vs'.size=vs.size)
 arr:∀i sz ver xs,M[i]?=some (.arr sz ver xs)->(∃n',M'[i]?=some (.tick sz n'))\/∃ver' xs',M'[i]?=some (.arr sz ver' xs')/\ver<=ver' /\
  (ver'=ver->j' i=j i/\xs'.length=xs.length/\∀b vs t,j i=some b->w.heap[b]?=some (.cells vs t (0,0))->∃vs',w'.heap[b]?=some (.cells vs' t (0,0))/\vs'.size=vs.size)
 tags:∀(b:Nat)(vs:Array Value)(t:TypeId)(fr:Nat×Nat),w.heap[b]?=some (.cells vs t fr)->∃vs' fr',w'.heap[b]?=some (.cells vs' t fr')/\vs'.size=vs.size
 iz:∀b off,oG j M w b off->oG j' M' w' b off/\w'.cell? ⟨b,off,none⟩=w.cell? ⟨b,off,none⟩
 um:∀b,b<w.heap.size->(∀i,i<M.length->j i≠some b)->w'.heap[b]?=w.heap[b]?/\∀i,i<M'.length->j' i≠some b
def BH{a b:cJ}(h:b.tag=a.tag)(ha:a.fixed=true):b.fixed=true:=by
 cases a<;>cases b<;>simp[cJ.tag,cJ.fixed] at * <;> omega
def GB{b:cJ}(h:b.tag=0):∃cs,b = .cells cs:=by cases b<;>simp[cJ.tag] at h; simp
def abq{b:cJ}(h:b.tag=1):∃ks vs,b = .map ks vs:=by cases b<;>simp[cJ.tag] at h; simp
def Ql{b:cJ}(h:b.tag=2):∃s p,b = .oa s p:=by cases b<;>simp[cJ.tag] at h; simp
theorem fS.mono{w w':World}{iz saf':Nat->Nat->Prop}(h:∀b off,iz b off->saf' b off/\w'.cell? ⟨b,off,none⟩=w.cell? ⟨b,off,none⟩)
  {x:ag} {v:Value} (hr:fS w iz x v):fS w' saf' x v:=by
 induction hr with
 |bool b=>simp[bool]
 |int k n=>exact .int k n
 |str s=>exact .str s
 |raw v h1=>exact .raw v h1
 |slice xs A len cap b off sz vs hl hc ha hz hs _ ih =>
  refine .slice _ A _ _ b _ _ _ hl hc ha hz (fun i x k c hx hk=>?_) ih
  grind
def CD.mono{w w':World}{iz saf':Nat->Nat->Prop}(h:∀b off,iz b off->saf' b off/\w'.cell? ⟨b,off,none⟩=w.cell? ⟨b,off,none⟩)
  {x:ag} {v:Value} (hr:CD w iz x v):CD w' saf' x v:=by
 by_cases hag:∃cs,x = .agg cs
 ·obtain⟨cs,rfl⟩:=hag;obtain⟨us,h1,h2,h3⟩:=hr;exact⟨us,h1,h2,fun i c u hc hu=>(h3 i c u hc hu).mono h⟩
 ·cases x<;>first|exact absurd ⟨_,rfl⟩ hag|exact fS.mono h hr
section
variable {j j' j'':J} {M M' M'':aC} {w w' w'':World}
def QZ.mono{k n t:Nat}{x:Bool}{v:Value}(h:QZ j w k n t x v)(hj:j' k=j k)
  (hb:∀b vs t,j k=some b->w.heap[b]?=some (.cells vs t (0,0))->∃vs',w'.heap[b]?=some (.cells vs' t (0,0))/\vs'.size=vs.size):QZ j' w' k n t x v:=by
 rcases h with ⟨h1,h2,h3⟩|⟨b,cap,vs,h0,h1,h2,h3,h4,h5⟩
 ·exact .inl ⟨hj.trans h1,h2,h3⟩
 ·obtain⟨vs',h6,h7⟩:=hb b _ t h1 h3;exact .inr ⟨b,cap,vs',h0,hj.trans h1,h2,h6,aI,h5⟩
def HX.mono{k sz n:Nat}{v:Value}(h:HX j w k sz n v)(hj:j' k=j k)
  (hb:∀b vs t,j k=some b->w.heap[b]?=some (.cells vs t (0,0))->∃vs',w'.heap[b]?=some (.cells vs' t (0,0))/\vs'.size=vs.size):HX j' w' k sz n v:=by
 rcases h with ⟨h1,h2,h3⟩|⟨b,cap,vs,t,h1,h2,h3,h4,h5⟩
 ·exact .inl ⟨hj.trans h1,h2,h3⟩
 ·obtain⟨vs',h6,h7⟩:=hb b _ t h1 h3;exact .inr ⟨b,cap,vs',t,hj.trans h1,h2,h6,aI,h5⟩
theorem Ext.loose(hx:Ext j M w j' M' w'){id:Nat}(hid:id<M.length)(hM:∀bx,M[id]?=some bx->bx.loose=true):(∀bx,M'[id]?=some bx->bx.loose=true) /\
  ∀sz v' xs,M'[id]?=some (.arr sz v' xs)->∃v0 xs0,M[id]?=some (.arr sz v0 xs0)/\v0<=v' /\
   (v'=v0->j' id=j id/\xs.length=xs0.length/\∀b vs t,j id=some b->w.heap[b]?=some (.cells vs t (0,0))->∃vs',w'.heap[b]?=some (.cells vs' t (0,0))/\vs'.size=vs.size):=by
 have h0:=ai hid;have hf:=hM _ h0;generalize M[id]=bx at h0 hf;cases bx with
 |cells=>cases hf
 |map=>cases hf
 |oa=>cases hf
 |vT=>cases hf
 |tick sz n =>
  obtain⟨n',h1,h2,h3⟩:=hx.tick _ _ _ h0;refine⟨fun bx hb=>?_,fun sz v' xs h=>?_⟩
  ·rw[h2] at hb; cases hb; rfl
  grind
 |arr sz v xs =>
  rcases hx.arr _ _ _ _ h0 with ⟨n',h2⟩|⟨v1,xs1,h2,h3,h4⟩
  ·refine⟨fun bx hb=>?_,fun sz v' xs h=>?_⟩
   ·rw[h2] at hb; cases hb; rfl
   grind
  ·refine⟨fun bx hb=>?_,fun sz' v' xs' h=>?_⟩
   ·rw[h2] at hb; cases hb; rfl
   grind
theorem gn.mono(hx:Ext j M w j' M' w'){x:ag}{v:Value}(hr:gn j M w x v):gn j' M' w' x v:=by
 induction hr with
 |plain h=>exact .plain (h.mono hx.iz)
 |c0 A=>exact .c0 A
 |own hk hn h ht =>
  obtain⟨n',h1,h2,h3⟩:=hx.tick _ _ _ hk;refine .own h2 aI (h.mono hx.iz) (fun he=>?_)
  have:n'=_:=Nat.le_antisymm aI h1;obtain⟨h4,h5⟩:=h3 this;subst this;exact(ht he).mono h4 h5
 |agg hl _ ih=>exact .agg hl ih
 |tuple hl _ ih=>exact .tuple hl ih
 |ptr hid hc hj =>
  obtain⟨cs,hc⟩:=hc;obtain⟨h1,bx,h2,h3⟩:=hx.fix _ _ hc rfl;obtain⟨cs',rfl⟩:=GB h3;exact .ptr (bz hid hx.len) ⟨_,h2⟩ (h1.trans hj)
 | @jE cs b off vs h =>
  refine .jE (vs:=vs) fun k c hk=>?_
  obtain⟨h1,h2,h3⟩:=h k c hk;obtain⟨h4,h5⟩:=hx.iz _ _ h2;exact⟨h5.trans h1,h4,h3.mono hx.iz⟩
 |func hl _ ih=>exact .func hl ih
 |iy hc hj =>
  obtain⟨ks,vs,hc⟩:=hc;obtain⟨h1,bx,h2,h3⟩:=hx.fix _ _ hc rfl;obtain⟨ks',vs',rfl⟩:=abq h3;exact .iy ⟨_,_,h2⟩ (h1.trans hj)
 |j8 hc hj =>
  obtain⟨ks,vs,hc⟩:=hc;obtain⟨h1,bx,h2,h3⟩:=hx.fix _ _ hc rfl;obtain⟨ks',vs',rfl⟩:=Ql h3;exact .j8 ⟨_,_,h2⟩ (h1.trans hj)
 |kl hb hf hxx hw hk hv hks hvs =>
  obtain⟨h1,h2⟩:=hx.um _ hb hf;exact .kl (bz hb hx.size) h2 (by rw[hx.X]; omega) (h1.trans hw) hk hv (fun i k e h1 h2=>(hks i k e h1 h2).mono hx.iz) (fun i k e h1 h2=>(hvs i k e h1 h2).mono hx.iz)
 |cz hs hid hM hv =>
  obtain⟨g1,g2⟩:=hx.loose hid hM;refine .cz hs (bz hid hx.len) g1 fun sz v' xs h=>?_
  obtain⟨v0,xs0,h0,h1,h2⟩:=g2 sz v' xs h;obtain⟨h3,h4⟩:=hv sz v0 xs0 h0;refine⟨aI,fun he=>?_⟩
  obtain⟨h5,h6,h7⟩:=h2 aI;obtain⟨l0,l1,l2,⟨rfl,l3,l4⟩|⟨b,cap,vs,t,l3,l4,l5,l6,l7⟩⟩:=h4 aI
  ·exact⟨l0,l1,aI,.inl ⟨dC aI,h5.trans l3,l4⟩⟩
  obtain⟨vs',l8,l9⟩:=h7 b vs t l3 l6;exact⟨l0,l1,aI,.inr ⟨b,cap,vs',t,h5.trans l3,l4,l5,l8,aI⟩⟩
 |jv hs hid hM hv =>
  obtain⟨g1,g2⟩:=hx.loose hid hM;refine .jv hs (bz hid hx.len) g1 fun sz v' xs h=>?_
  grind
 |ra hl h=>exact .ra hl fun i c v hc hv=>(h i c v hc hv).mono hx.iz
 |ky hc hj =>
  obtain⟨cs,hc⟩:=hc;obtain⟨h1,bx,h2,h3⟩:=hx.fix _ _ hc rfl;obtain⟨cs',rfl⟩:=GB h3;exact .ky ⟨_,h2⟩ (h1.trans hj)
 |any v=>exact .any v
def Holds.mono{b:Nat}{bx:cJ}(hx:Ext j M w j' M' w')(hb:w'.heap[b]?=w.heap[b]?)(h:Holds j M w b bx):Holds j' M' w' b bx:=by
 cases bx with
 |cells cs =>
  obtain⟨vs,t,h1,h2,h3⟩:=h;exact⟨vs,t,hb.trans h1,h2,fun i c v hc hv=>(h3 i c v hc hv).mono hx⟩
 |tick=>trivial
 |map ks vs =>
  obtain⟨es,clock,h1,h2,h3,h4,h5⟩:=h;exact⟨es,clock,hb.trans h1,h2,h3,fun i k e hk he=>(h4 i k e hk he).mono hx.iz,fun i k e hk he=>(h5 i k e hk he).mono hx⟩
 |oa s pos=>exact hb.trans h
 |arr=>trivial
 |vT=>trivial
theorem Holds.lt{b:Nat}{bx:cJ}(h:Holds j M w b bx)(hf:bx.fixed=true):∃o,w.heap[b]?=some o:=by
 cases bx with
 |cells cs=>obtain⟨vs,t,h1,_⟩:=h; grind
 |tick=>cases hf
 |map ks vs=>obtain⟨es,clock,h1,_⟩:=h; grind
 |oa s pos=>exact⟨_,h⟩
 |arr=>cases hf
 |vT=>cases hf
def Ext.refl(j:J)(M:aC)(w:World):Ext j M w j M w where
 len:=av _
 size:=av _
 os:=rfl
 tape:=rfl
 output:=rfl
 X:=rfl
 fix:=fun i bx h _=>⟨rfl,bx,h,rfl⟩
 tick:=fun i sz n h=>⟨n,av _,h,fun _=>⟨rfl,fun b vs t _ h=>⟨vs,h,rfl⟩⟩⟩
 arr:=fun i sz v xs h => .inr ⟨v,xs,h,av _,fun _=>⟨rfl,rfl,fun b vs t _ h=>⟨vs,h,rfl⟩⟩⟩
 tags:=fun b vs t fr h=>⟨vs,fr,h,rfl⟩
 iz:=fun b off h=>⟨h,rfl⟩
 um:=fun b hb h=>⟨rfl,h⟩
theorem Ext.trans(h:Ext j M w j' M' w')(k:Ext j' M' w' j'' M'' w''):Ext j M w j'' M'' w'' where
 len:=aZ h.len k.len
 size:=aZ h.size k.size
 os:=k.os.trans h.os
 tape:=k.tape.trans h.tape
 output:=k.output.trans h.output
 X:=k.X.trans h.X
 fix:=fun i bx hi hf=>by
  obtain⟨h1,bx',h2,h3⟩:=h.fix i bx hi hf;have hf':bx'.fixed=true:=BH h3 hf;obtain⟨h4,bx'',h5,h6⟩:=k.fix i bx' h2 hf'
  grind
 tick:=fun i sz n hi=>by
  obtain⟨n1,a1,a2,a3⟩:=h.tick i sz n hi;obtain⟨n2,b1,b2,b3⟩:=k.tick i sz n1 a2
  grind
 arr:=fun i sz v xs hi=>by
  rcases h.arr i sz v xs hi with ⟨n1,a1⟩|⟨v1,xs1,a1,a2,a3⟩
  ·obtain⟨n2,_,b2,_⟩:=k.tick i sz n1 a1
   grind
  ·rcases k.arr i sz v1 xs1 a1 with ⟨n2,b1⟩|⟨v2,xs2,b1,b2,b3⟩
   ·grind
   grind
 tags:=fun b vs t fr hb=>by
  obtain⟨vs1,fr1,h1,h2⟩:=h.tags b vs t fr hb;obtain⟨vs2,fr2,h3,h4⟩:=k.tags b vs1 t fr1 h1
  grind
 iz:=fun b off hs=>by
  obtain⟨h1,h2⟩:=h.iz b off hs;obtain⟨h3,h4⟩:=k.iz b off h1
  grind
 um:=fun b hb hn=>by
  obtain⟨h1,h2⟩:=h.um b hb hn;obtain⟨h3,h4⟩:=k.um b (bz hb h.size) h2
  grind
theorem Ext.grow(hsz:w.heap.size<=w'.heap.size)(hos:w'.os=w.os)(ht:w'.tape=w.tape)(ho:w'.output=w.output)
  (hb:∀b,b<w.heap.size->w'.heap[b]?=w.heap[b]?):Ext j M w j M w' where
 len:=av _
 size:=hsz
 os:=hos
 tape:=ht
 output:=ho
 X:=rfl
 fix:=fun i bx h _=>⟨rfl,bx,h,rfl⟩
 tick:=fun i sz n h=>⟨n,av _,h,fun _=>⟨rfl,fun b vs t _ hv=>by
  grind⟩⟩
 arr:=fun i sz v xs h => .inr ⟨v,xs,h,av _,fun _=>⟨rfl,rfl,fun b vs t _ hv=>by
  grind⟩⟩
 tags:=fun b vs t fr h=>by
  grind
 iz:=fun b off h=>⟨⟨bz h.1 hsz,h.2,h.3⟩,World.cell?_of_block (hb b h.1)⟩
 um:=fun b cL h=>⟨hb b cL,h⟩
theorem Rel.grow(hr:Rel j M w)(hsz:w.heap.size<=w'.heap.size)(hos:w'.os=w.os)(ht:w'.tape=w.tape)(ho:w'.output=w.output)
  (hb:∀b,b<w.heap.size->w'.heap[b]?=w.heap[b]?):Rel j M w' where
 inj:=hr.inj
 lt:=fun i b hi h=>bz (hr.lt i b hi h) hsz
 fix:=fun i bx h hf=>by
  obtain⟨b,h1,h2⟩:=hr.fix i _ h hf;have hi  := (aj.1 h).1;exact⟨b,h1,h2.mono (Ext.grow hsz hos ht ho hb) (hb b (hr.lt i b hi h1))⟩
 tick:=fun i sz n b h hj=>by
  obtain⟨vs,t,h1⟩:=hr.tick i _ n b h hj
  grind
 arr:=fun i sz v xs h=>by
  rcases hr.arr i _ v _ h with he|⟨b,vs,t,h1,h2,h3,h4,h5⟩
  ·exact .inl he
  have hi  := (aj.1 h).1;refine .inr ⟨b,vs,t,h1,(hb b (hr.lt i b hi h1)).trans h2,h3,h4,fun q x k c hx hk=>?_⟩
  obtain⟨u,h6,h7⟩:=h5 q x k c hx hk;exact⟨u,h6,h7.mono (Ext.grow hsz hos ht ho hb).iz⟩
 vj:=hr.vj
 AD:=fun b off h=>bz (hr.AD b _ h) hsz
end
class kH where
 g:Nat->Option (List Value)
 q:Nat->Option (Value->Prop):=fun _=>none
 u8:Nat:=0
structure sQ[kH](j:J)(M:aC)(w:World):Prop where
 g:∀b vs k v,kH.g b=some vs->vs[k]?=some v->oG j M w b k/\w.cell? ⟨b,k,none⟩=some v
 n:∀b vs,kH.g b=some vs->∃us t fr,w.heap[b]?=some (.cells us t fr)/\us.size=vs.length
 q:∀b p,kH.q b=some p->∃v,p v/\oG j M w b 0/\w.cell? ⟨b,0,none⟩=some v
theorem sQ.iz[kH]{j j':J}{M M':aC}{w:World}(h:sQ j M w)(hx:∀b off,oG j M w b off->oG j' M' w b off):sQ j' M' w where
 g:=fun b vs k v hb hk=>⟨hx _ _ (h.g b _ k v hb hk).1,(h.g b _ k v hb hk).2⟩
 n:=h.n
 q:=fun b p hb=>by
  obtain⟨v,h0,h1,h2⟩:=h.q b p hb
  grind
theorem sQ.mono[kH]{j j':J}{M M':aC}{w w':World}(h:sQ j M w)(hx:Ext j M w j' M' w'):sQ j' M' w' where
 g:=fun b vs k v hb hk=>by
  obtain⟨h1,h2⟩:=h.g b _ k v hb hk;obtain⟨h3,h4⟩:=hx.iz _ _ h1
  grind
 n:=fun b vs hb=>by
  obtain⟨us,t,fr,h1,h2⟩:=h.n b _ hb;obtain⟨us',fr',h3,h4⟩:=hx.tags b _ t _ h1
  grind
 q:=fun b p hb=>by
  obtain⟨v,h0,h1,h2⟩:=h.q b p hb;obtain⟨h3,h4⟩:=hx.iz _ _ h1
  grind
variable [kH]
structure cn(j:J)(M:aC)(w:World)(bq:Env)(a:Act):Prop where
 at':∀t,gn j M w (hZ bq t) (a.tmps.getD t undef)
 gl:sQ j M w
def cn.mono{j j':J}{M M':aC}{w w':World}{bq:Env}{a:Act}(h:cn j M w bq a)(hx:Ext j M w j' M' w'):cn j' M' w' bq a :=
 ⟨fun t=>(h.at' t).mono hx,h.gl.mono hx⟩
def cn.put{j:J}{M:aC}{w:World}{bq:Env}{a:Act}{n:Nat}(h:cn j M w bq a)(hs:a.tmps.size=n){dst:Option Nat}(hd:∀d,dst=some d->d<n)
  {x:ag} {v:Value} (hv:gn j M w x v):cn j M w (rG bq dst x) (a.put dst v):=by
 refine⟨fun t=>?_,h.gl⟩
 cases dst with
 |none=>exact h.at' t
 |some d =>
  simp[rG,hZ,Act.put]
  by_cases he:d=t
  ·simp_all
  ·have:=h.at' t;simp_all
theorem y9(bq:Env)(live:List Nat)(t:Nat):hZ (jq bq live) t=if t∈live then hZ bq t else .any:=by
 induction live<;>grind [jq,hZ]
def cn.pU{j:J}{M:aC}{w:World}{bq:Env}{a:Act}(h:cn j M w bq a)(live:List Nat):cn j M w (jq bq live) a:=by
 refine⟨fun t=>?_,h.gl⟩
 rw[y9];split
 ·exact h.at' t
 ·exact .any _
end
section
open Go
def Kz:Value->Option ag
 | .bool b=>some (.bool b)
 | .int k n=>some (.int k n)
 | .string s=>some (.str s.data.toList)
 | .slice none 0 0=>some (.slice .c0 [])
 | .pointer none=>some (.raw (.pointer none))
 | .nilFunc=>some (.raw .nilFunc)
 | .nilIface=>some (.raw .nilIface)
 | .map none=>some (.raw (.map none))
 |_=>none
def th:List Value->Option (List ag)
 | []=>some []
 |v::r=>(Kz v).bind fun x=>(th r).bind fun l=>some (x::l)
def Q1:Value->Option ag
 | .agg vs=>(th vs.toList).bind fun l=>some (.agg l)
 |v=>Kz v
def abJ:Value->Option ag
 | .bool b=>some (.bool b)
 | .int k n=>some (.int k n)
 | .string s=>some (.str s.data.toList)
 | .pointer none=>some (.raw (.pointer none))
 | .nilIface=>some (.raw .nilIface)
 |_=>none
def Q0:List Value->Option (List ag)
 | []=>some []
 |v::r=>(abJ v).bind fun x=>(Q0 r).bind fun l=>some (x::l)
variable [kH]
def ahX:Operand->Operand->Bool
 | .tmp x,.tmp y=>x==y
 | .const (.int k x),.const (.int l y)=>decide (k=l)&&decide (x=y)
 |_,_=>false
def abr:∀ {x y:Operand},ahX x y=true->x=y:=by
 intro x y h;unfold ahX at h;split at h<;>simp_all
def eV:Operand->Option fZ
 | .tmp t=>some (.tmp t)
 | .const v=>(Q1 v).bind fun x=>some (.tc x)
 | .func f=>some (.tc (.func f []))
 | .global g=>(kH.g g).bind fun vs=>(Q0 vs).bind fun l=>some (.tc (.jE l))
def Re:Operand->Option fZ
 | .func f=>some (.tc (.raw (.func (.func f) ⟨[]⟩ ⟨[]⟩)))
 |x=>eV x
def xZ(n:Nat):List (Nat×Operand)->Option (List (Nat×Nat×fZ))
 | []=>some []
 |(i,x)::r=>(eV x).bind fun y=>(xZ n r).bind fun l=>some ((i*n,n,y)::l)
def vr:List Operand->Option (List fZ)
 | []=>some []
 |x::r=>(eV x).bind fun y=>(vr r).bind fun l=>some (y::l)
def yU:Option Operand->Option (Option fZ)
 |none=>some none
 |some x=>(eV x).bind fun y=>some (some y)
def qE(P:Program)(t:TypeId):Option Nat:=(P.info? t).bind fun i=>some i.size
def CE(P:Program)(t:TypeId):Option Bool:=(P.underlying t).bind fun d=>some (match d with | .struct _ | .array _ _=>true|_=>false)
def AO(P:Program)(fs:Array Field):List (Nat×Operand)->Option (List (Nat×Nat×fZ))
 | []=>some []
 |(i,x)::r=>(fs[i]?).bind fun f=>(qE P f.type).bind fun n=>(eV x).bind fun y=>(AO P fs r).bind fun l=>some ((f.offset,n,y)::l)
def GW:Nat->List (Nat×Operand)->Option (List fZ)
 |_,[]=>some []
 |k,(i,x)::r=>if i=k then (eV x).bind fun y=>(GW (k+1) r).bind fun l=>some (y::l) else none
def RX (P:Program) (f:Field):Option FK:=if f.name = "_" then none else match P.underlying f.type with
 |some .bool=>some .b
 |some (.int _)=>some .i
 |some .string=>some .s
 |_=>none
def B7(P:Program):Nat->List Field->Option (List FK)
 |_,[]=>some []
 |k,f::r=>if f.offset=k then (RX P f).bind fun x=>(B7 P (k+1) r).bind fun l=>some (x::l) else none
def D4(P:Program)(t:TypeId):Option FK:=match P.underlying t with
 |some .bool=>some .b
 |some (.int _)=>some .i
 |some .string=>some .s
 |_=>none
def OI:BinOp->Option N9
 | .and=>some .and | .or=>some .or | .andNot=>some .bic
 | .add=>some .add | .sub=>some .sub | .mul=>some .mul | .quo=>some .quo | .rem=>some .rem
 | .eql=>some .eql | .neq=>some .neq | .lss=>some .lss | .leq=>some .leq | .gtr=>some .gtr | .geq=>some .geq
 | .shl=>some .shl | .shr=>some .shr
 |_=>none
def lL (P:Program) (f:Nat):Bool:=match P.funcs[f]? with|some fn=>fn.name != "runtime.NumGoroutine" && fn.body.isSome|none=>false
def Rc(P:Program)(own:List Nat)(dst:Option Nat)(type:TypeId)(c:Call):Option kE :=
 match c.callee with
 | .value (.func f)=>if lL P f then (vr c.args.toList).bind fun l=>some (if own.contains (1000000+f) then .BU f l else if own.contains (2000000+f) then .ly f l else if own.contains (8000000+f) then .wF f l else .call f l) else none
 | .value (.tmp t)=>(vr c.args.toList).bind fun l=>some (if own.contains (12000000+t) then .BV (.tmp t) l else .sw (.tmp t) l)
 | .builtin .len=>match c.args.toList,(c.argTypes[0]?).bind P.underlying with
  | [x],some .string=>(eV x).bind fun y=>some (.Vx y)
  | [x],some (.slice _)=>(eV x).bind fun y=>some (.z7 y)
  | [x],some (.map _ _)=>(eV x).bind fun y=>some (.Py y)
  |_,_=>none
 | .builtin .copy=>match c.args.toList,c.argTypes.toList with
  | [x,y],[t,t']=>match P.underlying t,P.underlying t' with
   |some (.slice e),some (.slice _)=>(qE P e).bind fun n=>(eV x).bind fun x=>(eV y).bind fun y=>if 0<n then some (.FA n x y) else none
   |_,_=>none
  |_,_=>none
 | .builtin .append=>match c.args.toList,c.argTypes.toList with
  | [x,y],[t,t']=>match P.underlying t,P.underlying t' with
   |some (.slice e),some (.int _)=>(P.info? e).bind fun i=>i.zero.bind fun z=>(th z.cells.toList).bind fun l=>(eV x).bind fun x=>(eV y).bind fun y =>
    if l.length=i.size/\0<i.size/\0<i.bytes/\i.bytes<=2 ^ 20 then some (.xU i.size i.bytes (l.map ag.shut) x y) else none
   |some (.slice e),some (.slice _)=>(P.info? e).bind fun i=>(eV x).bind fun x=>(eV y).bind fun y =>
    if decide ((i.zero.map fun z=>z.cells.size)=some i.size)&&decide (0<i.size)&&decide (0<i.bytes)&&decide (i.bytes<=2 ^ 20) then some (match dst with|some d=>if own.contains (7000000+d) then .vW i.size i.bytes x y else .append i.size i.bytes x y|none => .append i.size i.bytes x y) else none
   |_,_=>none
  |_,_=>none
 | .builtin .clear=>match c.args.toList,c.argTypes.toList with
  | [x],[t]=>match P.underlying t with
   |some (.slice e)=>(P.info? e).bind fun i=>i.zero.bind fun z=>(th z.cells.toList).bind fun l=>(eV x).bind fun x =>
    if l.length=i.size/\0<i.size then some (.xc i.size (l.map ag.shut) x) else none
   |_=>none
  |_,_=>none
 | .builtin .max=>match c.args.toList with|[x,y]=>(eV x).bind fun x=>(eV y).bind fun y=>some (.Bp true x y)|_=>none
 | .builtin .min=>match c.args.toList with|[x,y]=>(eV x).bind fun x=>(eV y).bind fun y=>some (.Bp false x y)|_=>none
 |_=>none
def Rf(own:List Nat)(dst:Option Nat)(n:Nat)(x:fZ)(lo hi mx:Option fZ):kE :=
 match dst,hi with
 |some d,some h=>if own.contains (15000000+d)&&lo.isNone&&mx.isNone then .OX n x h else .uv n x lo hi mx
 |_,_ => .uv n x lo hi mx
def OJ(P:Program)(own:List Nat)(o:Oper):Option kE :=
 match o.op with
 | .move x=>(eV x).bind fun x=>some (.mv x)
 | .assign x=>(eV x).bind fun x =>
  match o.dst with
  |some d=>if own.contains d then match P.underlying o.type with
    |some (.slice e)=>(qE P e).bind fun n=>match x with
     | .tc (.slice .c0 [])=>some (.own n x)
     |_=>some (.mv x)
    |_=>none
   else if own.contains (13000000+d) then match P.underlying o.type with
    |some (.slice e)=>(qE P e).bind fun n=>some (.own (500+n) x)
    |_=>none
   else some (.mv x)
  |none=>some (.mv x)
 | .pick c a b=>(eV c).bind fun c=>(eV a).bind fun a=>(eV b).bind fun b=>some (.pick c a b)
 | .alloc t=>(P.info? t).bind fun i=>i.zero.bind fun z=>(th z.cells.toList).bind fun l =>
  match o.dst with
  |some d=>if own.contains (6000000+d) then (match P.underlying t,l with
    |some (.slice e),[.slice .c0 []]=>(qE P e).bind fun n=>some (.OG n)
    |_,_=>none) else some (.yR l)
  |none=>some (.yR l)
 | .box t x=>(eV x).bind fun x=>some (.box x)
 | .build t parts=>match P.underlying t with
  |some (.struct fs)=>(P.info? t).bind fun i=>i.zero.bind fun z=>(th z.cells.toList).bind fun l=>(AO P fs parts.toList).bind fun ps =>
   if fs.all (fun f=>(P.info? f.type).isSome) then some (.build l ps) else none
  |some (.array _ e)=>(P.info? t).bind fun i=>i.zero.bind fun z=>(th z.cells.toList).bind fun l=>(qE P e).bind fun n=>(xZ n parts.toList).bind fun ps=>some (.build l ps)
  |_=>none
 | .buildSlice t len parts=>match P.underlying t with
  |some (.slice e)=>(P.info? e).bind fun i=>(GW 0 parts.toList).bind fun l =>
   if l.length=len/\len*i.size<=2 ^ 24/\(i.zero.map fun z=>z.cells.size)=some i.size/\0<i.size then some (match o.dst with|some d=>if own.contains d then .F9 i.size l else if own.contains (13000000+d)&&l.isEmpty then .own (500+i.size) (.tc (.slice .c0 [])) else .lits i.size l|none => .lits i.size l) else none
  |_=>none
 | .load t x=>(CE P t).bind fun g=>(qE P t).bind fun n=>(eV x).bind fun x=>some (if g then .mR n x else .rD x)
 | .store t a x=>(qE P t).bind fun n=>(eV a).bind fun a=>(eV x).bind fun x=>some (match a with
  | .tmp s=>match own.find? (fun m=>decide (1000000000<=m)&&decide (m<2000000000)&&decide (m % 1000=s)) with
   |some m => .BF (m / 1000000 % 1000) (m / 1000 % 1000) n a x
   |none => .store n a x
  |_ => .store n a x)
 | .nilCheck x=>(eV x).bind fun x=>some (.chk x)
 | .binOp op t x y _=>(eV x).bind fun x=>(eV y).bind fun y=>match P.underlying t with
  |some (.int _)|some .string=>(OI op).bind fun b=>some (.bin b x y)
  |some .bool=>match op with
   | .eql=>some (.eqB false x y)
   | .neq=>some (.eqB true x y)
   |_=>none
  |some (.struct fs)=>if P.stoodInHeld t then none else (B7 P 0 fs.toList).bind fun ks=>match op with
   | .eql=>some (.QC ks false x y)
   | .neq=>some (.QC ks true x y)
   |_=>none
  |some (.array len e)=>match P.underlying e,op with
   |some (.int _),.eql=>if qE P e=some 1 then some (.QC (List.replicate len .i) false x y) else none
   |_,_=>none
  |_=>none
 | .unOp .not _ x=>(eV x).bind fun x=>some (.not x)
 | .unOp .neg _ x=>(eV x).bind fun x=>some (.neg x)
 | .convert s d x=>(eV x).bind fun x=>match P.underlying s,P.underlying d with
  |some (.int _),some (.int k)=>some (.conv k x)
  |some .string,some .string=>some (.same x)
  |some (.slice e),some .string=>match P.underlying e with|some (.int .u8)=>some (.b2s x)|_=>none
  |_,_=>none
 | .makeFunc (.func f) first caps=>if first.isEmpty then (vr caps.toList).bind fun l=>some (.fn f l) else if caps.isEmpty then (vr first.toList).bind fun l=>some (.Fv f l) else none
 | .slice t x lo hi mx=>(eV x).bind fun x=>(yU lo).bind fun lo=>(yU hi).bind fun hi=>(yU mx).bind fun mx=>match P.underlying t with
  |some .string=>if mx.isNone then some (.BC x lo hi) else none
  |some (.slice e)=>(qE P e).bind fun n=>if 0<n/\(mx.isNone\/hi.isSome) then some (Rf own o.dst n x lo hi mx) else none
  |_=>none
 | .fieldAddr s x f=>match P.underlying s with
  |some (.struct fs)=>(fs[f]?).bind fun f=>(qE P f.type).bind fun n=>(eV x).bind fun x=>if 0<n then some (.yA f.offset x) else none
  |_=>none
 | .field s x f=>match P.underlying s with
  |some (.struct fs)=>(fs[f]?).bind fun f=>(CE P f.type).bind fun g=>(qE P f.type).bind fun n=>(eV x).bind fun x=>some (if g then .DE f.offset n x else .DD f.offset x)
  |_=>none
 | .indexAddr t x i=>match P.underlying t with
  |some (.slice e)=>(qE P e).bind fun n=>(eV x).bind fun x=>(eV i).bind fun i=>if 0<n then some (.ue n x i) else none
  |some (.array len e)=>(qE P e).bind fun n=>(eV x).bind fun x=>(eV i).bind fun i=>if 0<n then some (.Bc len n x i) else none
  |_=>none
 | .index t x i=>match P.underlying t with
  |some .string=>(eV x).bind fun x=>(eV i).bind fun i=>some (.Be x i)
  |_=>none
 | .extract x i=>(eV x).bind fun x=>some (.extract x i)
 | .call c=>Rc P own o.dst o.type c
 | .makeMap _ none=>some .mkMap
 | .lookup t x i ok=>match P.underlying t with
  |some (.map k e)=>(D4 P k).bind fun fk=>(P.info? e).bind fun ie=>ie.zero.bind fun zv=>(Q1 zv).bind fun z=>(eV x).bind fun x=>(eV i).bind fun i=>some (.look fk z ok x i)
  |_=>none
 | .mapUpdate t m k v=>match P.underlying t with
  |some (.map kt _)=>(D4 P kt).bind fun fk=>(eV m).bind fun m=>(eV k).bind fun k=>(eV v).bind fun v=>some (.gF fk m k v)
  |_=>none
 | .range t x=>match P.underlying t with
  |some .string=>(eV x).bind fun x=>some (.Qe x)
  |_=>none
 | .next it true=>(eV it).bind fun it=>some (.Gf it)
 | .makeInterface t x=>(eV x).bind fun x=>match P.underlying t with
  |some (.interface _)=>none
  |some _=>some (.iface t x)
  |none=>none
 | .panic x=>(eV x).bind fun x=>some (.raise x)
 | .insert t m k v=>match P.underlying t with
  |some (.map kt _)=>(D4 P kt).bind fun fk=>(eV m).bind fun m=>(eV k).bind fun k=>(Re v).bind fun v=>some (.gF fk m k v)
  |_=>none
 | .makeSlice t x y=>match P.underlying t with
  |some (.slice e)=>(P.info? e).bind fun i=>i.zero.bind fun z=>(th z.cells.toList).bind fun l=>(eV x).bind fun x' =>
   if ahX x y=true/\l.length=i.size/\0<i.size/\i.bytes<=32*i.size then some (match o.dst with|some d=>if own.contains (5000000+d) then .PL (l.map ag.shut) x' else .mkS (l.map ag.shut) x'|none => .mkS (l.map ag.shut) x') else none
  |_=>none
 |_=>none
structure Cz where
 n:Nat
 own:List Nat:=[]
 lv:List (Nat×List Nat)
 lp:List (Nat×List Nat):=[]
def find(l:List (Nat×List Nat))(k:Nat):List Nat:=match l with
 | []=>[]
 |(i,x)::r=>if i=k then x else find r k
def abU(n:Nat):Option Nat->Bool
 |some d=>decide (d<n)
 |none=>true
def MB(P:Program)(A:Cz)(ops:Array Oper)(grow:Bool)(o:Oper):Option cZ :=
 (OJ P A.own o).bind fun op =>
  if abU A.n o.dst then
   match o.guard with
   |none=>some { dst:=o.dst,op,guard:=none,grow }
   |some (k,want)=>((ops[k]?).bind (·.dst)).bind fun t=>if t<A.n then some { dst:=o.dst,op,guard:=some (t,want),grow } else none
  else none
def tW(P:Program)(A:Cz)(ops:Array Oper)(grow:List Bool):List Oper->Option (List cZ)
 | []=>some []
 |o::r=>(MB P A ops (grow.headD false) o).bind fun x=>(tW P A ops grow.tail r).bind fun l=>some (x::l)
def lA:Code->Nat
 | .region id _ _=>id
 | .seq a _=>lA a
 | .block _ c=>lA c
 | .loop c=>lA c
 | .cond _ a _=>lA a
 |_=>0
def fZ.mg:fZ->List Nat
 | .tmp t=>[t]
 | .tc _=>[]
def Bu:Option fZ->List Nat
 |some x=>x.mg
 |none=>[]
def kE.mg:kE->List Nat
 | .mv x | .own _ x | .box x | .mR _ x | .rD x | .chk x | .not x | .neg x | .conv _ x | .same x | .yA _ x | .DE _ _ x | .DD _ x | .extract x _ | .Vx x | .z7 x | .b2s x | .Py x | .Qe x | .Gf x | .xc _ _ x | .iface _ x | .raise x | .mkS _ x | .PL _ x=>x.mg
 | .pick c a b=>c.mg++(a.mg++b.mg)
 | .yR _ | .mkMap | .OG _=>[]
 | .build _ ps=>ps.flatMap fun p=>p.2.2.mg
 | .lits _ ps | .F9 _ ps=>ps.flatMap fZ.mg
 | .store _ a x | .BF _ _ _ a x=>a.mg++x.mg
 | .gF _ m k v=>m.mg++(k.mg++v.mg)
 | .bin _ x y | .look _ _ _ x y | .QC _ _ x y | .eqB _ x y | .ue _ x y | .Bc _ _ x y | .Be x y | .OX _ x y | .append _ _ x y | .vW _ _ x y | .Bp _ x y | .xU _ _ _ x y | .FA _ x y=>x.mg++y.mg
 | .fn _ l | .Fv _ l=>l.flatMap fZ.mg
 | .BC x l h=>x.mg++(Bu l++Bu h)
 | .uv _ x l h m=>x.mg++(Bu l++(Bu h++Bu m))
 | .call _ l | .BU _ l | .ly _ l | .wF _ l=>l.flatMap fZ.mg
 | .sw f l | .BV f l=>f.mg++l.flatMap fZ.mg
def kE.QD:kE->Bool
 | .own .. | .F9 .. | .PL .. | .xU .. | .FA .. | .OG _ | .yR _ | .box _ | .store .. | .BF .. | .call .. | .sw .. | .BV .. | .BU .. | .ly .. | .wF .. | .xc .. | .append .. | .vW .. | .mkMap | .gF .. | .Py _ | .Qe _ | .Gf _=>true
 |_=>false
def kE.QE:kE->Bool
 | .mR .. | .rD _ | .look .. => true
 |_=>false
def cZ.reads(o:cZ):List Nat:=o.op.mg++(match o.guard with|some (t,_)=>[t]|none=>[])
def xx(acc:List Nat):List Edge->Nat
 | []=>0
 |e::r=>if Region.binds .any e then xx acc r ||| (2 ^ e.on ||| (nth acc e.on).getD 0) else xx acc r
def Dj:List Oper->List Nat->List Nat
 | [],acc=>acc
 |o::r,acc=>Dj r (acc++[xx acc o.after.toList])
def rl(ops:List Oper):List Nat:=Dj ops []
def ahead(bs:List Nat)(i k:Nat):Bool:=((nth bs k).getD 0).testBit i
def meet(x y:cZ):Bool :=
 (match x.dst with|some d=>y.reads.contains d||y.dst==some d|none=>false)||(match y.dst with|some d=>x.reads.contains d|none=>false)
def fenced(bs:List Nat)(l:List cZ)(k:Nat):Bool:=(List.range l.length).all fun i=>match nth l i with
 |some x => !x.op.QE||(if i<k then ahead bs i k else i==k||ahead bs k i)
 |none=>true
def kE.xk:kE->Bool
 | .call .. | .sw .. => true
 |_=>false
def ordered(bs:List Nat)(i k:Nat):Bool:=i==k||(if i<k then ahead bs i k else ahead bs k i)
def alone(bs:List Nat)(l:List cZ)(k:Nat):Bool:=(List.range l.length).any fun i=>match nth l i with
 |some x=>x.op.QD && !ordered bs i k
 |none=>false
def kE.NW:kE->Option Nat
 | .rD (.tmp z)=>some z
 | .mR _ (.tmp z)=>some z
 | .look _ _ _ (.tmp z) _=>some z
 |_=>none
def kE.asb:kE->Bool
 | .store .. => true
 | .append .. | .vW .. => true
 |_=>false
def amW(l:List cZ)(i k z:Nat):Bool:=(List.range k).all fun p=>decide (p<i)||match nth l p with|some x=>x.dst != some z|none=>true
def Mm(bs:List Nat)(l:List cZ)(k:Nat):Bool:=(List.range l.length).all fun i=>i==k||(if i<k then (ahead bs i k||match nth l i with|some x => !x.op.QD|none=>false) else ahead bs k i)
def NT(bs:List Nat)(l:List cZ)(k:Nat):List Nat:=(List.range k).filterMap fun i=>match nth l i with
 |some x=>if x.op.QE && !ahead bs i k then x.op.NW else none
 |none=>none
def C4(bs:List Nat)(l:List cZ)(k:Nat)(sep:List Nat):Bool:=(List.range l.length).all fun i=>match nth l i with
 |some x => !x.op.QE||i==k||(if i<k then (ahead bs i k||match x.op.NW with|some z=>sep.contains z&&amW l i k z|none=>false) else ahead bs k i)
 |none=>true
def qv(bs:List Nat)(l:List cZ):Nat->List cZ->List cZ
 |_,[]=>[]
 |k,x::r=>{ x with grow:=x.op.QD && !(x.op.xk&&alone bs l k) && !fenced bs l k,xA:=x.op.xk&&alone bs l k,sep:=if x.op.asb && !fenced bs l k&&C4 bs l k (NT bs l k) then NT bs l k else [],stop := !x.op.Rg||Mm bs l k }::qv bs l (k+1) r
def cZ.ug(x:cZ):Bool:=x.op.QD && !x.xA
def LZ:kE->Bool
 | .rD (.tc _) | .mR _ (.tc _) | .look _ _ _ (.tc _) _=>false
 |_=>true
def Ca(ops:Array Oper)(l:List cZ)(k:Nat):Bool:=match ops[k]?,nth l k with
 |some o,some y=>(match y.op with
  | .yR _=>(match o.op with | .alloc _=>true|_=>false)
  | .box _=>(match o.op with | .box _ _=>true|_=>false)
  | .wF .. => (match o.op with | .call c=>(match c.callee with | .value (.func _)=>true|_=>false)|_=>false)
  |_=>false)&&y.guard.isNone
 |_,_=>false
def Hu(ops:Array Oper)(bs:List Nat)(l:List cZ):Bool:=(List.range l.length).all fun k=>match nth l k,ops[k]? with
 |some y,some o=>o.after.toList.all (fun e => !Region.binds .any e||decide (e.on<k))&&((!y.xA||y.op.xk)&&LZ y.op)&&((!(y.ug && !y.grow)||fenced bs l k)&&(y.sep.isEmpty||C4 bs l k y.sep)) &&
  ((!y.lets||Mm bs l k)&&(List.range k).all fun i=>match nth l i with
   |some x=>(!meet x y||ahead bs i k)&&(!(x.ug&&y.ug)||(ahead bs i k||(Ca ops l i&&Ca ops l k)))
   |none=>false)
 |_,_=>false
def Bt(ops:Array Oper)(l:List cZ):Option (List cZ) :=
 if Hu ops (rl ops.toList) (qv (rl ops.toList) l 0 l) then some (qv (rl ops.toList) l 0 l) else none
def Y1(A:Cz)(y:Code)(c:cA):cA:=match A.own.find? (fun m=>decide (m / 1000=14000000+lA y)) with
 |some m => .qX (m % 1000) c
 |none=>c
def Nu(A:Cz)(c:Code)(l:List Nat)(x:cA):cA:=if A.own.contains (11000000+lA c) then .nI l x else .loop l x
def comp(P:Program)(A:Cz):Code->Option cA
 | .skip=>some .skip
 | .region id ops draw=>if draw then
   (tW P { A with own:=A.own.filter (1000000 <= ·) } ops [] ops.toList).bind fun l0=>(Bt ops l0).bind fun l=>some (.region l true (find A.lv id))
  else (tW P A ops [] ops.toList).bind fun l=>some (.region l false (find A.lv id))
 | .seq a b=>(comp P A a).bind fun x=>(comp P A b).bind fun y=>some (.seq x (Y1 A b y))
 | .cond c a b=>(eV c).bind fun c=>(comp P A a).bind fun x=>(comp P A b).bind fun y=>some (.cond c x y)
 | .block id c=>(comp P A c).bind fun x=>some (.block id x)
 | .loop c=>(comp P A c).bind fun x=>some (Nu A c (find A.lp (lA c)) x)
 | .exit id=>some (.exit id)
 | .ret=>some .ret
 |_=>none
def Ih(P:Program):List ResultVar->Option (List sP)
 | []=>some []
 | .tmp t::r=>(Ih P r).bind fun l=>some (.tmp t::l)
 | .cell a t::r=>(CE P t).bind fun g=>(qE P t).bind fun n=>(Ih P r).bind fun l=>some ((if g then .dH a n else .abM a)::l)
def pg(P:Program)(A:Cz)(fn:Func):Option eH :=
 match fn.body with
 |none=>none
 |some c=>if fn.name != "runtime.NumGoroutine" /\ A.n=fn.ntmps/\fn.params.size+fn.nfree<=fn.ntmps then
   (comp P A c).bind fun b=>(Ih P fn.results.toList).bind fun r=>some { nparams:=fn.params.size+fn.nfree,results:=r,body:=b }
  else none
end
section
open Go
def anX(x:Operand)(s:Nat):Nat:=match x with
 | .tmp t=>s ||| (1 <<< t)
 |_=>s
def opB(ops:Array Oper)(o:Oper)(s:Nat):Nat :=
 let s:=match o.dst,o.guard with
  |some d,none=>if s.testBit d then s-(1 <<< d) else s
  |_,_=>s
 let s:=o.op.operands.toList.foldl (fun s x=>anX x s) s
 match o.guard with
 |some (k,_)=>match (ops[k]?).bind (·.dst) with
  |some t=>s ||| (1 <<< t)
  |none=>s
 |none=>s
def at3(ops:Array Oper)(out:Nat):Nat :=
 let l:=ops.toList.foldr (opB ops) out
 let g:=ops.toList.foldl (fun g o=>match o.dst,o.guard with
  |some d,some _=>g ||| (1 <<< d)
  |_,_=>g) 0
 let d:=g ^^^ (g &&& out)
 l ^^^ (l &&& d)
def Nr:List (Nat×Nat)->Nat->Nat
 | [],_=>0
 |(i,x)::r,k=>if i=k then x else Nr r k
def Aa(ret:Nat):Code->List (Nat×Nat)->Nat->Nat×List (Nat×Nat)×List (Nat×Nat)
 | .skip,_,out=>(out,[],[])
 | .region id ops _,_,out=>(at3 ops out,[(id,out)],[])
 | .seq a b,ex,out =>
  let y:=Aa ret b ex out
  let x:=Aa ret a ex y.1
  (x.1,x.2.1++y.2.1,x.2.2++y.2.2)
 | .cond c a b,ex,out =>
  let x:=Aa ret a ex out
  let y:=Aa ret b ex out
  (anX c (x.1 ||| y.1),x.2.1++y.2.1,x.2.2++y.2.2)
 | .block id c,ex,out=>Aa ret c ((id,out)::ex) out
 | .loop c,ex,_ =>
  let h1:=(Aa ret c ex 0).1
  let h2:=h1 ||| (Aa ret c ex h1).1
  let z:=Aa ret c ex h2
  let h3:=h2 ||| z.1
  (h3,z.2.1,(lA c,h3)::z.2.2)
 | .exit id,ex,_=>(Nr ex id,[],[])
 | .ret,_,_=>(ret,[],[])
 |_,_,out=>(out,[],[])
def akz(n s:Nat):List Nat:=(List.range n).filter s.testBit
def Fo(own:List Nat)(fn:Func):Cz:=match fn.body with
 |none=>{ n:=0,lv:=[] }
 |some c =>
  let r:=fn.results.toList.foldl (fun s x=>match x with
   | .tmp t=>s ||| (1 <<< t)
   | .cell t _=>s ||| (1 <<< t)) 0
  let z:=Aa r c [] r
  let f:=fun(p:Nat×Nat)=>(p.1,akz fn.ntmps p.2)
  { n:=fn.ntmps,own:=own,lv:=z.2.1.map f,lp:=z.2.2.map f }
def cA.size:cA->Nat
 | .seq a b=>a.size+b.size+1
 | .cond _ a b=>a.size+b.size+1
 | .block _ a=>a.size+1
 | .loop _ a=>a.size+1
 | .nI _ a=>a.size+1
 | .qX _ a=>a.size+1
 | .region .. => 1
 | .skip=>1
 | .exit _=>1
 | .ret=>1
def cA.sM:cA->List cA
 | .seq a b => .seq a b::(a.sM++b.sM)
 | .cond c a b => .cond c a b::(a.sM++b.sM)
 | .block i a => .block i a::a.sM
 | .loop l a => .loop l a::a.sM
 | .nI l a => .nI l a::a.sM
 | .qX l a => .qX l a::a.sM
 |c=>[c]
def sub(c:cA)(i:Nat):cA:=(c.sM[i]?).getD .skip
def ref(r:cA)(i:Nat):cA->cA
 | .skip => .skip
 | .exit n => .exit n
 | .ret => .ret
 | .region .. => sub r i
 | .seq .. => sub r i
 | .cond .. => sub r i
 | .block .. => sub r i
 | .loop .. => sub r i
 | .nI .. => sub r i
 | .qX .. => sub r i
def Aq(r:cA)(i:Nat):cA->cA
 | .region a b c => .region a b c
 | .skip => .skip
 | .exit n => .exit n
 | .ret => .ret
 | .seq .. => sub r i
 | .cond .. => sub r i
 | .block .. => sub r i
 | .loop .. => sub r i
 | .nI .. => sub r i
 | .qX .. => sub r i
abbrev Hd(q b:cA):Prop:=∀(C:eR)(fn:List sP)(bS:Nat)(k:List K)(bq:Env)(M:aC),eX C fn bS k q bq M=eX C fn bS k b bq M
def CH(e:Prop):cA->Prop
 | .region .. => True
 | .skip | .exit _ | .ret=>True
 | .seq .. => e
 | .cond .. => e
 | .block .. => e
 | .loop .. => e
 | .nI .. => e
 | .qX .. => e
def eqs(r:cA):Nat->cA->Prop
 |i,.seq a b=>Hd (sub r i) (.seq (Aq r (i+1) a) (ref r (i+1+a.size) b))/\(CH (eqs r (i+1) a) a/\eqs r (i+1+a.size) b)
 |i,.cond c a b=>Hd (sub r i) (.cond c (ref r (i+1) a) (ref r (i+1+a.size) b))/\(eqs r (i+1) a/\eqs r (i+1+a.size) b)
 |i,.block n a=>Hd (sub r i) (.block n (ref r (i+1) a))/\eqs r (i+1) a
 |i,.loop n a=>Hd (sub r i) (.loop n (ref r (i+1) a))/\eqs r (i+1) a
 |i,.nI n a=>Hd (sub r i) (.nI n (ref r (i+1) a))/\eqs r (i+1) a
 |i,.qX n a=>Hd (sub r i) (.qX n (ref r (i+1) a))/\eqs r (i+1) a
 |i,.region a b c=>Hd (sub r i) (.region a b c)
 |_,.skip=>True
 |_,.exit _=>True
 |_,.ret=>True
def p6:∀c:cA,c.sM.length=c.size
 | .seq a b=>by simp[cA.sM,cA.size,p6 a,p6 b]
 | .cond _ a b=>by simp[cA.sM,cA.size,p6 a,p6 b]
 | .block _ a=>by simp[cA.sM,cA.size,p6 a]
 | .loop _ a=>by simp[cA.sM,cA.size,p6 a]
 | .nI _ a=>by simp[cA.sM,cA.size,p6 a]
 | .qX _ a=>by simp[cA.sM,cA.size,p6 a]
 | .region .. | .skip | .exit _ | .ret=>by simp[cA.sM,cA.size]
def ahR(c:cA):c.sM[0]?=some c:=by cases c<;>simp[cA.sM]
def At(r:cA)(i:Nat)(c:cA):Prop:=∀j,j<c.size->r.sM[i+j]?=c.sM[j]?
def size_pos(c:cA):0<c.size:=by cases c<;>simp[cA.size]
def At.sub{r c:cA}{i:Nat}(h:At r i c):sub r i=c:=by
 have:=h 0 (size_pos c);rw[db,ahR] at this;simp[Abs.sub,this]
def At.ref{r c:cA}{i:Nat}(h:At r i c):ref r i c=c:=by
 cases c<;>first|rfl|exact h.sub
def At.Aq{r c:cA}{i:Nat}(h:At r i c):Aq r i c=c:=by
 cases c<;>first|rfl|exact h.sub
def YJ{e:Prop}{c:cA}(h:e):CH e c:=by
 cases c<;>first|trivial|exact h
def At.two{r a b x:cA}{i:Nat}(h:At r i x)(hx:x.sM=x::(a.sM++b.sM))(hs:x.size=a.size+b.size+1):At r (i+1) a/\At r (i+1+a.size) b:=by
 refine⟨fun j hj=>?_,fun j hj=>?_⟩
 ·have:=h (j+1) aI;rw[hx,cW,aO (by rw[p6]; exact hj)] at this
  rw[<-this]; congr 1; omega
 ·have:=h (a.size+j+1) aI;rw[hx,cW,bg (by rw[p6]; omega),p6] at this
  rw[show a.size+j-a.size=j by omega] at this
  rw[<-this]; congr 1; omega
def At.one{r a x:cA}{i:Nat}(h:At r i x)(hx:x.sM=x::a.sM)(hs:x.size=a.size+1):At r (i+1) a:=by
 intro j hj;have:=h (j+1) aI;rw[hx,cW] at this;rw[<-this]; congr 1; omega
def DT{q b:cA}(h:q=b):Hd q b:=nu h
def wh(r:cA):∀(c:cA)(i:Nat),At r i c->eqs r i c
 | .seq a b,i,h=>by
  obtain⟨h1,h2⟩:=h.two (a:=a) (b:=b) rfl rfl;exact⟨DT (by rw[h.sub,h1.Aq,h2.ref]),YJ (wh r a _ h1),wh r b _ h2⟩
 | .cond c a b,i,h=>by
  obtain⟨h1,h2⟩:=h.two (a:=a) (b:=b) rfl rfl;exact⟨DT (by rw[h.sub,h1.ref,h2.ref]),wh r a _ h1,wh r b _ h2⟩
 | .block n a,i,h=>by
  have h1:=h.one (a:=a) rfl rfl;exact⟨DT (by rw[h.sub,h1.ref]),wh r a _ h1⟩
 | .loop n a,i,h=>by
  have h1:=h.one (a:=a) rfl rfl;exact⟨DT (by rw[h.sub,h1.ref]),wh r a _ h1⟩
 | .nI n a,i,h=>by
  have h1:=h.one (a:=a) rfl rfl;exact⟨DT (by rw[h.sub,h1.ref]),wh r a _ h1⟩
 | .qX n a,i,h=>by
  have h1:=h.one (a:=a) rfl rfl;exact⟨DT (by rw[h.sub,h1.ref]),wh r a _ h1⟩
 | .region ..,_,h=>DT h.sub
 | .skip,_,_=>trivial
 | .exit _,_,_=>trivial
 | .ret,_,_=>trivial
def aiJ(r:cA):At r 0 r:=fun j _=>by rw[aJ]
def Dt[kH](P:Program)(A:Cz):Code->Option cA
 | .skip=>some .skip
 | .region id ops draw=>if draw then
   (tW P { A with own:=A.own.filter (1000000 <= ·) } ops [] ops.toList).bind fun l=>some (.region (qv (rl ops.toList) l 0 l) true (find A.lv id))
  else (tW P A ops [] ops.toList).bind fun l=>some (.region l false (find A.lv id))
 | .seq a b=>(Dt P A a).bind fun x=>(Dt P A b).bind fun y=>some (.seq x (Y1 A b y))
 | .cond c a b=>(eV c).bind fun c=>(Dt P A a).bind fun x=>(Dt P A b).bind fun y=>some (.cond c x y)
 | .block id c=>(Dt P A c).bind fun x=>some (.block id x)
 | .loop c=>(Dt P A c).bind fun x=>some (Nu A c (find A.lp (lA c)) x)
 | .exit id=>some (.exit id)
 | .ret=>some .ret
 |_=>none
def akY[kH](P:Program)(A:Cz)(fn:Func):Option cA:=match fn.body with
 |some c=>Dt P A c
 |none=>none
abbrev Cv[kH](P:Program)(A:Cz)(f:Func):={ g:cA // akY P A f=some g }
def okc{o:Option eH}{n:Nat}{r:List sP}{c:cA}(h:o=some (eH.mk n r c)):o=some (eH.mk n r (sub c 0)):=by
 rw[h,(aiJ c).sub]
set_option linter.defProp false in
def yK:=bR @eqs.eq_1 (bR @eqs.eq_2 (bR @eqs.eq_3 (bR @eqs.eq_4 (bR @eqs.eq_5 (bR @eqs.eq_6 (bR @eqs.eq_7 (bR @eqs.eq_8 (bR @eqs.eq_9 (bR @eqs.eq_10 (bR @ref.eq_1 (bR @ref.eq_2 (bR @ref.eq_3 (bR @ref.eq_4 (bR @ref.eq_5 (bR @ref.eq_6 (bR @ref.eq_7 (bR @ref.eq_8 (bR @ref.eq_9 (bR @ref.eq_10 (bR @Aq.eq_1 (bR @Aq.eq_2 (bR @Aq.eq_3 (bR @Aq.eq_4 (bR @Aq.eq_5 (bR @Aq.eq_6 (bR @Aq.eq_7 (bR @Aq.eq_8 (bR @Aq.eq_9 (bR @Aq.eq_10 (bR @CH.eq_1 (bR @CH.eq_2 (bR @CH.eq_3 (bR @CH.eq_4 (bR @CH.eq_5 (bR @CH.eq_6 (bR @CH.eq_7 (bR @CH.eq_8 (bR @CH.eq_9 (bR @CH.eq_10 (bR @cA.size.eq_1 (bR @cA.size.eq_2 (bR @cA.size.eq_3 (bR @cA.size.eq_4 (bR @cA.size.eq_5 (bR @cA.size.eq_6 (bR @cA.size.eq_7 (bR @cA.size.eq_8 (bR @cA.size.eq_9 (bR @cA.size.eq_10 (bR @pQ (@true_and)))))))))))))))))))))))))))))))))))))))))))))))))))
end
end Go.Abs
namespace Go.Proofs.YteoamaffclmdbaaGreatDoor
open Go Go.Abs
def II:Value := .iface 215 (.agg #[.pointer (some ⟨2,99,none⟩)])
instance:kH where
 g:=fun b=>match b with
  |0=>some [II]
  |_=>none
 u8:=5
def alR:Func:={ name := "",origin := "",params := #[],resultTypes := #[],nfree:=0,ntmps:=0,results := #[],body:=some .skip,norace:=false,tmpNames := #[] }
noncomputable def anG:Program:={ toTables:={ goVersion := "",platform := "",initOrder := "",godebug := "",types:=Tryz.types,rt:=Tryz.progTables.rt,cutTypes := #[],globals := #[],inits := #[],main:=0 },funcs:=⟨List.replicate 900 alR⟩ }
abbrev Ko(own:List Nat)(f:Func):=Cv anG (Fo own f) f
def eM{A:List Nat}{f:Func}(h:Ko A f:=by apply Subtype.mk; cbv):=h
abbrev sO(own:List Nat)(f:Func)(c:eH):Prop:=pg Tryz.prog (Fo own f) f=some c
section
open Go.ChangeShapes Go.WideShapes Go.RowKit
def atX:ownKnob Tryz.prog.godebug=none:=fy
abbrev Vv:List (String×DataW Unit):=[("errors.errorType",Rows.laid_errors_errorType)]
def SR:J:=⟨fun _=>none,fun _ _=>False⟩
def at4(W:World):Rel SR [] W where
 inj:=fun _ _ _ h=>by cases h
 lt:=fun _ _ h=>by cases h
 fix:=fun _ _ h=>by cases h
 tick:=fun _ _ _ _ h=>by cases h
 arr:=fun _ _ _ _ h=>by cases h
 vj:=fun _ _ h=>by cases h
 AD:=fun _ _ h=>h.elim
def MD{w:World}{b off:Nat}{v:Value}(h:w.cell? ⟨b,off,none⟩=some v):b<w.heap.size:=by
 rcases bD b w.heap.size with hb|hb
 ·exact hb
 ·simp[World.cell?,iq hb] at h
def ahl:((List.range Tryz.prog.types.size).filter fun t=>Tryz.prog.rowNamed t [101,114,114,111,114])=[99]:=fy
theorem rtK{a:Option Nat}{u n:Nat}(e:a=some u)(h:a=some n):n=u:=Option.some.inj (h.symm.trans e)
def al0{W:World}(hL:laidMetH Tryz.prog Vv W)(hsh:W.ShapedOpen Tryz.prog):sQ SR [] W:=by
 have h':laidMet Tryz.prog [] W/\handlesMet Tryz.prog Vv W:=hL;obtain⟨name,u,ty,e1,e2,e3,e4,e5⟩:=h'.2 _ (bQ.2 rfl);have en:name=[101,114,114,111,114]:=(oT e1).symm;subst en;obtain rfl:=rtK e2 (n:=215) (by kernel_rfl)
 have hm:ty∈(List.range Tryz.prog.types.size).filter fun t=>Tryz.prog.rowNamed t [101,114,114,111,114]:=ei.2 ⟨gk.2 e3,e4⟩
 rw[ahl] at hm;obtain rfl:=bQ.1 hm;rw[show typeHandle Tryz.prog 99 = .pointer (some ⟨2,99,none⟩) by kernel_rfl] at e5
 have hc:W.cell? ⟨0,0,none⟩=some II:=by simpa[II] using World.var?_cell (show Tryz.prog.globalNamed "errors.errorType" = some 0 by kernel_rfl) e5 0
 obtain⟨⟨zero,t'⟩,hz,he⟩:=aV.1 (show(((begin Tryz.prog (fun _ _=>0) default).world.heap[0]?).bind Obj.row?).map (fun x=>x.1.size)=some 1 by kernel_rfl)
 obtain⟨cs,h1,h2,_⟩:=hsh.1 0 zero t' (jW fy) hz;refine⟨fun b vs k v hb hk=>?_,fun b vs hb=>?_,fun b p hb=>by cases hb⟩
 ·match b,hb with
  |0,hb =>
   cases hb
   match k,hk with
   |0,hk=>cases hk; exact⟨⟨MD hc,fun id hid=>by simp at hid,fun h=>h⟩,hc⟩
 ·match b,hb with
  |0,hb=>cases hb; exact⟨cs,_,_,h1,h2.trans he⟩
noncomputable def yb(os:Os):World :=
 let w0:=World.holding Tryz.prog os ⟨#[],#[],[]⟩
 { w0 with heap:=w0.heap.modify 0 fun
   | .cells _ t frozen => .cells #[II] t frozen
   |o=>o }
def Vw(os:Os)(args:Array Value):laidMetH Tryz.prog Vv ((yb os).forCall (fun _ _=>0) ⟨#[],args,[]⟩).memory :=
 laidMetH_of_parts (laidMet_nil _ _) fy
end
end Go.Proofs.YteoamaffclmdbaaGreatDoor
