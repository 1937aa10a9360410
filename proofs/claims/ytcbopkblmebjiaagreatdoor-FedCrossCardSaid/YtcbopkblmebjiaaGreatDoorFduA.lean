import Derived.Calls
import Derived.Laws.Sem
import Derived.Below
import Derived.Test.YtcbopkblmebjiaaGreatDoorProg
import Derived.Test.YtcbopkblmebjiaaGreatDoorCards
import Derived.ChangeSame
import Derived.ChangeVars
import Derived.JoinedOf
import Derived.RowKit
import Derived.RowKitTokens
import Derived.LaidLaws
import Derived.LaidHandle
import Derived.Stop.Joined
import Derived.Lib.LaidU8
import Derived.Deep.DeepHandedRow
import Derived.Deep.DeepWitnessRowRef
import Derived.ProofKit
import Derived.SizedLaws
import Derived.Carry
import Derived.OpenShut
import Derived.Deep.Slices
import Derived.Deep.Fields
import Derived.ChangeOld
import Derived.Shelf.Vars
import Derived.Lib.LaidIn
set_option linter.unusedSimpArgs false
set_option linter.unusedVariables false
set_option linter.unusedSectionVars false
set_option linter.defProp false
namespace Go
def bQ{a b:Prop}(x:a)(y:b):=And.intro x y
def cT:=@Array.getD_eq_getD_getElem?
def cp:=@Array.getElem?_append_left
def ba:=@Array.getElem?_eq_getElem
def gU:=@Array.getElem?_eq_none
def fj:=@Array.getElem?_eq_some_iff
def ic:=@Array.getElem?_map
def eY:=@Array.getElem?_modify
def fI:=@Array.getElem?_push
def eR:=@Array.getElem?_setIfInBounds_ne
def gG:=@Array.getElem?_setIfInBounds_self
def kQ:=@Array.mapM_eq_mapM_toList
def jh:=@Array.replicate_succ
def ji:=@Array.replicate_zero
def fQ:=@Array.size_append
def bm:=@Bool.and_eq_true
def dI:=@Bool.and_false
def pA:=@Bool.and_self
def eS:=@Bool.and_true
def lZ:=@Bool.eq_false_iff
def eb:=@Bool.eq_iff_iff
def cd:=@Bool.false_and
def af:=@Bool.false_eq_true
def da:=@Bool.false_or
def kq:=@Bool.not_eq_false
def gS:=@Bool.not_eq_true'
def fS:=@Bool.not_false
def cU:=@Bool.not_true
def jj:=@Bool.or_eq_false_iff
def cJ:=@Bool.or_eq_true
def gk:=@Bool.or_false
def dE:=@Bool.or_self
def dG:=@Bool.or_true
def bP:=@Bool.true_and
def dH:=@Bool.true_or
def ma:=@Decidable.not_not
def cW:=@Eq.trans
def fG:=@Int.le_refl
def bf:=@Int.lt_irrefl
def lU:=@Int.lt_or_le
def fz:=@Int.natCast_nonneg
def ga:=@Int.natCast_zero
def mH:=@Int.not_lt
def bg:=@Int.toNat_natCast
def nY:=@Int.toNat_of_nonneg
def nn:=@List.Pairwise.filter
def j6:=@List.all_cons
def bu:=@List.all_eq_true
def cZ:=@List.append_assoc
def iu:=@List.append_cancel_left
def bV:=@List.append_nil
def jC:=@List.append_toArray
def eZ:=@List.concat_eq_append
def aW:=@List.cons_append
def kf:=@List.countP_le_length
def nZ:=@List.countP_pos_iff
def k7:=@List.dropWhile_cons
def cB:=@List.drop_eq_getElem_cons
def iL:=@List.drop_eq_nil_of_le
def gH:=@List.drop_length
def n9:=@List.drop_succ_cons
def cm:=@List.eq_nil_of_length_eq_zero
def eF:=@List.eq_nil_or_concat
def k8:=@List.eq_of_mem_replicate
def fm:=@List.exists_cons_of_ne_nil
def cN:=@List.ext_getElem?
def kg:=@List.filterMap_append
def k9:=@List.filterMap_cons
def jV:=@List.filterMap_nil
def hV:=@List.filter_cons
def gn:=@List.filter_eq_self
def oa:=@List.filter_sublist
def eD:=@List.find?_eq_none
def jD:=@List.flatMap_append
def jE:=@List.flatMap_eq_nil_iff
def jk:=@List.foldl_append
def bA:=@List.foldl_cons
def gN:=@List.foldl_nil
def fp:=@List.getD_eq_getElem?_getD
def nq:=@List.getElem?_append
def bj:=@List.getElem?_append_left
def bq:=@List.getElem?_append_right
def dy:=@List.getElem?_cons_succ
def dU:=@List.getElem?_cons_zero
def cG:=@List.getElem?_drop
def aj:=@List.getElem?_eq_getElem
def eG:=@List.getElem?_eq_none
def aC:=@List.getElem?_eq_some_iff
def aY:=@List.getElem?_map
def bN:=@List.getElem?_of_mem
def fJ:=@List.getElem?_range
def jF:=@List.getElem?_replicate
def fu:=@List.getElem?_set_ne
def er:=@List.getElem?_set_self
def gF:=@List.getElem?_take
def bE:=@List.getElem?_take_of_lt
def jI:=@List.getElem_mem
def jG:=@List.getElem_of_mem
def iU:=@List.isPrefixOf_iff_prefix
def aJ:=@List.length_append
def av:=@List.length_cons
def iQ:=@List.length_drop
def cq:=@List.length_eq_zero_iff
def fK:=@List.length_filterMap_le
def fa:=@List.length_filter_le
def aH:=@List.length_map
def aG:=@List.length_nil
def iI:=@List.length_pos_iff
def ku:=@List.length_range
def ec:=@List.length_set
def gb:=@List.length_take
def bB:=@List.map_append
def bW:=@List.map_congr_left
def aV:=@List.map_cons
def fT:=@List.map_map
def bo:=@List.map_nil
def kR:=@List.map_set
def j7:=@List.map_take
def bS:=@List.mem_append
def eN:=@List.mem_append_left
def gZ:=@List.mem_append_right
def bb:=@List.mem_cons
def aO:=@List.mem_cons_of_mem
def aD:=@List.mem_cons_self
def ef:=@List.mem_filter
def jW:=@List.mem_filterMap
def hZ:=@List.mem_flatMap
def bR:=@List.mem_map
def aQ:=@List.mem_of_getElem?
def dv:=@List.mem_of_mem_drop
def di:=@List.mem_of_mem_take
def kS:=@List.mem_or_eq_of_mem_set
def fx:=@List.mem_range
def eO:=@List.mem_singleton
def aX:=@List.nil_append
def kv:=@List.nodup_append
def gW:=@List.nodup_cons
def kG:=@List.nodup_nil
def dw:=@List.pairwise_append
def bF:=@List.pairwise_cons
def bT:=@List.pairwise_iff_getElem
def jl:=@List.pairwise_map
def jX:=@List.prefix_append
def ia:=@List.prefix_refl
def kx:=@List.push_toArray
def nr:=@List.range_eq_range'
def oc:=@List.range_succ
def iJ:=@List.replicate_succ
def nu:=@List.replicate_succ'
def cH:=@List.size_toArray
def fb:=@List.takeWhile_cons
def dz:=@List.take_add_one
def cD:=@List.take_append_drop
def gq:=@List.take_append_of_le_length
def cQ:=@List.take_length
def cj:=@List.take_of_length_le
def oe:=@List.take_succ_cons
def bO:=@Nat.add_mul
def cR:=@Nat.add_sub_cancel'
def iv:=@Nat.add_sub_cancel_left
def cS:=@Nat.add_zero
def kh:=@Nat.div_lt_iff_lt_mul
def fA:=@Nat.eq_zero_or_pos
def fq:=@Nat.le_mul_of_pos_right
def ar:=@Nat.le_refl
def iw:=@Nat.le_succ_of_le
def bh:=@Nat.le_trans
def iK:=@Nat.lt_irrefl
def bp:=@Nat.lt_of_lt_of_le
def bG:=@Nat.lt_or_ge
def iy:=@Nat.lt_trichotomy
def iE:=@Nat.mod_lt
def bd:=@Nat.mul_le_mul_right
def gm:=@Nat.ne_of_lt
def j8:=@Nat.not_lt_zero
def fH:=@Nat.one_mul
def lz:=@Nat.sub_mul
def bU:=@Nat.sub_zero
def lV:=@Nat.succ_mul
def aP:=@Nat.zero_add
def cy:=@Nat.zero_le
def jb:=@Nat.zero_mul
def dA:=@Ne.symm
def cV:=@Option.bind_eq_some_iff
def mZ:=@Option.getD_none
def bz:=@Option.getD_some
def lf:=@Option.isSome_iff_exists
def iW:=@Option.isSome_none
def c9:=@Option.isSome_some
def aN:=@Option.map_eq_some_iff
def lA:=@Option.map_none
def cz:=@Option.map_some
def dP:=@Option.some.inj
def iz:=@Option.some.injEq
def fC:=@Prod.ext
def ki:=@UInt8.lt_iff_toNat_lt
def oh:=@UInt8.lt_irrefl
def iA:=@UInt8.toNat_inj
def ky:=@and_self
def bL:=@beq_eq_false_iff_ne
def dM:=@beq_iff_eq
def ei:=@beq_self_eq_true
def gd:=@bne_iff_ne
def an:=@bne_self_eq_false
def eH:=@decide_eq_false
def dk:=@decide_eq_false_iff_not
def oL:=@decide_eq_true
def bt:=@decide_eq_true_eq
def nv:=@decide_true
def fe:=@eq_iff_iff
def lW:=@getElem!_pos
def aw:=@if_false
def ak:=@if_neg
def az:=@if_pos
def aE:=@if_true
def mb:=@iff_false
def jM:=@iff_true
def mc:=@not_false_eq_true
def kH:=@not_or
def c8:=@of_decide_eq_true
end Go
namespace Go.Abs
section
open Go
inductive Tk where
 |sh|c0|own (k:Nat)
 deriving DecidableEq,Repr
inductive ag where
 |bool (b:Bool)
 |int (k:IntKind) (n:Int)
 |str (s:List UInt8)
 |slice (tk:Tk) (xs:List ag)
 |agg (cs:List ag)
 |tuple (vs:List ag)
 |ptr (id off:Nat)
 |jd (cs:List ag)
 |func (f:Nat) (caps:List ag)
 |gD (id:Nat)
 |jx (id:Nat)
 |iB (ks vs:List ag)
 |dg (id ver sz lo hi:Nat)
 |im (id ver i off:Nat)
 |rZ (f:Nat) (fs:List ag)
 |jL (t id off:Nat)
 |raw (v:Value)
 |oy (v:Value)
 |any
 deriving Inhabited
def ag.jR:ag->Bool
 | .oy _=>true
 | .bool _ | .int .. | .str _ | .slice .. | .agg _ | .tuple _ | .ptr .. | .jd _ | .func .. | .gD _ | .jx _ | .iB .. | .dg .. | .im .. | .rZ .. | .jL .. | .raw _ | .any=>false
inductive cA where
 |cells (cs:List ag)
 |tick (sz n:Nat)
 |map (ks vs:List ag)
 |nB (s:List UInt8) (pos:Nat)
 |arr (sz ver:Nat) (xs:List ag)
 |vm
def cA.tag:cA->Nat
 | .cells _=>0
 | .tick sz _=>sz+3
 | .map _ _=>1
 | .nB _ _=>2
 | .arr sz _ _=>sz+3
 | .vm=>3
def cA.fixed:cA->Bool
 | .tick _ _ | .arr _ _ _ | .vm=>false
 |_=>true
def cA.loose:cA->Bool
 | .tick _ _ | .arr _ _ _=>true
 |_=>false
abbrev aK:=List cA
abbrev Env:=List (Nat×ag)
def bI{α β:Type}(x:Option α)(f:α->Option β):Option β:=match x with
 |some a=>f a
 |none=>none
@[congr] theorem Zb {α β:Type} {x x':Option α} {f:α->Option β} (h:x=x'):bI x f=bI x' f:=by rw[h]
@[simp] theorem bZ {α β:Type} (a:α) (f:α->Option β):bI (some a) f=f a:=rfl
@[simp] theorem acU {α β:Type} (f:α->Option β):bI none f=none:=rfl
def zk{α:Type}(b:Bool)(x y:Option α):Option α:=match b with
 |true=>x
 |false=>y
@[congr] theorem adP {α:Type} {b b':Bool} {x y:Option α} (h:b=b'):zk b x y=zk b' x y:=by rw[h]
@[simp] theorem uZ {α:Type} (x y:Option α):zk true x y=x:=rfl
@[simp] theorem nA {α:Type} (x y:Option α):zk false x y=y:=rfl
@[simp] theorem N5 {α β:Type} (b:Bool) (x y:Option α) (f:α->Option β):bI (zk b x y) f=zk b (bI x f) (bI y f):=by cases b<;>rfl
open Classical in
noncomputable def ct{α:Type}(p:Prop)(x:Option α):Option α:=if p then x else none
@[congr] theorem Zd {α:Type} {p p':Prop} {x:Option α} (h:p=p'):ct p x=ct p' x:=by rw[h]
theorem fY{α:Type}{p:Prop}{x:Option α}(h:p):ct p x=x:=az h
@[simp] theorem KJ {α:Type} (x:Option α):ct True x=x:=if_pos trivial
@[simp] theorem Ze {α:Type} (x:Option α):ct False x=none:=if_neg not_false
@[simp] theorem Zc {α β:Type} (p:Prop) (x:Option α) (f:α->Option β):bI (ct p x) f=ct p (bI x f):=by
 unfold ct; split<;>rfl
def il:Env->Nat->ag
 | [],_ => .any
 |(k,v)::e,t=>if k=t then v else il e t
def ag.cells:ag->List ag
 | .agg cs=>cs
 |x=>[x]
def ag.kW:ag->Bool
 | .agg _ | .tuple _ | .any | .oy _=>false
 | .raw v=>match v with | .agg _ | .tuple _=>false|_=>true
 |_=>true
def ag.cells?:ag->Option (List ag)
 | .agg cs=>some cs
 | .tuple _ | .any | .oy _=>none
 | .raw (.agg _)=>none
 |x=>some [x]
def ag.shut:ag->ag
 | .slice _ xs => .slice .sh xs
 |x=>x
def ag.fZ:ag->ag
 | .slice _ xs => .slice .sh xs
 | .agg cs => .agg (cs.map ag.shut)
 |x=>x
def ag.plainCell:ag->Bool
 | .bool _ | .int .. | .str _=>true
 | .slice .sh _=>true
 | .raw v=>match v with | .pointer none | .nilFunc | .nilIface | .map none | .func _ ⟨[]⟩ ⟨[]⟩=>true|_=>false
 |_=>false
def ag.plain:ag->Bool
 | .agg cs=>cs.all ag.plainCell
 |x=>x.plainCell
def ag.jm(bM:Nat)(M:aK):ag->ag
 | .slice (.own k) xs=>if k<bM then .slice (.own k) xs else .slice .sh xs
 | .ptr id off=>if id<bM then .ptr id off else .any
 | .gD id=>if id<bM then .gD id else .any
 | .jx id=>if id<bM then .jx id else .any
 | .dg id ver sz lo hi=>if id<bM then .dg id ver sz lo hi else match M[id]? with
  |some (.arr _ v xs)=>if v=ver then .slice .sh ((xs.take hi).drop lo) else .any
  |_ => .any
 | .im id ver i off=>if id<bM then .im id ver i off else .any
 | .jL t id off=>if id<bM then .jL t id off else .any
 | .func _ _ | .agg _ | .tuple _ => .any
 |x=>x
def ag.jz(bM:Nat)(M:aK):ag->ag
 | .func f caps => .func f (caps.map (ag.jm bM M))
 |x=>x.jm bM M
def ag.jN(bM:Nat)(M:aK):ag->ag
 | .agg cs => .agg (cs.map (ag.jz bM M))
 |x=>x.jz bM M
def ag.nS(bM:Nat)(M:aK):ag->ag
 | .tuple vs => .tuple (vs.map (ag.jN bM M))
 |x=>x.jN bM M
def cA.back(bM:Nat)(M:aK):cA->cA
 | .cells cs => .cells (cs.map (ag.jz bM M))
 | .tick sz n => .tick sz n
 | .map ks vs => .map ks (vs.map (ag.jN bM M))
 | .nB s p => .nB s p
 | .arr sz v xs => .arr sz v xs
 | .vm => .vm
def jO(bM:Nat)(M:aK):aK:=(M.take bM).map (cA.back bM M)
def vL(bM:Nat)(M:aK)(br:Env):Env:=br.map fun x=>(x.1,x.2.nS bM M)
def ag.jT(bM:Nat)(M:aK):ag->ag
 | .slice _ xs => .slice .sh xs
 | .gD id=>if id<bM then .gD id else match M[id]? with
  |some (.map ks vs)=>if vs.all ag.plain&&ks.all ag.plainCell then .iB ks vs else .any
  |_ => .any
 |x=>x.jz bM M
def ag.j9(bM:Nat)(M:aK):ag->ag
 | .agg cs => .agg (cs.map (ag.jT bM M))
 |x=>x.jT bM M
def ag.mf(bM:Nat)(M:aK):ag->ag
 | .tuple vs => .tuple (vs.map (ag.j9 bM M))
 |x=>x.j9 bM M
def ag.hU:ag->List Nat
 | .ptr id _ | .gD id | .jx id | .dg id _ _ _ _ | .im id _ _ _=>[id]
 | .slice (.own k) _=>[k]
 | .jL _ id _=>[id]
 |_=>[]
def ag.mL:ag->List Nat
 | .func _ caps=>caps.flatMap ag.hU
 |x=>x.hU
def ag.ids:ag->List Nat
 | .agg cs=>cs.flatMap ag.mL
 |x=>x.mL
def ag.D9:ag->Bool
 | .func _ _ | .agg _ | .tuple _=>false
 |_=>true
def ag.vP:ag->Bool
 | .func _ caps=>caps.all ag.D9
 | .agg _ | .tuple _=>false
 |_=>true
def ag.flat:ag->Bool
 | .agg cs=>cs.all ag.vP
 |x=>x.vP
def cA.flat:cA->Bool
 | .vm=>false
 | .cells cs=>cs.all ag.vP
 | .map _ vs=>vs.all ag.flat
 |_=>true
def ag.tV(ρ:Nat->Nat):ag->ag
 | .ptr id off => .ptr (ρ id) off
 | .gD id => .gD (ρ id)
 | .jx id => .jx (ρ id)
 | .dg id v sz lo hi => .dg (ρ id) v sz lo hi
 | .im id v i off => .im (ρ id) v i off
 | .slice (.own k) xs => .slice (.own (ρ k)) xs
 | .jL t id off => .jL t (ρ id) off
 |x=>x
def ag.sY(ρ:Nat->Nat):ag->ag
 | .func f caps => .func f (caps.map (ag.tV ρ))
 |x=>x.tV ρ
def ag.rn(ρ:Nat->Nat):ag->ag
 | .agg cs => .agg (cs.map (ag.sY ρ))
 |x=>x.sY ρ
def ag.BE(ρ:Nat->Nat):ag->ag
 | .tuple vs => .tuple (vs.map (ag.rn ρ))
 |x=>x.rn ρ
def ag.wF:ag->Bool
 | .tuple vs=>vs.all ag.flat
 |x=>x.flat
def cA.rn(ρ:Nat->Nat):cA->cA
 | .cells cs => .cells (cs.map (ag.sY ρ))
 | .map ks vs => .map ks (vs.map (ag.rn ρ))
 |b=>b
def cA.ids:cA->List Nat
 | .cells cs=>cs.flatMap ag.mL
 | .map _ vs=>vs.flatMap ag.ids
 |_=>[]
def nth{α:Type}:List α->Nat->Option α
 | [],_=>none
 |a::_,0=>some a
 |_::l,n+1=>nth l n
def jZ{α:Type}:List α->Nat->α->List α
 | [],_,_=>[]
 |_::l,0,x=>x::l
 |a::l,n+1,x=>a::jZ l n x
def lP:List Nat->List Nat->List Nat
 |a,[]=>a
 |a,x::r=>lP (if a.contains x then a else a++[x]) r
def sL(M:aK):List Nat->List Nat
 | []=>[]
 |i::r=>(match nth M i with|some b=>b.ids|none=>[])++sL M r
def lR(M:aK)(acc:List Nat):List Nat:=lP acc (sL M acc)
def reach(M:aK)(l:List Nat):List Nat:=lR M (lR M (lR M (lP [] l)))
def iC:List Nat->Nat->Nat
 | [],_=>0
 |a::l,x=>if a=x then 0 else iC l x+1
def xg(ids:List Nat)(i:Nat):Nat:=(nth ids i).getD 0
def ke(M:aK)(ρ:Nat->Nat):List Nat->Option aK
 | []=>some []
 |i::r=>match nth M i with
  |some b=>if b.flat then bI (ke M ρ r) fun l=>some (b.rn ρ::l) else none
  |none=>none
def mw(ids:List Nat)(M:aK):List Nat->aK->aK
 |i::r,b::l=>mw ids (jZ M i (b.rn (xg ids))) r l
 |_,_=>M
def ag.pn(M:aK):ag->ag
 | .dg id ver sz lo hi=>match nth M id with
  |some (.arr _ v xs)=>if v=ver then .slice .sh ((xs.take hi).drop lo) else .any
  |_ => .any
 |x=>x
def ag.yq(M:aK):ag->ag
 | .agg cs => .agg (cs.map (ag.pn M))
 |x=>x.pn M
def Ab(M:aK):List Nat->aK
 | []=>M
 |i::r=>match nth M i with
  |some (.arr sz _ xs)=>Ab (jZ M i (.tick sz xs.length)) r
  |_=>Ab M r
inductive gM where
 |tmp (t:Nat)
 |lg (v:ag)
def gM.ev(br:Env):gM->ag
 | .tmp t=>il br t
 | .lg v=>v
inductive MG where
 |add|sub|mul|quo|rem|eql|neq|lss|leq|gtr|geq|shl|shr|and|or|xor
 deriving DecidableEq,Repr
inductive FK where
 |i|s|b
 deriving DecidableEq
inductive kE where
 |mv (x:gM)
 |own (sz:Nat) (x:gM)
 |pick (c a b:gM)
 |sO (cs:List ag)
 |box (x:gM)
 |build (zero:List ag) (parts:List (Nat×Nat×gM))
 |lits (sz:Nat) (parts:List gM)
 |Ex (sz:Nat) (parts:List gM)
 |nz (n:Nat) (x:gM)
 |js (x:gM)
 |store (n:Nat) (a x:gM)
 |AO (sz p n:Nat) (a x:gM)
 |chk (x:gM)
 |bin (op:MG) (x y:gM)
 |XK (ks:List FK) (neg:Bool) (x y:gM)
 |eqB (neg:Bool) (x y:gM)
 |not (x:gM)
 |neg (x:gM)
 |conv (k:IntKind) (x:gM)
 |same (x:gM)
 |fn (f:Nat) (caps:List gM)
 |DV (f:Nat) (firsts:List gM)
 |AI (x:gM) (lo hi:Option gM)
 |AJ (sz:Nat) (x:gM) (lo hi mx:Option gM)
 |kC (off:Nat) (x:gM)
 |CA (off n:Nat) (x:gM)
 |Cz (off:Nat) (x:gM)
 |vQ (sz:Nat) (x i:gM)
 |Af (n sz:Nat) (x i:gM)
 |Ah (x i:gM)
 |extract (x:gM) (i:Nat)
 |call (f:Nat) (args:List gM)
 |vN (f:gM) (args:List gM)
 |A5 (f:Nat) (args:List gM)
 |lL (f:Nat) (args:List gM)
 |vM (f:Nat) (args:List gM)
 |zW (sz:Nat) (zero:List ag) (x:gM)
 |SD (x:gM)
 |Al (x:gM)
 |append (sz bytes:Nat) (x y:gM)
 |Au (mx:Bool) (x y:gM)
 |b2s (x:gM)
 |mkMap
 |look (fk:FK) (zero:ag) (ok:Bool) (m k:gM)
 |gv (fk:FK) (m k v:gM)
 |NW (m:gM)
 |Ot (x:gM)
 |EM (it:gM)
 |iface (t:Nat) (x:gM)
 |raise (x:gM)
 |mkS (zero:List ag) (n:gM)
 |N2 (zero:List ag) (n:gM)
 |xc (sz bytes:Nat) (zero:List ag) (x n:gM)
 |vo (sz bytes:Nat) (x y:gM)
 |D1 (sz:Nat) (x y:gM)
 |MV (sz:Nat)
structure cK where
 dst:Option Nat
 op:kE
 guard:Option (Nat×Bool)
 grow:Bool:=false
 wR:Bool:=false
 sep:List Nat:=[]
 stop:Bool:=true
def ob(d:Nat)(o:kE):cK:=⟨some d,o,none,false,false,[],true⟩
def og(d g:Nat)(b:Bool)(o:kE):cK:=⟨some d,o,some (g,b),false,false,[],true⟩
def ox(o:kE):cK:=⟨none,o,none,false,false,[],true⟩
def kE.Ps:kE->Bool
 | .call .. | .vN .. | .A5 .. | .lL .. | .raise _=>true
 |_=>false
inductive cv where
 |skip
 |region (ops:List cK) (draw:Bool) (live:List Nat)
 |seq (a b:cv)
 |cond (c:gM) (x y:cv)
 |block (id:Nat) (c:cv)
 |loop (live:List Nat) (c:cv)
 |lO (live:List Nat) (c:cv)
 |exit (id:Nat)
 |ret
inductive Xu where
 |normal|exit (id:Nat)|ret|oy (v:Value)
abbrev eL:=Nat->List ag->aK->Option (ag×aK)
def strLt:List UInt8->List UInt8->Bool
 |_,[]=>false
 | [],_::_=>true
 |a::x,b::y=>a<b||(a==b&&strLt x y)
def akR(k:IntKind)(a b:Int):Int:=k.wrap (BitVec.ofInt k.bits a &&& BitVec.ofInt k.bits b).toNat
def ior(k:IntKind)(a b:Int):Int:=k.wrap (BitVec.ofInt k.bits a ||| BitVec.ofInt k.bits b).toNat
def akV(k:IntKind)(a b:Int):Int:=k.wrap (BitVec.ofInt k.bits a ^^^ BitVec.ofInt k.bits b).toNat
def mF(b:UInt8):ag := .int .u8 b.toNat
def p9(op:MG):ag->ag->Option ag
 | .int k a,.int k' b =>
  match op with
  | .shl=>if 0<=b then some (.int k (k.wrap (a*2 ^ (min b.toNat k.bits)))) else none
  | .shr=>if 0<=b then some (.int k (a.fdiv (2 ^ (min b.toNat k.bits)))) else none
  |op=>if k≠k' then none else
   match op with
   | .add=>some (.int k (k.wrap (a+b)))
   | .sub=>some (.int k (k.wrap (a-b)))
   | .mul=>some (.int k (k.wrap (a*b)))
   | .quo=>if b=0 then none else some (.int k (k.wrap (a.tdiv b)))
   | .rem=>if b=0 then none else some (.int k (a.tmod b))
   | .eql=>some (.bool (a==b))
   | .neq=>some (.bool (a != b))
   | .lss=>some (.bool (a<b))
   | .leq=>some (.bool (a<=b))
   | .gtr=>some (.bool (a>b))
   | .geq=>some (.bool (a>=b))
   | .and=>some (.int k (akR k a b))
   | .or=>some (.int k (ior k a b))
   | .xor=>some (.int k (akV k a b))
   |_=>none
 | .str a,.str b =>
  match op with
  | .add=>if ((a.length+b.length:Nat):Int)>IntKind.i64.max then none else some (.str (a++b))
  | .eql=>some (.bool (a==b))
  | .neq=>some (.bool (a != b))
  | .lss=>some (.bool (strLt a b))
  | .leq=>some (.bool (strLt a b||a==b))
  | .gtr=>some (.bool (!(strLt a b||a==b)))
  | .geq=>some (.bool (!(strLt a b)))
  |_=>none
 |_,_=>none
def ig:FK->ag->ag->Option Bool
 | .i,.int k a,.int k' b=>if k=k' then some (a==b) else none
 | .s,.str a,.str b=>some (a==b)
 | .b,.bool a,.bool b=>some (a==b)
 |_,_,_=>none
def kK:List FK->List ag->List ag->Option Bool
 | [],[],[]=>some true
 |k::ks,a::x,b::y=>bI (ig k a b) fun e=>bI (kK ks x y) fun f=>some (e&&f)
 |_,_,_=>none
def ag.norm:ag->ag
 | .agg [c]=>c
 |x=>x
def valOf:ag->Option Value
 | .int k n=>some (.int k n)
 | .agg [.int k n]=>some (.agg #[.int k n])
 |_=>none
def bytesOf:List ag->Option (List UInt8)
 | []=>some []
 | .int .u8 n::r=>bI (bytesOf r) fun l=>some (UInt8.ofNat n.toNat::l)
 |_=>none
def uz(fk:FK)(k:ag):List ag->List ag->Option (Option ag)
 | [],[]=>some none
 |k'::ks,v::vs=>bI (ig fk k k') fun b=>zk b (some (some v)) (uz fk k ks vs)
 |_,_=>none
def sH(fk:FK)(k v:ag):List ag->List ag->Option (List ag×List ag)
 | [],[]=>bI (ig fk k k) fun _=>some ([k],[v])
 |k'::ks,v'::vs=>bI (ig fk k k') fun b=>zk b (some (k::ks,v::vs)) (bI (sH fk k v ks vs) fun x=>some (k'::x.1,v'::x.2))
 |_,_=>none
def mr(zero:ag)(ok:Bool)(r:Option ag):ag:=match ok with
 |true => .tuple [r.getD zero,.bool r.isSome]
 |false=>r.getD zero
def mapOf(M:aK):ag->Option (List ag×List ag)
 | .gD id=>match nth M id with|some (.map ks vs)=>some (ks,vs)|_=>none
 | .iB ks vs=>some (ks,vs)
 |_=>none
def mC(cs:List ag)(off:Nat)(new:List ag):List ag:=cs.take off++(new++cs.drop (off+new.length))
def putCells(e:ag)(off:Nat)(new:List ag):ag:=match e,new with
 | .agg cs,new => .agg (mC cs off new)
 |_,[c]=>c
 |e,_=>e
def lk(br:Env):List ag->List (Nat×Nat×gM)->Option (List ag)
 |cs,[]=>some cs
 |cs,(off,n,x)::r =>
  bI (x.ev br).cells? fun new=>if new.length=n/\off+n<=cs.length then lk br (mC cs off new) r else none
def sG(br:Env)(sz:Nat):List gM->Option (List ag)
 | []=>some []
 |x::r=>if (x.ev br).fZ.plain=true/\(x.ev br).fZ.cells.length=sz then bI (sG br sz r) fun l=>some ((x.ev br).fZ::l) else none
def jc(br:Env)(n:Nat):Option gM->Option Int
 |none=>some n
 |some x=>match x.ev br with | .int _ i=>some i|_=>none
def wid(xs:List ag)(sz:Nat):Prop:=∀x,x∈xs->x.cells.length=sz
def dL(n bytes:Nat):Prop:=n*bytes<=2 ^ 44
noncomputable def aL(call:eL)(f:Nat)(vs:List ag)(M:aK):Option (ag×aK) :=
 if vs.all ag.flat then
  bI (ke M (iC (reach M (vs.flatMap ag.ids))) (reach M (vs.flatMap ag.ids))) fun B =>
   if lR M (reach M (vs.flatMap ag.ids))=reach M (vs.flatMap ag.ids) then
    bI (call f (vs.map (ag.rn (iC (reach M (vs.flatMap ag.ids))))) B) fun x =>
     if x.2.length=B.length/\x.1.wF=true/\x.2.all cA.flat=true then some (x.1.BE (xg (reach M (vs.flatMap ag.ids))),mw (reach M (vs.flatMap ag.ids)) M (reach M (vs.flatMap ag.ids)) x.2) else none
   else none
 else none
noncomputable def AD(call:eL)(f:Nat)(vs:List ag)(M:aK):Option (ag×aK) :=
 if vs.all ag.flat=true/\vs.flatMap ag.ids=[] then
  bI (call f vs []) fun x=>match x.1,x.2 with
   | .slice (.own 0) xs,[.tick sz n]=>some (.slice (.own M.length) xs,M++[.tick sz n])
   |_,_=>none
 else none
def zn(sz L:Nat):ag:=if 500<=sz then .dg L 0 (sz-500) 0 0 else .slice (.own L) []
def Ay(sz:Nat):cA:=if 500<=sz then .arr (sz-500) 0 [] else .tick sz 0
noncomputable def dW(call:eL)(br:Env)(M:aK):kE->Option (ag×aK)
 | .mv x=>some (x.ev br,M)
 | .own sz x =>
  match x.ev br with
  | .slice .c0 []=>some (.slice (.own M.length) [],M++[.tick sz 0])
  |_=>none
 | .pick c a b=>match c.ev br with
  | .bool t=>zk t (some (a.ev br,M)) (some (b.ev br,M))
  |_=>none
 | .sO cs=>some (.ptr M.length 0,M++[.cells cs])
 | .box x=>bI (x.ev br).cells? fun cs=>some (.ptr M.length 0,M++[.cells cs])
 | .build zero parts=>bI (lk br zero parts) fun cs=>some (.agg cs,M)
 | .lits sz parts=>bI (sG br sz parts) fun l=>some (match l with|[] => .slice .c0 []|_ => .slice .sh l,M)
 | .Ex sz parts=>bI (sG br sz parts) fun l=>some (.slice (.own M.length) l,M++[.tick sz l.length])
 | .nz n x =>
  match x.ev br with
  | .ptr id off=>match nth M id with
   |some (.cells cs)=>if off+n<=cs.length then some (.agg ((cs.drop off).take n),M) else none
   |_=>none
  | .jd cs=>if n<=cs.length then some (.agg (cs.take n),M) else none
  | .im id ver i off=>match nth M id with
   |some (.arr _ v xs)=>if v=ver then bI (xs[i]?) fun e=>if off+n<=e.cells.length then some (.agg ((e.cells.drop off).take n),M) else none else none
   |_=>none
  |_=>none
 | .js x =>
  match x.ev br with
  | .ptr id off=>match nth M id with
   |some (.cells cs)=>bI (nth cs off) fun c=>some (c,M)
   |_=>none
  | .jd cs=>bI (nth cs 0) fun c=>some (c,M)
  | .im id ver i off=>match nth M id with
   |some (.arr _ v xs)=>if v=ver then bI (xs[i]?) fun e=>bI (nth e.cells off) fun c=>some (c,M) else none
   |_=>none
  |_=>none
 | .store n a x =>
  match a.ev br with
  | .ptr id off=>match nth M id with
   |some (.cells cs)=>bI (x.ev br).cells? fun new =>
    if new.length=n/\off+n<=cs.length/\new.all ag.kW=true then some (.any,jZ M id (.cells (mC cs off new))) else none
   |_=>none
  | .im id ver i off=>match nth M id with
   |some (.arr sz v xs)=>bI (x.ev br).cells? fun new=>bI (xs[i]?) fun e =>
    if v=ver/\new.length=n/\off+n<=e.cells.length/\(new.map ag.shut).all ag.plainCell=true then some (.any,jZ M id (.arr sz ver (jZ xs i (putCells e off (new.map ag.shut))))) else none
   |_=>none
  |_=>none
 | .AO sz p n a x =>
  match a.ev br with
  | .ptr id off=>match nth M id with
   |some (.cells cs)=>bI (x.ev br).cells? fun new =>
    match nth new p with
    |some (.slice .c0 [])=>if new.length=n/\off+n<=cs.length/\new.all ag.kW=true then some (.any,jZ M id (.cells (mC cs off (jZ new p (zn sz M.length))))++[Ay sz]) else none
    |_=>none
   |_=>none
  |_=>none
 | .chk x=>match x.ev br with
  | .ptr id off=>some (.ptr id off,M)
  | .jd cs=>some (.jd cs,M)
  | .func f caps=>some (.func f caps,M)
  | .im id v i off=>some (.im id v i off,M)
  |_=>none
 | .bin op x y=>bI (p9 op (x.ev br) (y.ev br)) fun v=>some (v,M)
 | .XK ks neg x y =>
  match x.ev br,y.ev br with
  | .agg a,.agg b=>bI (kK ks a b) fun e=>some (.bool (match neg with|true => !e|false=>e),M)
  |_,_=>none
 | .eqB neg x y=>match x.ev br,y.ev br with
  | .bool a,.bool b=>some (.bool (match neg with|true => !(a==b)|false=>a==b),M)
  |_,_=>none
 | .not x=>match x.ev br with | .bool b=>some (.bool (!b),M)|_=>none
 | .neg x=>match x.ev br with | .int k n=>some (.int k (k.wrap (0-n)),M)|_=>none
 | .conv k x=>match x.ev br with | .int _ n=>some (.int k (k.wrap n),M)|_=>none
 | .same x=>match x.ev br with | .str s=>some (.str s,M)|_=>none
 | .fn f caps=>some (.func f (caps.map (gM.ev br)),M)
 | .DV f firsts=>if (firsts.map fun x=>(x.ev br).fZ).all ag.plain then some (.rZ f (firsts.map fun x=>(x.ev br).fZ),M) else none
 | .AI x lo hi =>
  match x.ev br with
  | .str s=>bI (jc br s.length hi) fun h=>bI (jc br 0 lo) fun l =>
   ct (0<=h/\h<=s.length/\0<=l/\l<=h) (some (.str ((s.take h.toNat).drop l.toNat),M))
  |_=>none
 | .AJ sz x lo hi mx =>
  match x.ev br with
  | .slice _ xs=>ct (wid xs sz) <| bI (jc br xs.length hi) fun h=>bI (jc br 0 lo) fun l =>
   match mx with
   |none=>ct (0<=h/\h<=xs.length/\0<=l/\l<=h) (some (.slice .sh ((xs.take h.toNat).drop l.toNat),M))
   |some m=>match m.ev br with
    | .int _ m=>ct (0<=m/\m<=xs.length/\0<=h/\h<=m/\0<=l/\l<=h)
      (zk (m==0) (some (.slice .c0 [],M)) (some (.slice .sh ((xs.take h.toNat).drop l.toNat),M)))
    |_=>none
  | .dg id v sz' al ah=>ct (sz'=sz) <| bI (jc br (ah-al) hi) fun h=>bI (jc br 0 lo) fun l =>
   match mx with
   |none=>ct (0<=h/\h<=(ah-al:Nat)/\0<=l/\l<=h) (zk (l==h) (some (.slice .sh [],M)) (some (.dg id v sz (al+l.toNat) (al+h.toNat),M)))
   |some m=>match m.ev br with
    | .int _ m=>ct (0<=m/\m<=(ah-al:Nat)/\0<=h/\h<=m/\0<=l/\l<=h)
      (zk (m==0) (some (.slice .c0 [],M)) (zk (l==h) (some (.slice .sh [],M)) (some (.dg id v sz (al+l.toNat) (al+h.toNat),M))))
    |_=>none
  |_=>none
 | .kC off x=>match x.ev br with
  | .ptr id o=>some (.ptr id (o+off),M)
  | .jd cs=>some (.jd (cs.drop off),M)
  | .im id v i o=>some (.im id v i (o+off),M)
  |_=>none
 | .CA off n x=>match x.ev br with
  | .agg cs=>if off+n<=cs.length then some (.agg ((cs.drop off).take n),M) else none
  |_=>none
 | .Cz off x=>match x.ev br with
  | .agg cs=>bI (nth cs off) fun c=>some (c,M)
  |_=>none
 | .vQ sz x i =>
  match x.ev br,i.ev br with
  | .slice _ xs,.int _ n=>ct (0<=n) (bI (xs[n.toNat]?) fun e=>if e.cells.length=sz then some (.jd e.cells,M) else none)
  | .dg id v sz' lo hi,.int _ n=>ct (0<=n/\n<(hi-lo:Nat)/\sz'=sz) (some (.im id v (lo+n.toNat) 0,M))
  |_,_=>none
 | .Af n sz x i =>
  match x.ev br,i.ev br with
  | .jd cs,.int _ m=>ct (0<=m/\m<n/\n*sz<=cs.length) (some (.jd (cs.drop (m.toNat*sz)),M))
  | .ptr id off,.int _ m=>ct (0<=m/\m<n) (some (.ptr id (off+m.toNat*sz),M))
  |_,_=>none
 | .Ah x i =>
  match x.ev br,i.ev br with
  | .str s,.int _ n=>ct (0<=n) (bI (s[n.toNat]?) fun b=>some (.int .u8 b.toNat,M))
  |_,_=>none
 | .extract x i=>match x.ev br with | .tuple vs=>bI (nth vs i) fun v=>some (v,M)|_=>none
 | .call f args=>aL call f (args.map fun x=>(x.ev br).fZ) M
 | .A5 f args=>call f (args.map (gM.ev br)) M
 | .lL f args=>aL call f (args.map fun x=>((x.ev br).yq M).fZ) (Ab M ((args.map (gM.ev br)).flatMap ag.ids))
 | .vM f args=>AD call f (args.map fun x=>(x.ev br).fZ) M
 | .zW sz zero x=>match x.ev br with
  | .slice _ xs=>match xs with|[]=>some (.any,M)|_=>none
  | .dg id ver sz' lo hi=>match nth M id with
   |some (.arr sz0 v xs)=>if v=ver/\sz'=sz/\zero.length=sz/\zero.all ag.plainCell=true then some (.any,jZ M id (.arr sz0 ver (xs.take lo++(List.replicate (hi-lo) (.agg zero)++xs.drop hi)))) else none
   |_=>none
  |_=>none
 | .vN f args=>match f.ev br with
  | .func g caps=>aL call g ((args.map fun x=>(x.ev br).fZ)++caps) M
  | .rZ g fs=>aL call g (fs++args.map fun x=>(x.ev br).fZ) M
  | .raw v=>match v with
   | .func (.func g) ⟨[]⟩ ⟨[]⟩=>aL call g (args.map fun x=>(x.ev br).fZ) M
   |_=>none
  |_=>none
 | .SD x=>match x.ev br with | .str s=>some (.int .i64 s.length,M)|_=>none
 | .Al x=>match x.ev br with
  | .slice _ xs=>some (.int .i64 xs.length,M)
  | .dg _ _ _ lo hi=>some (.int .i64 (hi-lo:Nat),M)
  |_=>none
 | .append sz bytes x y =>
  match x.ev br,y.ev br with
  | .slice tk xs,.slice _ ys =>
   ct (dL (xs.length+ys.length) bytes/\wid xs sz/\wid ys sz) (
    match tk with
    | .c0=>match xs with|[]=>some (.slice (.own M.length) ys,M++[.tick sz ys.length])|_=>none
    | .own k=>match nth M k with
     |some (.tick sz' n)=>ct (sz'=sz/\n=xs.length) (some (.slice (.own k) (xs++ys),jZ M k (.tick sz (xs.length+ys.length))))
     |_=>none
    | .sh=>none)
  | .dg id ver sz' lo hi,.slice _ ys=>match nth M id with
   |some (.arr sz0 v xs)=>ct (v=ver/\sz'=sz/\lo=0/\hi=xs.length/\dL (xs.length+ys.length) bytes/\wid xs sz/\wid ys sz)
     (zk (ys.length==0) (some (.dg id ver sz lo hi,M)) (some (.dg id (ver+1) sz 0 (xs.length+ys.length),jZ M id (.arr sz0 (ver+1) (xs++ys)))))
   |_=>none
  |_,_=>none
 | .Au mx x y=>match x.ev br,y.ev br with
  | .int k a,.int _ b=>some (.int k (match mx with|true=>if b>a then b else a|false=>if b<a then b else a),M)
  |_,_=>none
 | .b2s x=>match x.ev br with | .slice _ xs=>bI (bytesOf xs) fun l=>some (.str l,M)|_=>none
 | .mkMap=>some (.gD M.length,M++[.map [] []])
 | .look fk zero ok m k=>bI (mapOf M (m.ev br)) fun e=>bI (uz fk (k.ev br) e.1 e.2) fun r=>some (mr zero ok r,M)
 | .gv fk m k v=>match m.ev br with
  | .gD id=>match nth M id with
   |some (.map ks vs)=>bI (sH fk (k.ev br) (v.ev br) ks vs) fun e=>some (.any,jZ M id (.map e.1 e.2))
   |_=>none
  |_=>none
 | .NW m=>bI (mapOf M (m.ev br)) fun e=>some (.int .i64 e.1.length,M)
 | .Ot x=>match x.ev br with | .str s=>some (.jx M.length,M++[.nB s 0])|_=>none
 | .EM it=>match it.ev br with
  | .jx id=>match nth M id with
   |some (.nB s pos)=>zk (decide (pos<s.length))
     (some (.tuple [.bool true,.int .i64 pos,.int .i32 (Utf8.decode ⟨s.toArray⟩ pos).1],jZ M id (.nB s (pos+(Utf8.decode ⟨s.toArray⟩ pos).2))))
     (some (.tuple [.bool false],M))
   |_=>none
  |_=>none
 | .mkS zero n=>match n.ev br with
  | .int _ k=>ct (0<=k/\dL k.toNat (8*zero.length)/\zero.all ag.plainCell=true) (some (.slice .sh (List.replicate k.toNat (ag.agg zero).norm),M))
  |_=>none
 | .N2 zero n=>match n.ev br with
  | .int _ k=>ct (0<=k/\dL k.toNat (8*zero.length)/\zero.all ag.plainCell=true) (some (.dg M.length 0 zero.length 0 k.toNat,M++[.arr zero.length 0 (List.replicate k.toNat (ag.agg zero).norm)]))
  |_=>none
 | .xc sz bytes zero x n =>
  match x.ev br,n.ev br with
  | .slice .c0 [],.int _ k=>ct (0<=k/\dL k.toNat bytes/\zero.length=sz/\zero.all ag.plainCell=true)
    (zk (k==0) (some (.slice .c0 [],M)) (some (.dg M.length 0 sz 0 k.toNat,M++[.arr sz 0 (List.replicate k.toNat (ag.agg zero).norm)])))
  | .dg id ver sz' lo hi,.int _ k=>match nth M id with
   |some (.arr sz0 v xs)=>ct (v=ver/\sz'=sz/\lo=0/\hi=xs.length/\0<=k/\dL (xs.length+k.toNat) bytes/\zero.length=sz/\zero.all ag.plainCell=true/\0<xs.length)
     (zk (k==0) (some (.dg id ver sz' lo hi,M)) (some (.dg id (ver+1) sz 0 (xs.length+k.toNat),jZ M id (.arr sz0 (ver+1) (xs++List.replicate k.toNat (ag.agg zero).norm)))))
   |_=>none
  |_,_=>none
 | .vo sz bytes x y =>
  match x.ev br,y.ev br with
  | .slice .c0 [],.slice _ ys=>ct (dL ys.length bytes/\wid ys sz) (some (.dg M.length 0 sz 0 ys.length,M++[.arr sz 0 ys]))
  |_,_=>none
 | .D1 sz x y =>
  match x.ev br,y.ev br with
  | .slice .sh [],.slice _ ys=>ct (wid ys sz) (some (.int .i64 0,M))
  | .dg id ver sz' lo hi,.slice _ ys=>match nth M id with
   |some (.arr sz0 v xs)=>ct (v=ver/\sz'=sz/\wid ys sz/\0<xs.length)
     (some (.int .i64 (min ys.length (hi-lo):Nat),jZ M id (.arr sz0 ver (xs.take lo++(ys.take (min ys.length (hi-lo))++xs.drop (lo+min ys.length (hi-lo)))))))
   |_=>none
  |_,_=>none
 | .MV sz=>some (.ptr (M.length+1) 0,M++[.arr sz 0 [],.cells [.dg M.length 0 sz 0 0]])
 | .iface t x=>match x.ev br with
  | .ptr id off=>some (.jL t id off,M)
  |y=>bI (valOf y) fun v=>some (.raw (.iface t v),M)
 | .raise x=>match x.ev br with
  | .raw v=>match v with
   | .iface t u=>some (.oy (.iface t u),M)
   |_=>none
  |_=>none
def rk(br:Env)(dst:Option Nat)(v:ag):Env :=
 match dst with
 |some d=>(d,v)::br
 |none=>br
def kE.dS(br:Env):kE->List Nat
 | .call _ args=>(args.map fun x=>(x.ev br).fZ).flatMap ag.ids
 | .vN f args=>match f.ev br with
  | .func _ caps=>((args.map fun x=>(x.ev br).fZ)++caps).flatMap ag.ids
  | .rZ _ fs=>(fs++args.map fun x=>(x.ev br).fZ).flatMap ag.ids
  | .raw v=>match v with
   | .func (.func _) ⟨[]⟩ ⟨[]⟩=>(args.map fun x=>(x.ev br).fZ).flatMap ag.ids
   |_=>[]
  |_=>[]
 |_=>[]
def yD(br:Env)(M M':aK):List Nat->Prop
 | []=>True
 |z::r=>(match il br z with
  | .ptr id _=>nth M' id=nth M id
  |_=>False)/\yD br M M' r
noncomputable def pL(call:eL)(o:cK)(br:Env)(M:aK):Option (ag×aK) :=
 match o.wR with
 |true=>ct (o.op.dS br=[]) (dW call br M o.op)
 |false=>match o.grow with
  |false=>dW call br M o.op
  |true=>bI (dW call br M o.op) fun x=>ct (M <+: x.2\/(o.sep≠[]/\yD br M x.2 o.sep)) (some x)
structure Out where
 e:Xu
 br:Env
 mem:aK
def Om(c:Bool)(x:ag×aK)(k:Option Out):Option Out:=match x.1 with
 | .oy v=>match c with
  |true=>some ⟨.oy v,[],x.2⟩
  |false=>none
 |_=>k
def cK.lets(o:cK):Bool:=o.op.Ps&&o.stop
noncomputable def gP(call:eL):List cK->Env->aK->Option Out
 | [],br,M=>some ⟨.normal,br,M⟩
 |o::r,br,M =>
  match o.guard with
  |none=>bI (pL call o br M) fun x=>Om o.lets x (gP call r (rk br o.dst x.1) x.2)
  |some (t,want)=>match il br t with
   | .bool b=>zk (b==want) (bI (pL call o br M) fun x=>Om o.lets x (gP call r (rk br o.dst x.1) x.2))
    (gP call r (rk br o.dst (.tuple [])) M)
   | .tuple []=>gP call r (rk br o.dst (.tuple [])) M
   |_=>none
def jr(br:Env)(live:List Nat):Env:=live.map fun t=>(t,il br t)
def Out.rb(live:List Nat)(o:Out):Out:=match o.e with
 | .normal=>⟨.normal,jr o.br live,o.mem⟩
 |_=>o
open Classical in
noncomputable def lim{α:Type}(F:Nat->Option α):Option α:=if h:∃n,(F n).isSome=true then F (Classical.choose h) else none
def ur(o:Out)(k:Env->aK->Option Out):Option Out:=match o.e with
 | .normal=>k o.br o.mem
 |_=>some o
def zm(id:Nat)(o:Out):Out:=match o.e with
 | .exit i=>if i=id then ⟨.normal,o.br,o.mem⟩ else o
 |_=>o
def iter(g:Nat->Nat->Nat)(f:Env->aK->Option Out)(live:List Nat):Nat->Env->aK->Option Out
 |0,_,_=>none
 |n+1,br,M=>bI (f (jr br live) M) fun o=>ur o fun e m=>iter g f live n (vL (g M.length m.length) m (jr e live)) (jO (g M.length m.length) m)
abbrev gL(a _b:Nat):Nat:=a
abbrev gR(_a b:Nat):Nat:=b
noncomputable def fh(call:eL):cv->Env->aK->Option Out
 | .skip,br,M=>some ⟨.normal,br,M⟩
 | .region ops _ live,br,M=>bI (gP call ops br M) fun o=>some (o.rb live)
 | .seq a b,br,M=>bI (fh call a br M) fun o=>ur o (fh call b)
 | .cond c x y,br,M=>match c.ev br with
  | .bool t=>zk t (fh call x br M) (fh call y br M)
  |_=>none
 | .block id c,br,M=>bI (fh call c br M) fun o=>some (zm id o)
 | .loop live c,br,M=>lim fun n=>iter gL (fh call c) live n br M
 | .lO live c,br,M=>lim fun n=>iter gR (fh call c) live n br M
 | .exit id,br,M=>some ⟨.exit id,br,M⟩
 | .ret,br,M=>some ⟨.ret,br,M⟩
inductive sr where
 |tmp (t:Nat)
 |fD (t n:Nat)
 |Pt (t:Nat)
structure eP where
 nparams:Nat
 results:List sr
 body:cv
def zq(br:Env)(M:aK):sr->Option ag
 | .tmp t=>some (il br t)
 | .fD t n=>match il br t with
  | .ptr id off=>match nth M id with
   |some (.cells cs)=>if off+n<=cs.length then some (.agg ((cs.drop off).take n)) else none
   |_=>none
  |_=>none
 | .Pt t=>match il br t with
  | .ptr id off=>match nth M id with
   |some (.cells cs)=>nth cs off
   |_=>none
  |_=>none
def pO(br:Env)(M:aK):List sr->Option (List ag)
 | []=>some []
 |r::rs=>bI (zq br M r) fun v=>bI (pO br M rs) fun l=>some (v::l)
def one:List ag->ag
 | [v]=>v
 |l => .tuple l
def jY:Nat->List ag->Env
 |_,[]=>[]
 |i,v::r=>(i,v)::jY (i+1) r
def finish(res:List sr)(bM:Nat)(o:Out):Option (ag×aK) :=
 match o.e with
 | .exit _=>none
 | .oy v=>some (.oy v,jO bM o.mem)
 |_=>bI (pO o.br o.mem res) fun l=>some ((one l).mf bM o.mem,jO bM o.mem)
structure Bz where
 code:Nat->Option eP
 sK:Nat->Option (List ag->aK->Option (ag×aK))
noncomputable def kP(T:Bz):Nat->eL
 |0,f,args,M=>match T.sK f with
  |some g=>g args M
  |none=>none
 |n+1,f,args,M=>match T.sK f with
  |some g=>g args M
  |none=>match T.code f with
   |none=>none
   |some fn=>if args.length=fn.nparams then bI (fh (kP T n) fn.body (jY 0 args) M) (finish fn.results M.length) else none
noncomputable def aq(T:Bz):eL:=fun f args M=>lim fun n=>kP T n f args M
theorem pY{α:Type}{F:Nat->Option α}(hm:∀n x,F n=some x->F (n+1)=some x){n:Nat}{x:α}(h:F n=some x):lim F=some x:=by
 have up:∀k n x,F n=some x->F (n+k)=some x:=by
  intro k;induction k<;>grind
 unfold lim;have hex:∃n,(F n).isSome=true:=⟨n,by grind⟩
 rw[dif_pos hex];have hc:=Classical.choose_spec hex;generalize Classical.choose _=m at *;obtain⟨y,hy⟩:=lf.1 hc;rcases Nat.le_total n m with hle|hle
 ·have:=up (m-n) n x h;rw[show n+(m-n)=m by omega] at this
  omega
 ·have:=up (n-m) m y hy;rw[show m+(n-m)=n by omega,h] at this
  rw[hy,this]
theorem uw{α:Type}{F:Nat->Option α}{x:α}(h:lim F=some x):∃n,F n=some x:=by
 unfold lim at h;split at h
 ·grind
 grind
def x5(C C':eL):Prop:=∀f a M x,C f a M=some x->C' f a M=some x
def bn{α β:Type}{x:Option α}{f:α->Option β}{y:β}(h:bI x f=some y):∃a,x=some a/\f a=some y:=by
 cases x<;>simp_all
def kM{α:Type}{b:Bool}{x y:Option α}{z:α}(h:zk b x y=some z):(b=true/\x=some z)\/(b=false/\y=some z):=by
 cases b
 ·simp_all
 simp_all
theorem db{α:Type}{p:Prop}{x:Option α}{z:α}(h:ct p x=some z):p/\x=some z:=by
 grind [ct]
theorem tC{C:eL}{f:Nat}{vs:List ag}{M:aK}{x:ag×aK}(h:aL C f vs M=some x) :
  ∃a B y,C f a B=some y/\∀C':eL,C' f a B=some y->aL C' f vs M=some x:=by
 unfold aL at h;split at h
 ·obtain⟨B,hB,h⟩:=bn h;split at h
  ·obtain⟨y,hy,h⟩:=bn h;refine⟨_,B,y,hy,fun C' hC'=>?_⟩
   simp_all [aL]
  grind
 grind
theorem Lc{C:eL}{br:Env}{M:aK}{o:kE}{x:ag×aK}(h:dW C br M o=some x) :
  (∀C':eL,dW C' br M o=some x)\/∃f a B y,C f a B=some y/\∀C':eL,C' f a B=some y->dW C' br M o=some x:=by
 cases o
 case call f args =>
  simp only[dW] at h ⊢;obtain⟨a,B,y,h1,h2⟩:=tC h;exact .inr ⟨f,a,B,y,h1,h2⟩
 case vM f args =>
  simp only[dW] at h ⊢;unfold AD at h;split at h
  ·rename_i hc;obtain⟨y,hy,h⟩:=bn h;refine .inr ⟨f,_,[],y,hy,fun C' hC'=>?_⟩
   unfold AD;rw[az hc,hC'];exact h
  ·cases h
 case A5 f args=>exact .inr ⟨f,_,_,_,h,fun _ h'=>h'⟩
 case lL f args =>
  simp only[dW] at h ⊢;obtain⟨a,B,y,h1,h2⟩:=tC h;exact .inr ⟨f,a,B,y,h1,h2⟩
 case vN f args =>
  simp only[dW] at h ⊢;split at h<;>grind [tC]
 all_goals exact .inl fun _=>h
theorem Ph{C C':eL}(hC:x5 C C'){br:Env}{M:aK}{o:kE}{x:ag×aK}(h:dW C br M o=some x):dW C' br M o=some x:=by
 rcases Lc h with h|⟨f,a,B,y,h1,h2⟩
 ·grind
 ·exact h2 _ (hC _ _ _ _ h1)
theorem rB{C:eL}{o:cK}{br:Env}{M:aK}{x:ag×aK}(h:pL C o br M=some x) :
  (o.wR=true/\o.op.dS br=[]/\dW C br M o.op=some x)\/(o.wR=false/\o.grow=false/\dW C br M o.op=some x)\/(o.wR=false/\o.grow=true/\(M <+: x.2\/(o.sep≠[]/\yD br M x.2 o.sep))/\dW C br M o.op=some x):=by
 unfold pL at h;split at h
 ·grind [db]
 ·split at h
  ·exact .inr (.inl ⟨by assumption,by assumption,h⟩)
  ·obtain⟨y,hy,h⟩:=bn h
   grind [db]
theorem Cc{C C':eL}(hC:x5 C C'){br:Env}{M:aK}{o:cK}{x:ag×aK}(h:pL C o br M=some x):pL C' o br M=some x:=by
 grind [rB,pL,Ph]
theorem Mm{c:Bool}{x:ag×aK}{k:Option Out}{o:Out}(h:Om c x k=some o):(x.1.jR=false/\k=some o)\/∃v,c=true/\x.1 = .oy v/\o=⟨.oy v,[],x.2⟩:=by
 obtain⟨x,M⟩:=x
 cases x<;>first
  |exact .inl ⟨rfl,h⟩
  |(cases c
    ·cases h
    ·injection h with h; grind)
def KO{c:Bool}{x:ag×aK}{k:Option Out}(h:x.1.jR=false):Om c x k=k:=by
 obtain⟨x,M⟩:=x;cases x<;>first|rfl|cases h
theorem Mn{c:Bool}{x:ag×aK}{k:Option Out}{v:Value}(hc:c=true)(h:x.1 = .oy v):Om c x k=some ⟨.oy v,[],x.2⟩:=by
 grind [Om]
theorem pB{C:eL}{o:cK}{r:List cK}{br:Env}{M:aK}{x:Out}(h:gP C (o::r) br M=some x) :
  (∃y,(∀t want,o.guard=some (t,want)->il br t = .bool want)/\pL C o br M=some y/\((y.1.jR=false/\gP C r (rk br o.dst y.1) y.2=some x)\/∃v,o.lets=true/\y.1 = .oy v/\x=⟨.oy v,[],y.2⟩)) \/
  (∃t want,o.guard=some (t,want)/\(il br t = .bool (!want)\/il br t = .tuple [])/\gP C r (rk br o.dst (.tuple [])) M=some x):=by
 unfold gP at h;split at h
 ·rename_i hg;obtain⟨y,hy,h⟩:=bn h
  grind [Mm]
 ·rename_i t want hg;split at h
  ·rename_i b hb;rcases kM h with ⟨h1,h2⟩|⟨h1,h2⟩
   ·obtain⟨y,hy,h2⟩:=bn h2
    grind [Mm]
   ·refine .inr ⟨t,want,hg,.inl ?_,h2⟩;cases b<;>cases want<;>simp_all
  ·grind
  grind
def rA{C:eL}{o:cK}{r:List cK}{br:Env}{M:aK}{y:ag×aK}(hg:∀t want,o.guard=some (t,want)->il br t = .bool want)
  (hy:pL C o br M=some y):gP C (o::r) br M=Om o.lets y (gP C r (rk br o.dst y.1) y.2):=by
 rw[gP];split
 ·rw[hy]; rfl
 simp_all
theorem vK{C:eL}{o:cK}{r:List cK}{br:Env}{M:aK}{t:Nat}{want:Bool}(hg:o.guard=some (t,want))
  (hb:il br t = .bool (!want)\/il br t = .tuple []):gP C (o::r) br M=gP C r (rk br o.dst (.tuple [])) M:=by
 rw[gP];simp[hg];rcases hb with hb|hb
 ·rw[hb]; cases want<;>simp
 grind
theorem sN{C C':eL}(hC:x5 C C'):∀ {ops:List cK} {br:Env} {M:aK} {x:Out},gP C ops br M=some x->gP C' ops br M=some x
 | [],_,_,_,h=>h
 |o::r,br,M,x,h=>by
  rcases pB h with ⟨y,h1,h2,h3⟩|⟨t,want,h1,h2,h3⟩
  ·rw[rA h1 (Cc hC h2)];rcases h3 with ⟨h3,h4⟩|⟨v,h0,h3,rfl⟩
   ·rw[KO h3]; exact sN hC h4
   grind [Mn]
  ·rw[vK h1 h2]; exact sN hC h3
theorem tF{o:Out}{k:Env->aK->Option Out}{x:Out}(h:ur o k=some x):(o.e = .normal/\k o.br o.mem=some x)\/(o.e ≠ .normal/\x=o):=by
 grind [ur]
theorem ue{o:Out}{k:Env->aK->Option Out}(h:o.e = .normal):ur o k=k o.br o.mem:=by grind [ur]
theorem ze{o:Out}{k:Env->aK->Option Out}(h:o.e ≠ .normal):ur o k=some o:=by
 simp[ur]
theorem xm{o:Out}{k k':Env->aK->Option Out}{x:Out}(hk:∀br M x,k br M=some x->k' br M=some x)(h:ur o k=some x):ur o k'=some x:=by
 grind [tF,ue,ze]
def xp{g0:Nat->Nat->Nat}{f g:Env->aK->Option Out}(hfg:∀br M x,f br M=some x->g br M=some x)(live:List Nat):∀n {br M x},iter g0 f live n br M=some x->iter g0 g live n br M=some x
 |0,_,_,_,h=>h
 |n+1,br,M,x,h=>by
  rw[iter] at *;obtain⟨a,ha,h⟩:=bn h;rw[hfg _ _ _ ha];exact xm (fun br M x h=>xp hfg _ n h) h
def uh{g0:Nat->Nat->Nat}{f:Env->aK->Option Out}(live:List Nat):∀n {br M x},iter g0 f live n br M=some x->iter g0 f live (n+1) br M=some x
 |0,_,_,_,h=>by cases h
 |n+1,br,M,x,h=>by
  rw[iter] at h ⊢;obtain⟨a,ha,h⟩:=bn h;rw[ha];exact xm (fun br M x h=>uh _ n h) h
theorem j5{C C':eL}(hC:x5 C C'):∀(c:cv){br:Env}{M:aK}{x:Out},fh C c br M=some x->fh C' c br M=some x
 | .skip,_,_,_,h=>h
 | .exit _,_,_,_,h=>h
 | .ret,_,_,_,h=>h
 | .region _ d _,br,M,x,h=>by
  simp[fh] at *;obtain⟨a,ha,h⟩:=bn h;rw[sN hC ha]; grind
 | .seq a b,br,M,x,h=>by
  simp[fh] at *;obtain⟨o,ho,h⟩:=bn h;rw[j5 hC a ho];exact xm (fun br M x=>j5 hC b) h
 | .cond c a b,br,M,x,h=>by
  simp[fh] at *;split
  ·rename_i t ht;simp[ht] at h;rcases kM h with ⟨rfl,h⟩|⟨rfl,h⟩
   ·exact j5 hC a h
   ·exact j5 hC b h
  grind
 | .block id c,br,M,x,h=>by
  simp[fh] at *;obtain⟨o,ho,h⟩:=bn h;rw[j5 hC c ho]; grind
 | .loop _ c,br,M,x,h=>by
  obtain⟨n,hn⟩:=uw h;exact pY (fun n x=>uh _ n) (xp (fun br M x=>j5 hC c) _ n hn)
 | .lO _ c,br,M,x,h=>by
  obtain⟨n,hn⟩:=uw h;exact pY (fun n x=>uh _ n) (xp (fun br M x=>j5 hC c) _ n hn)
theorem uE(T:Bz):∀n,x5 (kP T n) (kP T (n+1))
 |0,f,a,M,x,h=>by
  grind [kP]
 |n+1,f,a,M,x,h=>by
  rw[kP] at h ⊢;split
  ·grind
  ·rename_i hg;simp[hg] at h;split
   ·grind
   ·rename_i fn hf;simp only[hf] at h;split
    ·rename_i hl;rw[az hl] at h;obtain⟨o,ho,h⟩:=bn h;rw[j5 (uE T n) _ ho]
     grind
    grind
def tf(T:Bz){n m:Nat}(h:n<=m):x5 (kP T n) (kP T m):=by
 obtain⟨k,rfl⟩:=Nat.exists_eq_add_of_le h;induction k with
 |zero=>exact fun _ _ _ _ h=>h
 |succ k ih=>exact fun f a M x hx=>uE T _ f a M x (ih (by simp) f a M x hx)
theorem Jz(T:Bz){br:Env}{M:aK}{o:cK}{x:ag×aK}(h:pL (aq T) o br M=some x):∃n,pL (kP T n) o br M=some x:=by
 have key:∀y,dW (aq T) br M o.op=some y->∃n,dW (kP T n) br M o.op=some y:=by
  intro y hy;rcases Lc hy with h|⟨f,a,B,z,h1,h2⟩
  ·simp_all
  ·obtain⟨n,hn⟩:=uw h1
   grind
 rcases rB h with ⟨hn,hi,h1⟩|⟨hn,hg,h1⟩|⟨hn,hg,hp,h1⟩<;>obtain⟨n,h2⟩:=key _ h1
 ·grind [pL]
 ·grind [pL]
 grind [pL]
def vp(T:Bz):∀ {ops:List cK} {br:Env} {M:aK} {x:Out},gP (aq T) ops br M=some x->∃n,gP (kP T n) ops br M=some x
 | [],_,_,_,h=>⟨0,h⟩
 |o::r,br,M,x,h=>by
  rcases pB h with ⟨y,h1,h2,h3⟩|⟨t,want,h1,h2,h3⟩
  ·obtain⟨n,hn⟩:=Jz T h2;rcases h3 with ⟨h3,h4⟩|⟨v,h0,h3,rfl⟩
   ·obtain⟨m,hm⟩:=vp T h4;refine⟨max n m,?_⟩;rw[rA h1 (Cc (tf T (Nat.le_max_left n m)) hn),KO h3];exact sN (tf T (Nat.le_max_right n m)) hm
   ·exact⟨n,by rw[rA h1 hn]; exact Mn h0 h3⟩
  ·obtain⟨m,hm⟩:=vp T h3;exact⟨m,by rw[vK h1 h2]; exact hm⟩
def Ak(T:Bz){g:Nat->Nat->Nat}{live:List Nat}{c:cv}(hc:∀ {br:Env} {M:aK} {x:Out},fh (aq T) c br M=some x->∃n,fh (kP T n) c br M=some x){x:Out} :
  ∀k br M,iter g (fh (aq T) c) live k br M=some x->∃n,iter g (fh (kP T n) c) live k br M=some x
 |0,br,M,h=>by cases h
 |k+1,br,M,h=>by
  rw[iter] at h;obtain⟨a,ha,h⟩:=bn h;obtain⟨n,hn⟩:=hc ha;rcases tF h with ⟨h1,h2⟩|⟨h1,h2⟩
  ·obtain⟨m,hm⟩:=Ak T hc k _ _ h2;refine⟨max n m,?_⟩;rw[iter,j5 (tf T (Nat.le_max_left n m)) c hn,bZ,ue h1];exact xp (fun br M x=>j5 (tf T (Nat.le_max_right n m)) c) live k hm
  ·exact⟨n,by rw[iter,hn,bZ,ze h1,h2]⟩
def pf(T:Bz):∀(c:cv){br:Env}{M:aK}{x:Out},fh (aq T) c br M=some x->∃n,fh (kP T n) c br M=some x
 | .skip,_,_,_,h=>⟨0,h⟩
 | .exit _,_,_,_,h=>⟨0,h⟩
 | .ret,_,_,_,h=>⟨0,h⟩
 | .region ops d live,br,M,x,h=>by
  simp only[fh] at *;obtain⟨a,ha,h⟩:=bn h;obtain⟨n,hn⟩:=vp T ha;exact⟨n,by rw[hn]; exact h⟩
 | .seq a b,br,M,x,h=>by
  simp only[fh] at *;obtain⟨o,ho,h⟩:=bn h;obtain⟨n,hn⟩:=pf T a ho;rcases tF h with ⟨h1,h2⟩|⟨h1,h2⟩
  ·obtain⟨m,hm⟩:=pf T b h2;refine⟨max n m,?_⟩;rw[j5 (tf T (Nat.le_max_left n m)) a hn,bZ,ue h1];exact j5 (tf T (Nat.le_max_right n m)) b hm
  ·exact⟨n,by rw[hn,bZ,ze h1,h2]⟩
 | .cond c a b,br,M,x,h=>by
  simp only[fh] at *;split at h
  ·rename_i t ht;rcases kM h with ⟨rfl,h⟩|⟨rfl,h⟩
   ·obtain⟨n,hn⟩:=pf T a h; exact⟨n,hn⟩
   ·obtain⟨n,hn⟩:=pf T b h; exact⟨n,hn⟩
  ·cases h
 | .block id c,br,M,x,h=>by
  simp only[fh] at *;obtain⟨o,ho,h⟩:=bn h;obtain⟨n,hn⟩:=pf T c ho;exact⟨n,by rw[hn]; exact h⟩
 | .loop live c,br,M,x,h=>by
  simp only[fh] at *;obtain⟨k,hk⟩:=uw h;obtain⟨n,hn⟩:=Ak T (pf T c) k br M hk;exact⟨n,pY (fun n x=>uh live n) hn⟩
 | .lO live c,br,M,x,h=>by
  simp only[fh] at *;obtain⟨k,hk⟩:=uw h;obtain⟨n,hn⟩:=Ak T (pf T c) k br M hk;exact⟨n,pY (fun n x=>uh live n) hn⟩
def Ep(g:Nat->Nat->Nat)(C:eL)(live:List Nat)(c:cv)(br:Env)(M:aK) :
  lim (fun n=>iter g (fh C c) live n br M)=bI (fh C c (jr br live) M) fun o=>ur o fun e m=>lim fun n=>iter g (fh C c) live n (vL (g M.length m.length) m (jr e live)) (jO (g M.length m.length) m):=by
 apply Option.ext;intro x;constructor
 ·intro h;obtain⟨n,hn⟩:=uw h;cases n with
  |zero=>cases hn
  |succ n =>
   rw[iter] at hn;obtain⟨o,ho,hn⟩:=bn hn;rw[ho,bZ];exact xm (fun br M x hx=>pY (fun n x=>uh live n) hx) hn
 ·intro h;obtain⟨o,ho,h⟩:=bn h;rcases tF h with ⟨h1,h2⟩|⟨h1,h2⟩
  ·obtain⟨n,hn⟩:=uw h2;refine pY (F:=fun n=>iter g (fh C c) live n br M) (n:=n+1) (fun n x=>uh live n) ?_
   show iter g (fh C c) live (n+1) br M=some x
   rw[iter,ho,bZ,ue h1];exact hn
  ·refine pY (F:=fun n=>iter g (fh C c) live n br M) (n:=1) (fun n x=>uh live n) ?_
   show iter g (fh C c) live 1 br M=some x
   rw[iter,ho,bZ,ze h1,h2]
def Ju(C:eL)(live:List Nat)(c:cv)(br:Env)(M:aK) :
  fh C (.loop live c) br M=bI (fh C c (jr br live) M) fun o=>ur o fun e m=>fh C (.loop live c) (vL M.length m (jr e live)) (jO M.length m):=Ep gL C live c br M
def GW(C:eL)(live:List Nat)(c:cv)(br:Env)(M:aK) :
  fh C (.lO live c) br M=bI (fh C c (jr br live) M) fun o=>ur o fun e m=>fh C (.lO live c) (vL m.length m (jr e live)) (jO m.length m):=Ep gR C live c br M
def Js{T:Bz}{f:Nat}{fn:eP}{args:List ag}{M:aK}{x:ag×aK}(hp:T.sK f=none)(hc:T.code f=some fn)(hl:args.length=fn.nparams)
  (h:bI (fh (aq T) fn.body (jY 0 args) M) (finish fn.results M.length)=some x):aq T f args M=some x:=by
 obtain⟨o,hb,hf⟩:=bn h;obtain⟨n,hn⟩:=pf T fn.body hb;refine pY (n:=n+1) (fun n x h=>uE T n f args M x h) ?_
 rw[kP];simp only[hp,hc,az hl,hn,bZ];exact hf
def gy{T:Bz}{f:Nat}{g:List ag->aK->Option (ag×aK)}{args:List ag}{M:aK}{x:ag×aK}(hp:T.sK f=some g)(hg:g args M=some x):aq T f args M=some x:=by
 refine pY (n:=0) (fun n x h=>uE T n f args M x h) ?_
 rw[kP];simp only[hp,hg]
inductive K where
 |seq (c:cv)
 |block (id:Nat)
 |loop (live:List Nat) (n:Nat) (c:cv)
 |lO (live:List Nat) (c:cv)
noncomputable def kr(C:eL)(fn:List sr)(bM:Nat):List K->Out->Option (ag×aK)
 | [],o=>finish fn bM o
 | .seq c::k,o=>bI (ur o (fh C c)) (kr C fn bM k)
 | .block id::k,o=>kr C fn bM k (zm id o)
 | .loop live n c::k,o=>bI (ur o fun e m=>fh C (.loop live c) (vL n m (jr e live)) (jO n m)) (kr C fn bM k)
 | .lO live c::k,o=>bI (ur o fun e m=>fh C (.lO live c) (vL m.length m (jr e live)) (jO m.length m)) (kr C fn bM k)
noncomputable def fP(C:eL)(fn:List sr)(bM:Nat)(k:List K)(c:cv)(br:Env)(M:aK):Option (ag×aK):=bI (fh C c br M) (kr C fn bM k)
noncomputable def fi(C:eL)(fn:List sr)(bM:Nat)(k:List K)(live:List Nat)(ops:List cK)(br:Env)(M:aK):Option (ag×aK) :=
 bI (gP C ops br M) fun o=>kr C fn bM k (o.rb live)
noncomputable def kD(C:eL)(fn:List sr)(bM:Nat)(k:List K)(live:List Nat)(c:Bool)(dst:Option Nat)(r:List cK)(br:Env)(y:Option (ag×aK)):Option (ag×aK) :=
 bI y fun x=>bI (Om c x (gP C r (rk br dst x.1) x.2)) fun o=>kr C fn bM k (o.rb live)
noncomputable def gK(C:eL)(fn:List sr)(bM:Nat)(k:List K)(live:List Nat)(g:ag)(want:Bool)(o:cK)(r:List cK)(br:Env)(M:aK):Option (ag×aK) :=
 match g with
 | .bool b=>zk (b==want) (kD C fn bM k live o.lets o.dst r br (pL C o br M)) (fi C fn bM k live r (rk br o.dst (.tuple [])) M)
 | .tuple []=>fi C fn bM k live r (rk br o.dst (.tuple [])) M
 |_=>none
noncomputable def dp(C:eL)(fn:List sr)(bM:Nat)(k:List K)(v:ag)(x y:cv)(br:Env)(M:aK):Option (ag×aK) :=
 match v with
 | .bool t=>zk t (fP C fn bM k x br M) (fP C fn bM k y br M)
 |_=>none
def pt{α β γ:Type}(x:Option α)(f:α->Option β)(g:β->Option γ):bI (bI x f) g=bI x fun a=>bI (f a) g:=by cases x<;>rfl
section
variable (C:eL) (fn:List sr) (bM:Nat) (k:List K) (br:Env) (M:aK)
def PT:fP C fn bM k .skip br M=kr C fn bM k ⟨.normal,br,M⟩:=rfl
def PS(id:Nat):fP C fn bM k (.exit id) br M=kr C fn bM k ⟨.exit id,br,M⟩:=rfl
def Vl:fP C fn bM k .ret br M=kr C fn bM k ⟨.ret,br,M⟩:=rfl
def Vm(a b:cv):fP C fn bM k (.seq a b) br M=fP C fn bM (.seq b::k) a br M:=by
 unfold fP;rw[fh,pt];rfl
def Nq(id:Nat)(c:cv):fP C fn bM k (.block id c) br M=fP C fn bM (.block id::k) c br M:=by
 unfold fP;rw[fh,pt];rfl
def PR(c:gM)(x y:cv):fP C fn bM k (.cond c x y) br M=dp C fn bM k (c.ev br) x y br M:=by
 unfold fP dp;rw[fh];cases c.ev br<;>simp[fP]
def J2(ops:List cK)(d:Bool)(live:List Nat):fP C fn bM k (.region ops d live) br M=fi C fn bM k live ops br M:=by
 unfold fP fi;rw[fh,pt];rfl
def bX(live:List Nat)(c:cv):fP C fn bM k (.loop live c) br M=fP C fn bM (.loop live M.length c::k) c (jr br live) M:=by
 unfold fP;rw[Ju,pt];rfl
def D6(live:List Nat)(c:cv):fP C fn bM k (.lO live c) br M=fP C fn bM (.lO live c::k) c (jr br live) M:=by
 unfold fP;rw[GW,pt];rfl
def Sx(live:List Nat)(c:cv):kr C fn bM (.lO live c::k) ⟨.normal,br,M⟩=fP C fn bM k (.lO live c) (vL M.length M (jr br live)) (jO M.length M):=rfl
def DL(live:List Nat)(c:cv)(i:Nat):kr C fn bM (.lO live c::k) ⟨.exit i,br,M⟩=kr C fn bM k ⟨.exit i,br,M⟩:=rfl
def Gb(live:List Nat)(c:cv):kr C fn bM (.lO live c::k) ⟨.ret,br,M⟩=kr C fn bM k ⟨.ret,br,M⟩:=rfl
def TA(live:List Nat):fi C fn bM k live [] br M=kr C fn bM k ⟨.normal,jr br live,M⟩:=rfl
def Og(live:List Nat)(d:Option Nat)(op:kE)(g m:Bool)(s:List Nat)(st:Bool)(r:List cK) :
  fi C fn bM k live (⟨d,op,none,g,m,s,st⟩::r) br M=kD C fn bM k live (cK.lets ⟨d,op,none,g,m,s,st⟩) d r br (pL C ⟨d,op,none,g,m,s,st⟩ br M):=by
 unfold fi kD;rw[gP,pt]
def Oh(live:List Nat)(d:Option Nat)(op:kE)(t:Nat)(w g m:Bool)(s:List Nat)(st:Bool)(r:List cK) :
  fi C fn bM k live (⟨d,op,some (t,w),g,m,s,st⟩::r) br M=gK C fn bM k live (il br t) w ⟨d,op,some (t,w),g,m,s,st⟩ r br M:=by
 unfold fi gK;rw[gP];simp only;generalize il br t=v;split
 ·rw[N5,pt]; rfl
 ·rfl
 ·rename_i h1 h2
  first
   |rfl
   |(split
     ·rename_i b; exact absurd rfl (h1 b)
     ·exact absurd rfl h2
     ·rfl)
def Tc(live:List Nat)(c:Bool)(d:Option Nat)(r:List cK)(v:ag)(M':aK)(hv:v.jR=false):kD C fn bM k live c d r br (some (v,M'))=fi C fn bM k live r (rk br d v) M':=by
 unfold kD;rw[bZ,KO hv]; rfl
def WM(live:List Nat)(d:Option Nat)(r:List cK)(v:Value)(M':aK):kD C fn bM k live true d r br (some (.oy v,M'))=kr C fn bM k ⟨.oy v,[],M'⟩:=rfl
def NY(d g f:_)(a m s1 s:_):cK.lets ⟨d,.call f a,g,m,s1,s,true⟩=true:=rfl
def Ks(d g f:_)(a m s1 s:_):cK.lets ⟨d,.vN f a,g,m,s1,s,true⟩=true:=rfl
def Kq(d g f:_)(a m s1 s:_):cK.lets ⟨d,.A5 f a,g,m,s1,s,true⟩=true:=rfl
def Kr(d g f:_)(a m s1 s:_):cK.lets ⟨d,.lL f a,g,m,s1,s,true⟩=true:=rfl
def Kt(d g f:_)(m s1 s:_):cK.lets ⟨d,.raise f,g,m,s1,s,true⟩=true:=rfl
def agN(live:List Nat)(o:cK)(r:List cK):gK C fn bM k live (.bool true) true o r br M=kD C fn bM k live o.lets o.dst r br (pL C o br M):=rfl
def agK(live:List Nat)(o:cK)(r:List cK):gK C fn bM k live (.bool false) false o r br M=kD C fn bM k live o.lets o.dst r br (pL C o br M):=rfl
def agM(live:List Nat)(o:cK)(r:List cK):gK C fn bM k live (.bool true) false o r br M=fi C fn bM k live r (rk br o.dst (.tuple [])) M:=rfl
def agL(live:List Nat)(o:cK)(r:List cK):gK C fn bM k live (.bool false) true o r br M=fi C fn bM k live r (rk br o.dst (.tuple [])) M:=rfl
def agO(live:List Nat)(w:Bool)(o:cK)(r:List cK):gK C fn bM k live (.tuple []) w o r br M=fi C fn bM k live r (rk br o.dst (.tuple [])) M:=rfl
def Vr(x y:cv):dp C fn bM k (.bool true) x y br M=fP C fn bM k x br M:=rfl
def Vq(x y:cv):dp C fn bM k (.bool false) x y br M=fP C fn bM k y br M:=rfl
def acw(c:cv):kr C fn bM (.seq c::k) ⟨.normal,br,M⟩=fP C fn bM k c br M:=rfl
def HS(c:cv)(i:Nat):kr C fn bM (.seq c::k) ⟨.exit i,br,M⟩=kr C fn bM k ⟨.exit i,br,M⟩:=rfl
def Kh(c:cv):kr C fn bM (.seq c::k) ⟨.ret,br,M⟩=kr C fn bM k ⟨.ret,br,M⟩:=rfl
def Kg(c:cv)(v:Value):kr C fn bM (.seq c::k) ⟨.oy v,br,M⟩=kr C fn bM k ⟨.oy v,br,M⟩:=rfl
def F9(id:Nat)(v:Value):kr C fn bM (.block id::k) ⟨.oy v,br,M⟩=kr C fn bM k ⟨.oy v,br,M⟩:=rfl
def HQ(live:List Nat)(n:Nat)(c:cv)(v:Value):kr C fn bM (.loop live n c::k) ⟨.oy v,br,M⟩=kr C fn bM k ⟨.oy v,br,M⟩:=rfl
def Sw(id:Nat):kr C fn bM (.block id::k) ⟨.normal,br,M⟩=kr C fn bM k ⟨.normal,br,M⟩:=rfl
def DK(id i:Nat):kr C fn bM (.block id::k) ⟨.exit i,br,M⟩=if i=id then kr C fn bM k ⟨.normal,br,M⟩ else kr C fn bM k ⟨.exit i,br,M⟩:=by
 rw[kr]; simp only[zm]; split<;>rfl
def Ga(id:Nat):kr C fn bM (.block id::k) ⟨.ret,br,M⟩=kr C fn bM k ⟨.ret,br,M⟩:=rfl
def VK(live:List Nat)(n:Nat)(c:cv):kr C fn bM (.loop live n c::k) ⟨.normal,br,M⟩=fP C fn bM k (.loop live c) (vL n M (jr br live)) (jO n M):=rfl
def Gc(live:List Nat)(n:Nat)(c:cv)(i:Nat):kr C fn bM (.loop live n c::k) ⟨.exit i,br,M⟩=kr C fn bM k ⟨.exit i,br,M⟩:=rfl
def HR(live:List Nat)(n:Nat)(c:cv):kr C fn bM (.loop live n c::k) ⟨.ret,br,M⟩=kr C fn bM k ⟨.ret,br,M⟩:=rfl
def acv(o:Out):kr C fn bM [] o=finish fn bM o:=rfl
end
def gY{q body:cv}(h:q=body)(C:eL)(fn:List sr)(bM:Nat)(k:List K)(br:Env)(M:aK):fP C fn bM k q br M=fP C fn bM k body br M:=by rw[h]
def aI{T:Bz}{f:Nat}{fn:eP}{args:List ag}{M:aK}{x:ag×aK}(h:fP (aq T) fn.results M.length [] fn.body (jY 0 args) M=some x)
  (hp:T.sK f=none:=by exact rfl) (hc:T.code f=some fn:=by exact rfl) (hl:args.length=fn.nparams:=by exact rfl):aq T f args M=some x :=
 Js hp hc hl (by
  unfold fP at h;obtain⟨o,h1,h2⟩:=bn h;rw[h1]; exact h2)
end
section
open Go Go.RowKit
def bs(s:List UInt8):ByteArray:=⟨s.toArray⟩
structure J where
 f:Nat->Option Nat
 X:Nat->Nat->Prop
instance:CoeFun J (fun _=>Nat->Option Nat):=⟨J.f⟩
structure nR(j:J)(M:aK)(w:World)(b off:Nat):Prop where
 lt:b<w.heap.size
 ids:∀id,id<M.length->j id=some b->∃sz n,M[id]?=some (.tick sz n)/\off<n*sz
 nx:¬j.X b off
inductive fF(w:World)(gX:Nat->Nat->Prop):ag->Value->Prop where
 |bool (b:Bool):fF w gX (.bool b) (.bool b)
 |int (k:IntKind) (n:Int):fF w gX (.int k n) (.int k n)
 |str (s:List UInt8):fF w gX (.str s) (.string (bs s))
 |raw (v:Value) (h1:v.oneCell'=true):fF w gX (.raw v) v
 |slice (xs:List ag) (A:Option Addr) (len cap b off sz:Nat) (vs:Nat->Value) (hl:len=xs.length) (hc:len<=cap)
   (ha:xs≠[]->A=some ⟨b,off,none⟩) (hz:∀x,x∈xs->x.cells.length=sz)
   (hs:∀(i:Nat)(x:ag)(k:Nat)(c:ag),xs[i]?=some x->x.cells[k]?=some c->w.cell? ⟨b,off+(i*sz+k),none⟩=some (vs (i*sz+k))/\gX b (off+(i*sz+k)))
   (hr:∀(i:Nat)(x:ag)(k:Nat)(c:ag),xs[i]?=some x->x.cells[k]?=some c->fF w gX c (vs (i*sz+k))):fF w gX (.slice .sh xs) (.slice A len cap)
def Pc(j:J)(w:World)(k n t:Nat)(x:Bool)(v:Value):Prop :=
 (j k=none/\n=0/\∃A,v = .slice A 0 0/\(x=true->A=none)) \/
 ∃b cap vs,0<n/\j k=some b/\v = .slice (some ⟨b,0,none⟩) n cap/\w.heap[b]?=some (.cells vs t (0,0))/\cap<=vs.size/\n<=cap
def GP(j:J)(w:World)(k sz n:Nat)(v:Value):Prop :=
 (j k=none/\n=0/\∃A,v = .slice A 0 0) \/
 ∃b cap vs t,j k=some b/\v = .slice (some ⟨b,0,none⟩) n cap/\w.heap[b]?=some (.cells vs t (0,0))/\cap*sz<=vs.size/\n<=cap
def Bx(w:World)(gX:Nat->Nat->Prop)(x:ag)(v:Value):Prop :=
 match x with
 | .agg cs=>∃us:Array Value,v = .agg us/\cs.length=us.size/\∀(i:Nat)(c:ag)(u:Value),cs[i]?=some c->us[i]?=some u->fF w gX c u
 |x=>fF w gX x v
inductive fV(j:J)(M:aK)(w:World):ag->Value->Prop where
 |plain {x:ag} {v:Value} (h:fF w (nR j M w) x v):fV j M w x v
 |c0 (A:Option Addr):fV j M w (.slice .c0 []) (.slice A 0 0)
 |own {k:Nat} {xs:List ag} {v:Value} {sz n:Nat} (hk:M[k]?=some (.tick sz n)) (hn:xs.length<=n) (h:fF w (nR j M w) (.slice .sh xs) v)
   (ht:xs.length=n->GP j w k sz n v):fV j M w (.slice (.own k) xs) v
 |agg {cs:List ag} {vs:Array Value} (hl:cs.length=vs.size) (h:∀(i:Nat)(c:ag)(v:Value),cs[i]?=some c->vs[i]?=some v->fV j M w c v):fV j M w (.agg cs) (.agg vs)
 |tuple {cs:List ag} {vs:Array Value} (hl:cs.length=vs.size) (h:∀(i:Nat)(c:ag)(v:Value),cs[i]?=some c->vs[i]?=some v->fV j M w c v):fV j M w (.tuple cs) (.tuple vs)
 |ptr {id off b:Nat} (hid:id<M.length) (hc:∃cs,M[id]?=some (.cells cs)) (hj:j id=some b):fV j M w (.ptr id off) (.pointer (some ⟨b,off,none⟩))
 |jd {cs:List ag} {b off:Nat} {vs:Nat->Value} (h:∀(k:Nat)(c:ag),cs[k]?=some c->w.cell? ⟨b,off+k,none⟩=some (vs k)/\nR j M w b (off+k)/\fF w (nR j M w) c (vs k)) :
   fV j M w (.jd cs) (.pointer (some ⟨b,off,none⟩))
 |func {f:Nat} {caps:List ag} {vs:Array Value} (hl:caps.length=vs.size) (h:∀(i:Nat)(c:ag)(v:Value),caps[i]?=some c->vs[i]?=some v->fV j M w c v) :
   fV j M w (.func f caps) (.func (.func f) #[] vs)
 |gD {id b:Nat} (hc:∃ks vs,M[id]?=some (.map ks vs)) (hj:j id=some b):fV j M w (.gD id) (.map (some b))
 |jx {id b:Nat} (hc:∃s p,M[id]?=some (.nB s p)) (hj:j id=some b):fV j M w (.jx id) (.pointer (some ⟨b,0,none⟩))
 |iB {ks vs:List ag} {b:Nat} {es:Array MapEntry} {clock:Nat} (hb:b<w.heap.size) (hf:∀i,i<M.length->j i≠some b) (hx:∀off,¬j.X b off) (hw:w.heap[b]?=some (.map es clock)) (hk:ks.length=es.size) (hv:vs.length=es.size)
   (hks:∀(i:Nat)(k:ag)(e:MapEntry),ks[i]?=some k->es[i]?=some e->fF w (nR j M w) k e.key) (hvs:∀(i:Nat)(v:ag)(e:MapEntry),vs[i]?=some v->es[i]?=some e->Bx w (nR j M w) v e.val) :
   fV j M w (.iB ks vs) (.map (some b))
 |dg {id ver sz lo hi:Nat} {v:Value} (h0:(∃b off c,v = .slice (some ⟨b,off,none⟩) (hi-lo) c/\hi-lo<=c)\/hi-lo=0/\∃A,v = .slice A 0 0) (hid:id<M.length) (hM:∀bx,M[id]?=some bx->bx.loose=true)
   (hv:∀sz' v' xs,M[id]?=some (.arr sz' v' xs)->ver<=v'/\(v'=ver->sz'=sz/\lo<=hi/\hi<=xs.length/\((xs=[]/\j id=none/\∃A,v = .slice A 0 0)\/∃b cap vs t,j id=some b/\v = .slice (some ⟨b,lo*sz,none⟩) (hi-lo) cap/\hi-lo<=cap/\w.heap[b]?=some (.cells vs t (0,0))/\(lo+cap)*sz<=vs.size))) :
   fV j M w (.dg id ver sz lo hi) v
 |im {id ver i off:Nat} {v:Value} (h0:∃b o,v = .pointer (some ⟨b,o,none⟩)) (hid:id<M.length) (hM:∀bx,M[id]?=some bx->bx.loose=true)
   (hv:∀sz v' xs,M[id]?=some (.arr sz v' xs)->ver<=v'/\(v'=ver->i<xs.length/\∃b,j id=some b/\v = .pointer (some ⟨b,i*sz+off,none⟩))) :
   fV j M w (.im id ver i off) v
 |rZ {f:Nat} {fs:List ag} {vs:Array Value} (hl:fs.length=vs.size) (h:∀(i:Nat)(c:ag)(v:Value),fs[i]?=some c->vs[i]?=some v->Bx w (nR j M w) c v):fV j M w (.rZ f fs) (.func (.func f) vs #[])
 |jL {t id off b:Nat} (hc:∃cs,M[id]?=some (.cells cs)) (hj:j id=some b):fV j M w (.jL t id off) (.iface t (.pointer (some ⟨b,off,none⟩)))
 |any (v:Value):fV j M w .any v
def RC(j:J)(M:aK)(w:World)(cs:List ag)(vs:Array Value):Prop :=
 cs.length=vs.size/\∀(i:Nat)(c:ag)(v:Value),cs[i]?=some c->vs[i]?=some v->fV j M w c v
def Holds(j:J)(M:aK)(w:World)(b:Nat):cA->Prop
 | .cells cs=>∃vs t,w.heap[b]?=some (.cells vs t (0,0))/\RC j M w cs vs
 | .tick _ _=>True
 | .map ks vs=>∃es clock,w.heap[b]?=some (.map es clock)/\ks.length=es.size/\vs.length=es.size/\(∀(i:Nat)(k:ag)(e:MapEntry),ks[i]?=some k->es[i]?=some e->fF w (nR j M w) k e.key) /\
   ∀(i:Nat)(v:ag)(e:MapEntry),vs[i]?=some v->es[i]?=some e->fV j M w v e.val
 | .nB s pos=>w.heap[b]?=some (.stringIter (bs s) pos)
 | .arr _ _ _=>True
 | .vm=>True
structure Rel(j:J)(M:aK)(w:World):Prop where
 inj:∀i i' b,i<M.length->i'<M.length->j i=some b->j i'=some b->i=i'
 lt:∀i b,i<M.length->j i=some b->b<w.heap.size
 fix:∀i bx,M[i]?=some bx->bx.fixed=true->∃b,j i=some b/\Holds j M w b bx
 tick:∀i sz n b,M[i]?=some (.tick sz n)->j i=some b->∃vs t,w.heap[b]?=some (.cells vs t (0,0))
 arr:∀i sz ver xs,M[i]?=some (.arr sz ver xs)->(xs=[]/\j i=none)\/∃b vs t,j i=some b/\w.heap[b]?=some (.cells vs t (0,0))/\xs.length*sz<=vs.size/\(∀x,x∈xs->x.cells.length=sz) /\
  ∀(q:Nat)(x:ag)(k:Nat)(c:ag),xs[q]?=some x->x.cells[k]?=some c->∃v,vs[q*sz+k]?=some v/\fF w (nR j M w) c v
 uC:∀i b,i<M.length->j i=some b->∀off,¬j.X b off
 zG:∀b off,j.X b off->b<w.heap.size
def Rel.box{j:J}{M:aK}{w:World}(h:Rel j M w)(i:Nat)(cs:List ag)(hi:M[i]?=some (.cells cs)):∃b vs t,j i=some b/\w.heap[b]?=some (.cells vs t (0,0))/\cs.length=vs.size /\
  ∀(q:Nat)(c:ag)(v:Value),cs[q]?=some c->vs[q]?=some v->fV j M w c v:=by
 obtain⟨b,h1,vs,t,h2,h3⟩:=h.fix i _ hi rfl;exact⟨b,vs,t,h1,h2,h3.1,h3.2⟩
structure Ext(j:J)(M:aK)(w:World)(j':J)(M':aK)(w':World):Prop where
 len:M.length<=M'.length
 size:w.heap.size<=w'.heap.size
 os:w'.os=w.os
 tape:w'.tape=w.tape
 output:w'.output=w.output
 X:j'.X=j.X
 fix:∀i bx,M[i]?=some bx->bx.fixed=true->j' i=j i/\∃bx',M'[i]?=some bx'/\bx'.tag=bx.tag
 tick:∀i sz n,M[i]?=some (.tick sz n)->∃n',n<=n'/\M'[i]?=some (.tick sz n') /\
  (n'=n->j' i=j i/\∀b vs t,j i=some b->w.heap[b]?=some (.cells vs t (0,0))->∃vs',w'.heap[b]?=some (.cells vs' t (0,0))/\vs'.size=vs.size)
 arr:∀i sz ver xs,M[i]?=some (.arr sz ver xs)->(∃n',M'[i]?=some (.tick sz n'))\/∃ver' xs',M'[i]?=some (.arr sz ver' xs')/\ver<=ver' /\
  (ver'=ver->j' i=j i/\xs'.length=xs.length/\∀b vs t,j i=some b->w.heap[b]?=some (.cells vs t (0,0))->∃vs',w'.heap[b]?=some (.cells vs' t (0,0))/\vs'.size=vs.size)
 tags:∀(b:Nat)(vs:Array Value)(t:TypeId)(fr:Nat×Nat),w.heap[b]?=some (.cells vs t fr)->∃vs' fr',w'.heap[b]?=some (.cells vs' t fr')/\vs'.size=vs.size
 gX:∀b off,nR j M w b off->nR j' M' w' b off/\w'.cell? ⟨b,off,none⟩=w.cell? ⟨b,off,none⟩
 uk:∀b,b<w.heap.size->(∀i,i<M.length->j i≠some b)->w'.heap[b]?=w.heap[b]?/\∀i,i<M'.length->j' i≠some b
def AU{a b:cA}(h:b.tag=a.tag)(ha:a.fixed=true):b.fixed=true:=by
 cases a<;>cases b<;>simp[cA.tag,cA.fixed] at * <;> omega
def Ff{b:cA}(h:b.tag=0):∃cs,b = .cells cs:=by cases b<;>simp[cA.tag] at h; simp
def Xk{b:cA}(h:b.tag=1):∃ks vs,b = .map ks vs:=by cases b<;>simp[cA.tag] at h; simp
def OA{b:cA}(h:b.tag=2):∃s p,b = .nB s p:=by cases b<;>simp[cA.tag] at h; simp
theorem fF.mono{w w':World}{gX saf':Nat->Nat->Prop}(h:∀b off,gX b off->saf' b off/\w'.cell? ⟨b,off,none⟩=w.cell? ⟨b,off,none⟩)
  {x:ag} {v:Value} (hr:fF w gX x v):fF w' saf' x v:=by
 induction hr with
 |bool b=>simp[bool]
 |int k n=>exact .int k n
 |str s=>exact .str s
 |raw v h1=>exact .raw v h1
 |slice xs A len cap b off sz vs hl hc ha hz hs _ ih =>
  refine .slice _ A _ _ b _ _ _ hl hc ha hz (fun i x k c hx hk=>?_) ih
  grind
def Bx.mono{w w':World}{gX saf':Nat->Nat->Prop}(h:∀b off,gX b off->saf' b off/\w'.cell? ⟨b,off,none⟩=w.cell? ⟨b,off,none⟩)
  {x:ag} {v:Value} (hr:Bx w gX x v):Bx w' saf' x v:=by
 by_cases hag:∃cs,x = .agg cs
 ·obtain⟨cs,rfl⟩:=hag;obtain⟨us,h1,h2,h3⟩:=hr;exact⟨us,h1,h2,fun i c u hc hu=>(h3 i c u hc hu).mono h⟩
 ·cases x<;>first|exact absurd ⟨_,rfl⟩ hag|exact fF.mono h hr
section
variable {j j' j'':J} {M M' M'':aK} {w w' w'':World}
def Pc.mono{k n t:Nat}{x:Bool}{v:Value}(h:Pc j w k n t x v)(hj:j' k=j k)
  (hb:∀b vs t,j k=some b->w.heap[b]?=some (.cells vs t (0,0))->∃vs',w'.heap[b]?=some (.cells vs' t (0,0))/\vs'.size=vs.size):Pc j' w' k n t x v:=by
 rcases h with ⟨h1,h2,h3⟩|⟨b,cap,vs,h0,h1,h2,h3,h4,h5⟩
 ·exact .inl ⟨hj.trans h1,h2,h3⟩
 ·obtain⟨vs',h6,h7⟩:=hb b _ t h1 h3;exact .inr ⟨b,cap,vs',h0,hj.trans h1,h2,h6,by omega,h5⟩
def GP.mono{k sz n:Nat}{v:Value}(h:GP j w k sz n v)(hj:j' k=j k)
  (hb:∀b vs t,j k=some b->w.heap[b]?=some (.cells vs t (0,0))->∃vs',w'.heap[b]?=some (.cells vs' t (0,0))/\vs'.size=vs.size):GP j' w' k sz n v:=by
 rcases h with ⟨h1,h2,h3⟩|⟨b,cap,vs,t,h1,h2,h3,h4,h5⟩
 ·exact .inl ⟨hj.trans h1,h2,h3⟩
 ·obtain⟨vs',h6,h7⟩:=hb b _ t h1 h3;exact .inr ⟨b,cap,vs',t,hj.trans h1,h2,h6,by omega,h5⟩
theorem Ext.loose(hx:Ext j M w j' M' w'){id:Nat}(hid:id<M.length)(hM:∀bx,M[id]?=some bx->bx.loose=true):(∀bx,M'[id]?=some bx->bx.loose=true) /\
  ∀sz v' xs,M'[id]?=some (.arr sz v' xs)->∃v0 xs0,M[id]?=some (.arr sz v0 xs0)/\v0<=v' /\
   (v'=v0->j' id=j id/\xs.length=xs0.length/\∀b vs t,j id=some b->w.heap[b]?=some (.cells vs t (0,0))->∃vs',w'.heap[b]?=some (.cells vs' t (0,0))/\vs'.size=vs.size):=by
 have h0:=aj hid;have hf:=hM _ h0;generalize M[id]=bx at h0 hf;cases bx with
 |cells=>cases hf
 |map=>cases hf
 |nB=>cases hf
 |vm=>cases hf
 |tick sz n =>
  obtain⟨n',h1,h2,h3⟩:=hx.tick _ _ _ h0;refine⟨fun bx hb=>?_,fun sz v' xs h=>?_⟩
  ·rw[h2] at hb; cases hb; rfl
  grind
 |arr sz v xs =>
  rcases hx.arr _ _ _ _ h0 with ⟨n',h2⟩|⟨v1,xs1,h2,h3,h4⟩
  ·refine⟨fun bx hb=>?_,fun sz v' xs h=>?_⟩
   ·rw[h2] at hb; cases hb; rfl
   grind
  ·refine⟨fun bx hb=>?_,fun sz' v' xs' h=>?_⟩
   ·rw[h2] at hb; cases hb; rfl
   grind
theorem fV.mono(hx:Ext j M w j' M' w'){x:ag}{v:Value}(hr:fV j M w x v):fV j' M' w' x v:=by
 induction hr with
 |plain h=>exact .plain (h.mono hx.gX)
 |c0 A=>exact .c0 A
 |own hk hn h ht =>
  obtain⟨n',h1,h2,h3⟩:=hx.tick _ _ _ hk;refine .own h2 (by omega) (h.mono hx.gX) (fun he=>?_)
  have:n'=_:=Nat.le_antisymm (by omega) h1
  obtain⟨h4,h5⟩:=h3 this;subst this;exact(ht he).mono h4 h5
 |agg hl _ ih=>exact .agg hl ih
 |tuple hl _ ih=>exact .tuple hl ih
 |ptr hid hc hj =>
  obtain⟨cs,hc⟩:=hc;obtain⟨h1,bx,h2,h3⟩:=hx.fix _ _ hc rfl;obtain⟨cs',rfl⟩:=Ff h3;exact .ptr (bp hid hx.len) ⟨_,h2⟩ (h1.trans hj)
 | @jd cs b off vs h =>
  refine .jd (vs:=vs) fun k c hk=>?_
  obtain⟨h1,h2,h3⟩:=h k c hk;obtain⟨h4,h5⟩:=hx.gX _ _ h2;exact⟨h5.trans h1,h4,h3.mono hx.gX⟩
 |func hl _ ih=>exact .func hl ih
 |gD hc hj =>
  obtain⟨ks,vs,hc⟩:=hc;obtain⟨h1,bx,h2,h3⟩:=hx.fix _ _ hc rfl;obtain⟨ks',vs',rfl⟩:=Xk h3;exact .gD ⟨_,_,h2⟩ (h1.trans hj)
 |jx hc hj =>
  obtain⟨ks,vs,hc⟩:=hc;obtain⟨h1,bx,h2,h3⟩:=hx.fix _ _ hc rfl;obtain⟨ks',vs',rfl⟩:=OA h3;exact .jx ⟨_,_,h2⟩ (h1.trans hj)
 |iB hb hf hxx hw hk hv hks hvs =>
  obtain⟨h1,h2⟩:=hx.uk _ hb hf;exact .iB (bp hb hx.size) h2 (by rw[hx.X]; omega) (h1.trans hw) hk hv (fun i k e h1 h2=>(hks i k e h1 h2).mono hx.gX) (fun i k e h1 h2=>(hvs i k e h1 h2).mono hx.gX)
 |dg hs hid hM hv =>
  obtain⟨g1,g2⟩:=hx.loose hid hM;refine .dg hs (bp hid hx.len) g1 fun sz v' xs h=>?_
  obtain⟨v0,xs0,h0,h1,h2⟩:=g2 sz v' xs h;obtain⟨h3,h4⟩:=hv sz v0 xs0 h0;refine⟨by omega,fun he=>?_⟩
  obtain⟨h5,h6,h7⟩:=h2 (by omega)
  obtain⟨l0,l1,l2,⟨rfl,l3,l4⟩|⟨b,cap,vs,t,l3,l4,l5,l6,l7⟩⟩:=h4 (by omega)
  ·exact⟨l0,l1,by omega,.inl ⟨cm (by omega),h5.trans l3,l4⟩⟩
  obtain⟨vs',l8,l9⟩:=h7 b vs t l3 l6;exact⟨l0,l1,by omega,.inr ⟨b,cap,vs',t,h5.trans l3,l4,l5,l8,by omega⟩⟩
 |im hs hid hM hv =>
  obtain⟨g1,g2⟩:=hx.loose hid hM;refine .im hs (bp hid hx.len) g1 fun sz v' xs h=>?_
  grind
 |rZ hl h=>exact .rZ hl fun i c v hc hv=>(h i c v hc hv).mono hx.gX
 |jL hc hj =>
  obtain⟨cs,hc⟩:=hc;obtain⟨h1,bx,h2,h3⟩:=hx.fix _ _ hc rfl;obtain⟨cs',rfl⟩:=Ff h3;exact .jL ⟨_,h2⟩ (h1.trans hj)
 |any v=>exact .any v
def Holds.mono{b:Nat}{bx:cA}(hx:Ext j M w j' M' w')(hb:w'.heap[b]?=w.heap[b]?)(h:Holds j M w b bx):Holds j' M' w' b bx:=by
 cases bx with
 |cells cs =>
  obtain⟨vs,t,h1,h2,h3⟩:=h;exact⟨vs,t,hb.trans h1,h2,fun i c v hc hv=>(h3 i c v hc hv).mono hx⟩
 |tick=>trivial
 |map ks vs =>
  obtain⟨es,clock,h1,h2,h3,h4,h5⟩:=h;exact⟨es,clock,hb.trans h1,h2,h3,fun i k e hk he=>(h4 i k e hk he).mono hx.gX,fun i k e hk he=>(h5 i k e hk he).mono hx⟩
 |nB s pos=>exact hb.trans h
 |arr=>trivial
 |vm=>trivial
theorem Holds.lt{b:Nat}{bx:cA}(h:Holds j M w b bx)(hf:bx.fixed=true):∃o,w.heap[b]?=some o:=by
 cases bx with
 |cells cs=>obtain⟨vs,t,h1,_⟩:=h; grind
 |tick=>cases hf
 |map ks vs=>obtain⟨es,clock,h1,_⟩:=h; grind
 |nB s pos=>exact⟨_,h⟩
 |arr=>cases hf
 |vm=>cases hf
def Ext.refl(j:J)(M:aK)(w:World):Ext j M w j M w where
 len:=ar _
 size:=ar _
 os:=rfl
 tape:=rfl
 output:=rfl
 X:=rfl
 fix:=fun i bx h _=>⟨rfl,bx,h,rfl⟩
 tick:=fun i sz n h=>⟨n,ar _,h,fun _=>⟨rfl,fun b vs t _ h=>⟨vs,h,rfl⟩⟩⟩
 arr:=fun i sz v xs h => .inr ⟨v,xs,h,ar _,fun _=>⟨rfl,rfl,fun b vs t _ h=>⟨vs,h,rfl⟩⟩⟩
 tags:=fun b vs t fr h=>⟨vs,fr,h,rfl⟩
 gX:=fun b off h=>⟨h,rfl⟩
 uk:=fun b hb h=>⟨rfl,h⟩
theorem Ext.trans(h:Ext j M w j' M' w')(k:Ext j' M' w' j'' M'' w''):Ext j M w j'' M'' w'' where
 len:=bh h.len k.len
 size:=bh h.size k.size
 os:=k.os.trans h.os
 tape:=k.tape.trans h.tape
 output:=k.output.trans h.output
 X:=k.X.trans h.X
 fix:=fun i bx hi hf=>by
  obtain⟨h1,bx',h2,h3⟩:=h.fix i bx hi hf;have hf':bx'.fixed=true:=AU h3 hf;obtain⟨h4,bx'',h5,h6⟩:=k.fix i bx' h2 hf'
  grind
 tick:=fun i sz n hi=>by
  obtain⟨n1,a1,a2,a3⟩:=h.tick i sz n hi;obtain⟨n2,b1,b2,b3⟩:=k.tick i sz n1 a2
  grind
 arr:=fun i sz v xs hi=>by
  rcases h.arr i sz v xs hi with ⟨n1,a1⟩|⟨v1,xs1,a1,a2,a3⟩
  ·obtain⟨n2,_,b2,_⟩:=k.tick i sz n1 a1
   grind
  ·rcases k.arr i sz v1 xs1 a1 with ⟨n2,b1⟩|⟨v2,xs2,b1,b2,b3⟩
   ·grind
   grind
 tags:=fun b vs t fr hb=>by
  obtain⟨vs1,fr1,h1,h2⟩:=h.tags b vs t fr hb;obtain⟨vs2,fr2,h3,h4⟩:=k.tags b vs1 t fr1 h1
  grind
 gX:=fun b off hs=>by
  obtain⟨h1,h2⟩:=h.gX b off hs;obtain⟨h3,h4⟩:=k.gX b off h1
  grind
 uk:=fun b hb hn=>by
  obtain⟨h1,h2⟩:=h.uk b hb hn;obtain⟨h3,h4⟩:=k.uk b (bp hb h.size) h2
  grind
theorem Ext.grow(hsz:w.heap.size<=w'.heap.size)(hos:w'.os=w.os)(ht:w'.tape=w.tape)(ho:w'.output=w.output)
  (hb:∀b,b<w.heap.size->w'.heap[b]?=w.heap[b]?):Ext j M w j M w' where
 len:=ar _
 size:=hsz
 os:=hos
 tape:=ht
 output:=ho
 X:=rfl
 fix:=fun i bx h _=>⟨rfl,bx,h,rfl⟩
 tick:=fun i sz n h=>⟨n,ar _,h,fun _=>⟨rfl,fun b vs t _ hv=>by
  grind⟩⟩
 arr:=fun i sz v xs h => .inr ⟨v,xs,h,ar _,fun _=>⟨rfl,rfl,fun b vs t _ hv=>by
  grind⟩⟩
 tags:=fun b vs t fr h=>by
  grind
 gX:=fun b off h=>⟨⟨bp h.1 hsz,h.2,h.3⟩,World.cell?_of_block (hb b h.1)⟩
 uk:=fun b cr h=>⟨hb b cr,h⟩
theorem Rel.grow(hr:Rel j M w)(hsz:w.heap.size<=w'.heap.size)(hos:w'.os=w.os)(ht:w'.tape=w.tape)(ho:w'.output=w.output)
  (hb:∀b,b<w.heap.size->w'.heap[b]?=w.heap[b]?):Rel j M w' where
 inj:=hr.inj
 lt:=fun i b hi h=>bp (hr.lt i b hi h) hsz
 fix:=fun i bx h hf=>by
  obtain⟨b,h1,h2⟩:=hr.fix i _ h hf;have hi  := (aC.1 h).1;exact⟨b,h1,h2.mono (Ext.grow hsz hos ht ho hb) (hb b (hr.lt i b hi h1))⟩
 tick:=fun i sz n b h hj=>by
  obtain⟨vs,t,h1⟩:=hr.tick i _ n b h hj
  grind
 arr:=fun i sz v xs h=>by
  rcases hr.arr i _ v _ h with he|⟨b,vs,t,h1,h2,h3,h4,h5⟩
  ·exact .inl he
  have hi  := (aC.1 h).1;refine .inr ⟨b,vs,t,h1,(hb b (hr.lt i b hi h1)).trans h2,h3,h4,fun q x k c hx hk=>?_⟩
  obtain⟨u,h6,h7⟩:=h5 q x k c hx hk;exact⟨u,h6,h7.mono (Ext.grow hsz hos ht ho hb).gX⟩
 uC:=hr.uC
 zG:=fun b off h=>bp (hr.zG b _ h) hsz
end
class kd where
 g:Nat->Option (List Value)
 q:Nat->Option (Value->Prop):=fun _=>none
 u8:Nat:=0
structure su[kd](j:J)(M:aK)(w:World):Prop where
 g:∀b vs k v,kd.g b=some vs->vs[k]?=some v->nR j M w b k/\w.cell? ⟨b,k,none⟩=some v
 n:∀b vs,kd.g b=some vs->∃us t fr,w.heap[b]?=some (.cells us t fr)/\us.size=vs.length
 q:∀b p,kd.q b=some p->∃v,p v/\nR j M w b 0/\w.cell? ⟨b,0,none⟩=some v
theorem su.gX[kd]{j j':J}{M M':aK}{w:World}(h:su j M w)(hx:∀b off,nR j M w b off->nR j' M' w b off):su j' M' w where
 g:=fun b vs k v hb hk=>⟨hx _ _ (h.g b _ k v hb hk).1,(h.g b _ k v hb hk).2⟩
 n:=h.n
 q:=fun b p hb=>by
  obtain⟨v,h0,h1,h2⟩:=h.q b p hb
  grind
theorem su.mono[kd]{j j':J}{M M':aK}{w w':World}(h:su j M w)(hx:Ext j M w j' M' w'):su j' M' w' where
 g:=fun b vs k v hb hk=>by
  obtain⟨h1,h2⟩:=h.g b _ k v hb hk;obtain⟨h3,h4⟩:=hx.gX _ _ h1
  grind
 n:=fun b vs hb=>by
  obtain⟨us,t,fr,h1,h2⟩:=h.n b _ hb;obtain⟨us',fr',h3,h4⟩:=hx.tags b _ t _ h1
  grind
 q:=fun b p hb=>by
  obtain⟨v,h0,h1,h2⟩:=h.q b p hb;obtain⟨h3,h4⟩:=hx.gX _ _ h1
  grind
variable [kd]
structure cu(j:J)(M:aK)(w:World)(br:Env)(a:Act):Prop where
 at':∀t,fV j M w (il br t) (a.tmps.getD t undef)
 gl:su j M w
def cu.mono{j j':J}{M M':aK}{w w':World}{br:Env}{a:Act}(h:cu j M w br a)(hx:Ext j M w j' M' w'):cu j' M' w' br a :=
 ⟨fun t=>(h.at' t).mono hx,h.gl.mono hx⟩
def cu.put{j:J}{M:aK}{w:World}{br:Env}{a:Act}{n:Nat}(h:cu j M w br a)(hs:a.tmps.size=n){dst:Option Nat}(hd:∀d,dst=some d->d<n)
  {x:ag} {v:Value} (hv:fV j M w x v):cu j M w (rk br dst x) (a.put dst v):=by
 refine⟨fun t=>?_,h.gl⟩
 cases dst with
 |none=>exact h.at' t
 |some d =>
  simp[rk,il,Act.put]
  by_cases he:d=t
  ·simp_all
  ·have:=h.at' t;simp_all
theorem yt(br:Env)(live:List Nat)(t:Nat):il (jr br live) t=if t∈live then il br t else .any:=by
 induction live<;>grind [jr,il]
def cu.rb{j:J}{M:aK}{w:World}{br:Env}{a:Act}(h:cu j M w br a)(live:List Nat):cu j M w (jr br live) a:=by
 refine⟨fun t=>?_,h.gl⟩
 rw[yt];split
 ·exact h.at' t
 ·exact .any _
end
section
open Go
def Jr:Value->Option ag
 | .bool b=>some (.bool b)
 | .int k n=>some (.int k n)
 | .string s=>some (.str s.data.toList)
 | .slice none 0 0=>some (.slice .c0 [])
 | .pointer none=>some (.raw (.pointer none))
 | .nilFunc=>some (.raw .nilFunc)
 | .nilIface=>some (.raw .nilIface)
 | .map none=>some (.raw (.map none))
 |_=>none
def sM:List Value->Option (List ag)
 | []=>some []
 |v::r=>(Jr v).bind fun x=>(sM r).bind fun l=>some (x::l)
def Pe:Value->Option ag
 | .agg vs=>(sM vs.toList).bind fun l=>some (.agg l)
 |v=>Jr v
def Xz:Value->Option ag
 | .bool b=>some (.bool b)
 | .int k n=>some (.int k n)
 | .string s=>some (.str s.data.toList)
 | .pointer none=>some (.raw (.pointer none))
 | .nilIface=>some (.raw .nilIface)
 |_=>none
def Pd:List Value->Option (List ag)
 | []=>some []
 |v::r=>(Xz v).bind fun x=>(Pd r).bind fun l=>some (x::l)
variable [kd]
def adt:Operand->Operand->Bool
 | .tmp x,.tmp y=>x==y
 | .const (.int k x),.const (.int l y)=>decide (k=l)&&decide (x=y)
 |_,_=>false
def Xm:∀ {x y:Operand},adt x y=true->x=y:=by
 intro x y h;unfold adt at h;split at h<;>simp_all
def dZ:Operand->Option gM
 | .tmp t=>some (.tmp t)
 | .const v=>(Pe v).bind fun x=>some (.lg x)
 | .func f=>some (.lg (.func f []))
 | .global g=>(kd.g g).bind fun vs=>(Pd vs).bind fun l=>some (.lg (.jd l))
def Pq:Operand->Option gM
 | .func f=>some (.lg (.raw (.func (.func f) ⟨[]⟩ ⟨[]⟩)))
 |x=>dZ x
def xi(n:Nat):List (Nat×Operand)->Option (List (Nat×Nat×gM))
 | []=>some []
 |(i,x)::r=>(dZ x).bind fun y=>(xi n r).bind fun l=>some ((i*n,n,y)::l)
def uH:List Operand->Option (List gM)
 | []=>some []
 |x::r=>(dZ x).bind fun y=>(uH r).bind fun l=>some (y::l)
def BB:Option Operand->Option (Option gM)
 |none=>some none
 |some x=>(dZ x).bind fun y=>some (some y)
def qo(P:Program)(t:TypeId):Option Nat:=(P.info? t).bind fun i=>some i.size
def BA(P:Program)(t:TypeId):Option Bool:=(P.underlying t).bind fun d=>some (match d with | .struct _ | .array _ _=>true|_=>false)
def zU(P:Program)(fs:Array Field):List (Nat×Operand)->Option (List (Nat×Nat×gM))
 | []=>some []
 |(i,x)::r=>(fs[i]?).bind fun f=>(qo P f.type).bind fun n=>(dZ x).bind fun y=>(zU P fs r).bind fun l=>some ((f.offset,n,y)::l)
def Ha:Nat->List (Nat×Operand)->Option (List gM)
 |_,[]=>some []
 |k,(i,x)::r=>if i=k then (dZ x).bind fun y=>(Ha (k+1) r).bind fun l=>some (y::l) else none
def PZ (P:Program) (f:Field):Option FK:=if f.name = "_" then none else match P.underlying f.type with
 |some .bool=>some .b
 |some (.int _)=>some .i
 |some .string=>some .s
 |_=>none
def A9(P:Program):Nat->List Field->Option (List FK)
 |_,[]=>some []
 |k,f::r=>if f.offset=k then (PZ P f).bind fun x=>(A9 P (k+1) r).bind fun l=>some (x::l) else none
def CU(P:Program)(t:TypeId):Option FK:=match P.underlying t with
 |some .bool=>some .b
 |some (.int _)=>some .i
 |some .string=>some .s
 |_=>none
def MX:BinOp->Option MG
 | .and=>some .and | .or=>some .or | .xor=>some .xor
 | .add=>some .add | .sub=>some .sub | .mul=>some .mul | .quo=>some .quo | .rem=>some .rem
 | .eql=>some .eql | .neq=>some .neq | .lss=>some .lss | .leq=>some .leq | .gtr=>some .gtr | .geq=>some .geq
 | .shl=>some .shl | .shr=>some .shr
 |_=>none
def kJ (P:Program) (f:Nat):Bool:=match P.funcs[f]? with|some fn=>fn.name != "runtime.NumGoroutine" && fn.body.isSome|none=>false
def Pp(P:Program)(own:List Nat)(dst:Option Nat)(type:TypeId)(c:Call):Option kE :=
 match c.callee with
 | .value (.func f)=>if kJ P f then (uH c.args.toList).bind fun l=>some (if own.contains (1000000+f) then .A5 f l else if own.contains (2000000+f) then .lL f l else if own.contains (8000000+f) then .vM f l else .call f l) else none
 | .value (.tmp t)=>(uH c.args.toList).bind fun l=>some (.vN (.tmp t) l)
 | .builtin .len=>match c.args.toList,(c.argTypes[0]?).bind P.underlying with
  | [x],some .string=>(dZ x).bind fun y=>some (.SD y)
  | [x],some (.slice _)=>(dZ x).bind fun y=>some (.Al y)
  | [x],some (.map _ _)=>(dZ x).bind fun y=>some (.NW y)
  |_,_=>none
 | .builtin .copy=>match c.args.toList,c.argTypes.toList with
  | [x,y],[t,t']=>match P.underlying t,P.underlying t' with
   |some (.slice e),some (.slice _)=>(qo P e).bind fun n=>(dZ x).bind fun x=>(dZ y).bind fun y=>if 0<n then some (.D1 n x y) else none
   |_,_=>none
  |_,_=>none
 | .builtin .append=>match c.args.toList,c.argTypes.toList with
  | [x,y],[t,t']=>match P.underlying t,P.underlying t' with
   |some (.slice e),some (.int _)=>(P.info? e).bind fun i=>i.zero.bind fun z=>(sM z.cells.toList).bind fun l=>(dZ x).bind fun x=>(dZ y).bind fun y =>
    if l.length=i.size/\0<i.size/\0<i.bytes/\i.bytes<=2 ^ 20 then some (.xc i.size i.bytes (l.map ag.shut) x y) else none
   |some (.slice e),some (.slice _)=>(P.info? e).bind fun i=>(dZ x).bind fun x=>(dZ y).bind fun y =>
    if decide ((i.zero.map fun z=>z.cells.size)=some i.size)&&decide (0<i.size)&&decide (0<i.bytes)&&decide (i.bytes<=2 ^ 20) then some (match dst with|some d=>if own.contains (7000000+d) then .vo i.size i.bytes x y else .append i.size i.bytes x y|none => .append i.size i.bytes x y) else none
   |_,_=>none
  |_,_=>none
 | .builtin .clear=>match c.args.toList,c.argTypes.toList with
  | [x],[t]=>match P.underlying t with
   |some (.slice e)=>(P.info? e).bind fun i=>i.zero.bind fun z=>(sM z.cells.toList).bind fun l=>(dZ x).bind fun x =>
    if l.length=i.size/\0<i.size then some (.zW i.size (l.map ag.shut) x) else none
   |_=>none
  |_,_=>none
 | .builtin .max=>match c.args.toList with|[x,y]=>(dZ x).bind fun x=>(dZ y).bind fun y=>some (.Au true x y)|_=>none
 | .builtin .min=>match c.args.toList with|[x,y]=>(dZ x).bind fun x=>(dZ y).bind fun y=>some (.Au false x y)|_=>none
 |_=>none
def MY(P:Program)(own:List Nat)(o:Oper):Option kE :=
 match o.op with
 | .move x=>(dZ x).bind fun x=>some (.mv x)
 | .assign x=>(dZ x).bind fun x =>
  match o.dst with
  |some d=>if own.contains d then match P.underlying o.type with
    |some (.slice e)=>(qo P e).bind fun n=>match x with
     | .lg (.slice .c0 [])=>some (.own n x)
     |_=>some (.mv x)
    |_=>none
   else some (.mv x)
  |none=>some (.mv x)
 | .pick c a b=>(dZ c).bind fun c=>(dZ a).bind fun a=>(dZ b).bind fun b=>some (.pick c a b)
 | .alloc t=>(P.info? t).bind fun i=>i.zero.bind fun z=>(sM z.cells.toList).bind fun l =>
  match o.dst with
  |some d=>if own.contains (6000000+d) then (match P.underlying t,l with
    |some (.slice e),[.slice .c0 []]=>(qo P e).bind fun n=>some (.MV n)
    |_,_=>none) else some (.sO l)
  |none=>some (.sO l)
 | .box t x=>(dZ x).bind fun x=>some (.box x)
 | .build t parts=>match P.underlying t with
  |some (.struct fs)=>(P.info? t).bind fun i=>i.zero.bind fun z=>(sM z.cells.toList).bind fun l=>(zU P fs parts.toList).bind fun ps =>
   if fs.all (fun f=>(P.info? f.type).isSome) then some (.build l ps) else none
  |some (.array _ e)=>(P.info? t).bind fun i=>i.zero.bind fun z=>(sM z.cells.toList).bind fun l=>(qo P e).bind fun n=>(xi n parts.toList).bind fun ps=>some (.build l ps)
  |_=>none
 | .buildSlice t len parts=>match P.underlying t with
  |some (.slice e)=>(P.info? e).bind fun i=>(Ha 0 parts.toList).bind fun l =>
   if l.length=len/\len*i.size<=2 ^ 24/\(i.zero.map fun z=>z.cells.size)=some i.size/\0<i.size then some (match o.dst with|some d=>if own.contains d then .Ex i.size l else .lits i.size l|none => .lits i.size l) else none
  |_=>none
 | .load t x=>(BA P t).bind fun g=>(qo P t).bind fun n=>(dZ x).bind fun x=>some (if g then .nz n x else .js x)
 | .store t a x=>(qo P t).bind fun n=>(dZ a).bind fun a=>(dZ x).bind fun x=>some (match a with
  | .tmp s=>match own.find? (fun m=>decide (1000000000<=m)&&decide (m % 1000=s)) with
   |some m => .AO (m / 1000000 % 1000) (m / 1000 % 1000) n a x
   |none => .store n a x
  |_ => .store n a x)
 | .nilCheck x=>(dZ x).bind fun x=>some (.chk x)
 | .binOp op t x y _=>(dZ x).bind fun x=>(dZ y).bind fun y=>match P.underlying t with
  |some (.int _)|some .string=>(MX op).bind fun b=>some (.bin b x y)
  |some .bool=>match op with
   | .eql=>some (.eqB false x y)
   | .neq=>some (.eqB true x y)
   |_=>none
  |some (.struct fs)=>if P.stoodInHeld t then none else (A9 P 0 fs.toList).bind fun ks=>match op with
   | .eql=>some (.XK ks false x y)
   | .neq=>some (.XK ks true x y)
   |_=>none
  |some (.array len e)=>match P.underlying e,op with
   |some (.int _),.eql=>if qo P e=some 1 then some (.XK (List.replicate len .i) false x y) else none
   |_,_=>none
  |_=>none
 | .unOp .not _ x=>(dZ x).bind fun x=>some (.not x)
 | .unOp .neg _ x=>(dZ x).bind fun x=>some (.neg x)
 | .convert s d x=>(dZ x).bind fun x=>match P.underlying s,P.underlying d with
  |some (.int _),some (.int k)=>some (.conv k x)
  |some .string,some .string=>some (.same x)
  |some (.slice e),some .string=>match P.underlying e with|some (.int .u8)=>some (.b2s x)|_=>none
  |_,_=>none
 | .makeFunc (.func f) first caps=>if first.isEmpty then (uH caps.toList).bind fun l=>some (.fn f l) else if caps.isEmpty then (uH first.toList).bind fun l=>some (.DV f l) else none
 | .slice t x lo hi mx=>(dZ x).bind fun x=>(BB lo).bind fun lo=>(BB hi).bind fun hi=>(BB mx).bind fun mx=>match P.underlying t with
  |some .string=>if mx.isNone then some (.AI x lo hi) else none
  |some (.slice e)=>(qo P e).bind fun n=>if 0<n/\(mx.isNone\/hi.isSome) then some (.AJ n x lo hi mx) else none
  |_=>none
 | .fieldAddr s x f=>match P.underlying s with
  |some (.struct fs)=>(fs[f]?).bind fun f=>(qo P f.type).bind fun n=>(dZ x).bind fun x=>if 0<n then some (.kC f.offset x) else none
  |_=>none
 | .field s x f=>match P.underlying s with
  |some (.struct fs)=>(fs[f]?).bind fun f=>(BA P f.type).bind fun g=>(qo P f.type).bind fun n=>(dZ x).bind fun x=>some (if g then .CA f.offset n x else .Cz f.offset x)
  |_=>none
 | .indexAddr t x i=>match P.underlying t with
  |some (.slice e)=>(qo P e).bind fun n=>(dZ x).bind fun x=>(dZ i).bind fun i=>if 0<n then some (.vQ n x i) else none
  |some (.array len e)=>(qo P e).bind fun n=>(dZ x).bind fun x=>(dZ i).bind fun i=>if 0<n then some (.Af len n x i) else none
  |_=>none
 | .index t x i=>match P.underlying t with
  |some .string=>(dZ x).bind fun x=>(dZ i).bind fun i=>some (.Ah x i)
  |_=>none
 | .extract x i=>(dZ x).bind fun x=>some (.extract x i)
 | .call c=>Pp P own o.dst o.type c
 | .makeMap _ none=>some .mkMap
 | .lookup t x i ok=>match P.underlying t with
  |some (.map k e)=>(CU P k).bind fun fk=>(P.info? e).bind fun ie=>ie.zero.bind fun zv=>(Pe zv).bind fun z=>(dZ x).bind fun x=>(dZ i).bind fun i=>some (.look fk z ok x i)
  |_=>none
 | .mapUpdate t m k v=>match P.underlying t with
  |some (.map kt _)=>(CU P kt).bind fun fk=>(dZ m).bind fun m=>(dZ k).bind fun k=>(dZ v).bind fun v=>some (.gv fk m k v)
  |_=>none
 | .range t x=>match P.underlying t with
  |some .string=>(dZ x).bind fun x=>some (.Ot x)
  |_=>none
 | .next it true=>(dZ it).bind fun it=>some (.EM it)
 | .makeInterface t x=>(dZ x).bind fun x=>match P.underlying t with
  |some (.interface _)=>none
  |some _=>some (.iface t x)
  |none=>none
 | .panic x=>(dZ x).bind fun x=>some (.raise x)
 | .insert t m k v=>match P.underlying t with
  |some (.map kt _)=>(CU P kt).bind fun fk=>(dZ m).bind fun m=>(dZ k).bind fun k=>(Pq v).bind fun v=>some (.gv fk m k v)
  |_=>none
 | .makeSlice t x y=>match P.underlying t with
  |some (.slice e)=>(P.info? e).bind fun i=>i.zero.bind fun z=>(sM z.cells.toList).bind fun l=>(dZ x).bind fun x' =>
   if adt x y=true/\l.length=i.size/\0<i.size/\i.bytes<=8*i.size then some (match o.dst with|some d=>if own.contains (5000000+d) then .N2 (l.map ag.shut) x' else .mkS (l.map ag.shut) x'|none => .mkS (l.map ag.shut) x') else none
  |_=>none
 |_=>none
structure BZ where
 n:Nat
 own:List Nat:=[]
 lv:List (Nat×List Nat)
 lp:List (Nat×List Nat):=[]
def find(l:List (Nat×List Nat))(k:Nat):List Nat:=match l with
 | []=>[]
 |(i,x)::r=>if i=k then x else find r k
def XJ(n:Nat):Option Nat->Bool
 |some d=>decide (d<n)
 |none=>true
def Lm(P:Program)(A:BZ)(ops:Array Oper)(grow:Bool)(o:Oper):Option cK :=
 (MY P A.own o).bind fun op =>
  if XJ A.n o.dst then
   match o.guard with
   |none=>some { dst:=o.dst,op,guard:=none,grow }
   |some (k,want)=>((ops[k]?).bind (·.dst)).bind fun t=>if t<A.n then some { dst:=o.dst,op,guard:=some (t,want),grow } else none
  else none
def tz(P:Program)(A:BZ)(ops:Array Oper)(grow:List Bool):List Oper->Option (List cK)
 | []=>some []
 |o::r=>(Lm P A ops (grow.headD false) o).bind fun x=>(tz P A ops grow.tail r).bind fun l=>some (x::l)
def lh:Code->Nat
 | .region id _ _=>id
 | .seq a _=>lh a
 | .block _ c=>lh c
 | .loop c=>lh c
 | .cond _ a _=>lh a
 |_=>0
def gM.kZ:gM->List Nat
 | .tmp t=>[t]
 | .lg _=>[]
def Ax:Option gM->List Nat
 |some x=>x.kZ
 |none=>[]
def kE.kZ:kE->List Nat
 | .mv x | .own _ x | .box x | .nz _ x | .js x | .chk x | .not x | .neg x | .conv _ x | .same x | .kC _ x | .CA _ _ x | .Cz _ x | .extract x _ | .SD x | .Al x | .b2s x | .NW x | .Ot x | .EM x | .zW _ _ x | .iface _ x | .raise x | .mkS _ x | .N2 _ x=>x.kZ
 | .pick c a b=>c.kZ++(a.kZ++b.kZ)
 | .sO _ | .mkMap | .MV _=>[]
 | .build _ ps=>ps.flatMap fun p=>p.2.2.kZ
 | .lits _ ps | .Ex _ ps=>ps.flatMap gM.kZ
 | .store _ a x | .AO _ _ _ a x=>a.kZ++x.kZ
 | .gv _ m k v=>m.kZ++(k.kZ++v.kZ)
 | .bin _ x y | .look _ _ _ x y | .XK _ _ x y | .eqB _ x y | .vQ _ x y | .Af _ _ x y | .Ah x y | .append _ _ x y | .vo _ _ x y | .Au _ x y | .xc _ _ _ x y | .D1 _ x y=>x.kZ++y.kZ
 | .fn _ l | .DV _ l=>l.flatMap gM.kZ
 | .AI x l h=>x.kZ++(Ax l++Ax h)
 | .AJ _ x l h m=>x.kZ++(Ax l++(Ax h++Ax m))
 | .call _ l | .A5 _ l | .lL _ l | .vM _ l=>l.flatMap gM.kZ
 | .vN f l=>f.kZ++l.flatMap gM.kZ
def kE.OT:kE->Bool
 | .own .. | .Ex .. | .N2 .. | .xc .. | .D1 .. | .MV _ | .sO _ | .box _ | .store .. | .AO .. | .call .. | .vN .. | .A5 .. | .lL .. | .vM .. | .zW .. | .append .. | .vo .. | .mkMap | .gv .. | .NW _ | .Ot _ | .EM _=>true
 |_=>false
def kE.OU:kE->Bool
 | .nz .. | .js _ | .look .. => true
 |_=>false
def cK.reads(o:cK):List Nat:=o.op.kZ++(match o.guard with|some (t,_)=>[t]|none=>[])
def wM(acc:List Nat):List Edge->Nat
 | []=>0
 |e::r=>if Region.binds .any e then wM acc r ||| (2 ^ e.on ||| (nth acc e.on).getD 0) else wM acc r
def Cg:List Oper->List Nat->List Nat
 | [],acc=>acc
 |o::r,acc=>Cg r (acc++[wM acc o.after.toList])
def qM(ops:List Oper):List Nat:=Cg ops []
def ahead(bs:List Nat)(i k:Nat):Bool:=((nth bs k).getD 0).testBit i
def meet(x y:cK):Bool :=
 (match x.dst with|some d=>y.reads.contains d||y.dst==some d|none=>false)||(match y.dst with|some d=>x.reads.contains d|none=>false)
def fenced(bs:List Nat)(l:List cK)(k:Nat):Bool:=(List.range l.length).all fun i=>match nth l i with
 |some x => !x.op.OU||(if i<k then ahead bs i k else i==k||ahead bs k i)
 |none=>true
def kE.wI:kE->Bool
 | .call .. | .vN .. => true
 |_=>false
def ordered(bs:List Nat)(i k:Nat):Bool:=i==k||(if i<k then ahead bs i k else ahead bs k i)
def alone(bs:List Nat)(l:List cK)(k:Nat):Bool:=(List.range l.length).any fun i=>match nth l i with
 |some x=>x.op.OT && !ordered bs i k
 |none=>false
def kE.Mw:kE->Option Nat
 | .js (.tmp z)=>some z
 | .nz _ (.tmp z)=>some z
 | .look _ _ _ (.tmp z) _=>some z
 |_=>none
def kE.akU:kE->Bool
 | .store .. => true
 | .append .. | .vo .. => true
 |_=>false
def ahr(l:List cK)(i k z:Nat):Bool:=(List.range k).all fun p=>decide (p<i)||match nth l p with|some x=>x.dst != some z|none=>true
def K1(bs:List Nat)(l:List cK)(k:Nat):Bool:=(List.range l.length).all fun i=>i==k||(if i<k then (ahead bs i k||match nth l i with|some x => !x.op.OT|none=>false) else ahead bs k i)
def Mu(bs:List Nat)(l:List cK)(k:Nat):List Nat:=(List.range k).filterMap fun i=>match nth l i with
 |some x=>if x.op.OU && !ahead bs i k then x.op.Mw else none
 |none=>none
def BT(bs:List Nat)(l:List cK)(k:Nat)(sep:List Nat):Bool:=(List.range l.length).all fun i=>match nth l i with
 |some x => !x.op.OU||i==k||(if i<k then (ahead bs i k||match x.op.Mw with|some z=>sep.contains z&&ahr l i k z|none=>false) else ahead bs k i)
 |none=>true
def pK(bs:List Nat)(l:List cK):Nat->List cK->List cK
 |_,[]=>[]
 |k,x::r=>{ x with grow:=x.op.OT && !(x.op.wI&&alone bs l k) && !fenced bs l k,wR:=x.op.wI&&alone bs l k,sep:=if x.op.akU && !fenced bs l k&&BT bs l k (Mu bs l k) then Mu bs l k else [],stop := !x.op.Ps||K1 bs l k }::pK bs l (k+1) r
def cK.tI(x:cK):Bool:=x.op.OT && !x.wR
def KC:kE->Bool
 | .js (.lg _) | .nz _ (.lg _) | .look _ _ _ (.lg _) _=>false
 |_=>true
def Bh(ops:Array Oper)(l:List cK)(k:Nat):Bool:=match ops[k]?,nth l k with
 |some o,some y=>(match y.op with
  | .sO _=>(match o.op with | .alloc _=>true|_=>false)
  | .box _=>(match o.op with | .box _ _=>true|_=>false)
  | .vM .. => (match o.op with | .call c=>(match c.callee with | .value (.func _)=>true|_=>false)|_=>false)
  |_=>false)&&y.guard.isNone
 |_,_=>false
def Gn(ops:Array Oper)(bs:List Nat)(l:List cK):Bool:=(List.range l.length).all fun k=>match nth l k,ops[k]? with
 |some y,some o=>o.after.toList.all (fun e => !Region.binds .any e||decide (e.on<k))&&((!y.wR||y.op.wI)&&KC y.op)&&((!(y.tI && !y.grow)||fenced bs l k)&&(y.sep.isEmpty||BT bs l k y.sep)) &&
  ((!y.lets||K1 bs l k)&&(List.range k).all fun i=>match nth l i with
   |some x=>(!meet x y||ahead bs i k)&&(!(x.tI&&y.tI)||(ahead bs i k||(Bh ops l i&&Bh ops l k)))
   |none=>false)
 |_,_=>false
def Aw(ops:Array Oper)(l:List cK):Option (List cK) :=
 if Gn ops (qM ops.toList) (pK (qM ops.toList) l 0 l) then some (pK (qM ops.toList) l 0 l) else none
def L5(A:BZ)(c:Code)(l:List Nat)(x:cv):cv:=if A.own.contains (11000000+lh c) then .lO l x else .loop l x
def comp(P:Program)(A:BZ):Code->Option cv
 | .skip=>some .skip
 | .region id ops draw=>if draw then
   (tz P { A with own:=A.own.filter (1000000 <= ·) } ops [] ops.toList).bind fun l0=>(Aw ops l0).bind fun l=>some (.region l true (find A.lv id))
  else (tz P A ops [] ops.toList).bind fun l=>some (.region l false (find A.lv id))
 | .seq a b=>(comp P A a).bind fun x=>(comp P A b).bind fun y=>some (.seq x y)
 | .cond c a b=>(dZ c).bind fun c=>(comp P A a).bind fun x=>(comp P A b).bind fun y=>some (.cond c x y)
 | .block id c=>(comp P A c).bind fun x=>some (.block id x)
 | .loop c=>(comp P A c).bind fun x=>some (L5 A c (find A.lp (lh c)) x)
 | .exit id=>some (.exit id)
 | .ret=>some .ret
 |_=>none
def G9(P:Program):List ResultVar->Option (List sr)
 | []=>some []
 | .tmp t::r=>(G9 P r).bind fun l=>some (.tmp t::l)
 | .cell a t::r=>(BA P t).bind fun g=>(qo P t).bind fun n=>(G9 P r).bind fun l=>some ((if g then .fD a n else .Pt a)::l)
def oI(P:Program)(A:BZ)(fn:Func):Option eP :=
 match fn.body with
 |none=>none
 |some c=>if fn.name != "runtime.NumGoroutine" /\ A.n=fn.ntmps/\fn.params.size+fn.nfree<=fn.ntmps then
   (comp P A c).bind fun b=>(G9 P fn.results.toList).bind fun r=>some { nparams:=fn.params.size+fn.nfree,results:=r,body:=b }
  else none
end
section
open Go
def aib(x:Operand)(s:Nat):Nat:=match x with
 | .tmp t=>s ||| (1 <<< t)
 |_=>s
def opB(ops:Array Oper)(o:Oper)(s:Nat):Nat :=
 let s:=match o.dst,o.guard with
  |some d,none=>if s.testBit d then s-(1 <<< d) else s
  |_,_=>s
 let s:=o.op.operands.toList.foldl (fun s x=>aib x s) s
 match o.guard with
 |some (k,_)=>match (ops[k]?).bind (·.dst) with
  |some t=>s ||| (1 <<< t)
  |none=>s
 |none=>s
def amk(ops:Array Oper)(out:Nat):Nat :=
 let l:=ops.toList.foldr (opB ops) out
 let g:=ops.toList.foldl (fun g o=>match o.dst,o.guard with
  |some d,some _=>g ||| (1 <<< d)
  |_,_=>g) 0
 let d:=g ^^^ (g &&& out)
 l ^^^ (l &&& d)
def Ic:List (Nat×Nat)->Nat->Nat
 | [],_=>0
 |(i,x)::r,k=>if i=k then x else Ic r k
def zh(ret:Nat):Code->List (Nat×Nat)->Nat->Nat×List (Nat×Nat)×List (Nat×Nat)
 | .skip,_,out=>(out,[],[])
 | .region id ops _,_,out=>(amk ops out,[(id,out)],[])
 | .seq a b,ex,out =>
  let y:=zh ret b ex out
  let x:=zh ret a ex y.1
  (x.1,x.2.1++y.2.1,x.2.2++y.2.2)
 | .cond c a b,ex,out =>
  let x:=zh ret a ex out
  let y:=zh ret b ex out
  (aib c (x.1 ||| y.1),x.2.1++y.2.1,x.2.2++y.2.2)
 | .block id c,ex,out=>zh ret c ((id,out)::ex) out
 | .loop c,ex,_ =>
  let h1:=(zh ret c ex 0).1
  let h2:=h1 ||| (zh ret c ex h1).1
  let z:=zh ret c ex h2
  let h3:=h2 ||| z.1
  (h3,z.2.1,(lh c,h3)::z.2.2)
 | .exit id,ex,_=>(Ic ex id,[],[])
 | .ret,_,_=>(ret,[],[])
 |_,_,out=>(out,[],[])
def afw(n s:Nat):List Nat:=(List.range n).filter s.testBit
def DP(own:List Nat)(fn:Func):BZ:=match fn.body with
 |none=>{ n:=0,lv:=[] }
 |some c =>
  let r:=fn.results.toList.foldl (fun s x=>match x with
   | .tmp t=>s ||| (1 <<< t)
   | .cell t _=>s ||| (1 <<< t)) 0
  let z:=zh r c [] r
  let f:=fun(p:Nat×Nat)=>(p.1,afw fn.ntmps p.2)
  { n:=fn.ntmps,own:=own,lv:=z.2.1.map f,lp:=z.2.2.map f }
def cv.size:cv->Nat
 | .seq a b=>a.size+b.size+1
 | .cond _ a b=>a.size+b.size+1
 | .block _ a=>a.size+1
 | .loop _ a=>a.size+1
 | .lO _ a=>a.size+1
 | .region .. => 1
 | .skip=>1
 | .exit _=>1
 | .ret=>1
def cv.tc:cv->List cv
 | .seq a b => .seq a b::(a.tc++b.tc)
 | .cond c a b => .cond c a b::(a.tc++b.tc)
 | .block i a => .block i a::a.tc
 | .loop l a => .loop l a::a.tc
 | .lO l a => .lO l a::a.tc
 |c=>[c]
def sub(c:cv)(i:Nat):cv:=(c.tc[i]?).getD .skip
def ref(r:cv)(i:Nat):cv->cv
 | .skip => .skip
 | .exit n => .exit n
 | .ret => .ret
 | .region .. => sub r i
 | .seq .. => sub r i
 | .cond .. => sub r i
 | .block .. => sub r i
 | .loop .. => sub r i
 | .lO .. => sub r i
def AF(r:cv)(i:Nat):cv->cv
 | .region a b c => .region a b c
 | .skip => .skip
 | .exit n => .exit n
 | .ret => .ret
 | .seq .. => sub r i
 | .cond .. => sub r i
 | .block .. => sub r i
 | .loop .. => sub r i
 | .lO .. => sub r i
abbrev Hd(q b:cv):Prop:=∀(C:eL)(fn:List sr)(bM:Nat)(k:List K)(br:Env)(M:aK),fP C fn bM k q br M=fP C fn bM k b br M
def Cy(e:Prop):cv->Prop
 | .region .. => True
 | .skip | .exit _ | .ret=>True
 | .seq .. => e
 | .cond .. => e
 | .block .. => e
 | .loop .. => e
 | .lO .. => e
def eqs(r:cv):Nat->cv->Prop
 |i,.seq a b=>Hd (sub r i) (.seq (AF r (i+1) a) (ref r (i+1+a.size) b))/\(Cy (eqs r (i+1) a) a/\eqs r (i+1+a.size) b)
 |i,.cond c a b=>Hd (sub r i) (.cond c (ref r (i+1) a) (ref r (i+1+a.size) b))/\(eqs r (i+1) a/\eqs r (i+1+a.size) b)
 |i,.block n a=>Hd (sub r i) (.block n (ref r (i+1) a))/\eqs r (i+1) a
 |i,.loop n a=>Hd (sub r i) (.loop n (ref r (i+1) a))/\eqs r (i+1) a
 |i,.lO n a=>Hd (sub r i) (.lO n (ref r (i+1) a))/\eqs r (i+1) a
 |i,.region a b c=>Hd (sub r i) (.region a b c)
 |_,.skip=>True
 |_,.exit _=>True
 |_,.ret=>True
def p7:∀c:cv,c.tc.length=c.size
 | .seq a b=>by simp[cv.tc,cv.size,p7 a,p7 b]
 | .cond _ a b=>by simp[cv.tc,cv.size,p7 a,p7 b]
 | .block _ a=>by simp[cv.tc,cv.size,p7 a]
 | .loop _ a=>by simp[cv.tc,cv.size,p7 a]
 | .lO _ a=>by simp[cv.tc,cv.size,p7 a]
 | .region .. | .skip | .exit _ | .ret=>by simp[cv.tc,cv.size]
def adn(c:cv):c.tc[0]?=some c:=by cases c<;>simp[cv.tc]
def At(r:cv)(i:Nat)(c:cv):Prop:=∀j,j<c.size->r.tc[i+j]?=c.tc[j]?
def size_pos(c:cv):0<c.size:=by cases c<;>simp[cv.size]
def At.sub{r c:cv}{i:Nat}(h:At r i c):sub r i=c:=by
 have:=h 0 (size_pos c);rw[cS,adn] at this;simp[Abs.sub,this]
def At.ref{r c:cv}{i:Nat}(h:At r i c):ref r i c=c:=by
 cases c<;>first|rfl|exact h.sub
def At.AF{r c:cv}{i:Nat}(h:At r i c):AF r i c=c:=by
 cases c<;>first|rfl|exact h.sub
def Vg{e:Prop}{c:cv}(h:e):Cy e c:=by
 cases c<;>first|trivial|exact h
def At.two{r a b x:cv}{i:Nat}(h:At r i x)(hx:x.tc=x::(a.tc++b.tc))(hs:x.size=a.size+b.size+1):At r (i+1) a/\At r (i+1+a.size) b:=by
 refine⟨fun j hj=>?_,fun j hj=>?_⟩
 ·have:=h (j+1) (by omega)
  rw[hx,dy,bj (by rw[p7]; exact hj)] at this
  rw[<-this]; congr 1; omega
 ·have:=h (a.size+j+1) (by omega)
  rw[hx,dy,bq (by rw[p7]; omega),p7] at this
  rw[show a.size+j-a.size=j by omega] at this
  rw[<-this]; congr 1; omega
def At.one{r a x:cv}{i:Nat}(h:At r i x)(hx:x.tc=x::a.tc)(hs:x.size=a.size+1):At r (i+1) a:=by
 intro j hj;have:=h (j+1) (by omega)
 rw[hx,dy] at this;rw[<-this]; congr 1; omega
def Ee{q b:cv}(h:q=b):Hd q b:=gY h
def wC(r:cv):∀(c:cv)(i:Nat),At r i c->eqs r i c
 | .seq a b,i,h=>by
  obtain⟨h1,h2⟩:=h.two (a:=a) (b:=b) rfl rfl;exact⟨Ee (by rw[h.sub,h1.AF,h2.ref]),Vg (wC r a _ h1),wC r b _ h2⟩
 | .cond c a b,i,h=>by
  obtain⟨h1,h2⟩:=h.two (a:=a) (b:=b) rfl rfl;exact⟨Ee (by rw[h.sub,h1.ref,h2.ref]),wC r a _ h1,wC r b _ h2⟩
 | .block n a,i,h=>by
  have h1:=h.one (a:=a) rfl rfl;exact⟨Ee (by rw[h.sub,h1.ref]),wC r a _ h1⟩
 | .loop n a,i,h=>by
  have h1:=h.one (a:=a) rfl rfl;exact⟨Ee (by rw[h.sub,h1.ref]),wC r a _ h1⟩
 | .lO n a,i,h=>by
  have h1:=h.one (a:=a) rfl rfl;exact⟨Ee (by rw[h.sub,h1.ref]),wC r a _ h1⟩
 | .region ..,_,h=>Ee h.sub
 | .skip,_,_=>trivial
 | .exit _,_,_=>trivial
 | .ret,_,_=>trivial
def aec(r:cv):At r 0 r:=fun j _=>by rw[aP]
def Cn[kd](P:Program)(A:BZ):Code->Option cv
 | .skip=>some .skip
 | .region id ops draw=>if draw then
   (tz P { A with own:=A.own.filter (1000000 <= ·) } ops [] ops.toList).bind fun l=>some (.region (pK (qM ops.toList) l 0 l) true (find A.lv id))
  else (tz P A ops [] ops.toList).bind fun l=>some (.region l false (find A.lv id))
 | .seq a b=>(Cn P A a).bind fun x=>(Cn P A b).bind fun y=>some (.seq x y)
 | .cond c a b=>(dZ c).bind fun c=>(Cn P A a).bind fun x=>(Cn P A b).bind fun y=>some (.cond c x y)
 | .block id c=>(Cn P A c).bind fun x=>some (.block id x)
 | .loop c=>(Cn P A c).bind fun x=>some (L5 A c (find A.lp (lh c)) x)
 | .exit id=>some (.exit id)
 | .ret=>some .ret
 |_=>none
def afL[kd](P:Program)(A:BZ)(fn:Func):Option cv:=match fn.body with
 |some c=>Cn P A c
 |none=>none
abbrev Cv[kd](P:Program)(A:BZ)(f:Func):={ g:cv // afL P A f=some g }
def okc{o:Option eP}{n:Nat}{r:List sr}{c:cv}(h:o=some (eP.mk n r c)):o=some (eP.mk n r (sub c 0)):=by
 rw[h,(aec c).sub]
set_option linter.defProp false in
def yO:=bQ @eqs.eq_1 (bQ @eqs.eq_2 (bQ @eqs.eq_3 (bQ @eqs.eq_4 (bQ @eqs.eq_5 (bQ @eqs.eq_6 (bQ @eqs.eq_7 (bQ @eqs.eq_8 (bQ @eqs.eq_9 (bQ @ref.eq_1 (bQ @ref.eq_2 (bQ @ref.eq_3 (bQ @ref.eq_4 (bQ @ref.eq_5 (bQ @ref.eq_6 (bQ @ref.eq_7 (bQ @ref.eq_8 (bQ @ref.eq_9 (bQ @AF.eq_1 (bQ @AF.eq_2 (bQ @AF.eq_3 (bQ @AF.eq_4 (bQ @AF.eq_5 (bQ @AF.eq_6 (bQ @AF.eq_7 (bQ @AF.eq_8 (bQ @AF.eq_9 (bQ @Cy.eq_1 (bQ @Cy.eq_2 (bQ @Cy.eq_3 (bQ @Cy.eq_4 (bQ @Cy.eq_5 (bQ @Cy.eq_6 (bQ @Cy.eq_7 (bQ @Cy.eq_8 (bQ @Cy.eq_9 (bQ @cv.size.eq_1 (bQ @cv.size.eq_2 (bQ @cv.size.eq_3 (bQ @cv.size.eq_4 (bQ @cv.size.eq_5 (bQ @cv.size.eq_6 (bQ @cv.size.eq_7 (bQ @cv.size.eq_8 (bQ @cv.size.eq_9 (bQ @and_true (@true_and))))))))))))))))))))))))))))))))))))))))))))))
end
end Go.Abs
namespace Go.Proofs.YtcbopkblmebjiaaGreatDoor
open Go Go.Abs
def Ho:Value := .iface 248 (.agg #[.pointer (some ⟨2,137,none⟩)])
instance:kd where
 g:=fun b=>match b with
  |0=>some [Ho]
  |_=>none
 u8:=5
def agJ:Func:={ name := "",origin := "",params := #[],resultTypes := #[],nfree:=0,ntmps:=0,results := #[],body:=some .skip,norace:=false,tmpNames := #[] }
noncomputable def ahY:Program:={ toTables:={ goVersion := "",platform := "",initOrder := "",godebug := "",types:=Tryz.types,rt:=Tryz.progTables.rt,cutTypes := #[],globals := #[],inits := #[],main:=0 },funcs:=⟨List.replicate 900 agJ⟩ }
abbrev Ko(own:List Nat)(f:Func):=Cv ahY (DP own f) f
abbrev wj(own:List Nat)(f:Func)(c:eP):Prop:=oI Tryz.prog (DP own f) f=some c
section
open Go.ChangeShapes Go.WideShapes Go.RowKit
def KK:ownKnob Tryz.prog.godebug=none:=by kernel_rfl
abbrev SA:List (String×DataW Unit):=[("errors.errorType",Rows.laid_errors_errorType)]
def OV:J:=⟨fun _=>none,fun _ _=>False⟩
def aml(W:World):Rel OV [] W where
 inj:=fun _ _ _ h=>by cases h
 lt:=fun _ _ h=>by cases h
 fix:=fun _ _ h=>by cases h
 tick:=fun _ _ _ _ h=>by cases h
 arr:=fun _ _ _ _ h=>by cases h
 uC:=fun _ _ h=>by cases h
 zG:=fun _ _ h=>h.elim
def Lp{w:World}{b off:Nat}{v:Value}(h:w.cell? ⟨b,off,none⟩=some v):b<w.heap.size:=by
 rcases bG b w.heap.size with hb|hb
 ·exact hb
 ·simp[World.cell?,gU hb] at h
def acZ:((List.range Tryz.prog.types.size).filter fun t=>Tryz.prog.rowNamed t [101,114,114,111,114])=[137]:=by kernel_rfl
theorem rtK{a:Option Nat}{u n:Nat}(e:a=some u)(h:a=some n):n=u:=Option.some.inj (h.symm.trans e)
def CK{W:World}(hL:laidMetH Tryz.prog SA W)(hsh:W.ShapedOpen Tryz.prog):su OV [] W:=by
 have h':laidMet Tryz.prog [] W/\handlesMet Tryz.prog SA W:=hL;obtain⟨name,u,ty,e1,e2,e3,e4,e5⟩:=h'.2 _ (eO.2 rfl);have en:name=[101,114,114,111,114]:=(dP e1).symm;subst en;obtain rfl:=rtK e2 (n:=248) (by kernel_rfl)
 have hm:ty∈(List.range Tryz.prog.types.size).filter fun t=>Tryz.prog.rowNamed t [101,114,114,111,114]:=ef.2 ⟨fx.2 e3,e4⟩
 rw[acZ] at hm;obtain rfl:=eO.1 hm;rw[show typeHandle Tryz.prog 137 = .pointer (some ⟨2,137,none⟩) by kernel_rfl] at e5
 have hc:W.cell? ⟨0,0,none⟩=some Ho:=by simpa[Ho] using World.var?_cell (show Tryz.prog.globalNamed "errors.errorType" = some 0 by kernel_rfl) e5 0
 obtain⟨⟨zero,t'⟩,hz,he⟩:=aN.1 (show(((begin Tryz.prog (fun _ _=>0) default).world.heap[0]?).bind Obj.row?).map (fun x=>x.1.size)=some 1 by kernel_rfl)
 obtain⟨cs,h1,h2,_⟩:=hsh.1 0 zero t' (c8 (by kernel_rfl)) hz
 refine⟨fun b vs k v hb hk=>?_,fun b vs hb=>?_,fun b p hb=>by cases hb⟩
 ·match b,hb with
  |0,hb =>
   cases hb
   match k,hk with
   |0,hk=>cases hk; exact⟨⟨Lp hc,fun id hid=>by simp at hid,fun h=>h⟩,hc⟩
 ·match b,hb with
  |0,hb=>cases hb; exact⟨cs,_,_,h1,h2.trans he⟩
noncomputable def gV(os:Os):World :=
 let w0:=World.holding Tryz.prog os ⟨#[],#[],[]⟩
 { w0 with heap:=w0.heap.modify 0 fun
   | .cells _ t frozen => .cells #[Ho] t frozen
   |o=>o }
def tK(os:Os)(args:Array Value):laidMetH Tryz.prog SA ((gV os).forCall (fun _ _=>0) ⟨#[],args,[]⟩).memory :=
 laidMetH_of_parts (laidMet_nil _ _) (by kernel_rfl)
end
def fR{o:Option eP}{n:Nat}{r:List sr}{c:cv}(h:o=some (eP.mk n r c):=by kernel_rfl):o=some (eP.mk n r (sub c 0)):=okc h
def fW(r k:cv)(h:At r 0 k:=by exact aec _):eqs r 0 k:=wC r k 0 h
theorem stg[kd]{P:Program}{A A':BZ}{f:Func}{c:Code}{g:cv}(h1:f.body=some c)(h2:A=A')(h3:Cn P A' c=some g):afL P A f=some g:=by
 subst h2;unfold afL;rw[h1];exact h3
theorem sgs[kd]{P:Program}{A:BZ}{a b:Code}{x y:cv}(h:Cn P A a=some x)(k:Cn P A b=some y):Cn P A (.seq a b)=some (.seq x y):=by rw[Cn,h,k];rfl
theorem sgb[kd]{P:Program}{A:BZ}{i:Nat}{a:Code}{x:cv}(h:Cn P A a=some x):Cn P A (.block i a)=some (.block i x):=by rw[Cn,h];rfl
theorem sgl[kd]{P:Program}{A:BZ}{a:Code}{x z:cv}(h:Cn P A a=some x)(k:L5 A a (find A.lp (lh a)) x=z):Cn P A (.loop a)=some z:=by rw[Cn,h,<-k];rfl
theorem sgc[kd]{P:Program}{A:BZ}{a b:Code}{c:Operand}{d:_}{x y:cv}(hc:dZ c=some d)(h:Cn P A a=some x)(k:Cn P A b=some y):Cn P A (.cond c a b)=some (.cond d x y):=by rw[Cn,hc,h,k];rfl
theorem sgr[kd]{P:Program}{A:BZ}{id:Nat}{ops:Array Oper}{l r:List cK}{bs v:List Nat}(h1:tz P { A with own:=A.own.filter (1000000 <= ·) } ops [] ops.toList=some l)(h2:qM ops.toList=bs)(h3:pK bs l 0 l=r)(h4:find A.lv id=v):Cn P A (.region id ops true)=some (.region r true v):=by subst h2 h3 h4;rw[Cn,if_pos rfl,h1];rfl
theorem sgk{bs:List Nat}{l r r':List cK}{k:Nat}{x x':cK}(h:pK bs l k [x]=[x'])(g:pK bs l (k+1) r=r'):pK bs l k (x::r)=x'::r':=by
 simp only[pK] at h|-;rw[g];injection h with h;rw[h]
theorem sgn{bs:List Nat}{l:List cK}{k:Nat}:pK bs l k []=[]:=rfl
end Go.Proofs.YtcbopkblmebjiaaGreatDoor
